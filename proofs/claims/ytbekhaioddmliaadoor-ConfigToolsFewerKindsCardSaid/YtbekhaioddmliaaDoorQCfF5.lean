/- What functions of the program compute, as plain functions (printed). -/
import Derived.Test.YtbekhaioddmliaaDoorQCfF4
namespace Go.Proofs.YtbekhaioddmliaaDoor
open Go Go.RowKit
set_option maxRecDepth 100000
set_option linter.unusedVariables false
noncomputable section
def config_checkKinds_L0T (N : Nat) (x0 : List Str) (c8 : List Str) (c9 : Int) (k0 : Option Int) (self : Int → Option Int) (s10 : Int) : Option Int :=
  br (decide (s10 < c9))
    (bnd (geti c8 s10) fun t13 =>
    bnd (config_IsWord N t13) fun t16 =>
    br (!t16)
      (some (5 : Int))
      (br (decide (s10 > (0 : Int)))
        (bnd (geti x0 (IntKind.i64.wrap (s10 - (1 : Int)))) fun t25 =>
        br (Op.bytesLess t13 t25 || t13 == t25)
          (some (8 : Int))
          (self (IntKind.i64.wrap (s10 + (1 : Int)))))
        (self (IntKind.i64.wrap (s10 + (1 : Int))))))
    (k0)
def config_checkKinds_L0 (N : Nat) (x0 : List Str) (c8 : List Str) (c9 : Int) (k0 : Option Int) : Nat → Int → Option Int
  | 0, _ => none
  | n + 1, s10 => config_checkKinds_L0T N x0 c8 c9 k0 (config_checkKinds_L0 N x0 c8 c9 k0 n) s10
def config_checkKinds (N : Nat) (x0 : List Str) : Option Int :=
  br (decide ((x0.length : Int) > (30 : Int)))
    (some (2 : Int))
    (config_checkKinds_L0 N x0 x0 (x0.length : Int) (some (0 : Int)) N (0 : Int))
abbrev config_checkKinds_sg (f : SV [.v (.sl .str)] → BV [] → Option (Int)) : AF := { ps := [.v (.sl .str)], bs := [], rs := [.v (.int .i64)], cs := [], R := Int, out := fun z => ((z, ()), ()), f := f }
abbrev config_checkKinds_pk : SV [.v (.int .i64)] → BV [] → Int := fun x _ => x.1
def config_checkKinds_fn (N : Nat) : FuncId → Option Tmp → Option AF := fun f _ =>
  match f with
    | 53 => some (config_IsWord_sg fun x _ => config_IsWord N x.1)
    | _ => none
theorem config_checkKinds_fn_ok (N : Nat) : ∀ f q F, config_checkKinds_fn N f q = some F → Sound Tryd.prog GW B0G f F := by
  intro f q F h
  unfold config_checkKinds_fn at h
  split at h
  · cases h; exact config_IsWord_sound N
  · cases h
def config_checkKinds_h : Nat → Hint := fun i =>
  match i with
  | 0 => ⟨[], [0, 8, 9, 10], [], [], []⟩
  | _ => ⟨[], [], [], [], []⟩
abbrev config_checkKinds_E (N : Nat) : Env := mkE config_checkKinds_h (config_checkKinds_fn N) (fun _ => false) (fun _ => false)
abbrev config_checkKinds_L0_fs : List (Nat × Sl) := [(0, .v (.sl .str)), (8, .v (.sl .str)), (9, .v (.int .i64)), (10, .v (.int .i64))]
abbrev config_checkKinds_L0_bs : List (Nat × Sb) := []
def config_checkKinds_L0_hd (x0 : List Str) (c8 : List Str) (c9 : Int) (s10 : Int) : St := ⟨30, [(0, .v (.sl .str) x0), (8, .v (.sl .str) c8), (9, .v (.int .i64) c9), (10, .v (.int .i64) s10)], []⟩
def config_checkKinds_L0_tl0 (_x0 : List Str) (_c8 : List Str) (_c9 : Int) : St := ⟨30, [], []⟩
def config_checkKinds_L0_G (N : Nat) (x0 : List Str) (c8 : List Str) (c9 : Int) (s10 : Int) (k : Ex → St → Option Int) : Option Int :=
  config_checkKinds_L0 N x0 c8 c9 (k (.exit 0) (config_checkKinds_L0_tl0 x0 c8 c9)) N s10
abbrev config_checkKinds_L0_F (N : Nat) : FV config_checkKinds_L0_fs → HV config_checkKinds_L0_bs → (Ex → St → Option Int) → Option Int := fun x _ k => config_checkKinds_L0_G N x.1 x.2.1 x.2.2.1 x.2.2.2.1 k
noncomputable def config_checkKinds_LP (N : Nat) : Nat → Code → St → (Ex → St → Option Int) → Option Int := fun i c =>
  match i with
  | 0 => (LPc 30 config_checkKinds_L0_fs config_checkKinds_L0_bs (config_checkKinds_L0_F N) (fun st k => iter (config_checkKinds_h 0) (exec (config_checkKinds_E N) N c 0) N st k))
  | i => fun st k => iter (config_checkKinds_h i) (exec (config_checkKinds_E N) N c i) N st k
theorem config_checkKinds_L0_step (N : Nat) (x0 : List Str) (c8 : List Str) (c9 : Int) (KX : Nat → St → Option Int) (I : St → Option Int) (s10 : Int) :
    execL (config_checkKinds_LP N) (config_checkKinds_E N) (cAt (bodyOf Tryd.f67) [true, true, false, true, false, false]) 0 (config_checkKinds_L0_hd x0 c8 c9 s10) (roundK (config_checkKinds_h 0) I KX (resD (config_checkKinds_E N) Tryd.f67 (config_checkKinds_sg fun x _ => config_checkKinds N x.1) config_checkKinds_pk)) = config_checkKinds_L0T N x0 c8 c9 (KX 0 (config_checkKinds_L0_tl0 x0 c8 c9)) (fun s10 => I (config_checkKinds_L0_hd x0 c8 c9 s10)) s10 := by kernel_rfl
theorem config_checkKinds_L0_ok (N : Nat) : ∀ x y k, (∀ st, k .ret st = (resD (config_checkKinds_E N) Tryd.f67 (config_checkKinds_sg fun x _ => config_checkKinds N x.1) config_checkKinds_pk) st) → iter (config_checkKinds_h 0) (exec (config_checkKinds_E N) N (cAt (bodyOf Tryd.f67) [true, true, false, true, false, false]) 0) N ⟨30, unF config_checkKinds_L0_fs x, unH config_checkKinds_L0_bs y⟩ k = config_checkKinds_L0_F N x y k := fun x _ k hk =>
  iter_link (S := (Int) × Unit) (config_checkKinds_h 0) _ (execL (config_checkKinds_LP N) (config_checkKinds_E N) (cAt (bodyOf Tryd.f67) [true, true, false, true, false, false]) 0) (resD (config_checkKinds_E N) Tryd.f67 (config_checkKinds_sg fun x _ => config_checkKinds N x.1) config_checkKinds_pk) (fun st k hk => execL_eq _ _ N _ (cAt (bodyOf Tryd.f67) [true, true, false, true, false, false]) 0 (show LoopsOk (config_checkKinds_LP N) (config_checkKinds_E N) N (resD (config_checkKinds_E N) Tryd.f67 (config_checkKinds_sg fun x _ => config_checkKinds N x.1) config_checkKinds_pk) [] from trivial) st k hk) (fun s => config_checkKinds_L0_hd x.1 x.2.1 x.2.2.1 s.1) k hk
    (fun self s => config_checkKinds_L0T N x.1 x.2.1 x.2.2.1 (k (.exit 0) (config_checkKinds_L0_tl0 x.1 x.2.1 x.2.2.1)) (fun s10 => self (s10, ())) s.1) (fun n s => config_checkKinds_L0 N x.1 x.2.1 x.2.2.1 (k (.exit 0) (config_checkKinds_L0_tl0 x.1 x.2.1 x.2.2.1)) n s.1) (fun _ => rfl) (fun _ _ => rfl)
    (fun I s => config_checkKinds_L0_step N x.1 x.2.1 x.2.2.1 (fun j => k (.exit j)) I s.1) N (x.2.2.2.1, ())
theorem config_checkKinds_lp0 (N : Nat) : ∀ st k, (∀ st, k .ret st = (resD (config_checkKinds_E N) Tryd.f67 (config_checkKinds_sg fun x _ => config_checkKinds N x.1) config_checkKinds_pk) st) → config_checkKinds_LP N 0 (cAt (bodyOf Tryd.f67) [true, true, false, true, false, false]) st k = iter (Env.hint (config_checkKinds_E N) 0) (exec (config_checkKinds_E N) N (cAt (bodyOf Tryd.f67) [true, true, false, true, false, false]) 0) N st k := fun st k hk => LPc_eq 30 config_checkKinds_L0_fs config_checkKinds_L0_bs _ _ (resD (config_checkKinds_E N) Tryd.f67 (config_checkKinds_sg fun x _ => config_checkKinds N x.1) config_checkKinds_pk) (config_checkKinds_L0_ok N) _ st k hk (rfl)
theorem config_checkKinds_core (N : Nat) (x : SV [.v (.sl .str)]) (y : BV []) : runL (config_checkKinds_E N) Tryd.f67 (config_checkKinds_sg fun x _ => config_checkKinds N x.1) config_checkKinds_pk (config_checkKinds_LP N) x y = config_checkKinds N x.1 := by kernel_rfl
theorem config_checkKinds_sound (N : Nat) : Sound Tryd.prog GW B0G 67 (config_checkKinds_sg fun x _ => config_checkKinds N x.1) :=
  runD_sound (mkE_ok config_checkKinds_h (config_checkKinds_fn N) _ _ (config_checkKinds_fn_ok N)) Tryd.func67 rfl Tryd.call67 (config_checkKinds_sg fun x _ => config_checkKinds N x.1) config_checkKinds_pk (fun _ _ => rfl) N (fun x y _ h => ((runL_eq (config_checkKinds_E N) N Tryd.f67 (config_checkKinds_sg fun x _ => config_checkKinds N x.1) config_checkKinds_pk (config_checkKinds_LP N) (show LoopsOk (config_checkKinds_LP N) (config_checkKinds_E N) N (resD (config_checkKinds_E N) Tryd.f67 (config_checkKinds_sg fun x _ => config_checkKinds N x.1) config_checkKinds_pk) [(0, (cAt (bodyOf Tryd.f67) [true, true, false, true, false, false]))] from ⟨config_checkKinds_lp0 N, trivial⟩) x y).trans (config_checkKinds_core N x y)).trans h)
def config_toolsOn_1 (N : Nat) (x0 : Str × Str × List (Str × Str) × List (Str × Str)) (y0_0 : Str) (y1_0 : Str) (y1_1 : List (Str × Str)) (y2_0 : Str) (y2_1 : List (Str × Str)) : Option (Bool × Str × Str × List (Str × Str) × Str × List (Str × Str)) :=
  br (x0.2.1 == y0_0)
    (bnd (config_Fit N x0.2.2.1 y1_1) fun t15 =>
    br (t15)
      (bnd (config_Fit N x0.2.2.2 y2_1) fun t22 =>
      some (t22, (y0_0, (y1_0, (y1_1, (y2_0, y2_1))))))
      (some (false, (y0_0, (y1_0, (y1_1, (y2_0, y2_1)))))))
    (some (false, (y0_0, (y1_0, (y1_1, (y2_0, y2_1))))))
abbrev config_toolsOn_1_sg (f : SV [.v (.pr .str (.pr .str (.pr (.sl (.pr .str .str)) (.sl (.pr .str .str))))), .box 0 0, .box 1 0, .box 2 0] → BV [.cells [.v .str], .cells [.v .str, .v (.sl (.pr .str .str))], .cells [.v .str, .v (.sl (.pr .str .str))]] → Option (Bool × Str × Str × List (Str × Str) × Str × List (Str × Str))) : AF := { ps := [.v (.pr .str (.pr .str (.pr (.sl (.pr .str .str)) (.sl (.pr .str .str))))), .box 0 0, .box 1 0, .box 2 0], bs := [.cells [.v .str], .cells [.v .str, .v (.sl (.pr .str .str))], .cells [.v .str, .v (.sl (.pr .str .str))]], rs := [.v .bool], cs := [.cells [.v .str], .cells [.v .str, .v (.sl (.pr .str .str))], .cells [.v .str, .v (.sl (.pr .str .str))]], R := Bool × Str × Str × List (Str × Str) × Str × List (Str × Str), out := fun z => ((z.1, ()), ((z.2.1, ()), (z.2.2.1, z.2.2.2.1, ()), (z.2.2.2.2.1, z.2.2.2.2.2, ()), ())), f := f }
abbrev config_toolsOn_1_pk : SV [.v .bool] → BV [.cells [.v .str], .cells [.v .str, .v (.sl (.pr .str .str))], .cells [.v .str, .v (.sl (.pr .str .str))]] → (Bool × Str × Str × List (Str × Str) × Str × List (Str × Str)) := fun x y => (x.1, y.1.1, y.2.1.1, y.2.1.2.1, y.2.2.1.1, y.2.2.1.2.1)
def config_toolsOn_1_fn (N : Nat) : FuncId → Option Tmp → Option AF := fun f _ =>
  match f with
    | 95 => some (config_Fit_sg fun x _ => config_Fit N x.1 x.2.1)
    | _ => none
theorem config_toolsOn_1_fn_ok (N : Nat) : ∀ f q F, config_toolsOn_1_fn N f q = some F → Sound Tryd.prog GW B0G f F := by
  intro f q F h
  unfold config_toolsOn_1_fn at h
  split at h
  · cases h; exact config_Fit_sound N
  · cases h
def config_toolsOn_1_h : Nat → Hint := fun i =>
  match i with
  | _ => ⟨[], [], [], [], []⟩
abbrev config_toolsOn_1_E (N : Nat) : Env := mkE config_toolsOn_1_h (config_toolsOn_1_fn N) (fun _ => false) (fun _ => false)
noncomputable def config_toolsOn_1_LP (N : Nat) : Nat → Code → St → (Ex → St → Option (Bool × Str × Str × List (Str × Str) × Str × List (Str × Str))) → Option (Bool × Str × Str × List (Str × Str) × Str × List (Str × Str)) := fun i c =>
  match i with
  | i => fun st k => iter (config_toolsOn_1_h i) (exec (config_toolsOn_1_E N) N c i) N st k
theorem config_toolsOn_1_core (N : Nat) (x : SV [.v (.pr .str (.pr .str (.pr (.sl (.pr .str .str)) (.sl (.pr .str .str))))), .box 0 0, .box 1 0, .box 2 0]) (y : BV [.cells [.v .str], .cells [.v .str, .v (.sl (.pr .str .str))], .cells [.v .str, .v (.sl (.pr .str .str))]]) : runL (config_toolsOn_1_E N) Tryd.f100 (config_toolsOn_1_sg fun x y => config_toolsOn_1 N x.1 y.1.1 y.2.1.1 y.2.1.2.1 y.2.2.1.1 y.2.2.1.2.1) config_toolsOn_1_pk (config_toolsOn_1_LP N) x y = config_toolsOn_1 N x.1 y.1.1 y.2.1.1 y.2.1.2.1 y.2.2.1.1 y.2.2.1.2.1 := by kernel_rfl
theorem config_toolsOn_1_sound (N : Nat) : Sound Tryd.prog GW B0G 100 (config_toolsOn_1_sg fun x y => config_toolsOn_1 N x.1 y.1.1 y.2.1.1 y.2.1.2.1 y.2.2.1.1 y.2.2.1.2.1) :=
  runD_sound (mkE_ok config_toolsOn_1_h (config_toolsOn_1_fn N) _ _ (config_toolsOn_1_fn_ok N)) Tryd.func100 rfl Tryd.call100 (config_toolsOn_1_sg fun x y => config_toolsOn_1 N x.1 y.1.1 y.2.1.1 y.2.1.2.1 y.2.2.1.1 y.2.2.1.2.1) config_toolsOn_1_pk (fun _ _ => rfl) N (fun x y _ h => ((runL_eq (config_toolsOn_1_E N) N Tryd.f100 (config_toolsOn_1_sg fun x y => config_toolsOn_1 N x.1 y.1.1 y.2.1.1 y.2.1.2.1 y.2.2.1.1 y.2.2.1.2.1) config_toolsOn_1_pk (config_toolsOn_1_LP N) (show LoopsOk (config_toolsOn_1_LP N) (config_toolsOn_1_E N) N (resD (config_toolsOn_1_E N) Tryd.f100 (config_toolsOn_1_sg fun x y => config_toolsOn_1 N x.1 y.1.1 y.2.1.1 y.2.1.2.1 y.2.2.1.1 y.2.2.1.2.1) config_toolsOn_1_pk) [] from trivial) x y).trans (config_toolsOn_1_core N x y)).trans h)
def slices_IndexFunc_api_Tool_2_L0T (N : Nat) (x0 : List (Str × Str × List (Str × Str) × List (Str × Str))) (c7 : Int) (k0 : Str → Str → (List (Str × Str)) → Str → (List (Str × Str)) → Option (Int × Str × Str × List (Str × Str) × Str × List (Str × Str))) (self : Int → Str → Str → (List (Str × Str)) → Str → (List (Str × Str)) → Option (Int × Str × Str × List (Str × Str) × Str × List (Str × Str))) (s8 : Int) (b0_0 : Str) (b1_0 : Str) (b1_1 : List (Str × Str)) (b2_0 : Str) (b2_1 : List (Str × Str)) : Option (Int × Str × Str × List (Str × Str) × Str × List (Str × Str)) :=
  br (decide (s8 < c7))
    (bnd (geti x0 s8) fun t14 =>
    bnd (config_toolsOn_1 N t14 b0_0 b1_0 b1_1 b2_0 b2_1) fun t16 =>
    br (t16.1)
      (some (s8, t16.2))
      (self (IntKind.i64.wrap (s8 + (1 : Int))) t16.2.1 t16.2.2.1 t16.2.2.2.1 t16.2.2.2.2.1 t16.2.2.2.2.2))
    (k0 b0_0 b1_0 b1_1 b2_0 b2_1)
def slices_IndexFunc_api_Tool_2_L0 (N : Nat) (x0 : List (Str × Str × List (Str × Str) × List (Str × Str))) (c7 : Int) (k0 : Str → Str → (List (Str × Str)) → Str → (List (Str × Str)) → Option (Int × Str × Str × List (Str × Str) × Str × List (Str × Str))) : Nat → Int → Str → Str → (List (Str × Str)) → Str → (List (Str × Str)) → Option (Int × Str × Str × List (Str × Str) × Str × List (Str × Str))
  | 0, _, _, _, _, _, _ => none
  | n + 1, s8, b0_0, b1_0, b1_1, b2_0, b2_1 => slices_IndexFunc_api_Tool_2_L0T N x0 c7 k0 (slices_IndexFunc_api_Tool_2_L0 N x0 c7 k0 n) s8 b0_0 b1_0 b1_1 b2_0 b2_1
def slices_IndexFunc_api_Tool_2 (N : Nat) (x0 : List (Str × Str × List (Str × Str) × List (Str × Str))) (y0_0 : Str) (y1_0 : Str) (y1_1 : List (Str × Str)) (y2_0 : Str) (y2_1 : List (Str × Str)) : Option (Int × Str × Str × List (Str × Str) × Str × List (Str × Str)) :=
  slices_IndexFunc_api_Tool_2_L0 N x0 (x0.length : Int) (fun o0_0_0 o0_1_0 o0_1_1 o0_2_0 o0_2_1 =>
      some ((-1 : Int), (o0_0_0, (o0_1_0, (o0_1_1, (o0_2_0, o0_2_1)))))) N (0 : Int) y0_0 y1_0 y1_1 y2_0 y2_1
abbrev slices_IndexFunc_api_Tool_2_sg (f : SV [.v (.sl (.pr .str (.pr .str (.pr (.sl (.pr .str .str)) (.sl (.pr .str .str)))))), .fnc 100 [0, 1, 2]] → BV [.cells [.v .str], .cells [.v .str, .v (.sl (.pr .str .str))], .cells [.v .str, .v (.sl (.pr .str .str))]] → Option (Int × Str × Str × List (Str × Str) × Str × List (Str × Str))) : AF := { ps := [.v (.sl (.pr .str (.pr .str (.pr (.sl (.pr .str .str)) (.sl (.pr .str .str)))))), .fnc 100 [0, 1, 2]], bs := [.cells [.v .str], .cells [.v .str, .v (.sl (.pr .str .str))], .cells [.v .str, .v (.sl (.pr .str .str))]], rs := [.v (.int .i64)], cs := [.cells [.v .str], .cells [.v .str, .v (.sl (.pr .str .str))], .cells [.v .str, .v (.sl (.pr .str .str))]], R := Int × Str × Str × List (Str × Str) × Str × List (Str × Str), out := fun z => ((z.1, ()), ((z.2.1, ()), (z.2.2.1, z.2.2.2.1, ()), (z.2.2.2.2.1, z.2.2.2.2.2, ()), ())), f := f }
abbrev slices_IndexFunc_api_Tool_2_pk : SV [.v (.int .i64)] → BV [.cells [.v .str], .cells [.v .str, .v (.sl (.pr .str .str))], .cells [.v .str, .v (.sl (.pr .str .str))]] → (Int × Str × Str × List (Str × Str) × Str × List (Str × Str)) := fun x y => (x.1, y.1.1, y.2.1.1, y.2.1.2.1, y.2.2.1.1, y.2.2.1.2.1)
def slices_IndexFunc_api_Tool_2_fn (N : Nat) : FuncId → Option Tmp → Option AF := fun f _ =>
  match f with
    | 100 => some (config_toolsOn_1_sg fun x y => config_toolsOn_1 N x.1 y.1.1 y.2.1.1 y.2.1.2.1 y.2.2.1.1 y.2.2.1.2.1)
    | _ => none
theorem slices_IndexFunc_api_Tool_2_fn_ok (N : Nat) : ∀ f q F, slices_IndexFunc_api_Tool_2_fn N f q = some F → Sound Tryd.prog GW B0G f F := by
  intro f q F h
  unfold slices_IndexFunc_api_Tool_2_fn at h
  split at h
  · cases h; exact config_toolsOn_1_sound N
  · cases h
def slices_IndexFunc_api_Tool_2_h : Nat → Hint := fun i =>
  match i with
  | 0 => ⟨[], [0, 1, 7, 8], [0, 1, 2], [], [0, 1, 2]⟩
  | _ => ⟨[], [], [], [], []⟩
abbrev slices_IndexFunc_api_Tool_2_E (N : Nat) : Env := mkE slices_IndexFunc_api_Tool_2_h (slices_IndexFunc_api_Tool_2_fn N) (fun _ => false) (fun _ => false)
abbrev slices_IndexFunc_api_Tool_2_L0_fs : List (Nat × Sl) := [(0, .v (.sl (.pr .str (.pr .str (.pr (.sl (.pr .str .str)) (.sl (.pr .str .str))))))), (1, .fnc 100 [0, 1, 2]), (7, .v (.int .i64)), (8, .v (.int .i64))]
abbrev slices_IndexFunc_api_Tool_2_L0_bs : List (Nat × Sb) := [(0, .cells [.v .str]), (1, .cells [.v .str, .v (.sl (.pr .str .str))]), (2, .cells [.v .str, .v (.sl (.pr .str .str))])]
def slices_IndexFunc_api_Tool_2_L0_hd (x0 : List (Str × Str × List (Str × Str) × List (Str × Str))) (c7 : Int) (s8 : Int) (b0_0 : Str) (b1_0 : Str) (b1_1 : List (Str × Str)) (b2_0 : Str) (b2_1 : List (Str × Str)) : St := ⟨19, [(0, .v (.sl (.pr .str (.pr .str (.pr (.sl (.pr .str .str)) (.sl (.pr .str .str)))))) x0), (1, .fnc 100 [0, 1, 2]), (7, .v (.int .i64) c7), (8, .v (.int .i64) s8)], [(0, .cells [.v .str b0_0]), (1, .cells [.v .str b1_0, .v (.sl (.pr .str .str)) b1_1]), (2, .cells [.v .str b2_0, .v (.sl (.pr .str .str)) b2_1])]⟩
def slices_IndexFunc_api_Tool_2_L0_tl0 (_x0 : List (Str × Str × List (Str × Str) × List (Str × Str))) (_c7 : Int) (o0_0_0 : Str) (o0_1_0 : Str) (o0_1_1 : List (Str × Str)) (o0_2_0 : Str) (o0_2_1 : List (Str × Str)) : St := ⟨19, [], [(0, .cells [.v .str o0_0_0]), (1, .cells [.v .str o0_1_0, .v (.sl (.pr .str .str)) o0_1_1]), (2, .cells [.v .str o0_2_0, .v (.sl (.pr .str .str)) o0_2_1])]⟩
def slices_IndexFunc_api_Tool_2_L0_G (N : Nat) (x0 : List (Str × Str × List (Str × Str) × List (Str × Str))) (c7 : Int) (s8 : Int) (b0_0 : Str) (b1_0 : Str) (b1_1 : List (Str × Str)) (b2_0 : Str) (b2_1 : List (Str × Str)) (k : Ex → St → Option (Int × Str × Str × List (Str × Str) × Str × List (Str × Str))) : Option (Int × Str × Str × List (Str × Str) × Str × List (Str × Str)) :=
  slices_IndexFunc_api_Tool_2_L0 N x0 c7 (fun o0_0_0 o0_1_0 o0_1_1 o0_2_0 o0_2_1 => k (.exit 0) (slices_IndexFunc_api_Tool_2_L0_tl0 x0 c7 o0_0_0 o0_1_0 o0_1_1 o0_2_0 o0_2_1)) N s8 b0_0 b1_0 b1_1 b2_0 b2_1
abbrev slices_IndexFunc_api_Tool_2_L0_F (N : Nat) : FV slices_IndexFunc_api_Tool_2_L0_fs → HV slices_IndexFunc_api_Tool_2_L0_bs → (Ex → St → Option (Int × Str × Str × List (Str × Str) × Str × List (Str × Str))) → Option (Int × Str × Str × List (Str × Str) × Str × List (Str × Str)) := fun x y k => slices_IndexFunc_api_Tool_2_L0_G N x.1 x.2.2.1 x.2.2.2.1 y.1.1 y.2.1.1 y.2.1.2.1 y.2.2.1.1 y.2.2.1.2.1 k
noncomputable def slices_IndexFunc_api_Tool_2_LP (N : Nat) : Nat → Code → St → (Ex → St → Option (Int × Str × Str × List (Str × Str) × Str × List (Str × Str))) → Option (Int × Str × Str × List (Str × Str) × Str × List (Str × Str)) := fun i c =>
  match i with
  | 0 => (LPc 19 slices_IndexFunc_api_Tool_2_L0_fs slices_IndexFunc_api_Tool_2_L0_bs (slices_IndexFunc_api_Tool_2_L0_F N) (fun st k => iter (slices_IndexFunc_api_Tool_2_h 0) (exec (slices_IndexFunc_api_Tool_2_E N) N c 0) N st k))
  | i => fun st k => iter (slices_IndexFunc_api_Tool_2_h i) (exec (slices_IndexFunc_api_Tool_2_E N) N c i) N st k
theorem slices_IndexFunc_api_Tool_2_L0_step (N : Nat) (x0 : List (Str × Str × List (Str × Str) × List (Str × Str))) (c7 : Int) (KX : Nat → St → Option (Int × Str × Str × List (Str × Str) × Str × List (Str × Str))) (I : St → Option (Int × Str × Str × List (Str × Str) × Str × List (Str × Str))) (s8 : Int) (b0_0 : Str) (b1_0 : Str) (b1_1 : List (Str × Str)) (b2_0 : Str) (b2_1 : List (Str × Str)) :
    execL (slices_IndexFunc_api_Tool_2_LP N) (slices_IndexFunc_api_Tool_2_E N) (cAt (bodyOf Tryd.f99) [true, false, true, false, false]) 0 (slices_IndexFunc_api_Tool_2_L0_hd x0 c7 s8 b0_0 b1_0 b1_1 b2_0 b2_1) (roundK (slices_IndexFunc_api_Tool_2_h 0) I KX (resD (slices_IndexFunc_api_Tool_2_E N) Tryd.f99 (slices_IndexFunc_api_Tool_2_sg fun x y => slices_IndexFunc_api_Tool_2 N x.1 y.1.1 y.2.1.1 y.2.1.2.1 y.2.2.1.1 y.2.2.1.2.1) slices_IndexFunc_api_Tool_2_pk)) = slices_IndexFunc_api_Tool_2_L0T N x0 c7 (fun o0_0_0 o0_1_0 o0_1_1 o0_2_0 o0_2_1 => KX 0 (slices_IndexFunc_api_Tool_2_L0_tl0 x0 c7 o0_0_0 o0_1_0 o0_1_1 o0_2_0 o0_2_1)) (fun s8 b0_0 b1_0 b1_1 b2_0 b2_1 => I (slices_IndexFunc_api_Tool_2_L0_hd x0 c7 s8 b0_0 b1_0 b1_1 b2_0 b2_1)) s8 b0_0 b1_0 b1_1 b2_0 b2_1 := by kernel_rfl
theorem slices_IndexFunc_api_Tool_2_L0_ok (N : Nat) : ∀ x y k, (∀ st, k .ret st = (resD (slices_IndexFunc_api_Tool_2_E N) Tryd.f99 (slices_IndexFunc_api_Tool_2_sg fun x y => slices_IndexFunc_api_Tool_2 N x.1 y.1.1 y.2.1.1 y.2.1.2.1 y.2.2.1.1 y.2.2.1.2.1) slices_IndexFunc_api_Tool_2_pk) st) → iter (slices_IndexFunc_api_Tool_2_h 0) (exec (slices_IndexFunc_api_Tool_2_E N) N (cAt (bodyOf Tryd.f99) [true, false, true, false, false]) 0) N ⟨19, unF slices_IndexFunc_api_Tool_2_L0_fs x, unH slices_IndexFunc_api_Tool_2_L0_bs y⟩ k = slices_IndexFunc_api_Tool_2_L0_F N x y k := fun x y k hk =>
  iter_link (S := (Int) × (Str) × (Str) × (List (Str × Str)) × (Str) × (List (Str × Str)) × Unit) (slices_IndexFunc_api_Tool_2_h 0) _ (execL (slices_IndexFunc_api_Tool_2_LP N) (slices_IndexFunc_api_Tool_2_E N) (cAt (bodyOf Tryd.f99) [true, false, true, false, false]) 0) (resD (slices_IndexFunc_api_Tool_2_E N) Tryd.f99 (slices_IndexFunc_api_Tool_2_sg fun x y => slices_IndexFunc_api_Tool_2 N x.1 y.1.1 y.2.1.1 y.2.1.2.1 y.2.2.1.1 y.2.2.1.2.1) slices_IndexFunc_api_Tool_2_pk) (fun st k hk => execL_eq _ _ N _ (cAt (bodyOf Tryd.f99) [true, false, true, false, false]) 0 (show LoopsOk (slices_IndexFunc_api_Tool_2_LP N) (slices_IndexFunc_api_Tool_2_E N) N (resD (slices_IndexFunc_api_Tool_2_E N) Tryd.f99 (slices_IndexFunc_api_Tool_2_sg fun x y => slices_IndexFunc_api_Tool_2 N x.1 y.1.1 y.2.1.1 y.2.1.2.1 y.2.2.1.1 y.2.2.1.2.1) slices_IndexFunc_api_Tool_2_pk) [] from trivial) st k hk) (fun s => slices_IndexFunc_api_Tool_2_L0_hd x.1 x.2.2.1 s.1 s.2.1 s.2.2.1 s.2.2.2.1 s.2.2.2.2.1 s.2.2.2.2.2.1) k hk
    (fun self s => slices_IndexFunc_api_Tool_2_L0T N x.1 x.2.2.1 (fun o0_0_0 o0_1_0 o0_1_1 o0_2_0 o0_2_1 => k (.exit 0) (slices_IndexFunc_api_Tool_2_L0_tl0 x.1 x.2.2.1 o0_0_0 o0_1_0 o0_1_1 o0_2_0 o0_2_1)) (fun s8 b0_0 b1_0 b1_1 b2_0 b2_1 => self (s8, b0_0, b1_0, b1_1, b2_0, b2_1, ())) s.1 s.2.1 s.2.2.1 s.2.2.2.1 s.2.2.2.2.1 s.2.2.2.2.2.1) (fun n s => slices_IndexFunc_api_Tool_2_L0 N x.1 x.2.2.1 (fun o0_0_0 o0_1_0 o0_1_1 o0_2_0 o0_2_1 => k (.exit 0) (slices_IndexFunc_api_Tool_2_L0_tl0 x.1 x.2.2.1 o0_0_0 o0_1_0 o0_1_1 o0_2_0 o0_2_1)) n s.1 s.2.1 s.2.2.1 s.2.2.2.1 s.2.2.2.2.1 s.2.2.2.2.2.1) (fun _ => rfl) (fun _ _ => rfl)
    (fun I s => slices_IndexFunc_api_Tool_2_L0_step N x.1 x.2.2.1 (fun j => k (.exit j)) I s.1 s.2.1 s.2.2.1 s.2.2.2.1 s.2.2.2.2.1 s.2.2.2.2.2.1) N (x.2.2.2.1, y.1.1, y.2.1.1, y.2.1.2.1, y.2.2.1.1, y.2.2.1.2.1, ())
theorem slices_IndexFunc_api_Tool_2_lp0 (N : Nat) : ∀ st k, (∀ st, k .ret st = (resD (slices_IndexFunc_api_Tool_2_E N) Tryd.f99 (slices_IndexFunc_api_Tool_2_sg fun x y => slices_IndexFunc_api_Tool_2 N x.1 y.1.1 y.2.1.1 y.2.1.2.1 y.2.2.1.1 y.2.2.1.2.1) slices_IndexFunc_api_Tool_2_pk) st) → slices_IndexFunc_api_Tool_2_LP N 0 (cAt (bodyOf Tryd.f99) [true, false, true, false, false]) st k = iter (Env.hint (slices_IndexFunc_api_Tool_2_E N) 0) (exec (slices_IndexFunc_api_Tool_2_E N) N (cAt (bodyOf Tryd.f99) [true, false, true, false, false]) 0) N st k := fun st k hk => LPc_eq 19 slices_IndexFunc_api_Tool_2_L0_fs slices_IndexFunc_api_Tool_2_L0_bs _ _ (resD (slices_IndexFunc_api_Tool_2_E N) Tryd.f99 (slices_IndexFunc_api_Tool_2_sg fun x y => slices_IndexFunc_api_Tool_2 N x.1 y.1.1 y.2.1.1 y.2.1.2.1 y.2.2.1.1 y.2.2.1.2.1) slices_IndexFunc_api_Tool_2_pk) (slices_IndexFunc_api_Tool_2_L0_ok N) _ st k hk (rfl)
theorem slices_IndexFunc_api_Tool_2_core (N : Nat) (x : SV [.v (.sl (.pr .str (.pr .str (.pr (.sl (.pr .str .str)) (.sl (.pr .str .str)))))), .fnc 100 [0, 1, 2]]) (y : BV [.cells [.v .str], .cells [.v .str, .v (.sl (.pr .str .str))], .cells [.v .str, .v (.sl (.pr .str .str))]]) : runL (slices_IndexFunc_api_Tool_2_E N) Tryd.f99 (slices_IndexFunc_api_Tool_2_sg fun x y => slices_IndexFunc_api_Tool_2 N x.1 y.1.1 y.2.1.1 y.2.1.2.1 y.2.2.1.1 y.2.2.1.2.1) slices_IndexFunc_api_Tool_2_pk (slices_IndexFunc_api_Tool_2_LP N) x y = slices_IndexFunc_api_Tool_2 N x.1 y.1.1 y.2.1.1 y.2.1.2.1 y.2.2.1.1 y.2.2.1.2.1 := by kernel_rfl
theorem slices_IndexFunc_api_Tool_2_sound (N : Nat) : Sound Tryd.prog GW B0G 99 (slices_IndexFunc_api_Tool_2_sg fun x y => slices_IndexFunc_api_Tool_2 N x.1 y.1.1 y.2.1.1 y.2.1.2.1 y.2.2.1.1 y.2.2.1.2.1) :=
  runD_sound (mkE_ok slices_IndexFunc_api_Tool_2_h (slices_IndexFunc_api_Tool_2_fn N) _ _ (slices_IndexFunc_api_Tool_2_fn_ok N)) Tryd.func99 rfl Tryd.call99 (slices_IndexFunc_api_Tool_2_sg fun x y => slices_IndexFunc_api_Tool_2 N x.1 y.1.1 y.2.1.1 y.2.1.2.1 y.2.2.1.1 y.2.2.1.2.1) slices_IndexFunc_api_Tool_2_pk (fun _ _ => rfl) N (fun x y _ h => ((runL_eq (slices_IndexFunc_api_Tool_2_E N) N Tryd.f99 (slices_IndexFunc_api_Tool_2_sg fun x y => slices_IndexFunc_api_Tool_2 N x.1 y.1.1 y.2.1.1 y.2.1.2.1 y.2.2.1.1 y.2.2.1.2.1) slices_IndexFunc_api_Tool_2_pk (slices_IndexFunc_api_Tool_2_LP N) (show LoopsOk (slices_IndexFunc_api_Tool_2_LP N) (slices_IndexFunc_api_Tool_2_E N) N (resD (slices_IndexFunc_api_Tool_2_E N) Tryd.f99 (slices_IndexFunc_api_Tool_2_sg fun x y => slices_IndexFunc_api_Tool_2 N x.1 y.1.1 y.2.1.1 y.2.1.2.1 y.2.2.1.1 y.2.2.1.2.1) slices_IndexFunc_api_Tool_2_pk) [(0, (cAt (bodyOf Tryd.f99) [true, false, true, false, false]))] from ⟨slices_IndexFunc_api_Tool_2_lp0 N, trivial⟩) x y).trans (slices_IndexFunc_api_Tool_2_core N x y)).trans h)
def config_toolsOn_L0T (N : Nat) (x0 : List (Str × Str × List (Str × Str) × List (Str × Str))) (x1 : List Str) (c15 : Int) (k0 : (List Str) → Option (Bool × List Str)) (self : Int → Str → (List (Str × Str)) → Str → (List (Str × Str)) → (List Str) → Option (Bool × List Str)) (s16 : Int) (b1006_0 : Str) (b1006_1 : List (Str × Str)) (b1007_0 : Str) (b1007_1 : List (Str × Str)) (w1010 : List Str) : Option (Bool × List Str) :=
  br (decide (s16 < c15))
    (bnd (geti x1 s16) fun t18 =>
    bnd (slices_IndexFunc_api_Tool_2 N x0 t18 b1006_0 b1006_1 b1007_0 b1007_1) fun t22 =>
    br (decide (t22.1 < (0 : Int)))
      (some (false, ([] : List Str)))
      (bnd (geti x0 t22.1) fun t28 =>
      br (decide ((w1010.length + [t28.1].length) * (24 * Ty.sz .str) ≤ 140737488355328))
        (self (IntKind.i64.wrap (s16 + (1 : Int))) t22.2.2.1 t22.2.2.2.1 t22.2.2.2.2.1 t22.2.2.2.2.2 (w1010 ++ [t28.1]))
        none))
    (k0 w1010)
def config_toolsOn_L0 (N : Nat) (x0 : List (Str × Str × List (Str × Str) × List (Str × Str))) (x1 : List Str) (c15 : Int) (k0 : (List Str) → Option (Bool × List Str)) : Nat → Int → Str → (List (Str × Str)) → Str → (List (Str × Str)) → (List Str) → Option (Bool × List Str)
  | 0, _, _, _, _, _, _ => none
  | n + 1, s16, b1006_0, b1006_1, b1007_0, b1007_1, w1010 => config_toolsOn_L0T N x0 x1 c15 k0 (config_toolsOn_L0 N x0 x1 c15 k0 n) s16 b1006_0 b1006_1 b1007_0 b1007_1 w1010
def config_toolsOn (N : Nat) (x0 : List (Str × Str × List (Str × Str) × List (Str × Str))) (x1 : List Str) (x2 : Str × List (Str × Str)) (x3 : Str × List (Str × Str)) : Option (Bool × List Str) :=
  config_toolsOn_L0 N x0 x1 (x1.length : Int) (fun o0_w1010 =>
      some (true, o0_w1010)) N (0 : Int) x2.1 x2.2 x3.1 x3.2 ([] : List Str)
abbrev config_toolsOn_sg (f : SV [.v (.sl (.pr .str (.pr .str (.pr (.sl (.pr .str .str)) (.sl (.pr .str .str)))))), .v (.sl .str), .v (.pr .str (.sl (.pr .str .str))), .v (.pr .str (.sl (.pr .str .str)))] → BV [] → Option (Bool × List Str)) : AF := { ps := [.v (.sl (.pr .str (.pr .str (.pr (.sl (.pr .str .str)) (.sl (.pr .str .str)))))), .v (.sl .str), .v (.pr .str (.sl (.pr .str .str))), .v (.pr .str (.sl (.pr .str .str)))], bs := [], rs := [.row 0, .v .bool], cs := [.row 9 .str false], R := Bool × List Str, out := fun z => (((), z.1, ()), (z.2, ())), f := f }
abbrev config_toolsOn_pk : SV [.row 0, .v .bool] → BV [.row 9 .str false] → (Bool × List Str) := fun x y => (x.2.1, y.1)
def config_toolsOn_fn (N : Nat) : FuncId → Option Tmp → Option AF := fun f _ =>
  match f with
    | 99 => some (slices_IndexFunc_api_Tool_2_sg fun x y => slices_IndexFunc_api_Tool_2 N x.1 y.1.1 y.2.1.1 y.2.1.2.1 y.2.2.1.1 y.2.2.1.2.1)
    | _ => none
theorem config_toolsOn_fn_ok (N : Nat) : ∀ f q F, config_toolsOn_fn N f q = some F → Sound Tryd.prog GW B0G f F := by
  intro f q F h
  unfold config_toolsOn_fn at h
  split at h
  · cases h; exact slices_IndexFunc_api_Tool_2_sound N
  · cases h
def config_toolsOn_h : Nat → Hint := fun i =>
  match i with
  | 0 => ⟨[], [0, 6, 7, 10, 14, 15, 16], [1006, 1007, 1010], [10], [1010]⟩
  | _ => ⟨[], [], [], [], []⟩
abbrev config_toolsOn_E (N : Nat) : Env := mkE config_toolsOn_h (config_toolsOn_fn N) (fun _ => false) (fun i => match i with | 100 => true | _ => false)
abbrev config_toolsOn_L0_fs : List (Nat × Sl) := [(0, .v (.sl (.pr .str (.pr .str (.pr (.sl (.pr .str .str)) (.sl (.pr .str .str))))))), (6, .box 1006 0), (7, .box 1007 0), (10, .row 1010), (14, .v (.sl .str)), (15, .v (.int .i64)), (16, .v (.int .i64))]
abbrev config_toolsOn_L0_bs : List (Nat × Sb) := [(1006, .cells [.v .str, .v (.sl (.pr .str .str))]), (1007, .cells [.v .str, .v (.sl (.pr .str .str))]), (1010, .row 9 .str false)]
def config_toolsOn_L0_hd (x0 : List (Str × Str × List (Str × Str) × List (Str × Str))) (x1 : List Str) (c15 : Int) (s16 : Int) (b1006_0 : Str) (b1006_1 : List (Str × Str)) (b1007_0 : Str) (b1007_1 : List (Str × Str)) (w1010 : List Str) : St := ⟨35, [(0, .v (.sl (.pr .str (.pr .str (.pr (.sl (.pr .str .str)) (.sl (.pr .str .str)))))) x0), (6, .box 1006 0), (7, .box 1007 0), (10, .row 1010), (14, .v (.sl .str) x1), (15, .v (.int .i64) c15), (16, .v (.int .i64) s16)], [(1006, .cells [.v .str b1006_0, .v (.sl (.pr .str .str)) b1006_1]), (1007, .cells [.v .str b1007_0, .v (.sl (.pr .str .str)) b1007_1]), (1010, .row 9 .str false w1010)]⟩
def config_toolsOn_L0_tl0 (_x0 : List (Str × Str × List (Str × Str) × List (Str × Str))) (_x1 : List Str) (_c15 : Int) (o0_w1010 : List Str) : St := ⟨35, [(10, .row 1010)], [(1010, .row 9 .str false o0_w1010)]⟩
def config_toolsOn_L0_G (N : Nat) (x0 : List (Str × Str × List (Str × Str) × List (Str × Str))) (x1 : List Str) (c15 : Int) (s16 : Int) (b1006_0 : Str) (b1006_1 : List (Str × Str)) (b1007_0 : Str) (b1007_1 : List (Str × Str)) (w1010 : List Str) (k : Ex → St → Option (Bool × List Str)) : Option (Bool × List Str) :=
  config_toolsOn_L0 N x0 x1 c15 (fun o0_w1010 => k (.exit 0) (config_toolsOn_L0_tl0 x0 x1 c15 o0_w1010)) N s16 b1006_0 b1006_1 b1007_0 b1007_1 w1010
abbrev config_toolsOn_L0_F (N : Nat) : FV config_toolsOn_L0_fs → HV config_toolsOn_L0_bs → (Ex → St → Option (Bool × List Str)) → Option (Bool × List Str) := fun x y k => config_toolsOn_L0_G N x.1 x.2.2.2.2.1 x.2.2.2.2.2.1 x.2.2.2.2.2.2.1 y.1.1 y.1.2.1 y.2.1.1 y.2.1.2.1 y.2.2.1 k
noncomputable def config_toolsOn_LP (N : Nat) : Nat → Code → St → (Ex → St → Option (Bool × List Str)) → Option (Bool × List Str) := fun i c =>
  match i with
  | 0 => (LPc 35 config_toolsOn_L0_fs config_toolsOn_L0_bs (config_toolsOn_L0_F N) (fun st k => iter (config_toolsOn_h 0) (exec (config_toolsOn_E N) N c 0) N st k))
  | i => fun st k => iter (config_toolsOn_h i) (exec (config_toolsOn_E N) N c i) N st k
theorem config_toolsOn_L0_step (N : Nat) (x0 : List (Str × Str × List (Str × Str) × List (Str × Str))) (x1 : List Str) (c15 : Int) (KX : Nat → St → Option (Bool × List Str)) (I : St → Option (Bool × List Str)) (s16 : Int) (b1006_0 : Str) (b1006_1 : List (Str × Str)) (b1007_0 : Str) (b1007_1 : List (Str × Str)) (w1010 : List Str) :
    execL (config_toolsOn_LP N) (config_toolsOn_E N) (cAt (bodyOf Tryd.f68) [true, true, false, true, false, false]) 0 (config_toolsOn_L0_hd x0 x1 c15 s16 b1006_0 b1006_1 b1007_0 b1007_1 w1010) (roundK (config_toolsOn_h 0) I KX (resD (config_toolsOn_E N) Tryd.f68 (config_toolsOn_sg fun x _ => config_toolsOn N x.1 x.2.1 x.2.2.1 x.2.2.2.1) config_toolsOn_pk)) = config_toolsOn_L0T N x0 x1 c15 (fun o0_w1010 => KX 0 (config_toolsOn_L0_tl0 x0 x1 c15 o0_w1010)) (fun s16 b1006_0 b1006_1 b1007_0 b1007_1 w1010 => I (config_toolsOn_L0_hd x0 x1 c15 s16 b1006_0 b1006_1 b1007_0 b1007_1 w1010)) s16 b1006_0 b1006_1 b1007_0 b1007_1 w1010 := by kernel_rfl
theorem config_toolsOn_L0_ok (N : Nat) : ∀ x y k, (∀ st, k .ret st = (resD (config_toolsOn_E N) Tryd.f68 (config_toolsOn_sg fun x _ => config_toolsOn N x.1 x.2.1 x.2.2.1 x.2.2.2.1) config_toolsOn_pk) st) → iter (config_toolsOn_h 0) (exec (config_toolsOn_E N) N (cAt (bodyOf Tryd.f68) [true, true, false, true, false, false]) 0) N ⟨35, unF config_toolsOn_L0_fs x, unH config_toolsOn_L0_bs y⟩ k = config_toolsOn_L0_F N x y k := fun x y k hk =>
  iter_link (S := (Int) × (Str) × (List (Str × Str)) × (Str) × (List (Str × Str)) × (List Str) × Unit) (config_toolsOn_h 0) _ (execL (config_toolsOn_LP N) (config_toolsOn_E N) (cAt (bodyOf Tryd.f68) [true, true, false, true, false, false]) 0) (resD (config_toolsOn_E N) Tryd.f68 (config_toolsOn_sg fun x _ => config_toolsOn N x.1 x.2.1 x.2.2.1 x.2.2.2.1) config_toolsOn_pk) (fun st k hk => execL_eq _ _ N _ (cAt (bodyOf Tryd.f68) [true, true, false, true, false, false]) 0 (show LoopsOk (config_toolsOn_LP N) (config_toolsOn_E N) N (resD (config_toolsOn_E N) Tryd.f68 (config_toolsOn_sg fun x _ => config_toolsOn N x.1 x.2.1 x.2.2.1 x.2.2.2.1) config_toolsOn_pk) [] from trivial) st k hk) (fun s => config_toolsOn_L0_hd x.1 x.2.2.2.2.1 x.2.2.2.2.2.1 s.1 s.2.1 s.2.2.1 s.2.2.2.1 s.2.2.2.2.1 s.2.2.2.2.2.1) k hk
    (fun self s => config_toolsOn_L0T N x.1 x.2.2.2.2.1 x.2.2.2.2.2.1 (fun o0_w1010 => k (.exit 0) (config_toolsOn_L0_tl0 x.1 x.2.2.2.2.1 x.2.2.2.2.2.1 o0_w1010)) (fun s16 b1006_0 b1006_1 b1007_0 b1007_1 w1010 => self (s16, b1006_0, b1006_1, b1007_0, b1007_1, w1010, ())) s.1 s.2.1 s.2.2.1 s.2.2.2.1 s.2.2.2.2.1 s.2.2.2.2.2.1) (fun n s => config_toolsOn_L0 N x.1 x.2.2.2.2.1 x.2.2.2.2.2.1 (fun o0_w1010 => k (.exit 0) (config_toolsOn_L0_tl0 x.1 x.2.2.2.2.1 x.2.2.2.2.2.1 o0_w1010)) n s.1 s.2.1 s.2.2.1 s.2.2.2.1 s.2.2.2.2.1 s.2.2.2.2.2.1) (fun _ => rfl) (fun _ _ => rfl)
    (fun I s => config_toolsOn_L0_step N x.1 x.2.2.2.2.1 x.2.2.2.2.2.1 (fun j => k (.exit j)) I s.1 s.2.1 s.2.2.1 s.2.2.2.1 s.2.2.2.2.1 s.2.2.2.2.2.1) N (x.2.2.2.2.2.2.1, y.1.1, y.1.2.1, y.2.1.1, y.2.1.2.1, y.2.2.1, ())
theorem config_toolsOn_lp0 (N : Nat) : ∀ st k, (∀ st, k .ret st = (resD (config_toolsOn_E N) Tryd.f68 (config_toolsOn_sg fun x _ => config_toolsOn N x.1 x.2.1 x.2.2.1 x.2.2.2.1) config_toolsOn_pk) st) → config_toolsOn_LP N 0 (cAt (bodyOf Tryd.f68) [true, true, false, true, false, false]) st k = iter (Env.hint (config_toolsOn_E N) 0) (exec (config_toolsOn_E N) N (cAt (bodyOf Tryd.f68) [true, true, false, true, false, false]) 0) N st k := fun st k hk => LPc_eq 35 config_toolsOn_L0_fs config_toolsOn_L0_bs _ _ (resD (config_toolsOn_E N) Tryd.f68 (config_toolsOn_sg fun x _ => config_toolsOn N x.1 x.2.1 x.2.2.1 x.2.2.2.1) config_toolsOn_pk) (config_toolsOn_L0_ok N) _ st k hk (rfl)
theorem config_toolsOn_core (N : Nat) (x : SV [.v (.sl (.pr .str (.pr .str (.pr (.sl (.pr .str .str)) (.sl (.pr .str .str)))))), .v (.sl .str), .v (.pr .str (.sl (.pr .str .str))), .v (.pr .str (.sl (.pr .str .str)))]) (y : BV []) : runL (config_toolsOn_E N) Tryd.f68 (config_toolsOn_sg fun x _ => config_toolsOn N x.1 x.2.1 x.2.2.1 x.2.2.2.1) config_toolsOn_pk (config_toolsOn_LP N) x y = config_toolsOn N x.1 x.2.1 x.2.2.1 x.2.2.2.1 := by kernel_rfl
theorem config_toolsOn_sound (N : Nat) : Sound Tryd.prog GW B0G 68 (config_toolsOn_sg fun x _ => config_toolsOn N x.1 x.2.1 x.2.2.1 x.2.2.2.1) :=
  runD_sound (mkE_ok config_toolsOn_h (config_toolsOn_fn N) _ _ (config_toolsOn_fn_ok N)) Tryd.func68 rfl Tryd.call68 (config_toolsOn_sg fun x _ => config_toolsOn N x.1 x.2.1 x.2.2.1 x.2.2.2.1) config_toolsOn_pk (fun _ _ => rfl) N (fun x y _ h => ((runL_eq (config_toolsOn_E N) N Tryd.f68 (config_toolsOn_sg fun x _ => config_toolsOn N x.1 x.2.1 x.2.2.1 x.2.2.2.1) config_toolsOn_pk (config_toolsOn_LP N) (show LoopsOk (config_toolsOn_LP N) (config_toolsOn_E N) N (resD (config_toolsOn_E N) Tryd.f68 (config_toolsOn_sg fun x _ => config_toolsOn N x.1 x.2.1 x.2.2.1 x.2.2.2.1) config_toolsOn_pk) [(0, (cAt (bodyOf Tryd.f68) [true, true, false, true, false, false]))] from ⟨config_toolsOn_lp0 N, trivial⟩) x y).trans (config_toolsOn_core N x y)).trans h)
def config_Tools_L0T (N : Nat) (x1 : List (Str × Str × List (Str × Str) × List (Str × Str))) (x2 : List Str) (x0 : List (Str × List (Str × Str))) (c42 : Int) (c1007_0 : Str) (c1007_1 : List (Str × Str)) (k0 : Option (Str × Bool × Int × List Str)) (self : Int → Option (Str × Bool × Int × List Str)) (s43 : Int) : Option (Str × Bool × Int × List Str) :=
  br (decide (s43 < c42))
    (bnd (geti x0 s43) fun t45 =>
    bnd (config_toolsOn N x1 x2 t45 (c1007_0, c1007_1)) fun t52 =>
    br (t52.1)
      (some (t45.1, (true, ((0 : Int), t52.2))))
      (self (IntKind.i64.wrap (s43 + (1 : Int)))))
    (k0)
def config_Tools_L0 (N : Nat) (x1 : List (Str × Str × List (Str × Str) × List (Str × Str))) (x2 : List Str) (x0 : List (Str × List (Str × Str))) (c42 : Int) (c1007_0 : Str) (c1007_1 : List (Str × Str)) (k0 : Option (Str × Bool × Int × List Str)) : Nat → Int → Option (Str × Bool × Int × List Str)
  | 0, _ => none
  | n + 1, s43 => config_Tools_L0T N x1 x2 x0 c42 c1007_0 c1007_1 k0 (config_Tools_L0 N x1 x2 x0 c42 c1007_0 c1007_1 k0 n) s43
def config_Tools (N : Nat) (x0 : List (Str × List (Str × Str))) (x1 : List (Str × Str × List (Str × Str) × List (Str × Str))) (x2 : List Str) (x3 : Str × List (Str × Str)) : Option (Str × Bool × Int × List Str) :=
  bnd (config_CheckPlatforms N x0) fun t21 =>
  br (t21 != (0 : Int))
    (some (([] : Str), (false, (t21, ([] : List Str)))))
    (bnd (config_CheckTools N x1) fun t26 =>
    br (t26 != (0 : Int))
      (some (([] : Str), (false, (t26, ([] : List Str)))))
      (bnd (config_checkKinds N x2) fun t31 =>
      br (t31 != (0 : Int))
        (some (([] : Str), (false, (t31, ([] : List Str)))))
        (bnd (config_CheckPlatforms N [x3]) fun t37 =>
        br (t37 != (0 : Int))
          (some (([] : Str), (false, (t37, ([] : List Str)))))
          (config_Tools_L0 N x1 x2 x0 (x0.length : Int) x3.1 x3.2 (some (([] : Str), (false, ((0 : Int), ([] : List Str))))) N (0 : Int)))))
abbrev config_Tools_sg (f : SV [.v (.sl (.pr .str (.sl (.pr .str .str)))), .v (.sl (.pr .str (.pr .str (.pr (.sl (.pr .str .str)) (.sl (.pr .str .str)))))), .v (.sl .str), .v (.pr .str (.sl (.pr .str .str)))] → BV [] → Option (Str × Bool × Int × List Str)) : AF := { ps := [.v (.sl (.pr .str (.sl (.pr .str .str)))), .v (.sl (.pr .str (.pr .str (.pr (.sl (.pr .str .str)) (.sl (.pr .str .str)))))), .v (.sl .str), .v (.pr .str (.sl (.pr .str .str)))], bs := [], rs := [.v .str, .row 0, .v .bool, .v (.int .i64)], cs := [.row 9 .str false], R := Str × Bool × Int × List Str, out := fun z => ((z.1, (), z.2.1, z.2.2.1, ()), (z.2.2.2, ())), f := f }
abbrev config_Tools_pk : SV [.v .str, .row 0, .v .bool, .v (.int .i64)] → BV [.row 9 .str false] → (Str × Bool × Int × List Str) := fun x y => (x.1, x.2.2.1, x.2.2.2.1, y.1)
def config_Tools_fn (N : Nat) : FuncId → Option Tmp → Option AF := fun f _ =>
  match f with
    | 23 => some (config_CheckPlatforms_sg fun x _ => config_CheckPlatforms N x.1)
    | 29 => some (config_CheckTools_sg fun x _ => config_CheckTools N x.1)
    | 67 => some (config_checkKinds_sg fun x _ => config_checkKinds N x.1)
    | 68 => some (config_toolsOn_sg fun x _ => config_toolsOn N x.1 x.2.1 x.2.2.1 x.2.2.2.1)
    | _ => none
theorem config_Tools_fn_ok (N : Nat) : ∀ f q F, config_Tools_fn N f q = some F → Sound Tryd.prog GW B0G f F := by
  intro f q F h
  unfold config_Tools_fn at h
  split at h
  · cases h; exact config_CheckPlatforms_sound N
  · cases h; exact config_CheckTools_sound N
  · cases h; exact config_checkKinds_sound N
  · cases h; exact config_toolsOn_sound N
  · cases h
def config_Tools_h : Nat → Hint := fun i =>
  match i with
  | 0 => ⟨[], [1, 2, 7, 41, 42, 43], [1007], [], []⟩
  | _ => ⟨[], [], [], [], []⟩
abbrev config_Tools_E (N : Nat) : Env := mkE config_Tools_h (config_Tools_fn N) (fun _ => false) (fun _ => false)
abbrev config_Tools_L0_fs : List (Nat × Sl) := [(1, .v (.sl (.pr .str (.pr .str (.pr (.sl (.pr .str .str)) (.sl (.pr .str .str))))))), (2, .v (.sl .str)), (7, .box 1007 0), (41, .v (.sl (.pr .str (.sl (.pr .str .str))))), (42, .v (.int .i64)), (43, .v (.int .i64))]
abbrev config_Tools_L0_bs : List (Nat × Sb) := [(1007, .cells [.v .str, .v (.sl (.pr .str .str))])]
def config_Tools_L0_hd (x1 : List (Str × Str × List (Str × Str) × List (Str × Str))) (x2 : List Str) (x0 : List (Str × List (Str × Str))) (c42 : Int) (c1007_0 : Str) (c1007_1 : List (Str × Str)) (s43 : Int) : St := ⟨60, [(1, .v (.sl (.pr .str (.pr .str (.pr (.sl (.pr .str .str)) (.sl (.pr .str .str)))))) x1), (2, .v (.sl .str) x2), (7, .box 1007 0), (41, .v (.sl (.pr .str (.sl (.pr .str .str)))) x0), (42, .v (.int .i64) c42), (43, .v (.int .i64) s43)], [(1007, .cells [.v .str c1007_0, .v (.sl (.pr .str .str)) c1007_1])]⟩
def config_Tools_L0_tl0 (_x1 : List (Str × Str × List (Str × Str) × List (Str × Str))) (_x2 : List Str) (_x0 : List (Str × List (Str × Str))) (_c42 : Int) (_c1007_0 : Str) (_c1007_1 : List (Str × Str)) : St := ⟨60, [], []⟩
def config_Tools_L0_G (N : Nat) (x1 : List (Str × Str × List (Str × Str) × List (Str × Str))) (x2 : List Str) (x0 : List (Str × List (Str × Str))) (c42 : Int) (c1007_0 : Str) (c1007_1 : List (Str × Str)) (s43 : Int) (k : Ex → St → Option (Str × Bool × Int × List Str)) : Option (Str × Bool × Int × List Str) :=
  config_Tools_L0 N x1 x2 x0 c42 c1007_0 c1007_1 (k (.exit 0) (config_Tools_L0_tl0 x1 x2 x0 c42 c1007_0 c1007_1)) N s43
abbrev config_Tools_L0_F (N : Nat) : FV config_Tools_L0_fs → HV config_Tools_L0_bs → (Ex → St → Option (Str × Bool × Int × List Str)) → Option (Str × Bool × Int × List Str) := fun x y k => config_Tools_L0_G N x.1 x.2.1 x.2.2.2.1 x.2.2.2.2.1 y.1.1 y.1.2.1 x.2.2.2.2.2.1 k
noncomputable def config_Tools_LP (N : Nat) : Nat → Code → St → (Ex → St → Option (Str × Bool × Int × List Str)) → Option (Str × Bool × Int × List Str) := fun i c =>
  match i with
  | 0 => (LPc 60 config_Tools_L0_fs config_Tools_L0_bs (config_Tools_L0_F N) (fun st k => iter (config_Tools_h 0) (exec (config_Tools_E N) N c 0) N st k))
  | i => fun st k => iter (config_Tools_h i) (exec (config_Tools_E N) N c i) N st k
theorem config_Tools_L0_step (N : Nat) (x1 : List (Str × Str × List (Str × Str) × List (Str × Str))) (x2 : List Str) (x0 : List (Str × List (Str × Str))) (c42 : Int) (c1007_0 : Str) (c1007_1 : List (Str × Str)) (KX : Nat → St → Option (Str × Bool × Int × List Str)) (I : St → Option (Str × Bool × Int × List Str)) (s43 : Int) :
    execL (config_Tools_LP N) (config_Tools_E N) (cAt (bodyOf Tryd.f27) [true, true, true, true, true, false, true, false, false]) 0 (config_Tools_L0_hd x1 x2 x0 c42 c1007_0 c1007_1 s43) (roundK (config_Tools_h 0) I KX (resD (config_Tools_E N) Tryd.f27 (config_Tools_sg fun x _ => config_Tools N x.1 x.2.1 x.2.2.1 x.2.2.2.1) config_Tools_pk)) = config_Tools_L0T N x1 x2 x0 c42 c1007_0 c1007_1 (KX 0 (config_Tools_L0_tl0 x1 x2 x0 c42 c1007_0 c1007_1)) (fun s43 => I (config_Tools_L0_hd x1 x2 x0 c42 c1007_0 c1007_1 s43)) s43 := by kernel_rfl
theorem config_Tools_L0_ok (N : Nat) : ∀ x y k, (∀ st, k .ret st = (resD (config_Tools_E N) Tryd.f27 (config_Tools_sg fun x _ => config_Tools N x.1 x.2.1 x.2.2.1 x.2.2.2.1) config_Tools_pk) st) → iter (config_Tools_h 0) (exec (config_Tools_E N) N (cAt (bodyOf Tryd.f27) [true, true, true, true, true, false, true, false, false]) 0) N ⟨60, unF config_Tools_L0_fs x, unH config_Tools_L0_bs y⟩ k = config_Tools_L0_F N x y k := fun x y k hk =>
  iter_link (S := (Int) × Unit) (config_Tools_h 0) _ (execL (config_Tools_LP N) (config_Tools_E N) (cAt (bodyOf Tryd.f27) [true, true, true, true, true, false, true, false, false]) 0) (resD (config_Tools_E N) Tryd.f27 (config_Tools_sg fun x _ => config_Tools N x.1 x.2.1 x.2.2.1 x.2.2.2.1) config_Tools_pk) (fun st k hk => execL_eq _ _ N _ (cAt (bodyOf Tryd.f27) [true, true, true, true, true, false, true, false, false]) 0 (show LoopsOk (config_Tools_LP N) (config_Tools_E N) N (resD (config_Tools_E N) Tryd.f27 (config_Tools_sg fun x _ => config_Tools N x.1 x.2.1 x.2.2.1 x.2.2.2.1) config_Tools_pk) [] from trivial) st k hk) (fun s => config_Tools_L0_hd x.1 x.2.1 x.2.2.2.1 x.2.2.2.2.1 y.1.1 y.1.2.1 s.1) k hk
    (fun self s => config_Tools_L0T N x.1 x.2.1 x.2.2.2.1 x.2.2.2.2.1 y.1.1 y.1.2.1 (k (.exit 0) (config_Tools_L0_tl0 x.1 x.2.1 x.2.2.2.1 x.2.2.2.2.1 y.1.1 y.1.2.1)) (fun s43 => self (s43, ())) s.1) (fun n s => config_Tools_L0 N x.1 x.2.1 x.2.2.2.1 x.2.2.2.2.1 y.1.1 y.1.2.1 (k (.exit 0) (config_Tools_L0_tl0 x.1 x.2.1 x.2.2.2.1 x.2.2.2.2.1 y.1.1 y.1.2.1)) n s.1) (fun _ => rfl) (fun _ _ => rfl)
    (fun I s => config_Tools_L0_step N x.1 x.2.1 x.2.2.2.1 x.2.2.2.2.1 y.1.1 y.1.2.1 (fun j => k (.exit j)) I s.1) N (x.2.2.2.2.2.1, ())
theorem config_Tools_lp0 (N : Nat) : ∀ st k, (∀ st, k .ret st = (resD (config_Tools_E N) Tryd.f27 (config_Tools_sg fun x _ => config_Tools N x.1 x.2.1 x.2.2.1 x.2.2.2.1) config_Tools_pk) st) → config_Tools_LP N 0 (cAt (bodyOf Tryd.f27) [true, true, true, true, true, false, true, false, false]) st k = iter (Env.hint (config_Tools_E N) 0) (exec (config_Tools_E N) N (cAt (bodyOf Tryd.f27) [true, true, true, true, true, false, true, false, false]) 0) N st k := fun st k hk => LPc_eq 60 config_Tools_L0_fs config_Tools_L0_bs _ _ (resD (config_Tools_E N) Tryd.f27 (config_Tools_sg fun x _ => config_Tools N x.1 x.2.1 x.2.2.1 x.2.2.2.1) config_Tools_pk) (config_Tools_L0_ok N) _ st k hk (rfl)
theorem config_Tools_core (N : Nat) (x : SV [.v (.sl (.pr .str (.sl (.pr .str .str)))), .v (.sl (.pr .str (.pr .str (.pr (.sl (.pr .str .str)) (.sl (.pr .str .str)))))), .v (.sl .str), .v (.pr .str (.sl (.pr .str .str)))]) (y : BV []) : runL (config_Tools_E N) Tryd.f27 (config_Tools_sg fun x _ => config_Tools N x.1 x.2.1 x.2.2.1 x.2.2.2.1) config_Tools_pk (config_Tools_LP N) x y = config_Tools N x.1 x.2.1 x.2.2.1 x.2.2.2.1 := by kernel_rfl
theorem config_Tools_sound (N : Nat) : Sound Tryd.prog GW B0G 27 (config_Tools_sg fun x _ => config_Tools N x.1 x.2.1 x.2.2.1 x.2.2.2.1) :=
  runD_sound (mkE_ok config_Tools_h (config_Tools_fn N) _ _ (config_Tools_fn_ok N)) Tryd.func27 rfl Tryd.call27 (config_Tools_sg fun x _ => config_Tools N x.1 x.2.1 x.2.2.1 x.2.2.2.1) config_Tools_pk (fun _ _ => rfl) N (fun x y _ h => ((runL_eq (config_Tools_E N) N Tryd.f27 (config_Tools_sg fun x _ => config_Tools N x.1 x.2.1 x.2.2.1 x.2.2.2.1) config_Tools_pk (config_Tools_LP N) (show LoopsOk (config_Tools_LP N) (config_Tools_E N) N (resD (config_Tools_E N) Tryd.f27 (config_Tools_sg fun x _ => config_Tools N x.1 x.2.1 x.2.2.1 x.2.2.2.1) config_Tools_pk) [(0, (cAt (bodyOf Tryd.f27) [true, true, true, true, true, false, true, false, false]))] from ⟨config_Tools_lp0 N, trivial⟩) x y).trans (config_Tools_core N x y)).trans h)
end
end Go.Proofs.YtbekhaioddmliaaDoor
