/- What functions of the program compute, as plain functions (printed). -/
import Derived.Test.YtbekhaioddmliaaGreatDoorQBmSf
namespace Go.Proofs.YtbekhaioddmliaaGreatDoor
open Go Go.RowKit
set_option maxRecDepth 100000
set_option linter.unusedVariables false
noncomputable section
def config_CheckTransitions_L0T (N : Nat) (x0 : List (Str × List Str)) (x1 : List (Str × List (Str × Str) × List Str)) (c18 : List (Str × List (Str × Str) × List Str)) (c19 : Int) (k0 : Option Int) (self : Int → Option Int) (s20 : Int) : Option Int :=
  br (decide (s20 < c19))
    (bnd (geti c18 s20) fun t23 =>
    bnd (config_IsWord N t23.1) fun t27 =>
    br (!t27)
      (some (5 : Int))
      (bnd (config_checkSet N x0 t23.2.1 false) fun t32 =>
      br (t32 != (0 : Int))
        (some t32)
        (bnd (config_checkNames N x0 t23.2.2) fun t39 =>
        br (t39 != (0 : Int))
          (some t39)
          (bnd (slices_ContainsFunc_string_string_3 N t23.2.2 (t23, ())) fun t46 =>
          br (t46)
            (some (12 : Int))
            (br (decide (s20 > (0 : Int)))
              (bnd (geti x1 (IntKind.i64.wrap (s20 - (1 : Int)))) fun t55 =>
              br (Op.bytesLess t23.1 t55.1 || t23.1 == t55.1)
                (some (8 : Int))
                (self (IntKind.i64.wrap (s20 + (1 : Int)))))
              (self (IntKind.i64.wrap (s20 + (1 : Int)))))))))
    (k0)
def config_CheckTransitions_L0 (N : Nat) (x0 : List (Str × List Str)) (x1 : List (Str × List (Str × Str) × List Str)) (c18 : List (Str × List (Str × Str) × List Str)) (c19 : Int) (k0 : Option Int) : Nat → Int → Option Int
  | 0, _ => none
  | n + 1, s20 => config_CheckTransitions_L0T N x0 x1 c18 c19 k0 (config_CheckTransitions_L0 N x0 x1 c18 c19 k0 n) s20
def config_CheckTransitions (N : Nat) (x0 : List (Str × List Str)) (x1 : List (Str × List (Str × Str) × List Str)) : Option Int :=
  bnd (config_CheckSettings N x0) fun t11 =>
  br (t11 != (0 : Int))
    (some t11)
    (br (decide ((x1.length : Int) > (50 : Int)))
      (some (2 : Int))
      (config_CheckTransitions_L0 N x0 x1 x1 (x1.length : Int) (some (0 : Int)) N (0 : Int)))
abbrev config_CheckTransitions_sg (f : SV [.v (.sl (.pr .str (.sl .str))), .v (.sl (.pr .str (.pr (.sl (.pr .str .str)) (.sl .str))))] → BV [] → Option (Int)) : AF := { ps := [.v (.sl (.pr .str (.sl .str))), .v (.sl (.pr .str (.pr (.sl (.pr .str .str)) (.sl .str))))], bs := [], rs := [.v (.int .i64)], cs := [], R := Int, out := fun z => ((z, ()), ()), f := f }
abbrev config_CheckTransitions_pk : SV [.v (.int .i64)] → BV [] → Int := fun x _ => x.1
def config_CheckTransitions_fn (N : Nat) : FuncId → Option Tmp → Option AF := fun f _ =>
  match f with
    | 42 => some (config_CheckSettings_sg fun x _ => config_CheckSettings N x.1)
    | 43 => some (config_IsWord_sg fun x _ => config_IsWord N x.1)
    | 44 => some (config_checkSet_sg fun x _ => config_checkSet N x.1 x.2.1 x.2.2.1)
    | 45 => some (config_checkNames_sg fun x _ => config_checkNames N x.1 x.2.1)
    | 46 => some (slices_ContainsFunc_string_string_3_sg fun x _ => slices_ContainsFunc_string_string_3 N x.1 x.2.1)
    | 47 => some (noneAF [.v (.ptr (.pr .str (.pr (.sl (.pr .str .str)) (.sl .str))))])
    | _ => none
theorem config_CheckTransitions_fn_ok (N : Nat) : ∀ f q F, config_CheckTransitions_fn N f q = some F → Sound Tryz.prog GW B0G f F := by
  intro f q F h
  unfold config_CheckTransitions_fn at h
  split at h
  · cases h; exact config_CheckSettings_sound N
  · cases h; exact config_IsWord_sound N
  · cases h; exact config_checkSet_sound N
  · cases h; exact config_checkNames_sound N
  · cases h; exact slices_ContainsFunc_string_string_3_sound N
  · cases h; exact noneAF_sound Tryz.call47 _
  · cases h
def config_CheckTransitions_h : Nat → Hint := fun i =>
  match i with
  | 0 => ⟨[], [0, 1, 18, 19, 20], [], [], [], []⟩
  | _ => ⟨[], [], [], [], [], []⟩
abbrev config_CheckTransitions_E (N : Nat) : Env := mkE config_CheckTransitions_h (config_CheckTransitions_fn N) (fun _ => false) (fun _ => false)
abbrev config_CheckTransitions_L0_fs : List (Nat × Sl) := [(0, .v (.sl (.pr .str (.sl .str)))), (1, .v (.sl (.pr .str (.pr (.sl (.pr .str .str)) (.sl .str))))), (18, .v (.sl (.pr .str (.pr (.sl (.pr .str .str)) (.sl .str))))), (19, .v (.int .i64)), (20, .v (.int .i64))]
abbrev config_CheckTransitions_L0_bs : List (Nat × Sb) := []
def config_CheckTransitions_L0_hd (x0 : List (Str × List Str)) (x1 : List (Str × List (Str × Str) × List Str)) (c18 : List (Str × List (Str × Str) × List Str)) (c19 : Int) (s20 : Int) : St := ⟨61, [(0, .v (.sl (.pr .str (.sl .str))) x0), (1, .v (.sl (.pr .str (.pr (.sl (.pr .str .str)) (.sl .str)))) x1), (18, .v (.sl (.pr .str (.pr (.sl (.pr .str .str)) (.sl .str)))) c18), (19, .v (.int .i64) c19), (20, .v (.int .i64) s20)], []⟩
def config_CheckTransitions_L0_tl0 (_x0 : List (Str × List Str)) (_x1 : List (Str × List (Str × Str) × List Str)) (_c18 : List (Str × List (Str × Str) × List Str)) (_c19 : Int) : St := ⟨61, [], []⟩
def config_CheckTransitions_L0_G (N : Nat) (x0 : List (Str × List Str)) (x1 : List (Str × List (Str × Str) × List Str)) (c18 : List (Str × List (Str × Str) × List Str)) (c19 : Int) (s20 : Int) (k : Ex → St → Option Int) : Option Int :=
  config_CheckTransitions_L0 N x0 x1 c18 c19 (k (.exit 0) (config_CheckTransitions_L0_tl0 x0 x1 c18 c19)) N s20
abbrev config_CheckTransitions_L0_F (N : Nat) : FV config_CheckTransitions_L0_fs → HV config_CheckTransitions_L0_bs → (Ex → St → Option Int) → Option Int := fun x _ k => config_CheckTransitions_L0_G N x.1 x.2.1 x.2.2.1 x.2.2.2.1 x.2.2.2.2.1 k
noncomputable def config_CheckTransitions_LP (N : Nat) : Nat → Code → St → (Ex → St → Option Int) → Option Int := fun i c =>
  match i with
  | 0 => (LPc 61 config_CheckTransitions_L0_fs config_CheckTransitions_L0_bs (config_CheckTransitions_L0_F N) (fun st k => iter (config_CheckTransitions_h 0) (exec (config_CheckTransitions_E N) N c 0) N st k))
  | i => fun st k => iter (config_CheckTransitions_h i) (exec (config_CheckTransitions_E N) N c i) N st k
theorem config_CheckTransitions_L0_step (N : Nat) (x0 : List (Str × List Str)) (x1 : List (Str × List (Str × Str) × List Str)) (c18 : List (Str × List (Str × Str) × List Str)) (c19 : Int) (KX : Nat → St → Option Int) (I : St → Option Int) (s20 : Int) :
    execL (config_CheckTransitions_LP N) (config_CheckTransitions_E N) (cAt (bodyOf Tryz.f14) [true, true, true, false, true, false, false]) 0 (config_CheckTransitions_L0_hd x0 x1 c18 c19 s20) (roundK (config_CheckTransitions_h 0) I KX (resD (config_CheckTransitions_E N) Tryz.f14 (config_CheckTransitions_sg fun x _ => config_CheckTransitions N x.1 x.2.1) config_CheckTransitions_pk)) = config_CheckTransitions_L0T N x0 x1 c18 c19 (KX 0 (config_CheckTransitions_L0_tl0 x0 x1 c18 c19)) (fun s20 => I (config_CheckTransitions_L0_hd x0 x1 c18 c19 s20)) s20 := by kernel_rfl
theorem config_CheckTransitions_L0_ok (N : Nat) : ∀ x y k, (∀ st, k .ret st = (resD (config_CheckTransitions_E N) Tryz.f14 (config_CheckTransitions_sg fun x _ => config_CheckTransitions N x.1 x.2.1) config_CheckTransitions_pk) st) → iter (config_CheckTransitions_h 0) (exec (config_CheckTransitions_E N) N (cAt (bodyOf Tryz.f14) [true, true, true, false, true, false, false]) 0) N ⟨61, unF config_CheckTransitions_L0_fs x, unH config_CheckTransitions_L0_bs y⟩ k = config_CheckTransitions_L0_F N x y k := fun x _ k hk =>
  iter_link (S := (Int) × Unit) (config_CheckTransitions_h 0) _ (execL (config_CheckTransitions_LP N) (config_CheckTransitions_E N) (cAt (bodyOf Tryz.f14) [true, true, true, false, true, false, false]) 0) (resD (config_CheckTransitions_E N) Tryz.f14 (config_CheckTransitions_sg fun x _ => config_CheckTransitions N x.1 x.2.1) config_CheckTransitions_pk) (fun st k hk => execL_eq _ _ N _ (cAt (bodyOf Tryz.f14) [true, true, true, false, true, false, false]) 0 (show LoopsOk (config_CheckTransitions_LP N) (config_CheckTransitions_E N) N (resD (config_CheckTransitions_E N) Tryz.f14 (config_CheckTransitions_sg fun x _ => config_CheckTransitions N x.1 x.2.1) config_CheckTransitions_pk) [] from trivial) st k hk) (fun s => config_CheckTransitions_L0_hd x.1 x.2.1 x.2.2.1 x.2.2.2.1 s.1) k hk
    (fun self s => config_CheckTransitions_L0T N x.1 x.2.1 x.2.2.1 x.2.2.2.1 (k (.exit 0) (config_CheckTransitions_L0_tl0 x.1 x.2.1 x.2.2.1 x.2.2.2.1)) (fun s20 => self (s20, ())) s.1) (fun n s => config_CheckTransitions_L0 N x.1 x.2.1 x.2.2.1 x.2.2.2.1 (k (.exit 0) (config_CheckTransitions_L0_tl0 x.1 x.2.1 x.2.2.1 x.2.2.2.1)) n s.1) (fun _ => rfl) (fun _ _ => rfl)
    (fun I s => config_CheckTransitions_L0_step N x.1 x.2.1 x.2.2.1 x.2.2.2.1 (fun j => k (.exit j)) I s.1) N (x.2.2.2.2.1, ())
theorem config_CheckTransitions_lp0 (N : Nat) : ∀ st k, (∀ st, k .ret st = (resD (config_CheckTransitions_E N) Tryz.f14 (config_CheckTransitions_sg fun x _ => config_CheckTransitions N x.1 x.2.1) config_CheckTransitions_pk) st) → config_CheckTransitions_LP N 0 (cAt (bodyOf Tryz.f14) [true, true, true, false, true, false, false]) st k = iter (Env.hint (config_CheckTransitions_E N) 0) (exec (config_CheckTransitions_E N) N (cAt (bodyOf Tryz.f14) [true, true, true, false, true, false, false]) 0) N st k := fun st k hk => LPc_eq 61 config_CheckTransitions_L0_fs config_CheckTransitions_L0_bs _ _ (resD (config_CheckTransitions_E N) Tryz.f14 (config_CheckTransitions_sg fun x _ => config_CheckTransitions N x.1 x.2.1) config_CheckTransitions_pk) (config_CheckTransitions_L0_ok N) _ st k hk (rfl)
theorem config_CheckTransitions_core (N : Nat) (x : SV [.v (.sl (.pr .str (.sl .str))), .v (.sl (.pr .str (.pr (.sl (.pr .str .str)) (.sl .str))))]) (y : BV []) : runL (config_CheckTransitions_E N) Tryz.f14 (config_CheckTransitions_sg fun x _ => config_CheckTransitions N x.1 x.2.1) config_CheckTransitions_pk (config_CheckTransitions_LP N) x y = config_CheckTransitions N x.1 x.2.1 := by kernel_rfl
theorem config_CheckTransitions_sound (N : Nat) : Sound Tryz.prog GW B0G 14 (config_CheckTransitions_sg fun x _ => config_CheckTransitions N x.1 x.2.1) :=
  runD_sound (mkE_ok config_CheckTransitions_h (config_CheckTransitions_fn N) _ _ (config_CheckTransitions_fn_ok N)) Tryz.func14 rfl Tryz.call14 (config_CheckTransitions_sg fun x _ => config_CheckTransitions N x.1 x.2.1) config_CheckTransitions_pk (fun _ _ => rfl) N (fun x y _ h => ((runL_eq (config_CheckTransitions_E N) N Tryz.f14 (config_CheckTransitions_sg fun x _ => config_CheckTransitions N x.1 x.2.1) config_CheckTransitions_pk (config_CheckTransitions_LP N) (show LoopsOk (config_CheckTransitions_LP N) (config_CheckTransitions_E N) N (resD (config_CheckTransitions_E N) Tryz.f14 (config_CheckTransitions_sg fun x _ => config_CheckTransitions N x.1 x.2.1) config_CheckTransitions_pk) [(0, (cAt (bodyOf Tryz.f14) [true, true, true, false, true, false, false]))] from ⟨config_CheckTransitions_lp0 N, trivial⟩) x y).trans (config_CheckTransitions_core N x y)).trans h)
def config_Through_L0T (N : Nat) (x0 : List (Str × List Str)) (c28 : List (Str × Str)) (c29 : Int) (k0 : (List (Str × Str)) → Option (List (List (Str × Str)) × Int)) (self : (List (Str × Str)) → Int → Option (List (List (Str × Str)) × Int)) (s2 : List (Str × Str)) (s30 : Int) : Option (List (List (Str × Str)) × Int) :=
  br (decide (s30 < c29))
    (bnd (geti c28 s30) fun t32 =>
    bnd (config_with N x0 s2 t32.1 t32.2) fun t40 =>
    self t40 (IntKind.i64.wrap (s30 + (1 : Int))))
    (k0 s2)
def config_Through_L0 (N : Nat) (x0 : List (Str × List Str)) (c28 : List (Str × Str)) (c29 : Int) (k0 : (List (Str × Str)) → Option (List (List (Str × Str)) × Int)) : Nat → (List (Str × Str)) → Int → Option (List (List (Str × Str)) × Int)
  | 0, _, _ => none
  | n + 1, s2, s30 => config_Through_L0T N x0 c28 c29 k0 (config_Through_L0 N x0 c28 c29 k0 n) s2 s30
def config_Through (N : Nat) (x0 : List (Str × List Str)) (x1 : Str × List (Str × Str) × List Str) (x2 : List (Str × Str)) : Option (List (List (Str × Str)) × Int) :=
  bnd (config_CheckConfig N x0 x2) fun t16 =>
  br (t16 != (0 : Int))
    (some (([] : List (List (Str × Str))), t16))
    (bnd (config_CheckTransitions N x0 [x1]) fun t23 =>
    br (t23 != (0 : Int))
      (some (([] : List (List (Str × Str))), t23))
      (config_Through_L0 N x0 x1.2.1 (x1.2.1.length : Int) (fun o0_2 =>
          bnd (config_spread N x0 o0_2 x1.2.2) fun t47 =>
          br (!t47.2)
            (some (([] : List (List (Str × Str))), (2 : Int)))
            (some (t47.1, (0 : Int)))) N x2 (0 : Int)))
abbrev config_Through_sg (f : SV [.v (.sl (.pr .str (.sl .str))), .v (.pr .str (.pr (.sl (.pr .str .str)) (.sl .str))), .v (.sl (.pr .str .str))] → BV [] → Option (List (List (Str × Str)) × Int)) : AF := { ps := [.v (.sl (.pr .str (.sl .str))), .v (.pr .str (.pr (.sl (.pr .str .str)) (.sl .str))), .v (.sl (.pr .str .str))], bs := [], rs := [.v (.sl (.sl (.pr .str .str))), .v (.int .i64)], cs := [], R := List (List (Str × Str)) × Int, out := fun z => ((z.1, z.2, ()), ()), f := f }
abbrev config_Through_pk : SV [.v (.sl (.sl (.pr .str .str))), .v (.int .i64)] → BV [] → (List (List (Str × Str)) × Int) := fun x _ => (x.1, x.2.1)
def config_Through_fn (N : Nat) : FuncId → Option Tmp → Option AF := fun f _ =>
  match f with
    | 14 => some (config_CheckTransitions_sg fun x _ => config_CheckTransitions N x.1 x.2.1)
    | 29 => some (config_CheckConfig_sg fun x _ => config_CheckConfig N x.1 x.2.1)
    | 37 => some (config_with_sg fun x _ => config_with N x.1 x.2.1 x.2.2.1 x.2.2.2.1)
    | 38 => some (config_spread_sg fun x _ => config_spread N x.1 x.2.1 x.2.2.1)
    | _ => none
theorem config_Through_fn_ok (N : Nat) : ∀ f q F, config_Through_fn N f q = some F → Sound Tryz.prog GW B0G f F := by
  intro f q F h
  unfold config_Through_fn at h
  split at h
  · cases h; exact config_CheckTransitions_sound N
  · cases h; exact config_CheckConfig_sound N
  · cases h; exact config_with_sound N
  · cases h; exact config_spread_sound N
  · cases h
def config_Through_h : Nat → Hint := fun i =>
  match i with
  | 0 => ⟨[2], [0, 2, 4, 28, 29, 30], [1004], [0, 2, 4], [1004], []⟩
  | _ => ⟨[], [], [], [], [], []⟩
abbrev config_Through_E (N : Nat) : Env := mkE config_Through_h (config_Through_fn N) (fun _ => false) (fun _ => false)
abbrev config_Through_L0_fs : List (Nat × Sl) := [(0, .v (.sl (.pr .str (.sl .str)))), (2, .v (.sl (.pr .str .str))), (4, .box 1004 0), (28, .v (.sl (.pr .str .str))), (29, .v (.int .i64)), (30, .v (.int .i64))]
abbrev config_Through_L0_bs : List (Nat × Sb) := [(1004, .cells [.v .str, .v (.sl (.pr .str .str)), .v (.sl .str)])]
def config_Through_L0_hd (x0 : List (Str × List Str)) (c28 : List (Str × Str)) (c29 : Int) (c1004_0 : Str) (c1004_1 : List (Str × Str)) (c1004_2 : List Str) (s2 : List (Str × Str)) (s30 : Int) : St := ⟨53, [(0, .v (.sl (.pr .str (.sl .str))) x0), (2, .v (.sl (.pr .str .str)) s2), (4, .box 1004 0), (28, .v (.sl (.pr .str .str)) c28), (29, .v (.int .i64) c29), (30, .v (.int .i64) s30)], [(1004, .cells [.v .str c1004_0, .v (.sl (.pr .str .str)) c1004_1, .v (.sl .str) c1004_2])]⟩
def config_Through_L0_tl0 (x0 : List (Str × List Str)) (_c28 : List (Str × Str)) (_c29 : Int) (c1004_0 : Str) (c1004_1 : List (Str × Str)) (c1004_2 : List Str) (o0_2 : List (Str × Str)) : St := ⟨53, [(0, .v (.sl (.pr .str (.sl .str))) x0), (2, .v (.sl (.pr .str .str)) o0_2), (4, .box 1004 0)], [(1004, .cells [.v .str c1004_0, .v (.sl (.pr .str .str)) c1004_1, .v (.sl .str) c1004_2])]⟩
def config_Through_L0_G (N : Nat) (x0 : List (Str × List Str)) (c28 : List (Str × Str)) (c29 : Int) (c1004_0 : Str) (c1004_1 : List (Str × Str)) (c1004_2 : List Str) (s2 : List (Str × Str)) (s30 : Int) (k : Ex → St → Option (List (List (Str × Str)) × Int)) : Option (List (List (Str × Str)) × Int) :=
  config_Through_L0 N x0 c28 c29 (fun o0_2 => k (.exit 0) (config_Through_L0_tl0 x0 c28 c29 c1004_0 c1004_1 c1004_2 o0_2)) N s2 s30
abbrev config_Through_L0_F (N : Nat) : FV config_Through_L0_fs → HV config_Through_L0_bs → (Ex → St → Option (List (List (Str × Str)) × Int)) → Option (List (List (Str × Str)) × Int) := fun x y k => config_Through_L0_G N x.1 x.2.2.2.1 x.2.2.2.2.1 y.1.1 y.1.2.1 y.1.2.2.1 x.2.1 x.2.2.2.2.2.1 k
noncomputable def config_Through_LP (N : Nat) : Nat → Code → St → (Ex → St → Option (List (List (Str × Str)) × Int)) → Option (List (List (Str × Str)) × Int) := fun i c =>
  match i with
  | 0 => (LPc 53 config_Through_L0_fs config_Through_L0_bs (config_Through_L0_F N) (fun st k => iter (config_Through_h 0) (exec (config_Through_E N) N c 0) N st k))
  | i => fun st k => iter (config_Through_h i) (exec (config_Through_E N) N c i) N st k
theorem config_Through_L0_step (N : Nat) (x0 : List (Str × List Str)) (c28 : List (Str × Str)) (c29 : Int) (c1004_0 : Str) (c1004_1 : List (Str × Str)) (c1004_2 : List Str) (KX : Nat → St → Option (List (List (Str × Str)) × Int)) (I : St → Option (List (List (Str × Str)) × Int)) (s2 : List (Str × Str)) (s30 : Int) :
    execL (config_Through_LP N) (config_Through_E N) (cAt (bodyOf Tryz.f12) [true, true, true, false, true, false, false]) 0 (config_Through_L0_hd x0 c28 c29 c1004_0 c1004_1 c1004_2 s2 s30) (roundK (config_Through_h 0) I KX (resD (config_Through_E N) Tryz.f12 (config_Through_sg fun x _ => config_Through N x.1 x.2.1 x.2.2.1) config_Through_pk)) = config_Through_L0T N x0 c28 c29 (fun o0_2 => KX 0 (config_Through_L0_tl0 x0 c28 c29 c1004_0 c1004_1 c1004_2 o0_2)) (fun s2 s30 => I (config_Through_L0_hd x0 c28 c29 c1004_0 c1004_1 c1004_2 s2 s30)) s2 s30 := by kernel_rfl
theorem config_Through_L0_ok (N : Nat) : ∀ x y k, (∀ st, k .ret st = (resD (config_Through_E N) Tryz.f12 (config_Through_sg fun x _ => config_Through N x.1 x.2.1 x.2.2.1) config_Through_pk) st) → iter (config_Through_h 0) (exec (config_Through_E N) N (cAt (bodyOf Tryz.f12) [true, true, true, false, true, false, false]) 0) N ⟨53, unF config_Through_L0_fs x, unH config_Through_L0_bs y⟩ k = config_Through_L0_F N x y k := fun x y k hk =>
  iter_link (S := (List (Str × Str)) × (Int) × Unit) (config_Through_h 0) _ (execL (config_Through_LP N) (config_Through_E N) (cAt (bodyOf Tryz.f12) [true, true, true, false, true, false, false]) 0) (resD (config_Through_E N) Tryz.f12 (config_Through_sg fun x _ => config_Through N x.1 x.2.1 x.2.2.1) config_Through_pk) (fun st k hk => execL_eq _ _ N _ (cAt (bodyOf Tryz.f12) [true, true, true, false, true, false, false]) 0 (show LoopsOk (config_Through_LP N) (config_Through_E N) N (resD (config_Through_E N) Tryz.f12 (config_Through_sg fun x _ => config_Through N x.1 x.2.1 x.2.2.1) config_Through_pk) [] from trivial) st k hk) (fun s => config_Through_L0_hd x.1 x.2.2.2.1 x.2.2.2.2.1 y.1.1 y.1.2.1 y.1.2.2.1 s.1 s.2.1) k hk
    (fun self s => config_Through_L0T N x.1 x.2.2.2.1 x.2.2.2.2.1 (fun o0_2 => k (.exit 0) (config_Through_L0_tl0 x.1 x.2.2.2.1 x.2.2.2.2.1 y.1.1 y.1.2.1 y.1.2.2.1 o0_2)) (fun s2 s30 => self (s2, s30, ())) s.1 s.2.1) (fun n s => config_Through_L0 N x.1 x.2.2.2.1 x.2.2.2.2.1 (fun o0_2 => k (.exit 0) (config_Through_L0_tl0 x.1 x.2.2.2.1 x.2.2.2.2.1 y.1.1 y.1.2.1 y.1.2.2.1 o0_2)) n s.1 s.2.1) (fun _ => rfl) (fun _ _ => rfl)
    (fun I s => config_Through_L0_step N x.1 x.2.2.2.1 x.2.2.2.2.1 y.1.1 y.1.2.1 y.1.2.2.1 (fun j => k (.exit j)) I s.1 s.2.1) N (x.2.1, x.2.2.2.2.2.1, ())
theorem config_Through_lp0 (N : Nat) : ∀ st k, (∀ st, k .ret st = (resD (config_Through_E N) Tryz.f12 (config_Through_sg fun x _ => config_Through N x.1 x.2.1 x.2.2.1) config_Through_pk) st) → config_Through_LP N 0 (cAt (bodyOf Tryz.f12) [true, true, true, false, true, false, false]) st k = iter (Env.hint (config_Through_E N) 0) (exec (config_Through_E N) N (cAt (bodyOf Tryz.f12) [true, true, true, false, true, false, false]) 0) N st k := fun st k hk => LPc_eq 53 config_Through_L0_fs config_Through_L0_bs _ _ (resD (config_Through_E N) Tryz.f12 (config_Through_sg fun x _ => config_Through N x.1 x.2.1 x.2.2.1) config_Through_pk) (config_Through_L0_ok N) _ st k hk (rfl)
theorem config_Through_core (N : Nat) (x : SV [.v (.sl (.pr .str (.sl .str))), .v (.pr .str (.pr (.sl (.pr .str .str)) (.sl .str))), .v (.sl (.pr .str .str))]) (y : BV []) : runL (config_Through_E N) Tryz.f12 (config_Through_sg fun x _ => config_Through N x.1 x.2.1 x.2.2.1) config_Through_pk (config_Through_LP N) x y = config_Through N x.1 x.2.1 x.2.2.1 := by kernel_rfl
theorem config_Through_sound (N : Nat) : Sound Tryz.prog GW B0G 12 (config_Through_sg fun x _ => config_Through N x.1 x.2.1 x.2.2.1) :=
  runD_sound (mkE_ok config_Through_h (config_Through_fn N) _ _ (config_Through_fn_ok N)) Tryz.func12 rfl Tryz.call12 (config_Through_sg fun x _ => config_Through N x.1 x.2.1 x.2.2.1) config_Through_pk (fun _ _ => rfl) N (fun x y _ h => ((runL_eq (config_Through_E N) N Tryz.f12 (config_Through_sg fun x _ => config_Through N x.1 x.2.1 x.2.2.1) config_Through_pk (config_Through_LP N) (show LoopsOk (config_Through_LP N) (config_Through_E N) N (resD (config_Through_E N) Tryz.f12 (config_Through_sg fun x _ => config_Through N x.1 x.2.1 x.2.2.1) config_Through_pk) [(0, (cAt (bodyOf Tryz.f12) [true, true, true, false, true, false, false]))] from ⟨config_Through_lp0 N, trivial⟩) x y).trans (config_Through_core N x y)).trans h)
def ref3_setBy_L0T (_N : Nat) (x1 : Str) (c8 : List (Str × Str)) (c9 : Int) (k0 : Option Bool) (self : Int → Option Bool) (s10 : Int) : Option Bool :=
  br (decide (s10 < c9))
    (bnd (geti c8 s10) fun t12 =>
    br (t12.1 == x1)
      (some true)
      (self (IntKind.i64.wrap (s10 + (1 : Int)))))
    (k0)
def ref3_setBy_L0 (N : Nat) (x1 : Str) (c8 : List (Str × Str)) (c9 : Int) (k0 : Option Bool) : Nat → Int → Option Bool
  | 0, _ => none
  | n + 1, s10 => ref3_setBy_L0T N x1 c8 c9 k0 (ref3_setBy_L0 N x1 c8 c9 k0 n) s10
def ref3_setBy (N : Nat) (x0 : Str × List (Str × Str) × List Str) (x1 : Str) : Option Bool :=
  ref3_setBy_L0 N x1 x0.2.1 (x0.2.1.length : Int) (some false) N (0 : Int)
abbrev ref3_setBy_sg (f : SV [.v (.pr .str (.pr (.sl (.pr .str .str)) (.sl .str))), .v .str] → BV [] → Option (Bool)) : AF := { ps := [.v (.pr .str (.pr (.sl (.pr .str .str)) (.sl .str))), .v .str], bs := [], rs := [.v .bool], cs := [], R := Bool, out := fun z => ((z, ()), ()), f := f }
abbrev ref3_setBy_pk : SV [.v .bool] → BV [] → Bool := fun x _ => x.1
def ref3_setBy_fn (_N : Nat) : FuncId → Option Tmp → Option AF := fun f _ =>
  match f with
    | _ => none
theorem ref3_setBy_fn_ok (N : Nat) : ∀ f q F, ref3_setBy_fn N f q = some F → Sound Tryz.prog GW B0G f F := by
  intro f q F h
  unfold ref3_setBy_fn at h
  split at h
  · cases h
def ref3_setBy_h : Nat → Hint := fun i =>
  match i with
  | 0 => ⟨[], [1, 8, 9, 10], [], [], [], []⟩
  | _ => ⟨[], [], [], [], [], []⟩
abbrev ref3_setBy_E (N : Nat) : Env := mkE ref3_setBy_h (ref3_setBy_fn N) (fun _ => false) (fun _ => false)
abbrev ref3_setBy_L0_fs : List (Nat × Sl) := [(1, .v .str), (8, .v (.sl (.pr .str .str))), (9, .v (.int .i64)), (10, .v (.int .i64))]
abbrev ref3_setBy_L0_bs : List (Nat × Sb) := []
def ref3_setBy_L0_hd (x1 : Str) (c8 : List (Str × Str)) (c9 : Int) (s10 : Int) : St := ⟨19, [(1, .v .str x1), (8, .v (.sl (.pr .str .str)) c8), (9, .v (.int .i64) c9), (10, .v (.int .i64) s10)], []⟩
def ref3_setBy_L0_tl0 (_x1 : Str) (_c8 : List (Str × Str)) (_c9 : Int) : St := ⟨19, [], []⟩
def ref3_setBy_L0_G (N : Nat) (x1 : Str) (c8 : List (Str × Str)) (c9 : Int) (s10 : Int) (k : Ex → St → Option Bool) : Option Bool :=
  ref3_setBy_L0 N x1 c8 c9 (k (.exit 0) (ref3_setBy_L0_tl0 x1 c8 c9)) N s10
abbrev ref3_setBy_L0_F (N : Nat) : FV ref3_setBy_L0_fs → HV ref3_setBy_L0_bs → (Ex → St → Option Bool) → Option Bool := fun x _ k => ref3_setBy_L0_G N x.1 x.2.1 x.2.2.1 x.2.2.2.1 k
noncomputable def ref3_setBy_LP (N : Nat) : Nat → Code → St → (Ex → St → Option Bool) → Option Bool := fun i c =>
  match i with
  | 0 => (LPc 19 ref3_setBy_L0_fs ref3_setBy_L0_bs (ref3_setBy_L0_F N) (fun st k => iter (ref3_setBy_h 0) (exec (ref3_setBy_E N) N c 0) N st k))
  | i => fun st k => iter (ref3_setBy_h i) (exec (ref3_setBy_E N) N c i) N st k
theorem ref3_setBy_L0_step (N : Nat) (x1 : Str) (c8 : List (Str × Str)) (c9 : Int) (KX : Nat → St → Option Bool) (I : St → Option Bool) (s10 : Int) :
    execL (ref3_setBy_LP N) (ref3_setBy_E N) (cAt (bodyOf Tryz.f53) [true, false, true, false, false]) 0 (ref3_setBy_L0_hd x1 c8 c9 s10) (roundK (ref3_setBy_h 0) I KX (resD (ref3_setBy_E N) Tryz.f53 (ref3_setBy_sg fun x _ => ref3_setBy N x.1 x.2.1) ref3_setBy_pk)) = ref3_setBy_L0T N x1 c8 c9 (KX 0 (ref3_setBy_L0_tl0 x1 c8 c9)) (fun s10 => I (ref3_setBy_L0_hd x1 c8 c9 s10)) s10 := by kernel_rfl
theorem ref3_setBy_L0_ok (N : Nat) : ∀ x y k, (∀ st, k .ret st = (resD (ref3_setBy_E N) Tryz.f53 (ref3_setBy_sg fun x _ => ref3_setBy N x.1 x.2.1) ref3_setBy_pk) st) → iter (ref3_setBy_h 0) (exec (ref3_setBy_E N) N (cAt (bodyOf Tryz.f53) [true, false, true, false, false]) 0) N ⟨19, unF ref3_setBy_L0_fs x, unH ref3_setBy_L0_bs y⟩ k = ref3_setBy_L0_F N x y k := fun x _ k hk =>
  iter_link (S := (Int) × Unit) (ref3_setBy_h 0) _ (execL (ref3_setBy_LP N) (ref3_setBy_E N) (cAt (bodyOf Tryz.f53) [true, false, true, false, false]) 0) (resD (ref3_setBy_E N) Tryz.f53 (ref3_setBy_sg fun x _ => ref3_setBy N x.1 x.2.1) ref3_setBy_pk) (fun st k hk => execL_eq _ _ N _ (cAt (bodyOf Tryz.f53) [true, false, true, false, false]) 0 (show LoopsOk (ref3_setBy_LP N) (ref3_setBy_E N) N (resD (ref3_setBy_E N) Tryz.f53 (ref3_setBy_sg fun x _ => ref3_setBy N x.1 x.2.1) ref3_setBy_pk) [] from trivial) st k hk) (fun s => ref3_setBy_L0_hd x.1 x.2.1 x.2.2.1 s.1) k hk
    (fun self s => ref3_setBy_L0T N x.1 x.2.1 x.2.2.1 (k (.exit 0) (ref3_setBy_L0_tl0 x.1 x.2.1 x.2.2.1)) (fun s10 => self (s10, ())) s.1) (fun n s => ref3_setBy_L0 N x.1 x.2.1 x.2.2.1 (k (.exit 0) (ref3_setBy_L0_tl0 x.1 x.2.1 x.2.2.1)) n s.1) (fun _ => rfl) (fun _ _ => rfl)
    (fun I s => ref3_setBy_L0_step N x.1 x.2.1 x.2.2.1 (fun j => k (.exit j)) I s.1) N (x.2.2.2.1, ())
theorem ref3_setBy_lp0 (N : Nat) : ∀ st k, (∀ st, k .ret st = (resD (ref3_setBy_E N) Tryz.f53 (ref3_setBy_sg fun x _ => ref3_setBy N x.1 x.2.1) ref3_setBy_pk) st) → ref3_setBy_LP N 0 (cAt (bodyOf Tryz.f53) [true, false, true, false, false]) st k = iter (Env.hint (ref3_setBy_E N) 0) (exec (ref3_setBy_E N) N (cAt (bodyOf Tryz.f53) [true, false, true, false, false]) 0) N st k := fun st k hk => LPc_eq 19 ref3_setBy_L0_fs ref3_setBy_L0_bs _ _ (resD (ref3_setBy_E N) Tryz.f53 (ref3_setBy_sg fun x _ => ref3_setBy N x.1 x.2.1) ref3_setBy_pk) (ref3_setBy_L0_ok N) _ st k hk (rfl)
theorem ref3_setBy_core (N : Nat) (x : SV [.v (.pr .str (.pr (.sl (.pr .str .str)) (.sl .str))), .v .str]) (y : BV []) : runL (ref3_setBy_E N) Tryz.f53 (ref3_setBy_sg fun x _ => ref3_setBy N x.1 x.2.1) ref3_setBy_pk (ref3_setBy_LP N) x y = ref3_setBy N x.1 x.2.1 := by kernel_rfl
theorem ref3_setBy_sound (N : Nat) : Sound Tryz.prog GW B0G 53 (ref3_setBy_sg fun x _ => ref3_setBy N x.1 x.2.1) :=
  runD_sound (mkE_ok ref3_setBy_h (ref3_setBy_fn N) _ _ (ref3_setBy_fn_ok N)) Tryz.func53 rfl Tryz.call53 (ref3_setBy_sg fun x _ => ref3_setBy N x.1 x.2.1) ref3_setBy_pk (fun _ _ => rfl) N (fun x y _ h => ((runL_eq (ref3_setBy_E N) N Tryz.f53 (ref3_setBy_sg fun x _ => ref3_setBy N x.1 x.2.1) ref3_setBy_pk (ref3_setBy_LP N) (show LoopsOk (ref3_setBy_LP N) (ref3_setBy_E N) N (resD (ref3_setBy_E N) Tryz.f53 (ref3_setBy_sg fun x _ => ref3_setBy N x.1 x.2.1) ref3_setBy_pk) [(0, (cAt (bodyOf Tryz.f53) [true, false, true, false, false]))] from ⟨ref3_setBy_lp0 N, trivial⟩) x y).trans (ref3_setBy_core N x y)).trans h)
def ref3_CheckTransitions_L1T (N : Nat) (c46 : List Str) (c47 : Int) (c1007_0 : Str) (c1007_1 : List (Str × Str)) (c1007_2 : List Str) (k2 : Option Int) (self : Int → Option Int) (s48 : Int) : Option Int :=
  br (decide (s48 < c47))
    (bnd (geti c46 s48) fun t50 =>
    bnd (ref3_setBy N (c1007_0, (c1007_1, c1007_2)) t50) fun t54 =>
    br (t54)
      (some (12 : Int))
      (self (IntKind.i64.wrap (s48 + (1 : Int)))))
    (k2)
def ref3_CheckTransitions_L1 (N : Nat) (c46 : List Str) (c47 : Int) (c1007_0 : Str) (c1007_1 : List (Str × Str)) (c1007_2 : List Str) (k2 : Option Int) : Nat → Int → Option Int
  | 0, _ => none
  | n + 1, s48 => ref3_CheckTransitions_L1T N c46 c47 c1007_0 c1007_1 c1007_2 k2 (ref3_CheckTransitions_L1 N c46 c47 c1007_0 c1007_1 c1007_2 k2 n) s48
def ref3_CheckTransitions_L0T (N : Nat) (x0 : List (Str × List Str)) (x1 : List (Str × List (Str × Str) × List Str)) (c20 : List (Str × List (Str × Str) × List Str)) (c21 : Int) (k0 : Option Int) (self : Int → Option Int) (s22 : Int) : Option Int :=
  br (decide (s22 < c21))
    (bnd (geti c20 s22) fun t25 =>
    bnd (ref3_IsWord N t25.1) fun t29 =>
    br (!t29)
      (some (5 : Int))
      (bnd (ref3_checkNeeds N x0 t25.2.1) fun t34 =>
      br (t34 != (0 : Int))
        (some t34)
        (bnd (ref3_checkNames N x0 t25.2.2) fun t41 =>
        br (t41 != (0 : Int))
          (some t41)
          (ref3_CheckTransitions_L1 N t25.2.2 (t25.2.2.length : Int) t25.1 t25.2.1 t25.2.2 (br (decide (s22 > (0 : Int)))
                (bnd (geti x1 (IntKind.i64.wrap (s22 - (1 : Int)))) fun t64 =>
                br (Op.bytesLess t25.1 t64.1 || t25.1 == t64.1)
                  (some (8 : Int))
                  (self (IntKind.i64.wrap (s22 + (1 : Int)))))
                (self (IntKind.i64.wrap (s22 + (1 : Int))))) N (0 : Int)))))
    (k0)
def ref3_CheckTransitions_L0 (N : Nat) (x0 : List (Str × List Str)) (x1 : List (Str × List (Str × Str) × List Str)) (c20 : List (Str × List (Str × Str) × List Str)) (c21 : Int) (k0 : Option Int) : Nat → Int → Option Int
  | 0, _ => none
  | n + 1, s22 => ref3_CheckTransitions_L0T N x0 x1 c20 c21 k0 (ref3_CheckTransitions_L0 N x0 x1 c20 c21 k0 n) s22
def ref3_CheckTransitions (N : Nat) (x0 : List (Str × List Str)) (x1 : List (Str × List (Str × Str) × List Str)) : Option Int :=
  bnd (ref3_CheckSettings N x0) fun t13 =>
  br (t13 != (0 : Int))
    (some t13)
    (br (decide ((x1.length : Int) > (50 : Int)))
      (some (2 : Int))
      (ref3_CheckTransitions_L0 N x0 x1 x1 (x1.length : Int) (some (0 : Int)) N (0 : Int)))
abbrev ref3_CheckTransitions_sg (f : SV [.v (.sl (.pr .str (.sl .str))), .v (.sl (.pr .str (.pr (.sl (.pr .str .str)) (.sl .str))))] → BV [] → Option (Int)) : AF := { ps := [.v (.sl (.pr .str (.sl .str))), .v (.sl (.pr .str (.pr (.sl (.pr .str .str)) (.sl .str))))], bs := [], rs := [.v (.int .i64)], cs := [], R := Int, out := fun z => ((z, ()), ()), f := f }
abbrev ref3_CheckTransitions_pk : SV [.v (.int .i64)] → BV [] → Int := fun x _ => x.1
def ref3_CheckTransitions_fn (N : Nat) : FuncId → Option Tmp → Option AF := fun f _ =>
  match f with
    | 49 => some (ref3_CheckSettings_sg fun x _ => ref3_CheckSettings N x.1)
    | 50 => some (ref3_IsWord_sg fun x _ => ref3_IsWord N x.1)
    | 51 => some (ref3_checkNeeds_sg fun x _ => ref3_checkNeeds N x.1 x.2.1)
    | 52 => some (ref3_checkNames_sg fun x _ => ref3_checkNames N x.1 x.2.1)
    | 53 => some (ref3_setBy_sg fun x _ => ref3_setBy N x.1 x.2.1)
    | _ => none
theorem ref3_CheckTransitions_fn_ok (N : Nat) : ∀ f q F, ref3_CheckTransitions_fn N f q = some F → Sound Tryz.prog GW B0G f F := by
  intro f q F h
  unfold ref3_CheckTransitions_fn at h
  split at h
  · cases h; exact ref3_CheckSettings_sound N
  · cases h; exact ref3_IsWord_sound N
  · cases h; exact ref3_checkNeeds_sound N
  · cases h; exact ref3_checkNames_sound N
  · cases h; exact ref3_setBy_sound N
  · cases h
def ref3_CheckTransitions_h : Nat → Hint := fun i =>
  match i with
  | 0 => ⟨[], [0, 1, 20, 21, 22], [], [], [], []⟩
  | 2 => ⟨[], [0, 1, 6, 7, 20, 21, 22, 46, 47, 48], [1007], [0, 1, 6, 7, 20, 21, 22], [1007], []⟩
  | _ => ⟨[], [], [], [], [], []⟩
abbrev ref3_CheckTransitions_E (N : Nat) : Env := mkE ref3_CheckTransitions_h (ref3_CheckTransitions_fn N) (fun _ => false) (fun _ => false)
abbrev ref3_CheckTransitions_L1_fs : List (Nat × Sl) := [(0, .v (.sl (.pr .str (.sl .str)))), (1, .v (.sl (.pr .str (.pr (.sl (.pr .str .str)) (.sl .str))))), (6, .v (.int .i64)), (7, .box 1007 0), (20, .v (.sl (.pr .str (.pr (.sl (.pr .str .str)) (.sl .str))))), (21, .v (.int .i64)), (22, .v (.int .i64)), (46, .v (.sl .str)), (47, .v (.int .i64)), (48, .v (.int .i64))]
abbrev ref3_CheckTransitions_L1_bs : List (Nat × Sb) := [(1007, .cells [.v .str, .v (.sl (.pr .str .str)), .v (.sl .str)])]
def ref3_CheckTransitions_L1_hd (x0 : List (Str × List Str)) (x1 : List (Str × List (Str × Str) × List Str)) (s22 : Int) (c20 : List (Str × List (Str × Str) × List Str)) (c21 : Int) (c22 : Int) (c46 : List Str) (c47 : Int) (c1007_0 : Str) (c1007_1 : List (Str × Str)) (c1007_2 : List Str) (s48 : Int) : St := ⟨70, [(0, .v (.sl (.pr .str (.sl .str))) x0), (1, .v (.sl (.pr .str (.pr (.sl (.pr .str .str)) (.sl .str)))) x1), (6, .v (.int .i64) s22), (7, .box 1007 0), (20, .v (.sl (.pr .str (.pr (.sl (.pr .str .str)) (.sl .str)))) c20), (21, .v (.int .i64) c21), (22, .v (.int .i64) c22), (46, .v (.sl .str) c46), (47, .v (.int .i64) c47), (48, .v (.int .i64) s48)], [(1007, .cells [.v .str c1007_0, .v (.sl (.pr .str .str)) c1007_1, .v (.sl .str) c1007_2])]⟩
def ref3_CheckTransitions_L1_tl2 (x0 : List (Str × List Str)) (x1 : List (Str × List (Str × Str) × List Str)) (s22 : Int) (c20 : List (Str × List (Str × Str) × List Str)) (c21 : Int) (c22 : Int) (_c46 : List Str) (_c47 : Int) (c1007_0 : Str) (c1007_1 : List (Str × Str)) (c1007_2 : List Str) : St := ⟨70, [(0, .v (.sl (.pr .str (.sl .str))) x0), (1, .v (.sl (.pr .str (.pr (.sl (.pr .str .str)) (.sl .str)))) x1), (6, .v (.int .i64) s22), (7, .box 1007 0), (20, .v (.sl (.pr .str (.pr (.sl (.pr .str .str)) (.sl .str)))) c20), (21, .v (.int .i64) c21), (22, .v (.int .i64) c22)], [(1007, .cells [.v .str c1007_0, .v (.sl (.pr .str .str)) c1007_1, .v (.sl .str) c1007_2])]⟩
def ref3_CheckTransitions_L1_G (N : Nat) (x0 : List (Str × List Str)) (x1 : List (Str × List (Str × Str) × List Str)) (s22 : Int) (c20 : List (Str × List (Str × Str) × List Str)) (c21 : Int) (c22 : Int) (c46 : List Str) (c47 : Int) (c1007_0 : Str) (c1007_1 : List (Str × Str)) (c1007_2 : List Str) (s48 : Int) (k : Ex → St → Option Int) : Option Int :=
  ref3_CheckTransitions_L1 N c46 c47 c1007_0 c1007_1 c1007_2 (k (.exit 2) (ref3_CheckTransitions_L1_tl2 x0 x1 s22 c20 c21 c22 c46 c47 c1007_0 c1007_1 c1007_2)) N s48
abbrev ref3_CheckTransitions_L1_F (N : Nat) : FV ref3_CheckTransitions_L1_fs → HV ref3_CheckTransitions_L1_bs → (Ex → St → Option Int) → Option Int := fun x y k => ref3_CheckTransitions_L1_G N x.1 x.2.1 x.2.2.1 x.2.2.2.2.1 x.2.2.2.2.2.1 x.2.2.2.2.2.2.1 x.2.2.2.2.2.2.2.1 x.2.2.2.2.2.2.2.2.1 y.1.1 y.1.2.1 y.1.2.2.1 x.2.2.2.2.2.2.2.2.2.1 k
abbrev ref3_CheckTransitions_L0_fs : List (Nat × Sl) := [(0, .v (.sl (.pr .str (.sl .str)))), (1, .v (.sl (.pr .str (.pr (.sl (.pr .str .str)) (.sl .str))))), (20, .v (.sl (.pr .str (.pr (.sl (.pr .str .str)) (.sl .str))))), (21, .v (.int .i64)), (22, .v (.int .i64))]
abbrev ref3_CheckTransitions_L0_bs : List (Nat × Sb) := []
def ref3_CheckTransitions_L0_hd (x0 : List (Str × List Str)) (x1 : List (Str × List (Str × Str) × List Str)) (c20 : List (Str × List (Str × Str) × List Str)) (c21 : Int) (s22 : Int) : St := ⟨70, [(0, .v (.sl (.pr .str (.sl .str))) x0), (1, .v (.sl (.pr .str (.pr (.sl (.pr .str .str)) (.sl .str)))) x1), (20, .v (.sl (.pr .str (.pr (.sl (.pr .str .str)) (.sl .str)))) c20), (21, .v (.int .i64) c21), (22, .v (.int .i64) s22)], []⟩
def ref3_CheckTransitions_L0_tl0 (_x0 : List (Str × List Str)) (_x1 : List (Str × List (Str × Str) × List Str)) (_c20 : List (Str × List (Str × Str) × List Str)) (_c21 : Int) : St := ⟨70, [], []⟩
def ref3_CheckTransitions_L0_G (N : Nat) (x0 : List (Str × List Str)) (x1 : List (Str × List (Str × Str) × List Str)) (c20 : List (Str × List (Str × Str) × List Str)) (c21 : Int) (s22 : Int) (k : Ex → St → Option Int) : Option Int :=
  ref3_CheckTransitions_L0 N x0 x1 c20 c21 (k (.exit 0) (ref3_CheckTransitions_L0_tl0 x0 x1 c20 c21)) N s22
abbrev ref3_CheckTransitions_L0_F (N : Nat) : FV ref3_CheckTransitions_L0_fs → HV ref3_CheckTransitions_L0_bs → (Ex → St → Option Int) → Option Int := fun x _ k => ref3_CheckTransitions_L0_G N x.1 x.2.1 x.2.2.1 x.2.2.2.1 x.2.2.2.2.1 k
noncomputable def ref3_CheckTransitions_LP (N : Nat) : Nat → Code → St → (Ex → St → Option Int) → Option Int := fun i c =>
  match i with
  | 0 => (LPc 70 ref3_CheckTransitions_L0_fs ref3_CheckTransitions_L0_bs (ref3_CheckTransitions_L0_F N) (fun st k => iter (ref3_CheckTransitions_h 0) (exec (ref3_CheckTransitions_E N) N c 0) N st k))
  | 2 => (LPc 70 ref3_CheckTransitions_L1_fs ref3_CheckTransitions_L1_bs (ref3_CheckTransitions_L1_F N) (fun st k => iter (ref3_CheckTransitions_h 2) (exec (ref3_CheckTransitions_E N) N c 2) N st k))
  | i => fun st k => iter (ref3_CheckTransitions_h i) (exec (ref3_CheckTransitions_E N) N c i) N st k
theorem ref3_CheckTransitions_L1_step (N : Nat) (x0 : List (Str × List Str)) (x1 : List (Str × List (Str × Str) × List Str)) (s22 : Int) (c20 : List (Str × List (Str × Str) × List Str)) (c21 : Int) (c22 : Int) (c46 : List Str) (c47 : Int) (c1007_0 : Str) (c1007_1 : List (Str × Str)) (c1007_2 : List Str) (KX : Nat → St → Option Int) (I : St → Option Int) (s48 : Int) :
    execL (ref3_CheckTransitions_LP N) (ref3_CheckTransitions_E N) (cAt (bodyOf Tryz.f15) [true, true, true, false, true, false, false, true, true, false, false, true, true, true, true, false, true, false, false]) 2 (ref3_CheckTransitions_L1_hd x0 x1 s22 c20 c21 c22 c46 c47 c1007_0 c1007_1 c1007_2 s48) (roundK (ref3_CheckTransitions_h 2) I KX (resD (ref3_CheckTransitions_E N) Tryz.f15 (ref3_CheckTransitions_sg fun x _ => ref3_CheckTransitions N x.1 x.2.1) ref3_CheckTransitions_pk)) = ref3_CheckTransitions_L1T N c46 c47 c1007_0 c1007_1 c1007_2 (KX 2 (ref3_CheckTransitions_L1_tl2 x0 x1 s22 c20 c21 c22 c46 c47 c1007_0 c1007_1 c1007_2)) (fun s48 => I (ref3_CheckTransitions_L1_hd x0 x1 s22 c20 c21 c22 c46 c47 c1007_0 c1007_1 c1007_2 s48)) s48 := by kernel_rfl
theorem ref3_CheckTransitions_L1_ok (N : Nat) : ∀ x y k, (∀ st, k .ret st = (resD (ref3_CheckTransitions_E N) Tryz.f15 (ref3_CheckTransitions_sg fun x _ => ref3_CheckTransitions N x.1 x.2.1) ref3_CheckTransitions_pk) st) → iter (ref3_CheckTransitions_h 2) (exec (ref3_CheckTransitions_E N) N (cAt (bodyOf Tryz.f15) [true, true, true, false, true, false, false, true, true, false, false, true, true, true, true, false, true, false, false]) 2) N ⟨70, unF ref3_CheckTransitions_L1_fs x, unH ref3_CheckTransitions_L1_bs y⟩ k = ref3_CheckTransitions_L1_F N x y k := fun x y k hk =>
  iter_link (S := (Int) × Unit) (ref3_CheckTransitions_h 2) _ (execL (ref3_CheckTransitions_LP N) (ref3_CheckTransitions_E N) (cAt (bodyOf Tryz.f15) [true, true, true, false, true, false, false, true, true, false, false, true, true, true, true, false, true, false, false]) 2) (resD (ref3_CheckTransitions_E N) Tryz.f15 (ref3_CheckTransitions_sg fun x _ => ref3_CheckTransitions N x.1 x.2.1) ref3_CheckTransitions_pk) (fun st k hk => execL_eq _ _ N _ (cAt (bodyOf Tryz.f15) [true, true, true, false, true, false, false, true, true, false, false, true, true, true, true, false, true, false, false]) 2 (show LoopsOk (ref3_CheckTransitions_LP N) (ref3_CheckTransitions_E N) N (resD (ref3_CheckTransitions_E N) Tryz.f15 (ref3_CheckTransitions_sg fun x _ => ref3_CheckTransitions N x.1 x.2.1) ref3_CheckTransitions_pk) [] from trivial) st k hk) (fun s => ref3_CheckTransitions_L1_hd x.1 x.2.1 x.2.2.1 x.2.2.2.2.1 x.2.2.2.2.2.1 x.2.2.2.2.2.2.1 x.2.2.2.2.2.2.2.1 x.2.2.2.2.2.2.2.2.1 y.1.1 y.1.2.1 y.1.2.2.1 s.1) k hk
    (fun self s => ref3_CheckTransitions_L1T N x.2.2.2.2.2.2.2.1 x.2.2.2.2.2.2.2.2.1 y.1.1 y.1.2.1 y.1.2.2.1 (k (.exit 2) (ref3_CheckTransitions_L1_tl2 x.1 x.2.1 x.2.2.1 x.2.2.2.2.1 x.2.2.2.2.2.1 x.2.2.2.2.2.2.1 x.2.2.2.2.2.2.2.1 x.2.2.2.2.2.2.2.2.1 y.1.1 y.1.2.1 y.1.2.2.1)) (fun s48 => self (s48, ())) s.1) (fun n s => ref3_CheckTransitions_L1 N x.2.2.2.2.2.2.2.1 x.2.2.2.2.2.2.2.2.1 y.1.1 y.1.2.1 y.1.2.2.1 (k (.exit 2) (ref3_CheckTransitions_L1_tl2 x.1 x.2.1 x.2.2.1 x.2.2.2.2.1 x.2.2.2.2.2.1 x.2.2.2.2.2.2.1 x.2.2.2.2.2.2.2.1 x.2.2.2.2.2.2.2.2.1 y.1.1 y.1.2.1 y.1.2.2.1)) n s.1) (fun _ => rfl) (fun _ _ => rfl)
    (fun I s => ref3_CheckTransitions_L1_step N x.1 x.2.1 x.2.2.1 x.2.2.2.2.1 x.2.2.2.2.2.1 x.2.2.2.2.2.2.1 x.2.2.2.2.2.2.2.1 x.2.2.2.2.2.2.2.2.1 y.1.1 y.1.2.1 y.1.2.2.1 (fun j => k (.exit j)) I s.1) N (x.2.2.2.2.2.2.2.2.2.1, ())
theorem ref3_CheckTransitions_lp2 (N : Nat) : ∀ st k, (∀ st, k .ret st = (resD (ref3_CheckTransitions_E N) Tryz.f15 (ref3_CheckTransitions_sg fun x _ => ref3_CheckTransitions N x.1 x.2.1) ref3_CheckTransitions_pk) st) → ref3_CheckTransitions_LP N 2 (cAt (bodyOf Tryz.f15) [true, true, true, false, true, false, false, true, true, false, false, true, true, true, true, false, true, false, false]) st k = iter (Env.hint (ref3_CheckTransitions_E N) 2) (exec (ref3_CheckTransitions_E N) N (cAt (bodyOf Tryz.f15) [true, true, true, false, true, false, false, true, true, false, false, true, true, true, true, false, true, false, false]) 2) N st k := fun st k hk => LPc_eq 70 ref3_CheckTransitions_L1_fs ref3_CheckTransitions_L1_bs _ _ (resD (ref3_CheckTransitions_E N) Tryz.f15 (ref3_CheckTransitions_sg fun x _ => ref3_CheckTransitions N x.1 x.2.1) ref3_CheckTransitions_pk) (ref3_CheckTransitions_L1_ok N) _ st k hk (rfl)
theorem ref3_CheckTransitions_L0_step (N : Nat) (x0 : List (Str × List Str)) (x1 : List (Str × List (Str × Str) × List Str)) (c20 : List (Str × List (Str × Str) × List Str)) (c21 : Int) (KX : Nat → St → Option Int) (I : St → Option Int) (s22 : Int) :
    execL (ref3_CheckTransitions_LP N) (ref3_CheckTransitions_E N) (cAt (bodyOf Tryz.f15) [true, true, true, false, true, false, false]) 0 (ref3_CheckTransitions_L0_hd x0 x1 c20 c21 s22) (roundK (ref3_CheckTransitions_h 0) I KX (resD (ref3_CheckTransitions_E N) Tryz.f15 (ref3_CheckTransitions_sg fun x _ => ref3_CheckTransitions N x.1 x.2.1) ref3_CheckTransitions_pk)) = ref3_CheckTransitions_L0T N x0 x1 c20 c21 (KX 0 (ref3_CheckTransitions_L0_tl0 x0 x1 c20 c21)) (fun s22 => I (ref3_CheckTransitions_L0_hd x0 x1 c20 c21 s22)) s22 := by kernel_rfl
theorem ref3_CheckTransitions_L0_ok (N : Nat) : ∀ x y k, (∀ st, k .ret st = (resD (ref3_CheckTransitions_E N) Tryz.f15 (ref3_CheckTransitions_sg fun x _ => ref3_CheckTransitions N x.1 x.2.1) ref3_CheckTransitions_pk) st) → iter (ref3_CheckTransitions_h 0) (exec (ref3_CheckTransitions_E N) N (cAt (bodyOf Tryz.f15) [true, true, true, false, true, false, false]) 0) N ⟨70, unF ref3_CheckTransitions_L0_fs x, unH ref3_CheckTransitions_L0_bs y⟩ k = ref3_CheckTransitions_L0_F N x y k := fun x _ k hk =>
  iter_link (S := (Int) × Unit) (ref3_CheckTransitions_h 0) _ (execL (ref3_CheckTransitions_LP N) (ref3_CheckTransitions_E N) (cAt (bodyOf Tryz.f15) [true, true, true, false, true, false, false]) 0) (resD (ref3_CheckTransitions_E N) Tryz.f15 (ref3_CheckTransitions_sg fun x _ => ref3_CheckTransitions N x.1 x.2.1) ref3_CheckTransitions_pk) (fun st k hk => execL_eq _ _ N _ (cAt (bodyOf Tryz.f15) [true, true, true, false, true, false, false]) 0 (show LoopsOk (ref3_CheckTransitions_LP N) (ref3_CheckTransitions_E N) N (resD (ref3_CheckTransitions_E N) Tryz.f15 (ref3_CheckTransitions_sg fun x _ => ref3_CheckTransitions N x.1 x.2.1) ref3_CheckTransitions_pk) [(2, (cAt (bodyOf Tryz.f15) [true, true, true, false, true, false, false, true, true, false, false, true, true, true, true, false, true, false, false]))] from ⟨ref3_CheckTransitions_lp2 N, trivial⟩) st k hk) (fun s => ref3_CheckTransitions_L0_hd x.1 x.2.1 x.2.2.1 x.2.2.2.1 s.1) k hk
    (fun self s => ref3_CheckTransitions_L0T N x.1 x.2.1 x.2.2.1 x.2.2.2.1 (k (.exit 0) (ref3_CheckTransitions_L0_tl0 x.1 x.2.1 x.2.2.1 x.2.2.2.1)) (fun s22 => self (s22, ())) s.1) (fun n s => ref3_CheckTransitions_L0 N x.1 x.2.1 x.2.2.1 x.2.2.2.1 (k (.exit 0) (ref3_CheckTransitions_L0_tl0 x.1 x.2.1 x.2.2.1 x.2.2.2.1)) n s.1) (fun _ => rfl) (fun _ _ => rfl)
    (fun I s => ref3_CheckTransitions_L0_step N x.1 x.2.1 x.2.2.1 x.2.2.2.1 (fun j => k (.exit j)) I s.1) N (x.2.2.2.2.1, ())
theorem ref3_CheckTransitions_lp0 (N : Nat) : ∀ st k, (∀ st, k .ret st = (resD (ref3_CheckTransitions_E N) Tryz.f15 (ref3_CheckTransitions_sg fun x _ => ref3_CheckTransitions N x.1 x.2.1) ref3_CheckTransitions_pk) st) → ref3_CheckTransitions_LP N 0 (cAt (bodyOf Tryz.f15) [true, true, true, false, true, false, false]) st k = iter (Env.hint (ref3_CheckTransitions_E N) 0) (exec (ref3_CheckTransitions_E N) N (cAt (bodyOf Tryz.f15) [true, true, true, false, true, false, false]) 0) N st k := fun st k hk => LPc_eq 70 ref3_CheckTransitions_L0_fs ref3_CheckTransitions_L0_bs _ _ (resD (ref3_CheckTransitions_E N) Tryz.f15 (ref3_CheckTransitions_sg fun x _ => ref3_CheckTransitions N x.1 x.2.1) ref3_CheckTransitions_pk) (ref3_CheckTransitions_L0_ok N) _ st k hk (rfl)
theorem ref3_CheckTransitions_core (N : Nat) (x : SV [.v (.sl (.pr .str (.sl .str))), .v (.sl (.pr .str (.pr (.sl (.pr .str .str)) (.sl .str))))]) (y : BV []) : runL (ref3_CheckTransitions_E N) Tryz.f15 (ref3_CheckTransitions_sg fun x _ => ref3_CheckTransitions N x.1 x.2.1) ref3_CheckTransitions_pk (ref3_CheckTransitions_LP N) x y = ref3_CheckTransitions N x.1 x.2.1 := by kernel_rfl
theorem ref3_CheckTransitions_sound (N : Nat) : Sound Tryz.prog GW B0G 15 (ref3_CheckTransitions_sg fun x _ => ref3_CheckTransitions N x.1 x.2.1) :=
  runD_sound (mkE_ok ref3_CheckTransitions_h (ref3_CheckTransitions_fn N) _ _ (ref3_CheckTransitions_fn_ok N)) Tryz.func15 rfl Tryz.call15 (ref3_CheckTransitions_sg fun x _ => ref3_CheckTransitions N x.1 x.2.1) ref3_CheckTransitions_pk (fun _ _ => rfl) N (fun x y _ h => ((runL_eq (ref3_CheckTransitions_E N) N Tryz.f15 (ref3_CheckTransitions_sg fun x _ => ref3_CheckTransitions N x.1 x.2.1) ref3_CheckTransitions_pk (ref3_CheckTransitions_LP N) (show LoopsOk (ref3_CheckTransitions_LP N) (ref3_CheckTransitions_E N) N (resD (ref3_CheckTransitions_E N) Tryz.f15 (ref3_CheckTransitions_sg fun x _ => ref3_CheckTransitions N x.1 x.2.1) ref3_CheckTransitions_pk) [(0, (cAt (bodyOf Tryz.f15) [true, true, true, false, true, false, false])), (2, (cAt (bodyOf Tryz.f15) [true, true, true, false, true, false, false, true, true, false, false, true, true, true, true, false, true, false, false]))] from ⟨ref3_CheckTransitions_lp0 N, ref3_CheckTransitions_lp2 N, trivial⟩) x y).trans (ref3_CheckTransitions_core N x y)).trans h)
def ref3_Through_L0T (N : Nat) (x0 : List (Str × List Str)) (c30 : List (Str × Str)) (c31 : Int) (k0 : (List (Str × Str)) → Option (List (List (Str × Str)) × Int)) (self : (List (Str × Str)) → Int → Option (List (List (Str × Str)) × Int)) (s10 : List (Str × Str)) (s32 : Int) : Option (List (List (Str × Str)) × Int) :=
  br (decide (s32 < c31))
    (bnd (geti c30 s32) fun t34 =>
    bnd (ref3_with N x0 s10 t34.1 t34.2) fun t42 =>
    self t42 (IntKind.i64.wrap (s32 + (1 : Int))))
    (k0 s10)
def ref3_Through_L0 (N : Nat) (x0 : List (Str × List Str)) (c30 : List (Str × Str)) (c31 : Int) (k0 : (List (Str × Str)) → Option (List (List (Str × Str)) × Int)) : Nat → (List (Str × Str)) → Int → Option (List (List (Str × Str)) × Int)
  | 0, _, _ => none
  | n + 1, s10, s32 => ref3_Through_L0T N x0 c30 c31 k0 (ref3_Through_L0 N x0 c30 c31 k0 n) s10 s32
def ref3_Through (N : Nat) (x0 : List (Str × List Str)) (x1 : Str × List (Str × Str) × List Str) (x2 : List (Str × Str)) : Option (List (List (Str × Str)) × Int) :=
  bnd (ref3_CheckConfig N x0 x2) fun t17 =>
  br (t17 != (0 : Int))
    (some (([] : List (List (Str × Str))), t17))
    (bnd (ref3_CheckTransitions N x0 [x1]) fun t24 =>
    br (t24 != (0 : Int))
      (some (([] : List (List (Str × Str))), t24))
      (ref3_Through_L0 N x0 x1.2.1 (x1.2.1.length : Int) (fun o0_10 =>
          bnd (ref3_all N x0 o0_10 x1.2.2) fun t49 =>
          br (!t49.2)
            (some (([] : List (List (Str × Str))), (2 : Int)))
            (some (t49.1, (0 : Int)))) N x2 (0 : Int)))
abbrev ref3_Through_sg (f : SV [.v (.sl (.pr .str (.sl .str))), .v (.pr .str (.pr (.sl (.pr .str .str)) (.sl .str))), .v (.sl (.pr .str .str))] → BV [] → Option (List (List (Str × Str)) × Int)) : AF := { ps := [.v (.sl (.pr .str (.sl .str))), .v (.pr .str (.pr (.sl (.pr .str .str)) (.sl .str))), .v (.sl (.pr .str .str))], bs := [], rs := [.v (.sl (.sl (.pr .str .str))), .v (.int .i64)], cs := [], R := List (List (Str × Str)) × Int, out := fun z => ((z.1, z.2, ()), ()), f := f }
abbrev ref3_Through_pk : SV [.v (.sl (.sl (.pr .str .str))), .v (.int .i64)] → BV [] → (List (List (Str × Str)) × Int) := fun x _ => (x.1, x.2.1)
def ref3_Through_fn (N : Nat) : FuncId → Option Tmp → Option AF := fun f _ =>
  match f with
    | 15 => some (ref3_CheckTransitions_sg fun x _ => ref3_CheckTransitions N x.1 x.2.1)
    | 39 => some (ref3_CheckConfig_sg fun x _ => ref3_CheckConfig N x.1 x.2.1)
    | 40 => some (ref3_with_sg fun x _ => ref3_with N x.1 x.2.1 x.2.2.1 x.2.2.2.1)
    | 41 => some (ref3_all_sg fun x _ => ref3_all N x.1 x.2.1 x.2.2.1)
    | _ => none
theorem ref3_Through_fn_ok (N : Nat) : ∀ f q F, ref3_Through_fn N f q = some F → Sound Tryz.prog GW B0G f F := by
  intro f q F h
  unfold ref3_Through_fn at h
  split at h
  · cases h; exact ref3_CheckTransitions_sound N
  · cases h; exact ref3_CheckConfig_sound N
  · cases h; exact ref3_with_sound N
  · cases h; exact ref3_all_sound N
  · cases h
def ref3_Through_h : Nat → Hint := fun i =>
  match i with
  | 0 => ⟨[10], [0, 4, 10, 30, 31, 32], [1004], [0, 4, 10], [1004], []⟩
  | _ => ⟨[], [], [], [], [], []⟩
abbrev ref3_Through_E (N : Nat) : Env := mkE ref3_Through_h (ref3_Through_fn N) (fun _ => false) (fun _ => false)
abbrev ref3_Through_L0_fs : List (Nat × Sl) := [(0, .v (.sl (.pr .str (.sl .str)))), (4, .box 1004 0), (10, .v (.sl (.pr .str .str))), (30, .v (.sl (.pr .str .str))), (31, .v (.int .i64)), (32, .v (.int .i64))]
abbrev ref3_Through_L0_bs : List (Nat × Sb) := [(1004, .cells [.v .str, .v (.sl (.pr .str .str)), .v (.sl .str)])]
def ref3_Through_L0_hd (x0 : List (Str × List Str)) (c30 : List (Str × Str)) (c31 : Int) (c1004_0 : Str) (c1004_1 : List (Str × Str)) (c1004_2 : List Str) (s10 : List (Str × Str)) (s32 : Int) : St := ⟨55, [(0, .v (.sl (.pr .str (.sl .str))) x0), (4, .box 1004 0), (10, .v (.sl (.pr .str .str)) s10), (30, .v (.sl (.pr .str .str)) c30), (31, .v (.int .i64) c31), (32, .v (.int .i64) s32)], [(1004, .cells [.v .str c1004_0, .v (.sl (.pr .str .str)) c1004_1, .v (.sl .str) c1004_2])]⟩
def ref3_Through_L0_tl0 (x0 : List (Str × List Str)) (_c30 : List (Str × Str)) (_c31 : Int) (c1004_0 : Str) (c1004_1 : List (Str × Str)) (c1004_2 : List Str) (o0_10 : List (Str × Str)) : St := ⟨55, [(0, .v (.sl (.pr .str (.sl .str))) x0), (4, .box 1004 0), (10, .v (.sl (.pr .str .str)) o0_10)], [(1004, .cells [.v .str c1004_0, .v (.sl (.pr .str .str)) c1004_1, .v (.sl .str) c1004_2])]⟩
def ref3_Through_L0_G (N : Nat) (x0 : List (Str × List Str)) (c30 : List (Str × Str)) (c31 : Int) (c1004_0 : Str) (c1004_1 : List (Str × Str)) (c1004_2 : List Str) (s10 : List (Str × Str)) (s32 : Int) (k : Ex → St → Option (List (List (Str × Str)) × Int)) : Option (List (List (Str × Str)) × Int) :=
  ref3_Through_L0 N x0 c30 c31 (fun o0_10 => k (.exit 0) (ref3_Through_L0_tl0 x0 c30 c31 c1004_0 c1004_1 c1004_2 o0_10)) N s10 s32
abbrev ref3_Through_L0_F (N : Nat) : FV ref3_Through_L0_fs → HV ref3_Through_L0_bs → (Ex → St → Option (List (List (Str × Str)) × Int)) → Option (List (List (Str × Str)) × Int) := fun x y k => ref3_Through_L0_G N x.1 x.2.2.2.1 x.2.2.2.2.1 y.1.1 y.1.2.1 y.1.2.2.1 x.2.2.1 x.2.2.2.2.2.1 k
noncomputable def ref3_Through_LP (N : Nat) : Nat → Code → St → (Ex → St → Option (List (List (Str × Str)) × Int)) → Option (List (List (Str × Str)) × Int) := fun i c =>
  match i with
  | 0 => (LPc 55 ref3_Through_L0_fs ref3_Through_L0_bs (ref3_Through_L0_F N) (fun st k => iter (ref3_Through_h 0) (exec (ref3_Through_E N) N c 0) N st k))
  | i => fun st k => iter (ref3_Through_h i) (exec (ref3_Through_E N) N c i) N st k
theorem ref3_Through_L0_step (N : Nat) (x0 : List (Str × List Str)) (c30 : List (Str × Str)) (c31 : Int) (c1004_0 : Str) (c1004_1 : List (Str × Str)) (c1004_2 : List Str) (KX : Nat → St → Option (List (List (Str × Str)) × Int)) (I : St → Option (List (List (Str × Str)) × Int)) (s10 : List (Str × Str)) (s32 : Int) :
    execL (ref3_Through_LP N) (ref3_Through_E N) (cAt (bodyOf Tryz.f13) [true, true, true, true, false, true, false, false]) 0 (ref3_Through_L0_hd x0 c30 c31 c1004_0 c1004_1 c1004_2 s10 s32) (roundK (ref3_Through_h 0) I KX (resD (ref3_Through_E N) Tryz.f13 (ref3_Through_sg fun x _ => ref3_Through N x.1 x.2.1 x.2.2.1) ref3_Through_pk)) = ref3_Through_L0T N x0 c30 c31 (fun o0_10 => KX 0 (ref3_Through_L0_tl0 x0 c30 c31 c1004_0 c1004_1 c1004_2 o0_10)) (fun s10 s32 => I (ref3_Through_L0_hd x0 c30 c31 c1004_0 c1004_1 c1004_2 s10 s32)) s10 s32 := by kernel_rfl
theorem ref3_Through_L0_ok (N : Nat) : ∀ x y k, (∀ st, k .ret st = (resD (ref3_Through_E N) Tryz.f13 (ref3_Through_sg fun x _ => ref3_Through N x.1 x.2.1 x.2.2.1) ref3_Through_pk) st) → iter (ref3_Through_h 0) (exec (ref3_Through_E N) N (cAt (bodyOf Tryz.f13) [true, true, true, true, false, true, false, false]) 0) N ⟨55, unF ref3_Through_L0_fs x, unH ref3_Through_L0_bs y⟩ k = ref3_Through_L0_F N x y k := fun x y k hk =>
  iter_link (S := (List (Str × Str)) × (Int) × Unit) (ref3_Through_h 0) _ (execL (ref3_Through_LP N) (ref3_Through_E N) (cAt (bodyOf Tryz.f13) [true, true, true, true, false, true, false, false]) 0) (resD (ref3_Through_E N) Tryz.f13 (ref3_Through_sg fun x _ => ref3_Through N x.1 x.2.1 x.2.2.1) ref3_Through_pk) (fun st k hk => execL_eq _ _ N _ (cAt (bodyOf Tryz.f13) [true, true, true, true, false, true, false, false]) 0 (show LoopsOk (ref3_Through_LP N) (ref3_Through_E N) N (resD (ref3_Through_E N) Tryz.f13 (ref3_Through_sg fun x _ => ref3_Through N x.1 x.2.1 x.2.2.1) ref3_Through_pk) [] from trivial) st k hk) (fun s => ref3_Through_L0_hd x.1 x.2.2.2.1 x.2.2.2.2.1 y.1.1 y.1.2.1 y.1.2.2.1 s.1 s.2.1) k hk
    (fun self s => ref3_Through_L0T N x.1 x.2.2.2.1 x.2.2.2.2.1 (fun o0_10 => k (.exit 0) (ref3_Through_L0_tl0 x.1 x.2.2.2.1 x.2.2.2.2.1 y.1.1 y.1.2.1 y.1.2.2.1 o0_10)) (fun s10 s32 => self (s10, s32, ())) s.1 s.2.1) (fun n s => ref3_Through_L0 N x.1 x.2.2.2.1 x.2.2.2.2.1 (fun o0_10 => k (.exit 0) (ref3_Through_L0_tl0 x.1 x.2.2.2.1 x.2.2.2.2.1 y.1.1 y.1.2.1 y.1.2.2.1 o0_10)) n s.1 s.2.1) (fun _ => rfl) (fun _ _ => rfl)
    (fun I s => ref3_Through_L0_step N x.1 x.2.2.2.1 x.2.2.2.2.1 y.1.1 y.1.2.1 y.1.2.2.1 (fun j => k (.exit j)) I s.1 s.2.1) N (x.2.2.1, x.2.2.2.2.2.1, ())
theorem ref3_Through_lp0 (N : Nat) : ∀ st k, (∀ st, k .ret st = (resD (ref3_Through_E N) Tryz.f13 (ref3_Through_sg fun x _ => ref3_Through N x.1 x.2.1 x.2.2.1) ref3_Through_pk) st) → ref3_Through_LP N 0 (cAt (bodyOf Tryz.f13) [true, true, true, true, false, true, false, false]) st k = iter (Env.hint (ref3_Through_E N) 0) (exec (ref3_Through_E N) N (cAt (bodyOf Tryz.f13) [true, true, true, true, false, true, false, false]) 0) N st k := fun st k hk => LPc_eq 55 ref3_Through_L0_fs ref3_Through_L0_bs _ _ (resD (ref3_Through_E N) Tryz.f13 (ref3_Through_sg fun x _ => ref3_Through N x.1 x.2.1 x.2.2.1) ref3_Through_pk) (ref3_Through_L0_ok N) _ st k hk (rfl)
theorem ref3_Through_core (N : Nat) (x : SV [.v (.sl (.pr .str (.sl .str))), .v (.pr .str (.pr (.sl (.pr .str .str)) (.sl .str))), .v (.sl (.pr .str .str))]) (y : BV []) : runL (ref3_Through_E N) Tryz.f13 (ref3_Through_sg fun x _ => ref3_Through N x.1 x.2.1 x.2.2.1) ref3_Through_pk (ref3_Through_LP N) x y = ref3_Through N x.1 x.2.1 x.2.2.1 := by kernel_rfl
theorem ref3_Through_sound (N : Nat) : Sound Tryz.prog GW B0G 13 (ref3_Through_sg fun x _ => ref3_Through N x.1 x.2.1 x.2.2.1) :=
  runD_sound (mkE_ok ref3_Through_h (ref3_Through_fn N) _ _ (ref3_Through_fn_ok N)) Tryz.func13 rfl Tryz.call13 (ref3_Through_sg fun x _ => ref3_Through N x.1 x.2.1 x.2.2.1) ref3_Through_pk (fun _ _ => rfl) N (fun x y _ h => ((runL_eq (ref3_Through_E N) N Tryz.f13 (ref3_Through_sg fun x _ => ref3_Through N x.1 x.2.1 x.2.2.1) ref3_Through_pk (ref3_Through_LP N) (show LoopsOk (ref3_Through_LP N) (ref3_Through_E N) N (resD (ref3_Through_E N) Tryz.f13 (ref3_Through_sg fun x _ => ref3_Through N x.1 x.2.1 x.2.2.1) ref3_Through_pk) [(0, (cAt (bodyOf Tryz.f13) [true, true, true, true, false, true, false, false]))] from ⟨ref3_Through_lp0 N, trivial⟩) x y).trans (ref3_Through_core N x y)).trans h)
def config_Then_L0T (N : Nat) (c45 : List Str) (c46 : Int) (c1005_1 : List (Str × Str)) (c1005_2 : List Str) (k0 : (List Str) → Option ((Str × List (Str × Str) × List Str) × Int)) (self : Int → (List Str) → Option ((Str × List (Str × Str) × List Str) × Int)) (s47 : Int) (w104200 : List Str) : Option ((Str × List (Str × Str) × List Str) × Int) :=
  br (decide (s47 < c46))
    (bnd (geti c45 s47) fun t49 =>
    bnd (config_pairOf N c1005_1 t49) fun t55 =>
    br (t55.2)
      (some ((([] : Str), (([] : List (Str × Str)), ([] : List Str))), (11 : Int)))
      (bnd (slices_Contains_string_string N c1005_2 t49) fun t63 =>
      br (t63)
        (some ((([] : Str), (([] : List (Str × Str)), ([] : List Str))), (11 : Int)))
        (br (decide ((w104200.length + [t49].length) * (24 * Ty.sz .str) ≤ 140737488355328))
          (self (IntKind.i64.wrap (s47 + (1 : Int))) (w104200 ++ [t49]))
          none)))
    (k0 w104200)
def config_Then_L0 (N : Nat) (c45 : List Str) (c46 : Int) (c1005_1 : List (Str × Str)) (c1005_2 : List Str) (k0 : (List Str) → Option ((Str × List (Str × Str) × List Str) × Int)) : Nat → Int → (List Str) → Option ((Str × List (Str × Str) × List Str) × Int)
  | 0, _, _ => none
  | n + 1, s47, w104200 => config_Then_L0T N c45 c46 c1005_1 c1005_2 k0 (config_Then_L0 N c45 c46 c1005_1 c1005_2 k0 n) s47 w104200
def config_Then_L1T (N : Nat) (c74 : List (Str × Str)) (c75 : Int) (c1005_1_2 : List (Str × Str)) (c1005_2_3 : List Str) (k2 : (List (Str × Str)) → Option ((Str × List (Str × Str) × List Str) × Int)) (self : Int → (List (Str × Str)) → Option ((Str × List (Str × Str) × List Str) × Int)) (s76 : Int) (w103900 : List (Str × Str)) : Option ((Str × List (Str × Str) × List Str) × Int) :=
  br (decide (s76 < c75))
    (bnd (geti c74 s76) fun t78 =>
    bnd (config_pairOf N c1005_1_2 t78.1) fun t85 =>
    br (!t85.2)
      (bnd (slices_Contains_string_string N c1005_2_3 t78.1) fun t95 =>
      br (!t95)
        (br (decide ((w103900.length + [t78].length) * (24 * Ty.sz (.pr .str .str)) ≤ 140737488355328))
          (self (IntKind.i64.wrap (s76 + (1 : Int))) (w103900 ++ [t78]))
          none)
        (self (IntKind.i64.wrap (s76 + (1 : Int))) w103900))
      (self (IntKind.i64.wrap (s76 + (1 : Int))) w103900))
    (k2 w103900)
def config_Then_L1 (N : Nat) (c74 : List (Str × Str)) (c75 : Int) (c1005_1_2 : List (Str × Str)) (c1005_2_3 : List Str) (k2 : (List (Str × Str)) → Option ((Str × List (Str × Str) × List Str) × Int)) : Nat → Int → (List (Str × Str)) → Option ((Str × List (Str × Str) × List Str) × Int)
  | 0, _, _ => none
  | n + 1, s76, w103900 => config_Then_L1T N c74 c75 c1005_1_2 c1005_2_3 k2 (config_Then_L1 N c74 c75 c1005_1_2 c1005_2_3 k2 n) s76 w103900
def config_Then (N : Nat) (x0 : List (Str × List Str)) (x1 : Str × List (Str × Str) × List Str) (x2 : Str × List (Str × Str) × List Str) : Option ((Str × List (Str × Str) × List Str) × Int) :=
  bnd (config_CheckTransitions N x0 [x1]) fun t22 =>
  br (t22 != (0 : Int))
    (some ((([] : Str), (([] : List (Str × Str)), ([] : List Str))), t22))
    (bnd (config_CheckTransitions N x0 [x2]) fun t30 =>
    br (t30 != (0 : Int))
      (some ((([] : Str), (([] : List (Str × Str)), ([] : List Str))), t30))
      (both
        (bnd (slices_Clone_api_Pair N x2.2.1) fun t39 =>
        both
          (bnd (slices_Clone_string_string N x2.2.2) fun t42 =>
          times 1
            (config_Then_L0 N x1.2.2 (x1.2.2.length : Int) x2.2.1 x2.2.2 (fun o0_w104200 =>
                config_Then_L1 N x1.2.1 (x1.2.1.length : Int) x2.2.1 x2.2.2 (fun o1_w103900 =>
                    bnd (slices_Sort_string_string o0_w104200) fun t107 =>
                    bnd (slices_SortFunc_pair () o1_w103900) fun t110 =>
                    some ((x1.1, (t110, t107)), (0 : Int))) N (0 : Int) t39) N (0 : Int) t42))
          (bnd (slices_Clone_string_string N x2.2.2) fun t42_6 =>
          config_Then_L0 N x1.2.2 (x1.2.2.length : Int) x2.2.1 x2.2.2 (fun o0_w104200 =>
              config_Then_L1 N x1.2.1 (x1.2.1.length : Int) x2.2.1 x2.2.2 (fun o1_w103900 =>
                  bnd (slices_Sort_string_string o0_w104200) fun t107_7 =>
                  bnd (slices_SortFunc_pair () o1_w103900) fun t110_8 =>
                  some ((x1.1, (t110_8, t107_7)), (0 : Int))) N (0 : Int) t39) N (0 : Int) t42_6))
        (bnd (slices_Clone_api_Pair N x2.2.1) fun t39_9 =>
        bnd (slices_Clone_string_string N x2.2.2) fun t42_10 =>
        config_Then_L0 N x1.2.2 (x1.2.2.length : Int) x2.2.1 x2.2.2 (fun o0_w104200 =>
            config_Then_L1 N x1.2.1 (x1.2.1.length : Int) x2.2.1 x2.2.2 (fun o1_w103900 =>
                bnd (slices_Sort_string_string o0_w104200) fun t107_11 =>
                bnd (slices_SortFunc_pair () o1_w103900) fun t110_12 =>
                some ((x1.1, (t110_12, t107_11)), (0 : Int))) N (0 : Int) t39_9) N (0 : Int) t42_10)))
abbrev config_Then_sg (f : SV [.v (.sl (.pr .str (.sl .str))), .v (.pr .str (.pr (.sl (.pr .str .str)) (.sl .str))), .v (.pr .str (.pr (.sl (.pr .str .str)) (.sl .str)))] → BV [] → Option ((Str × List (Str × Str) × List Str) × Int)) : AF := { ps := [.v (.sl (.pr .str (.sl .str))), .v (.pr .str (.pr (.sl (.pr .str .str)) (.sl .str))), .v (.pr .str (.pr (.sl (.pr .str .str)) (.sl .str)))], bs := [], rs := [.v (.pr .str (.pr (.sl (.pr .str .str)) (.sl .str))), .v (.int .i64)], cs := [], R := (Str × List (Str × Str) × List Str) × Int, out := fun z => ((z.1, z.2, ()), ()), f := f }
abbrev config_Then_pk : SV [.v (.pr .str (.pr (.sl (.pr .str .str)) (.sl .str))), .v (.int .i64)] → BV [] → ((Str × List (Str × Str) × List Str) × Int) := fun x _ => (x.1, x.2.1)
def config_Then_fn (N : Nat) : FuncId → Option Tmp → Option AF := fun f _ =>
  match f with
    | 14 => some (config_CheckTransitions_sg fun x _ => config_CheckTransitions N x.1 x.2.1)
    | 48 => some (config_pairOf_sg fun x _ => config_pairOf N x.1 x.2.1)
    | 54 => some (slices_Clone_api_Pair_sg fun x _ => slices_Clone_api_Pair N x.1)
    | 55 => some (slices_Clone_string_string_sg fun x _ => slices_Clone_string_string N x.1)
    | 56 => some (slices_Contains_string_string_sg fun x _ => slices_Contains_string_string N x.1 x.2.1)
    | 57 => some (slices_Sort_string_string_sg fun _ y => slices_Sort_string_string y.1)
    | 58 => some (slices_SortFunc_pair_sg fun x y => slices_SortFunc_pair x.2.1 y.1)
    | _ => none
theorem config_Then_fn_ok (N : Nat) : ∀ f q F, config_Then_fn N f q = some F → Sound Tryz.prog GW B0G f F := by
  intro f q F h
  unfold config_Then_fn at h
  split at h
  · cases h; exact config_CheckTransitions_sound N
  · cases h; exact config_pairOf_sound N
  · cases h; exact slices_Clone_api_Pair_sound N
  · cases h; exact slices_Clone_string_string_sound N
  · cases h; exact slices_Contains_string_string_sound N
  · cases h; exact slices_Sort_string_string_sound
  · cases h; exact slices_SortFunc_pair_sound
  · cases h
def config_Then_h : Nat → Hint := fun i =>
  match i with
  | 0 => ⟨[], [4, 5, 6, 10, 45, 46, 47], [1004, 1005, 1006, 1010, 103900, 104200], [4, 5, 6, 10], [1004, 1005, 1006, 1010, 103900, 104200], []⟩
  | 2 => ⟨[], [5, 6, 10, 74, 75, 76], [1005, 1006, 1010, 103900, 104200], [6, 10], [1006, 1010, 103900, 104200], []⟩
  | 100007 => ⟨[1004, 1005], [], [], [], [], []⟩
  | _ => ⟨[], [], [], [], [], []⟩
abbrev config_Then_E (N : Nat) : Env := mkE config_Then_h (config_Then_fn N) (fun _ => false) (fun _ => false)
abbrev config_Then_L0_fs : List (Nat × Sl) := [(4, .box 1004 0), (5, .box 1005 0), (6, .box 1006 0), (10, .box 1010 0), (45, .v (.sl .str)), (46, .v (.int .i64)), (47, .v (.int .i64))]
abbrev config_Then_L0_bs : List (Nat × Sb) := [(1004, .cells [.v .str, .v (.sl (.pr .str .str)), .v (.sl .str)]), (1005, .cells [.v .str, .v (.sl (.pr .str .str)), .v (.sl .str)]), (1006, .cells [.v .str, .nilS, .nilS]), (1010, .cells [.v .str, .row 103900, .row 104200]), (103900, .row 53 (.pr .str .str) true), (104200, .row 9 .str true)]
def config_Then_L0_hd (c45 : List Str) (c46 : Int) (c1004_0 : Str) (c1004_1 : List (Str × Str)) (c1004_2 : List Str) (c1005_0 : Str) (c1005_1 : List (Str × Str)) (c1005_2 : List Str) (c1006_0 : Str) (c1010_0 : Str) (t39 : List (Str × Str)) (s47 : Int) (w104200 : List Str) : St := ⟨112, [(4, .box 1004 0), (5, .box 1005 0), (6, .box 1006 0), (10, .box 1010 0), (45, .v (.sl .str) c45), (46, .v (.int .i64) c46), (47, .v (.int .i64) s47)], [(1004, .cells [.v .str c1004_0, .v (.sl (.pr .str .str)) c1004_1, .v (.sl .str) c1004_2]), (1005, .cells [.v .str c1005_0, .v (.sl (.pr .str .str)) c1005_1, .v (.sl .str) c1005_2]), (1006, .cells [.v .str c1006_0, .nilS, .nilS]), (1010, .cells [.v .str c1010_0, .row 103900, .row 104200]), (103900, .row 53 (.pr .str .str) true t39), (104200, .row 9 .str true w104200)]⟩
def config_Then_L0_tl0 (_c45 : List Str) (_c46 : Int) (c1004_0 : Str) (c1004_1 : List (Str × Str)) (c1004_2 : List Str) (c1005_0 : Str) (c1005_1 : List (Str × Str)) (c1005_2 : List Str) (c1006_0 : Str) (c1010_0 : Str) (t39 : List (Str × Str)) (o0_w104200 : List Str) : St := ⟨112, [(4, .box 1004 0), (5, .box 1005 0), (6, .box 1006 0), (10, .box 1010 0)], [(1004, .cells [.v .str c1004_0, .v (.sl (.pr .str .str)) c1004_1, .v (.sl .str) c1004_2]), (1005, .cells [.v .str c1005_0, .v (.sl (.pr .str .str)) c1005_1, .v (.sl .str) c1005_2]), (1006, .cells [.v .str c1006_0, .nilS, .nilS]), (1010, .cells [.v .str c1010_0, .row 103900, .row 104200]), (103900, .row 53 (.pr .str .str) true t39), (104200, .row 9 .str true o0_w104200)]⟩
def config_Then_L0_G (N : Nat) (c45 : List Str) (c46 : Int) (c1004_0 : Str) (c1004_1 : List (Str × Str)) (c1004_2 : List Str) (c1005_0 : Str) (c1005_1 : List (Str × Str)) (c1005_2 : List Str) (c1006_0 : Str) (c1010_0 : Str) (t39 : List (Str × Str)) (s47 : Int) (w104200 : List Str) (k : Ex → St → Option ((Str × List (Str × Str) × List Str) × Int)) : Option ((Str × List (Str × Str) × List Str) × Int) :=
  config_Then_L0 N c45 c46 c1005_1 c1005_2 (fun o0_w104200 => k (.exit 0) (config_Then_L0_tl0 c45 c46 c1004_0 c1004_1 c1004_2 c1005_0 c1005_1 c1005_2 c1006_0 c1010_0 t39 o0_w104200)) N s47 w104200
abbrev config_Then_L0_F (N : Nat) : FV config_Then_L0_fs → HV config_Then_L0_bs → (Ex → St → Option ((Str × List (Str × Str) × List Str) × Int)) → Option ((Str × List (Str × Str) × List Str) × Int) := fun x y k => config_Then_L0_G N x.2.2.2.2.1 x.2.2.2.2.2.1 y.1.1 y.1.2.1 y.1.2.2.1 y.2.1.1 y.2.1.2.1 y.2.1.2.2.1 y.2.2.1.1 y.2.2.2.1.1 y.2.2.2.2.1 x.2.2.2.2.2.2.1 y.2.2.2.2.2.1 k
abbrev config_Then_L1_fs : List (Nat × Sl) := [(5, .box 1005 0), (6, .box 1006 0), (10, .box 1010 0), (74, .v (.sl (.pr .str .str))), (75, .v (.int .i64)), (76, .v (.int .i64))]
abbrev config_Then_L1_bs : List (Nat × Sb) := [(1005, .cells [.v .str, .v (.sl (.pr .str .str)), .v (.sl .str)]), (1006, .cells [.v .str, .nilS, .nilS]), (1010, .cells [.v .str, .row 103900, .row 104200]), (103900, .row 53 (.pr .str .str) true), (104200, .row 9 .str true)]
def config_Then_L1_hd (c74 : List (Str × Str)) (c75 : Int) (c1005_0_1 : Str) (c1005_1_2 : List (Str × Str)) (c1005_2_3 : List Str) (c1006_0_4 : Str) (c1010_0_5 : Str) (o0_w104200 : List Str) (s76 : Int) (w103900 : List (Str × Str)) : St := ⟨112, [(5, .box 1005 0), (6, .box 1006 0), (10, .box 1010 0), (74, .v (.sl (.pr .str .str)) c74), (75, .v (.int .i64) c75), (76, .v (.int .i64) s76)], [(1005, .cells [.v .str c1005_0_1, .v (.sl (.pr .str .str)) c1005_1_2, .v (.sl .str) c1005_2_3]), (1006, .cells [.v .str c1006_0_4, .nilS, .nilS]), (1010, .cells [.v .str c1010_0_5, .row 103900, .row 104200]), (103900, .row 53 (.pr .str .str) true w103900), (104200, .row 9 .str true o0_w104200)]⟩
def config_Then_L1_tl2 (_c74 : List (Str × Str)) (_c75 : Int) (_c1005_0_1 : Str) (_c1005_1_2 : List (Str × Str)) (_c1005_2_3 : List Str) (c1006_0_4 : Str) (c1010_0_5 : Str) (o0_w104200 : List Str) (o1_w103900 : List (Str × Str)) : St := ⟨112, [(6, .box 1006 0), (10, .box 1010 0)], [(1006, .cells [.v .str c1006_0_4, .nilS, .nilS]), (1010, .cells [.v .str c1010_0_5, .row 103900, .row 104200]), (103900, .row 53 (.pr .str .str) true o1_w103900), (104200, .row 9 .str true o0_w104200)]⟩
def config_Then_L1_G (N : Nat) (c74 : List (Str × Str)) (c75 : Int) (c1005_0_1 : Str) (c1005_1_2 : List (Str × Str)) (c1005_2_3 : List Str) (c1006_0_4 : Str) (c1010_0_5 : Str) (o0_w104200 : List Str) (s76 : Int) (w103900 : List (Str × Str)) (k : Ex → St → Option ((Str × List (Str × Str) × List Str) × Int)) : Option ((Str × List (Str × Str) × List Str) × Int) :=
  config_Then_L1 N c74 c75 c1005_1_2 c1005_2_3 (fun o1_w103900 => k (.exit 2) (config_Then_L1_tl2 c74 c75 c1005_0_1 c1005_1_2 c1005_2_3 c1006_0_4 c1010_0_5 o0_w104200 o1_w103900)) N s76 w103900
abbrev config_Then_L1_F (N : Nat) : FV config_Then_L1_fs → HV config_Then_L1_bs → (Ex → St → Option ((Str × List (Str × Str) × List Str) × Int)) → Option ((Str × List (Str × Str) × List Str) × Int) := fun x y k => config_Then_L1_G N x.2.2.2.1 x.2.2.2.2.1 y.1.1 y.1.2.1 y.1.2.2.1 y.2.1.1 y.2.2.1.1 y.2.2.2.2.1 x.2.2.2.2.2.1 y.2.2.2.1 k
noncomputable def config_Then_LP (N : Nat) : Nat → Code → St → (Ex → St → Option ((Str × List (Str × Str) × List Str) × Int)) → Option ((Str × List (Str × Str) × List Str) × Int) := fun i c =>
  match i with
  | 0 => (LPc 112 config_Then_L0_fs config_Then_L0_bs (config_Then_L0_F N) (fun st k => iter (config_Then_h 0) (exec (config_Then_E N) N c 0) N st k))
  | 2 => (LPc 112 config_Then_L1_fs config_Then_L1_bs (config_Then_L1_F N) (fun st k => iter (config_Then_h 2) (exec (config_Then_E N) N c 2) N st k))
  | i => fun st k => iter (config_Then_h i) (exec (config_Then_E N) N c i) N st k
theorem config_Then_L1_step (N : Nat) (c74 : List (Str × Str)) (c75 : Int) (c1005_0_1 : Str) (c1005_1_2 : List (Str × Str)) (c1005_2_3 : List Str) (c1006_0_4 : Str) (c1010_0_5 : Str) (o0_w104200 : List Str) (KX : Nat → St → Option ((Str × List (Str × Str) × List Str) × Int)) (I : St → Option ((Str × List (Str × Str) × List Str) × Int)) (s76 : Int) (w103900 : List (Str × Str)) :
    execL (config_Then_LP N) (config_Then_E N) (cAt (bodyOf Tryz.f17) [true, true, true, true, true, false, true, false, false]) 2 (config_Then_L1_hd c74 c75 c1005_0_1 c1005_1_2 c1005_2_3 c1006_0_4 c1010_0_5 o0_w104200 s76 w103900) (roundK (config_Then_h 2) I KX (resD (config_Then_E N) Tryz.f17 (config_Then_sg fun x _ => config_Then N x.1 x.2.1 x.2.2.1) config_Then_pk)) = config_Then_L1T N c74 c75 c1005_1_2 c1005_2_3 (fun o1_w103900 => KX 2 (config_Then_L1_tl2 c74 c75 c1005_0_1 c1005_1_2 c1005_2_3 c1006_0_4 c1010_0_5 o0_w104200 o1_w103900)) (fun s76 w103900 => I (config_Then_L1_hd c74 c75 c1005_0_1 c1005_1_2 c1005_2_3 c1006_0_4 c1010_0_5 o0_w104200 s76 w103900)) s76 w103900 := by kernel_rfl
theorem config_Then_L1_ok (N : Nat) : ∀ x y k, (∀ st, k .ret st = (resD (config_Then_E N) Tryz.f17 (config_Then_sg fun x _ => config_Then N x.1 x.2.1 x.2.2.1) config_Then_pk) st) → iter (config_Then_h 2) (exec (config_Then_E N) N (cAt (bodyOf Tryz.f17) [true, true, true, true, true, false, true, false, false]) 2) N ⟨112, unF config_Then_L1_fs x, unH config_Then_L1_bs y⟩ k = config_Then_L1_F N x y k := fun x y k hk =>
  iter_link (S := (Int) × (List (Str × Str)) × Unit) (config_Then_h 2) _ (execL (config_Then_LP N) (config_Then_E N) (cAt (bodyOf Tryz.f17) [true, true, true, true, true, false, true, false, false]) 2) (resD (config_Then_E N) Tryz.f17 (config_Then_sg fun x _ => config_Then N x.1 x.2.1 x.2.2.1) config_Then_pk) (fun st k hk => execL_eq _ _ N _ (cAt (bodyOf Tryz.f17) [true, true, true, true, true, false, true, false, false]) 2 (show LoopsOk (config_Then_LP N) (config_Then_E N) N (resD (config_Then_E N) Tryz.f17 (config_Then_sg fun x _ => config_Then N x.1 x.2.1 x.2.2.1) config_Then_pk) [] from trivial) st k hk) (fun s => config_Then_L1_hd x.2.2.2.1 x.2.2.2.2.1 y.1.1 y.1.2.1 y.1.2.2.1 y.2.1.1 y.2.2.1.1 y.2.2.2.2.1 s.1 s.2.1) k hk
    (fun self s => config_Then_L1T N x.2.2.2.1 x.2.2.2.2.1 y.1.2.1 y.1.2.2.1 (fun o1_w103900 => k (.exit 2) (config_Then_L1_tl2 x.2.2.2.1 x.2.2.2.2.1 y.1.1 y.1.2.1 y.1.2.2.1 y.2.1.1 y.2.2.1.1 y.2.2.2.2.1 o1_w103900)) (fun s76 w103900 => self (s76, w103900, ())) s.1 s.2.1) (fun n s => config_Then_L1 N x.2.2.2.1 x.2.2.2.2.1 y.1.2.1 y.1.2.2.1 (fun o1_w103900 => k (.exit 2) (config_Then_L1_tl2 x.2.2.2.1 x.2.2.2.2.1 y.1.1 y.1.2.1 y.1.2.2.1 y.2.1.1 y.2.2.1.1 y.2.2.2.2.1 o1_w103900)) n s.1 s.2.1) (fun _ => rfl) (fun _ _ => rfl)
    (fun I s => config_Then_L1_step N x.2.2.2.1 x.2.2.2.2.1 y.1.1 y.1.2.1 y.1.2.2.1 y.2.1.1 y.2.2.1.1 y.2.2.2.2.1 (fun j => k (.exit j)) I s.1 s.2.1) N (x.2.2.2.2.2.1, y.2.2.2.1, ())
theorem config_Then_lp2 (N : Nat) : ∀ st k, (∀ st, k .ret st = (resD (config_Then_E N) Tryz.f17 (config_Then_sg fun x _ => config_Then N x.1 x.2.1 x.2.2.1) config_Then_pk) st) → config_Then_LP N 2 (cAt (bodyOf Tryz.f17) [true, true, true, true, true, false, true, false, false]) st k = iter (Env.hint (config_Then_E N) 2) (exec (config_Then_E N) N (cAt (bodyOf Tryz.f17) [true, true, true, true, true, false, true, false, false]) 2) N st k := fun st k hk => LPc_eq 112 config_Then_L1_fs config_Then_L1_bs _ _ (resD (config_Then_E N) Tryz.f17 (config_Then_sg fun x _ => config_Then N x.1 x.2.1 x.2.2.1) config_Then_pk) (config_Then_L1_ok N) _ st k hk (rfl)
theorem config_Then_L0_step (N : Nat) (c45 : List Str) (c46 : Int) (c1004_0 : Str) (c1004_1 : List (Str × Str)) (c1004_2 : List Str) (c1005_0 : Str) (c1005_1 : List (Str × Str)) (c1005_2 : List Str) (c1006_0 : Str) (c1010_0 : Str) (t39 : List (Str × Str)) (KX : Nat → St → Option ((Str × List (Str × Str) × List Str) × Int)) (I : St → Option ((Str × List (Str × Str) × List Str) × Int)) (s47 : Int) (w104200 : List Str) :
    execL (config_Then_LP N) (config_Then_E N) (cAt (bodyOf Tryz.f17) [true, true, true, true, false, true, false, false]) 0 (config_Then_L0_hd c45 c46 c1004_0 c1004_1 c1004_2 c1005_0 c1005_1 c1005_2 c1006_0 c1010_0 t39 s47 w104200) (roundK (config_Then_h 0) I KX (resD (config_Then_E N) Tryz.f17 (config_Then_sg fun x _ => config_Then N x.1 x.2.1 x.2.2.1) config_Then_pk)) = config_Then_L0T N c45 c46 c1005_1 c1005_2 (fun o0_w104200 => KX 0 (config_Then_L0_tl0 c45 c46 c1004_0 c1004_1 c1004_2 c1005_0 c1005_1 c1005_2 c1006_0 c1010_0 t39 o0_w104200)) (fun s47 w104200 => I (config_Then_L0_hd c45 c46 c1004_0 c1004_1 c1004_2 c1005_0 c1005_1 c1005_2 c1006_0 c1010_0 t39 s47 w104200)) s47 w104200 := by kernel_rfl
theorem config_Then_L0_ok (N : Nat) : ∀ x y k, (∀ st, k .ret st = (resD (config_Then_E N) Tryz.f17 (config_Then_sg fun x _ => config_Then N x.1 x.2.1 x.2.2.1) config_Then_pk) st) → iter (config_Then_h 0) (exec (config_Then_E N) N (cAt (bodyOf Tryz.f17) [true, true, true, true, false, true, false, false]) 0) N ⟨112, unF config_Then_L0_fs x, unH config_Then_L0_bs y⟩ k = config_Then_L0_F N x y k := fun x y k hk =>
  iter_link (S := (Int) × (List Str) × Unit) (config_Then_h 0) _ (execL (config_Then_LP N) (config_Then_E N) (cAt (bodyOf Tryz.f17) [true, true, true, true, false, true, false, false]) 0) (resD (config_Then_E N) Tryz.f17 (config_Then_sg fun x _ => config_Then N x.1 x.2.1 x.2.2.1) config_Then_pk) (fun st k hk => execL_eq _ _ N _ (cAt (bodyOf Tryz.f17) [true, true, true, true, false, true, false, false]) 0 (show LoopsOk (config_Then_LP N) (config_Then_E N) N (resD (config_Then_E N) Tryz.f17 (config_Then_sg fun x _ => config_Then N x.1 x.2.1 x.2.2.1) config_Then_pk) [] from trivial) st k hk) (fun s => config_Then_L0_hd x.2.2.2.2.1 x.2.2.2.2.2.1 y.1.1 y.1.2.1 y.1.2.2.1 y.2.1.1 y.2.1.2.1 y.2.1.2.2.1 y.2.2.1.1 y.2.2.2.1.1 y.2.2.2.2.1 s.1 s.2.1) k hk
    (fun self s => config_Then_L0T N x.2.2.2.2.1 x.2.2.2.2.2.1 y.2.1.2.1 y.2.1.2.2.1 (fun o0_w104200 => k (.exit 0) (config_Then_L0_tl0 x.2.2.2.2.1 x.2.2.2.2.2.1 y.1.1 y.1.2.1 y.1.2.2.1 y.2.1.1 y.2.1.2.1 y.2.1.2.2.1 y.2.2.1.1 y.2.2.2.1.1 y.2.2.2.2.1 o0_w104200)) (fun s47 w104200 => self (s47, w104200, ())) s.1 s.2.1) (fun n s => config_Then_L0 N x.2.2.2.2.1 x.2.2.2.2.2.1 y.2.1.2.1 y.2.1.2.2.1 (fun o0_w104200 => k (.exit 0) (config_Then_L0_tl0 x.2.2.2.2.1 x.2.2.2.2.2.1 y.1.1 y.1.2.1 y.1.2.2.1 y.2.1.1 y.2.1.2.1 y.2.1.2.2.1 y.2.2.1.1 y.2.2.2.1.1 y.2.2.2.2.1 o0_w104200)) n s.1 s.2.1) (fun _ => rfl) (fun _ _ => rfl)
    (fun I s => config_Then_L0_step N x.2.2.2.2.1 x.2.2.2.2.2.1 y.1.1 y.1.2.1 y.1.2.2.1 y.2.1.1 y.2.1.2.1 y.2.1.2.2.1 y.2.2.1.1 y.2.2.2.1.1 y.2.2.2.2.1 (fun j => k (.exit j)) I s.1 s.2.1) N (x.2.2.2.2.2.2.1, y.2.2.2.2.2.1, ())
theorem config_Then_lp0 (N : Nat) : ∀ st k, (∀ st, k .ret st = (resD (config_Then_E N) Tryz.f17 (config_Then_sg fun x _ => config_Then N x.1 x.2.1 x.2.2.1) config_Then_pk) st) → config_Then_LP N 0 (cAt (bodyOf Tryz.f17) [true, true, true, true, false, true, false, false]) st k = iter (Env.hint (config_Then_E N) 0) (exec (config_Then_E N) N (cAt (bodyOf Tryz.f17) [true, true, true, true, false, true, false, false]) 0) N st k := fun st k hk => LPc_eq 112 config_Then_L0_fs config_Then_L0_bs _ _ (resD (config_Then_E N) Tryz.f17 (config_Then_sg fun x _ => config_Then N x.1 x.2.1 x.2.2.1) config_Then_pk) (config_Then_L0_ok N) _ st k hk (rfl)
theorem config_Then_core (N : Nat) (x : SV [.v (.sl (.pr .str (.sl .str))), .v (.pr .str (.pr (.sl (.pr .str .str)) (.sl .str))), .v (.pr .str (.pr (.sl (.pr .str .str)) (.sl .str)))]) (y : BV []) : runL (config_Then_E N) Tryz.f17 (config_Then_sg fun x _ => config_Then N x.1 x.2.1 x.2.2.1) config_Then_pk (config_Then_LP N) x y = config_Then N x.1 x.2.1 x.2.2.1 := by kernel_rfl
theorem config_Then_sound (N : Nat) : Sound Tryz.prog GW B0G 17 (config_Then_sg fun x _ => config_Then N x.1 x.2.1 x.2.2.1) :=
  runD_sound (mkE_ok config_Then_h (config_Then_fn N) _ _ (config_Then_fn_ok N)) Tryz.func17 rfl Tryz.call17 (config_Then_sg fun x _ => config_Then N x.1 x.2.1 x.2.2.1) config_Then_pk (fun _ _ => rfl) N (fun x y _ h => ((runL_eq (config_Then_E N) N Tryz.f17 (config_Then_sg fun x _ => config_Then N x.1 x.2.1 x.2.2.1) config_Then_pk (config_Then_LP N) (show LoopsOk (config_Then_LP N) (config_Then_E N) N (resD (config_Then_E N) Tryz.f17 (config_Then_sg fun x _ => config_Then N x.1 x.2.1 x.2.2.1) config_Then_pk) [(0, (cAt (bodyOf Tryz.f17) [true, true, true, true, false, true, false, false])), (2, (cAt (bodyOf Tryz.f17) [true, true, true, true, true, false, true, false, false]))] from ⟨config_Then_lp0 N, config_Then_lp2 N, trivial⟩) x y).trans (config_Then_core N x y)).trans h)
end
end Go.Proofs.YtbekhaioddmliaaGreatDoor

