/- What functions of the program compute, as plain functions (printed). -/
import Derived.Test.YtbekhaioddmliaaDoorQCfF1
namespace Go.Proofs.YtbekhaioddmliaaDoor
open Go Go.RowKit
set_option maxRecDepth 100000
set_option linter.unusedVariables false
noncomputable section
def config_ConfigText_L0T (_N : Nat) (x1 : List (Str × Str)) (c20 : Int) (k0 : (List Str) → Option (Str × Int)) (self : Int → (List Str) → Option (Str × Int)) (s21 : Int) (w1007 : List Str) : Option (Str × Int) :=
  br (decide (s21 < c20))
    (bnd (geti x1 s21) fun t23 =>
    br (decide (t23.1.length + ([61] : Str).length ≤ 9223372036854775807))
      (br (decide ((t23.1 ++ ([61] : Str)).length + t23.2.length ≤ 9223372036854775807))
        (br (decide ((w1007.length + [(t23.1 ++ ([61] : Str)) ++ t23.2].length) * (24 * Ty.sz .str) ≤ 140737488355328))
          (self (IntKind.i64.wrap (s21 + (1 : Int))) (w1007 ++ [(t23.1 ++ ([61] : Str)) ++ t23.2]))
          none)
        none)
      none)
    (k0 w1007)
def config_ConfigText_L0 (N : Nat) (x1 : List (Str × Str)) (c20 : Int) (k0 : (List Str) → Option (Str × Int)) : Nat → Int → (List Str) → Option (Str × Int)
  | 0, _, _ => none
  | n + 1, s21, w1007 => config_ConfigText_L0T N x1 c20 k0 (config_ConfigText_L0 N x1 c20 k0 n) s21 w1007
def config_ConfigText (N : Nat) (x0 : List (Str × List Str)) (x1 : List (Str × Str)) : Option (Str × Int) :=
  bnd (config_CheckConfig N x0 x1) fun t12 =>
  br (t12 != (0 : Int))
    (some (([] : Str), t12))
    (br ((x1.length : Int) == (0 : Int))
      (some (([45] : Str), (0 : Int)))
      (config_ConfigText_L0 N x1 (x1.length : Int) (fun o0_w1007 =>
          bnd (strings_Join o0_w1007 ([44] : Str)) fun t36 =>
          some (t36, (0 : Int))) N (0 : Int) ([] : List Str)))
abbrev config_ConfigText_sg (f : SV [.v (.sl (.pr .str (.sl .str))), .v (.sl (.pr .str .str))] → BV [] → Option (Str × Int)) : AF := { ps := [.v (.sl (.pr .str (.sl .str))), .v (.sl (.pr .str .str))], bs := [], rs := [.v .str, .v (.int .i64)], cs := [], R := Str × Int, out := fun z => ((z.1, z.2, ()), ()), f := f }
abbrev config_ConfigText_pk : SV [.v .str, .v (.int .i64)] → BV [] → (Str × Int) := fun x _ => (x.1, x.2.1)
def config_ConfigText_fn (N : Nat) : FuncId → Option Tmp → Option AF := fun f _ =>
  match f with
    | 18 => some (config_CheckConfig_sg fun x _ => config_CheckConfig N x.1 x.2.1)
    | 72 => some (strings_Join_sg fun x _ => strings_Join x.1 x.2.1)
    | _ => none
theorem config_ConfigText_fn_ok (N : Nat) : ∀ f q F, config_ConfigText_fn N f q = some F → Sound Tryd.prog GW B0G f F := by
  intro f q F h
  unfold config_ConfigText_fn at h
  split at h
  · cases h; exact config_CheckConfig_sound N
  · cases h; exact strings_Join_sound
  · cases h
def config_ConfigText_h : Nat → Hint := fun i =>
  match i with
  | 0 => ⟨[], [7, 19, 20, 21], [1007], [7], [1007], []⟩
  | _ => ⟨[], [], [], [], [], []⟩
abbrev config_ConfigText_E (N : Nat) : Env := mkE config_ConfigText_h (config_ConfigText_fn N) (fun _ => false) (fun _ => false)
abbrev config_ConfigText_L0_fs : List (Nat × Sl) := [(7, .row 1007), (19, .v (.sl (.pr .str .str))), (20, .v (.int .i64)), (21, .v (.int .i64))]
abbrev config_ConfigText_L0_bs : List (Nat × Sb) := [(1007, .row 9 .str false)]
def config_ConfigText_L0_hd (x1 : List (Str × Str)) (c20 : Int) (s21 : Int) (w1007 : List Str) : St := ⟨37, [(7, .row 1007), (19, .v (.sl (.pr .str .str)) x1), (20, .v (.int .i64) c20), (21, .v (.int .i64) s21)], [(1007, .row 9 .str false w1007)]⟩
def config_ConfigText_L0_tl0 (_x1 : List (Str × Str)) (_c20 : Int) (o0_w1007 : List Str) : St := ⟨37, [(7, .row 1007)], [(1007, .row 9 .str false o0_w1007)]⟩
def config_ConfigText_L0_G (N : Nat) (x1 : List (Str × Str)) (c20 : Int) (s21 : Int) (w1007 : List Str) (k : Ex → St → Option (Str × Int)) : Option (Str × Int) :=
  config_ConfigText_L0 N x1 c20 (fun o0_w1007 => k (.exit 0) (config_ConfigText_L0_tl0 x1 c20 o0_w1007)) N s21 w1007
abbrev config_ConfigText_L0_F (N : Nat) : FV config_ConfigText_L0_fs → HV config_ConfigText_L0_bs → (Ex → St → Option (Str × Int)) → Option (Str × Int) := fun x y k => config_ConfigText_L0_G N x.2.1 x.2.2.1 x.2.2.2.1 y.1 k
noncomputable def config_ConfigText_LP (N : Nat) : Nat → Code → St → (Ex → St → Option (Str × Int)) → Option (Str × Int) := fun i c =>
  match i with
  | 0 => (LPc 37 config_ConfigText_L0_fs config_ConfigText_L0_bs (config_ConfigText_L0_F N) (fun st k => iter (config_ConfigText_h 0) (exec (config_ConfigText_E N) N c 0) N st k))
  | i => fun st k => iter (config_ConfigText_h i) (exec (config_ConfigText_E N) N c i) N st k
theorem config_ConfigText_L0_step (N : Nat) (x1 : List (Str × Str)) (c20 : Int) (KX : Nat → St → Option (Str × Int)) (I : St → Option (Str × Int)) (s21 : Int) (w1007 : List Str) :
    execL (config_ConfigText_LP N) (config_ConfigText_E N) (cAt (bodyOf Tryd.f34) [true, true, true, true, false, true, false, false]) 0 (config_ConfigText_L0_hd x1 c20 s21 w1007) (roundK (config_ConfigText_h 0) I KX (resD (config_ConfigText_E N) Tryd.f34 (config_ConfigText_sg fun x _ => config_ConfigText N x.1 x.2.1) config_ConfigText_pk)) = config_ConfigText_L0T N x1 c20 (fun o0_w1007 => KX 0 (config_ConfigText_L0_tl0 x1 c20 o0_w1007)) (fun s21 w1007 => I (config_ConfigText_L0_hd x1 c20 s21 w1007)) s21 w1007 := by kernel_rfl
theorem config_ConfigText_L0_ok (N : Nat) : ∀ x y k, (∀ st, k .ret st = (resD (config_ConfigText_E N) Tryd.f34 (config_ConfigText_sg fun x _ => config_ConfigText N x.1 x.2.1) config_ConfigText_pk) st) → iter (config_ConfigText_h 0) (exec (config_ConfigText_E N) N (cAt (bodyOf Tryd.f34) [true, true, true, true, false, true, false, false]) 0) N ⟨37, unF config_ConfigText_L0_fs x, unH config_ConfigText_L0_bs y⟩ k = config_ConfigText_L0_F N x y k := fun x y k hk =>
  iter_link (S := (Int) × (List Str) × Unit) (config_ConfigText_h 0) _ (execL (config_ConfigText_LP N) (config_ConfigText_E N) (cAt (bodyOf Tryd.f34) [true, true, true, true, false, true, false, false]) 0) (resD (config_ConfigText_E N) Tryd.f34 (config_ConfigText_sg fun x _ => config_ConfigText N x.1 x.2.1) config_ConfigText_pk) (fun st k hk => execL_eq _ _ N _ (cAt (bodyOf Tryd.f34) [true, true, true, true, false, true, false, false]) 0 (show LoopsOk (config_ConfigText_LP N) (config_ConfigText_E N) N (resD (config_ConfigText_E N) Tryd.f34 (config_ConfigText_sg fun x _ => config_ConfigText N x.1 x.2.1) config_ConfigText_pk) [] from trivial) st k hk) (fun s => config_ConfigText_L0_hd x.2.1 x.2.2.1 s.1 s.2.1) k hk
    (fun self s => config_ConfigText_L0T N x.2.1 x.2.2.1 (fun o0_w1007 => k (.exit 0) (config_ConfigText_L0_tl0 x.2.1 x.2.2.1 o0_w1007)) (fun s21 w1007 => self (s21, w1007, ())) s.1 s.2.1) (fun n s => config_ConfigText_L0 N x.2.1 x.2.2.1 (fun o0_w1007 => k (.exit 0) (config_ConfigText_L0_tl0 x.2.1 x.2.2.1 o0_w1007)) n s.1 s.2.1) (fun _ => rfl) (fun _ _ => rfl)
    (fun I s => config_ConfigText_L0_step N x.2.1 x.2.2.1 (fun j => k (.exit j)) I s.1 s.2.1) N (x.2.2.2.1, y.1, ())
theorem config_ConfigText_lp0 (N : Nat) : ∀ st k, (∀ st, k .ret st = (resD (config_ConfigText_E N) Tryd.f34 (config_ConfigText_sg fun x _ => config_ConfigText N x.1 x.2.1) config_ConfigText_pk) st) → config_ConfigText_LP N 0 (cAt (bodyOf Tryd.f34) [true, true, true, true, false, true, false, false]) st k = iter (Env.hint (config_ConfigText_E N) 0) (exec (config_ConfigText_E N) N (cAt (bodyOf Tryd.f34) [true, true, true, true, false, true, false, false]) 0) N st k := fun st k hk => LPc_eq 37 config_ConfigText_L0_fs config_ConfigText_L0_bs _ _ (resD (config_ConfigText_E N) Tryd.f34 (config_ConfigText_sg fun x _ => config_ConfigText N x.1 x.2.1) config_ConfigText_pk) (config_ConfigText_L0_ok N) _ st k hk (rfl)
theorem config_ConfigText_core (N : Nat) (x : SV [.v (.sl (.pr .str (.sl .str))), .v (.sl (.pr .str .str))]) (y : BV []) : runL (config_ConfigText_E N) Tryd.f34 (config_ConfigText_sg fun x _ => config_ConfigText N x.1 x.2.1) config_ConfigText_pk (config_ConfigText_LP N) x y = config_ConfigText N x.1 x.2.1 := by kernel_rfl
theorem config_ConfigText_sound (N : Nat) : Sound Tryd.prog GW B0G 34 (config_ConfigText_sg fun x _ => config_ConfigText N x.1 x.2.1) :=
  runD_sound (mkE_ok config_ConfigText_h (config_ConfigText_fn N) _ _ (config_ConfigText_fn_ok N)) Tryd.func34 rfl Tryd.call34 (config_ConfigText_sg fun x _ => config_ConfigText N x.1 x.2.1) config_ConfigText_pk (fun _ _ => rfl) N (fun x y _ h => ((runL_eq (config_ConfigText_E N) N Tryd.f34 (config_ConfigText_sg fun x _ => config_ConfigText N x.1 x.2.1) config_ConfigText_pk (config_ConfigText_LP N) (show LoopsOk (config_ConfigText_LP N) (config_ConfigText_E N) N (resD (config_ConfigText_E N) Tryd.f34 (config_ConfigText_sg fun x _ => config_ConfigText N x.1 x.2.1) config_ConfigText_pk) [(0, (cAt (bodyOf Tryd.f34) [true, true, true, true, false, true, false, false]))] from ⟨config_ConfigText_lp0 N, trivial⟩) x y).trans (config_ConfigText_core N x y)).trans h)
def law3_awake (N : Nat) : Option Bool :=
  bnd (config_ConfigText N [(([109] : Str), [([97] : Str), ([98] : Str)])] [(([109] : Str), ([98] : Str))]) fun t9 =>
  br (t9.2 == (0 : Int))
    (some (t9.1 == ([109, 61, 98] : Str)))
    (some false)
abbrev law3_awake_sg (f : SV [] → BV [] → Option (Bool)) : AF := { ps := [], bs := [], rs := [.v .bool], cs := [], R := Bool, out := fun z => ((z, ()), ()), f := f }
abbrev law3_awake_pk : SV [.v .bool] → BV [] → Bool := fun x _ => x.1
def law3_awake_fn (N : Nat) : FuncId → Option Tmp → Option AF := fun f _ =>
  match f with
    | 34 => some (config_ConfigText_sg fun x _ => config_ConfigText N x.1 x.2.1)
    | _ => none
theorem law3_awake_fn_ok (N : Nat) : ∀ f q F, law3_awake_fn N f q = some F → Sound Tryd.prog GW B0G f F := by
  intro f q F h
  unfold law3_awake_fn at h
  split at h
  · cases h; exact config_ConfigText_sound N
  · cases h
def law3_awake_h : Nat → Hint := fun i =>
  match i with
  | _ => ⟨[], [], [], [], [], []⟩
abbrev law3_awake_E (N : Nat) : Env := mkE law3_awake_h (law3_awake_fn N) (fun _ => false) (fun _ => false)
noncomputable def law3_awake_LP (N : Nat) : Nat → Code → St → (Ex → St → Option Bool) → Option Bool := fun i c =>
  match i with
  | i => fun st k => iter (law3_awake_h i) (exec (law3_awake_E N) N c i) N st k
theorem law3_awake_core (N : Nat) (x : SV []) (y : BV []) : runL (law3_awake_E N) Tryd.f20 (law3_awake_sg fun _ _ => law3_awake N) law3_awake_pk (law3_awake_LP N) x y = law3_awake N := by kernel_rfl
theorem law3_awake_sound (N : Nat) : Sound Tryd.prog GW B0G 20 (law3_awake_sg fun _ _ => law3_awake N) :=
  runD_sound (mkE_ok law3_awake_h (law3_awake_fn N) _ _ (law3_awake_fn_ok N)) Tryd.func20 rfl Tryd.call20 (law3_awake_sg fun _ _ => law3_awake N) law3_awake_pk (fun _ _ => rfl) N (fun x y _ h => ((runL_eq (law3_awake_E N) N Tryd.f20 (law3_awake_sg fun _ _ => law3_awake N) law3_awake_pk (law3_awake_LP N) (show LoopsOk (law3_awake_LP N) (law3_awake_E N) N (resD (law3_awake_E N) Tryd.f20 (law3_awake_sg fun _ _ => law3_awake N) law3_awake_pk) [] from trivial) x y).trans (law3_awake_core N x y)).trans h)
def config_CheckConditions_1 (_N : Nat) (x0 : Int) : Option Bool :=
  br (decide (x0 < (32 : Int)))
    (some true)
    (some (decide (x0 > (126 : Int))))
abbrev config_CheckConditions_1_sg (f : SV [.v (.int .i32)] → BV [] → Option (Bool)) : AF := { ps := [.v (.int .i32)], bs := [], rs := [.v .bool], cs := [], R := Bool, out := fun z => ((z, ()), ()), f := f }
abbrev config_CheckConditions_1_pk : SV [.v .bool] → BV [] → Bool := fun x _ => x.1
def config_CheckConditions_1_fn (_N : Nat) : FuncId → Option Tmp → Option AF := fun f _ =>
  match f with
    | _ => none
theorem config_CheckConditions_1_fn_ok (N : Nat) : ∀ f q F, config_CheckConditions_1_fn N f q = some F → Sound Tryd.prog GW B0G f F := by
  intro f q F h
  unfold config_CheckConditions_1_fn at h
  split at h
  · cases h
def config_CheckConditions_1_h : Nat → Hint := fun i =>
  match i with
  | _ => ⟨[], [], [], [], [], []⟩
abbrev config_CheckConditions_1_E (N : Nat) : Env := mkE config_CheckConditions_1_h (config_CheckConditions_1_fn N) (fun _ => false) (fun _ => false)
noncomputable def config_CheckConditions_1_LP (N : Nat) : Nat → Code → St → (Ex → St → Option Bool) → Option Bool := fun i c =>
  match i with
  | i => fun st k => iter (config_CheckConditions_1_h i) (exec (config_CheckConditions_1_E N) N c i) N st k
theorem config_CheckConditions_1_core (N : Nat) (x : SV [.v (.int .i32)]) (y : BV []) : runL (config_CheckConditions_1_E N) Tryd.f64 (config_CheckConditions_1_sg fun x _ => config_CheckConditions_1 N x.1) config_CheckConditions_1_pk (config_CheckConditions_1_LP N) x y = config_CheckConditions_1 N x.1 := by kernel_rfl
theorem config_CheckConditions_1_sound (N : Nat) : Sound Tryd.prog GW B0G 64 (config_CheckConditions_1_sg fun x _ => config_CheckConditions_1 N x.1) :=
  runD_sound (mkE_ok config_CheckConditions_1_h (config_CheckConditions_1_fn N) _ _ (config_CheckConditions_1_fn_ok N)) Tryd.func64 rfl Tryd.call64 (config_CheckConditions_1_sg fun x _ => config_CheckConditions_1 N x.1) config_CheckConditions_1_pk (fun _ _ => rfl) N (fun x y _ h => ((runL_eq (config_CheckConditions_1_E N) N Tryd.f64 (config_CheckConditions_1_sg fun x _ => config_CheckConditions_1 N x.1) config_CheckConditions_1_pk (config_CheckConditions_1_LP N) (show LoopsOk (config_CheckConditions_1_LP N) (config_CheckConditions_1_E N) N (resD (config_CheckConditions_1_E N) Tryd.f64 (config_CheckConditions_1_sg fun x _ => config_CheckConditions_1 N x.1) config_CheckConditions_1_pk) [] from trivial) x y).trans (config_CheckConditions_1_core N x y)).trans h)
def config_CheckPairs_L0T (N : Nat) (x0 : List (Str × Str)) (c8 : List (Str × Str)) (c9 : Int) (k0 : Option Int) (self : Int → Option Int) (s10 : Int) : Option Int :=
  br (decide (s10 < c9))
    (bnd (geti c8 s10) fun t13 =>
    bnd (config_IsWord N t13.1) fun t18 =>
    br (!t18)
      (some (5 : Int))
      (bnd (config_IsWord N t13.2) fun t23 =>
      br (!t23)
        (some (1 : Int))
        (br (decide (s10 > (0 : Int)))
          (bnd (geti x0 (IntKind.i64.wrap (s10 - (1 : Int)))) fun t34 =>
          br (Op.bytesLess t13.1 t34.1 || t13.1 == t34.1)
            (some (8 : Int))
            (self (IntKind.i64.wrap (s10 + (1 : Int)))))
          (self (IntKind.i64.wrap (s10 + (1 : Int)))))))
    (k0)
def config_CheckPairs_L0 (N : Nat) (x0 : List (Str × Str)) (c8 : List (Str × Str)) (c9 : Int) (k0 : Option Int) : Nat → Int → Option Int
  | 0, _ => none
  | n + 1, s10 => config_CheckPairs_L0T N x0 c8 c9 k0 (config_CheckPairs_L0 N x0 c8 c9 k0 n) s10
def config_CheckPairs (N : Nat) (x0 : List (Str × Str)) : Option Int :=
  br (decide ((x0.length : Int) > (30 : Int)))
    (some (2 : Int))
    (config_CheckPairs_L0 N x0 x0 (x0.length : Int) (some (0 : Int)) N (0 : Int))
abbrev config_CheckPairs_sg (f : SV [.v (.sl (.pr .str .str))] → BV [] → Option (Int)) : AF := { ps := [.v (.sl (.pr .str .str))], bs := [], rs := [.v (.int .i64)], cs := [], R := Int, out := fun z => ((z, ()), ()), f := f }
abbrev config_CheckPairs_pk : SV [.v (.int .i64)] → BV [] → Int := fun x _ => x.1
def config_CheckPairs_fn (N : Nat) : FuncId → Option Tmp → Option AF := fun f _ =>
  match f with
    | 53 => some (config_IsWord_sg fun x _ => config_IsWord N x.1)
    | _ => none
theorem config_CheckPairs_fn_ok (N : Nat) : ∀ f q F, config_CheckPairs_fn N f q = some F → Sound Tryd.prog GW B0G f F := by
  intro f q F h
  unfold config_CheckPairs_fn at h
  split at h
  · cases h; exact config_IsWord_sound N
  · cases h
def config_CheckPairs_h : Nat → Hint := fun i =>
  match i with
  | 0 => ⟨[], [0, 8, 9, 10], [], [], [], []⟩
  | _ => ⟨[], [], [], [], [], []⟩
abbrev config_CheckPairs_E (N : Nat) : Env := mkE config_CheckPairs_h (config_CheckPairs_fn N) (fun _ => false) (fun _ => false)
abbrev config_CheckPairs_L0_fs : List (Nat × Sl) := [(0, .v (.sl (.pr .str .str))), (8, .v (.sl (.pr .str .str))), (9, .v (.int .i64)), (10, .v (.int .i64))]
abbrev config_CheckPairs_L0_bs : List (Nat × Sb) := []
def config_CheckPairs_L0_hd (x0 : List (Str × Str)) (c8 : List (Str × Str)) (c9 : Int) (s10 : Int) : St := ⟨40, [(0, .v (.sl (.pr .str .str)) x0), (8, .v (.sl (.pr .str .str)) c8), (9, .v (.int .i64) c9), (10, .v (.int .i64) s10)], []⟩
def config_CheckPairs_L0_tl0 (_x0 : List (Str × Str)) (_c8 : List (Str × Str)) (_c9 : Int) : St := ⟨40, [], []⟩
def config_CheckPairs_L0_G (N : Nat) (x0 : List (Str × Str)) (c8 : List (Str × Str)) (c9 : Int) (s10 : Int) (k : Ex → St → Option Int) : Option Int :=
  config_CheckPairs_L0 N x0 c8 c9 (k (.exit 0) (config_CheckPairs_L0_tl0 x0 c8 c9)) N s10
abbrev config_CheckPairs_L0_F (N : Nat) : FV config_CheckPairs_L0_fs → HV config_CheckPairs_L0_bs → (Ex → St → Option Int) → Option Int := fun x _ k => config_CheckPairs_L0_G N x.1 x.2.1 x.2.2.1 x.2.2.2.1 k
noncomputable def config_CheckPairs_LP (N : Nat) : Nat → Code → St → (Ex → St → Option Int) → Option Int := fun i c =>
  match i with
  | 0 => (LPc 40 config_CheckPairs_L0_fs config_CheckPairs_L0_bs (config_CheckPairs_L0_F N) (fun st k => iter (config_CheckPairs_h 0) (exec (config_CheckPairs_E N) N c 0) N st k))
  | i => fun st k => iter (config_CheckPairs_h i) (exec (config_CheckPairs_E N) N c i) N st k
theorem config_CheckPairs_L0_step (N : Nat) (x0 : List (Str × Str)) (c8 : List (Str × Str)) (c9 : Int) (KX : Nat → St → Option Int) (I : St → Option Int) (s10 : Int) :
    execL (config_CheckPairs_LP N) (config_CheckPairs_E N) (cAt (bodyOf Tryd.f59) [true, true, false, true, false, false]) 0 (config_CheckPairs_L0_hd x0 c8 c9 s10) (roundK (config_CheckPairs_h 0) I KX (resD (config_CheckPairs_E N) Tryd.f59 (config_CheckPairs_sg fun x _ => config_CheckPairs N x.1) config_CheckPairs_pk)) = config_CheckPairs_L0T N x0 c8 c9 (KX 0 (config_CheckPairs_L0_tl0 x0 c8 c9)) (fun s10 => I (config_CheckPairs_L0_hd x0 c8 c9 s10)) s10 := by kernel_rfl
theorem config_CheckPairs_L0_ok (N : Nat) : ∀ x y k, (∀ st, k .ret st = (resD (config_CheckPairs_E N) Tryd.f59 (config_CheckPairs_sg fun x _ => config_CheckPairs N x.1) config_CheckPairs_pk) st) → iter (config_CheckPairs_h 0) (exec (config_CheckPairs_E N) N (cAt (bodyOf Tryd.f59) [true, true, false, true, false, false]) 0) N ⟨40, unF config_CheckPairs_L0_fs x, unH config_CheckPairs_L0_bs y⟩ k = config_CheckPairs_L0_F N x y k := fun x _ k hk =>
  iter_link (S := (Int) × Unit) (config_CheckPairs_h 0) _ (execL (config_CheckPairs_LP N) (config_CheckPairs_E N) (cAt (bodyOf Tryd.f59) [true, true, false, true, false, false]) 0) (resD (config_CheckPairs_E N) Tryd.f59 (config_CheckPairs_sg fun x _ => config_CheckPairs N x.1) config_CheckPairs_pk) (fun st k hk => execL_eq _ _ N _ (cAt (bodyOf Tryd.f59) [true, true, false, true, false, false]) 0 (show LoopsOk (config_CheckPairs_LP N) (config_CheckPairs_E N) N (resD (config_CheckPairs_E N) Tryd.f59 (config_CheckPairs_sg fun x _ => config_CheckPairs N x.1) config_CheckPairs_pk) [] from trivial) st k hk) (fun s => config_CheckPairs_L0_hd x.1 x.2.1 x.2.2.1 s.1) k hk
    (fun self s => config_CheckPairs_L0T N x.1 x.2.1 x.2.2.1 (k (.exit 0) (config_CheckPairs_L0_tl0 x.1 x.2.1 x.2.2.1)) (fun s10 => self (s10, ())) s.1) (fun n s => config_CheckPairs_L0 N x.1 x.2.1 x.2.2.1 (k (.exit 0) (config_CheckPairs_L0_tl0 x.1 x.2.1 x.2.2.1)) n s.1) (fun _ => rfl) (fun _ _ => rfl)
    (fun I s => config_CheckPairs_L0_step N x.1 x.2.1 x.2.2.1 (fun j => k (.exit j)) I s.1) N (x.2.2.2.1, ())
theorem config_CheckPairs_lp0 (N : Nat) : ∀ st k, (∀ st, k .ret st = (resD (config_CheckPairs_E N) Tryd.f59 (config_CheckPairs_sg fun x _ => config_CheckPairs N x.1) config_CheckPairs_pk) st) → config_CheckPairs_LP N 0 (cAt (bodyOf Tryd.f59) [true, true, false, true, false, false]) st k = iter (Env.hint (config_CheckPairs_E N) 0) (exec (config_CheckPairs_E N) N (cAt (bodyOf Tryd.f59) [true, true, false, true, false, false]) 0) N st k := fun st k hk => LPc_eq 40 config_CheckPairs_L0_fs config_CheckPairs_L0_bs _ _ (resD (config_CheckPairs_E N) Tryd.f59 (config_CheckPairs_sg fun x _ => config_CheckPairs N x.1) config_CheckPairs_pk) (config_CheckPairs_L0_ok N) _ st k hk (rfl)
theorem config_CheckPairs_core (N : Nat) (x : SV [.v (.sl (.pr .str .str))]) (y : BV []) : runL (config_CheckPairs_E N) Tryd.f59 (config_CheckPairs_sg fun x _ => config_CheckPairs N x.1) config_CheckPairs_pk (config_CheckPairs_LP N) x y = config_CheckPairs N x.1 := by kernel_rfl
theorem config_CheckPairs_sound (N : Nat) : Sound Tryd.prog GW B0G 59 (config_CheckPairs_sg fun x _ => config_CheckPairs N x.1) :=
  runD_sound (mkE_ok config_CheckPairs_h (config_CheckPairs_fn N) _ _ (config_CheckPairs_fn_ok N)) Tryd.func59 rfl Tryd.call59 (config_CheckPairs_sg fun x _ => config_CheckPairs N x.1) config_CheckPairs_pk (fun _ _ => rfl) N (fun x y _ h => ((runL_eq (config_CheckPairs_E N) N Tryd.f59 (config_CheckPairs_sg fun x _ => config_CheckPairs N x.1) config_CheckPairs_pk (config_CheckPairs_LP N) (show LoopsOk (config_CheckPairs_LP N) (config_CheckPairs_E N) N (resD (config_CheckPairs_E N) Tryd.f59 (config_CheckPairs_sg fun x _ => config_CheckPairs N x.1) config_CheckPairs_pk) [(0, (cAt (bodyOf Tryd.f59) [true, true, false, true, false, false]))] from ⟨config_CheckPairs_lp0 N, trivial⟩) x y).trans (config_CheckPairs_core N x y)).trans h)
abbrev strings_ContainsFunc_config_CheckConditions_1_sg (f : SV [.v .str, .v (.clo 64 .un)] → BV [] → Option (Bool)) : AF := { ps := [.v .str, .v (.clo 64 .un)], bs := [], rs := [.v .bool], cs := [], R := Bool, out := fun z => ((z, ()), ()), f := f }
def strings_ContainsFunc_config_CheckConditions_1 (N : Nat) (x : Str) (_u : Unit) : Option Bool := some (decide (0 ≤ Lib.idxFunc (fun n => (config_CheckConditions_1 N (n : Int)).getD false) true ⟨x.toArray⟩))
theorem strings_ContainsFunc_config_CheckConditions_1_sound (N : Nat) : Sound Tryd.prog GW B0G 63 (strings_ContainsFunc_config_CheckConditions_1_sg fun x y => strings_ContainsFunc_config_CheckConditions_1 N x.1 x.2.1) := strings_ContainsFunc_ext (ho := fun _ => rfl) (config_CheckConditions_1_sound N) (fun n _ => by unfold config_CheckConditions_1; simp only [br_ite]; rfl)

def config_CheckConditions_L0T (N : Nat) (x0 : List (Str × List Str)) (x1 : List (Str × List (Str × Str) × List (Str × Str))) (c18 : List (Str × List (Str × Str) × List (Str × Str))) (c19 : Int) (k0 : Option Int) (self : Int → Option Int) (s20 : Int) : Option Int :=
  br (decide (s20 < c19))
    (bnd (geti c18 s20) fun t23 =>
    br (decide ((t23.1.length : Int) < (1 : Int)))
      (some (3 : Int))
      (br (decide ((t23.1.length : Int) > (1000 : Int)))
        (some (3 : Int))
        (br (t23.1 == ([100, 101, 102, 97, 117, 108, 116] : Str))
          (some (3 : Int))
          (bnd (strings_ContainsFunc_config_CheckConditions_1 N t23.1 ()) fun t43 =>
          br (t43)
            (some (3 : Int))
            (br (decide ((t23.2.1.length : Int) > (30 : Int)))
              (some (2 : Int))
              (br (decide ((t23.2.2.length : Int) > (30 : Int)))
                (some (2 : Int))
                (bnd (config_checkSet N x0 t23.2.1 false) fun t58 =>
                br (t58 != (0 : Int))
                  (some t58)
                  (bnd (config_CheckPairs N t23.2.2) fun t64 =>
                  br (t64 != (0 : Int))
                    (some t64)
                    (br (decide (s20 > (0 : Int)))
                      (bnd (geti x1 (IntKind.i64.wrap (s20 - (1 : Int)))) fun t76 =>
                      br (Op.bytesLess t23.1 t76.1 || t23.1 == t76.1)
                        (some (8 : Int))
                        (self (IntKind.i64.wrap (s20 + (1 : Int)))))
                      (self (IntKind.i64.wrap (s20 + (1 : Int)))))))))))))
    (k0)
def config_CheckConditions_L0 (N : Nat) (x0 : List (Str × List Str)) (x1 : List (Str × List (Str × Str) × List (Str × Str))) (c18 : List (Str × List (Str × Str) × List (Str × Str))) (c19 : Int) (k0 : Option Int) : Nat → Int → Option Int
  | 0, _ => none
  | n + 1, s20 => config_CheckConditions_L0T N x0 x1 c18 c19 k0 (config_CheckConditions_L0 N x0 x1 c18 c19 k0 n) s20
def config_CheckConditions (N : Nat) (x0 : List (Str × List Str)) (x1 : List (Str × List (Str × Str) × List (Str × Str))) : Option Int :=
  bnd (config_CheckSettings N x0) fun t11 =>
  br (t11 != (0 : Int))
    (some t11)
    (br (decide ((x1.length : Int) > (100 : Int)))
      (some (2 : Int))
      (config_CheckConditions_L0 N x0 x1 x1 (x1.length : Int) (some (0 : Int)) N (0 : Int)))
abbrev config_CheckConditions_sg (f : SV [.v (.sl (.pr .str (.sl .str))), .v (.sl (.pr .str (.pr (.sl (.pr .str .str)) (.sl (.pr .str .str)))))] → BV [] → Option (Int)) : AF := { ps := [.v (.sl (.pr .str (.sl .str))), .v (.sl (.pr .str (.pr (.sl (.pr .str .str)) (.sl (.pr .str .str)))))], bs := [], rs := [.v (.int .i64)], cs := [], R := Int, out := fun z => ((z, ()), ()), f := f }
abbrev config_CheckConditions_pk : SV [.v (.int .i64)] → BV [] → Int := fun x _ => x.1
def config_CheckConditions_fn (N : Nat) : FuncId → Option Tmp → Option AF := fun f _ =>
  match f with
    | 16 => some (config_CheckSettings_sg fun x _ => config_CheckSettings N x.1)
    | 56 => some (config_checkSet_sg fun x _ => config_checkSet N x.1 x.2.1 x.2.2.1)
    | 59 => some (config_CheckPairs_sg fun x _ => config_CheckPairs N x.1)
    | 63 => some (strings_ContainsFunc_config_CheckConditions_1_sg fun x _ => strings_ContainsFunc_config_CheckConditions_1 N x.1 x.2.1)
    | _ => none
theorem config_CheckConditions_fn_ok (N : Nat) : ∀ f q F, config_CheckConditions_fn N f q = some F → Sound Tryd.prog GW B0G f F := by
  intro f q F h
  unfold config_CheckConditions_fn at h
  split at h
  · cases h; exact config_CheckSettings_sound N
  · cases h; exact config_checkSet_sound N
  · cases h; exact config_CheckPairs_sound N
  · cases h; exact strings_ContainsFunc_config_CheckConditions_1_sound N
  · cases h
def config_CheckConditions_h : Nat → Hint := fun i =>
  match i with
  | 0 => ⟨[], [0, 1, 18, 19, 20], [], [], [], []⟩
  | _ => ⟨[], [], [], [], [], []⟩
abbrev config_CheckConditions_E (N : Nat) : Env := mkE config_CheckConditions_h (config_CheckConditions_fn N) (fun _ => false) (fun _ => false)
abbrev config_CheckConditions_L0_fs : List (Nat × Sl) := [(0, .v (.sl (.pr .str (.sl .str)))), (1, .v (.sl (.pr .str (.pr (.sl (.pr .str .str)) (.sl (.pr .str .str)))))), (18, .v (.sl (.pr .str (.pr (.sl (.pr .str .str)) (.sl (.pr .str .str)))))), (19, .v (.int .i64)), (20, .v (.int .i64))]
abbrev config_CheckConditions_L0_bs : List (Nat × Sb) := []
def config_CheckConditions_L0_hd (x0 : List (Str × List Str)) (x1 : List (Str × List (Str × Str) × List (Str × Str))) (c18 : List (Str × List (Str × Str) × List (Str × Str))) (c19 : Int) (s20 : Int) : St := ⟨82, [(0, .v (.sl (.pr .str (.sl .str))) x0), (1, .v (.sl (.pr .str (.pr (.sl (.pr .str .str)) (.sl (.pr .str .str))))) x1), (18, .v (.sl (.pr .str (.pr (.sl (.pr .str .str)) (.sl (.pr .str .str))))) c18), (19, .v (.int .i64) c19), (20, .v (.int .i64) s20)], []⟩
def config_CheckConditions_L0_tl0 (_x0 : List (Str × List Str)) (_x1 : List (Str × List (Str × Str) × List (Str × Str))) (_c18 : List (Str × List (Str × Str) × List (Str × Str))) (_c19 : Int) : St := ⟨82, [], []⟩
def config_CheckConditions_L0_G (N : Nat) (x0 : List (Str × List Str)) (x1 : List (Str × List (Str × Str) × List (Str × Str))) (c18 : List (Str × List (Str × Str) × List (Str × Str))) (c19 : Int) (s20 : Int) (k : Ex → St → Option Int) : Option Int :=
  config_CheckConditions_L0 N x0 x1 c18 c19 (k (.exit 0) (config_CheckConditions_L0_tl0 x0 x1 c18 c19)) N s20
abbrev config_CheckConditions_L0_F (N : Nat) : FV config_CheckConditions_L0_fs → HV config_CheckConditions_L0_bs → (Ex → St → Option Int) → Option Int := fun x _ k => config_CheckConditions_L0_G N x.1 x.2.1 x.2.2.1 x.2.2.2.1 x.2.2.2.2.1 k
noncomputable def config_CheckConditions_LP (N : Nat) : Nat → Code → St → (Ex → St → Option Int) → Option Int := fun i c =>
  match i with
  | 0 => (LPc 82 config_CheckConditions_L0_fs config_CheckConditions_L0_bs (config_CheckConditions_L0_F N) (fun st k => iter (config_CheckConditions_h 0) (exec (config_CheckConditions_E N) N c 0) N st k))
  | i => fun st k => iter (config_CheckConditions_h i) (exec (config_CheckConditions_E N) N c i) N st k
theorem config_CheckConditions_L0_step (N : Nat) (x0 : List (Str × List Str)) (x1 : List (Str × List (Str × Str) × List (Str × Str))) (c18 : List (Str × List (Str × Str) × List (Str × Str))) (c19 : Int) (KX : Nat → St → Option Int) (I : St → Option Int) (s20 : Int) :
    execL (config_CheckConditions_LP N) (config_CheckConditions_E N) (cAt (bodyOf Tryd.f25) [true, true, true, false, true, false, false]) 0 (config_CheckConditions_L0_hd x0 x1 c18 c19 s20) (roundK (config_CheckConditions_h 0) I KX (resD (config_CheckConditions_E N) Tryd.f25 (config_CheckConditions_sg fun x _ => config_CheckConditions N x.1 x.2.1) config_CheckConditions_pk)) = config_CheckConditions_L0T N x0 x1 c18 c19 (KX 0 (config_CheckConditions_L0_tl0 x0 x1 c18 c19)) (fun s20 => I (config_CheckConditions_L0_hd x0 x1 c18 c19 s20)) s20 := by kernel_rfl
theorem config_CheckConditions_L0_ok (N : Nat) : ∀ x y k, (∀ st, k .ret st = (resD (config_CheckConditions_E N) Tryd.f25 (config_CheckConditions_sg fun x _ => config_CheckConditions N x.1 x.2.1) config_CheckConditions_pk) st) → iter (config_CheckConditions_h 0) (exec (config_CheckConditions_E N) N (cAt (bodyOf Tryd.f25) [true, true, true, false, true, false, false]) 0) N ⟨82, unF config_CheckConditions_L0_fs x, unH config_CheckConditions_L0_bs y⟩ k = config_CheckConditions_L0_F N x y k := fun x _ k hk =>
  iter_link (S := (Int) × Unit) (config_CheckConditions_h 0) _ (execL (config_CheckConditions_LP N) (config_CheckConditions_E N) (cAt (bodyOf Tryd.f25) [true, true, true, false, true, false, false]) 0) (resD (config_CheckConditions_E N) Tryd.f25 (config_CheckConditions_sg fun x _ => config_CheckConditions N x.1 x.2.1) config_CheckConditions_pk) (fun st k hk => execL_eq _ _ N _ (cAt (bodyOf Tryd.f25) [true, true, true, false, true, false, false]) 0 (show LoopsOk (config_CheckConditions_LP N) (config_CheckConditions_E N) N (resD (config_CheckConditions_E N) Tryd.f25 (config_CheckConditions_sg fun x _ => config_CheckConditions N x.1 x.2.1) config_CheckConditions_pk) [] from trivial) st k hk) (fun s => config_CheckConditions_L0_hd x.1 x.2.1 x.2.2.1 x.2.2.2.1 s.1) k hk
    (fun self s => config_CheckConditions_L0T N x.1 x.2.1 x.2.2.1 x.2.2.2.1 (k (.exit 0) (config_CheckConditions_L0_tl0 x.1 x.2.1 x.2.2.1 x.2.2.2.1)) (fun s20 => self (s20, ())) s.1) (fun n s => config_CheckConditions_L0 N x.1 x.2.1 x.2.2.1 x.2.2.2.1 (k (.exit 0) (config_CheckConditions_L0_tl0 x.1 x.2.1 x.2.2.1 x.2.2.2.1)) n s.1) (fun _ => rfl) (fun _ _ => rfl)
    (fun I s => config_CheckConditions_L0_step N x.1 x.2.1 x.2.2.1 x.2.2.2.1 (fun j => k (.exit j)) I s.1) N (x.2.2.2.2.1, ())
theorem config_CheckConditions_lp0 (N : Nat) : ∀ st k, (∀ st, k .ret st = (resD (config_CheckConditions_E N) Tryd.f25 (config_CheckConditions_sg fun x _ => config_CheckConditions N x.1 x.2.1) config_CheckConditions_pk) st) → config_CheckConditions_LP N 0 (cAt (bodyOf Tryd.f25) [true, true, true, false, true, false, false]) st k = iter (Env.hint (config_CheckConditions_E N) 0) (exec (config_CheckConditions_E N) N (cAt (bodyOf Tryd.f25) [true, true, true, false, true, false, false]) 0) N st k := fun st k hk => LPc_eq 82 config_CheckConditions_L0_fs config_CheckConditions_L0_bs _ _ (resD (config_CheckConditions_E N) Tryd.f25 (config_CheckConditions_sg fun x _ => config_CheckConditions N x.1 x.2.1) config_CheckConditions_pk) (config_CheckConditions_L0_ok N) _ st k hk (rfl)
theorem config_CheckConditions_core (N : Nat) (x : SV [.v (.sl (.pr .str (.sl .str))), .v (.sl (.pr .str (.pr (.sl (.pr .str .str)) (.sl (.pr .str .str)))))]) (y : BV []) : runL (config_CheckConditions_E N) Tryd.f25 (config_CheckConditions_sg fun x _ => config_CheckConditions N x.1 x.2.1) config_CheckConditions_pk (config_CheckConditions_LP N) x y = config_CheckConditions N x.1 x.2.1 := by kernel_rfl
theorem config_CheckConditions_sound (N : Nat) : Sound Tryd.prog GW B0G 25 (config_CheckConditions_sg fun x _ => config_CheckConditions N x.1 x.2.1) :=
  runD_sound (mkE_ok config_CheckConditions_h (config_CheckConditions_fn N) _ _ (config_CheckConditions_fn_ok N)) Tryd.func25 rfl Tryd.call25 (config_CheckConditions_sg fun x _ => config_CheckConditions N x.1 x.2.1) config_CheckConditions_pk (fun _ _ => rfl) N (fun x y _ h => ((runL_eq (config_CheckConditions_E N) N Tryd.f25 (config_CheckConditions_sg fun x _ => config_CheckConditions N x.1 x.2.1) config_CheckConditions_pk (config_CheckConditions_LP N) (show LoopsOk (config_CheckConditions_LP N) (config_CheckConditions_E N) N (resD (config_CheckConditions_E N) Tryd.f25 (config_CheckConditions_sg fun x _ => config_CheckConditions N x.1 x.2.1) config_CheckConditions_pk) [(0, (cAt (bodyOf Tryd.f25) [true, true, true, false, true, false, false]))] from ⟨config_CheckConditions_lp0 N, trivial⟩) x y).trans (config_CheckConditions_core N x y)).trans h)
def config_CheckPlatforms_1 (_N : Nat) (x0 : Str × List (Str × Str)) (x1 : Str × List (Str × Str)) : Option Bool :=
  some (x0.1 == x1.1)
abbrev config_CheckPlatforms_1_sg (f : SV [.v (.pr .str (.sl (.pr .str .str))), .v (.ptr (.pr .str (.sl (.pr .str .str))))] → BV [] → Option (Bool)) : AF := { ps := [.v (.pr .str (.sl (.pr .str .str))), .v (.ptr (.pr .str (.sl (.pr .str .str))))], bs := [], rs := [.v .bool], cs := [], R := Bool, out := fun z => ((z, ()), ()), f := f }
abbrev config_CheckPlatforms_1_pk : SV [.v .bool] → BV [] → Bool := fun x _ => x.1
def config_CheckPlatforms_1_fn (_N : Nat) : FuncId → Option Tmp → Option AF := fun f _ =>
  match f with
    | _ => none
theorem config_CheckPlatforms_1_fn_ok (N : Nat) : ∀ f q F, config_CheckPlatforms_1_fn N f q = some F → Sound Tryd.prog GW B0G f F := by
  intro f q F h
  unfold config_CheckPlatforms_1_fn at h
  split at h
  · cases h
def config_CheckPlatforms_1_h : Nat → Hint := fun i =>
  match i with
  | _ => ⟨[], [], [], [], [], []⟩
abbrev config_CheckPlatforms_1_E (N : Nat) : Env := mkE config_CheckPlatforms_1_h (config_CheckPlatforms_1_fn N) (fun _ => false) (fun _ => false)
noncomputable def config_CheckPlatforms_1_LP (N : Nat) : Nat → Code → St → (Ex → St → Option Bool) → Option Bool := fun i c =>
  match i with
  | i => fun st k => iter (config_CheckPlatforms_1_h i) (exec (config_CheckPlatforms_1_E N) N c i) N st k
theorem config_CheckPlatforms_1_core (N : Nat) (x : SV [.v (.pr .str (.sl (.pr .str .str))), .v (.ptr (.pr .str (.sl (.pr .str .str))))]) (y : BV []) : runL (config_CheckPlatforms_1_E N) Tryd.f61 (config_CheckPlatforms_1_sg fun x _ => config_CheckPlatforms_1 N x.1 x.2.1) config_CheckPlatforms_1_pk (config_CheckPlatforms_1_LP N) x y = config_CheckPlatforms_1 N x.1 x.2.1 := by kernel_rfl
theorem config_CheckPlatforms_1_sound (N : Nat) : Sound Tryd.prog GW B0G 61 (config_CheckPlatforms_1_sg fun x _ => config_CheckPlatforms_1 N x.1 x.2.1) :=
  runD_sound (mkE_ok config_CheckPlatforms_1_h (config_CheckPlatforms_1_fn N) _ _ (config_CheckPlatforms_1_fn_ok N)) Tryd.func61 rfl Tryd.call61 (config_CheckPlatforms_1_sg fun x _ => config_CheckPlatforms_1 N x.1 x.2.1) config_CheckPlatforms_1_pk (fun _ _ => rfl) N (fun x y _ h => ((runL_eq (config_CheckPlatforms_1_E N) N Tryd.f61 (config_CheckPlatforms_1_sg fun x _ => config_CheckPlatforms_1 N x.1 x.2.1) config_CheckPlatforms_1_pk (config_CheckPlatforms_1_LP N) (show LoopsOk (config_CheckPlatforms_1_LP N) (config_CheckPlatforms_1_E N) N (resD (config_CheckPlatforms_1_E N) Tryd.f61 (config_CheckPlatforms_1_sg fun x _ => config_CheckPlatforms_1 N x.1 x.2.1) config_CheckPlatforms_1_pk) [] from trivial) x y).trans (config_CheckPlatforms_1_core N x y)).trans h)
end
end Go.Proofs.YtbekhaioddmliaaDoor


/- What functions of the program compute, as plain functions (printed). -/
namespace Go.Proofs.YtbekhaioddmliaaDoor
open Go Go.RowKit
set_option maxRecDepth 100000
set_option linter.unusedVariables false
noncomputable section
def slices_IndexFunc_api_Platform_L0T (N : Nat) (x0 : List (Str × List (Str × Str))) (x1 : (Str × List (Str × Str)) × Unit) (c7 : Int) (k0 : Option Int) (self : Int → Option Int) (s8 : Int) : Option Int :=
  br (decide (s8 < c7))
    (bnd (geti x0 s8) fun t14 =>
    bnd (config_CheckPlatforms_1 N t14 x1.1) fun t16 =>
    br (t16)
      (some s8)
      (self (IntKind.i64.wrap (s8 + (1 : Int)))))
    (k0)
def slices_IndexFunc_api_Platform_L0 (N : Nat) (x0 : List (Str × List (Str × Str))) (x1 : (Str × List (Str × Str)) × Unit) (c7 : Int) (k0 : Option Int) : Nat → Int → Option Int
  | 0, _ => none
  | n + 1, s8 => slices_IndexFunc_api_Platform_L0T N x0 x1 c7 k0 (slices_IndexFunc_api_Platform_L0 N x0 x1 c7 k0 n) s8
def slices_IndexFunc_api_Platform (N : Nat) (x0 : List (Str × List (Str × Str))) (x1 : (Str × List (Str × Str)) × Unit) : Option Int :=
  slices_IndexFunc_api_Platform_L0 N x0 x1 (x0.length : Int) (some (-1 : Int)) N (0 : Int)
abbrev slices_IndexFunc_api_Platform_sg (f : SV [.v (.sl (.pr .str (.sl (.pr .str .str)))), .v (.clo 61 (.pr (.ptr (.pr .str (.sl (.pr .str .str)))) .un))] → BV [] → Option (Int)) : AF := { ps := [.v (.sl (.pr .str (.sl (.pr .str .str)))), .v (.clo 61 (.pr (.ptr (.pr .str (.sl (.pr .str .str)))) .un))], bs := [], rs := [.v (.int .i64)], cs := [], R := Int, out := fun z => ((z, ()), ()), f := f }
abbrev slices_IndexFunc_api_Platform_pk : SV [.v (.int .i64)] → BV [] → Int := fun x _ => x.1
def slices_IndexFunc_api_Platform_fn (N : Nat) : FuncId → Option Tmp → Option AF := fun f _ =>
  match f with
    | 61 => some (config_CheckPlatforms_1_sg fun x _ => config_CheckPlatforms_1 N x.1 x.2.1)
    | _ => none
theorem slices_IndexFunc_api_Platform_fn_ok (N : Nat) : ∀ f q F, slices_IndexFunc_api_Platform_fn N f q = some F → Sound Tryd.prog GW B0G f F := by
  intro f q F h
  unfold slices_IndexFunc_api_Platform_fn at h
  split at h
  · cases h; exact config_CheckPlatforms_1_sound N
  · cases h
def slices_IndexFunc_api_Platform_h : Nat → Hint := fun i =>
  match i with
  | 0 => ⟨[], [0, 1, 7, 8], [], [], [], []⟩
  | _ => ⟨[], [], [], [], [], []⟩
abbrev slices_IndexFunc_api_Platform_E (N : Nat) : Env := mkE slices_IndexFunc_api_Platform_h (slices_IndexFunc_api_Platform_fn N) (fun _ => false) (fun _ => false)
abbrev slices_IndexFunc_api_Platform_L0_fs : List (Nat × Sl) := [(0, .v (.sl (.pr .str (.sl (.pr .str .str))))), (1, .v (.clo 61 (.pr (.ptr (.pr .str (.sl (.pr .str .str)))) .un))), (7, .v (.int .i64)), (8, .v (.int .i64))]
abbrev slices_IndexFunc_api_Platform_L0_bs : List (Nat × Sb) := []
def slices_IndexFunc_api_Platform_L0_hd (x0 : List (Str × List (Str × Str))) (x1 : (Str × List (Str × Str)) × Unit) (c7 : Int) (s8 : Int) : St := ⟨19, [(0, .v (.sl (.pr .str (.sl (.pr .str .str)))) x0), (1, .v (.clo 61 (.pr (.ptr (.pr .str (.sl (.pr .str .str)))) .un)) x1), (7, .v (.int .i64) c7), (8, .v (.int .i64) s8)], []⟩
def slices_IndexFunc_api_Platform_L0_tl0 (_x0 : List (Str × List (Str × Str))) (_x1 : (Str × List (Str × Str)) × Unit) (_c7 : Int) : St := ⟨19, [], []⟩
def slices_IndexFunc_api_Platform_L0_G (N : Nat) (x0 : List (Str × List (Str × Str))) (x1 : (Str × List (Str × Str)) × Unit) (c7 : Int) (s8 : Int) (k : Ex → St → Option Int) : Option Int :=
  slices_IndexFunc_api_Platform_L0 N x0 x1 c7 (k (.exit 0) (slices_IndexFunc_api_Platform_L0_tl0 x0 x1 c7)) N s8
abbrev slices_IndexFunc_api_Platform_L0_F (N : Nat) : FV slices_IndexFunc_api_Platform_L0_fs → HV slices_IndexFunc_api_Platform_L0_bs → (Ex → St → Option Int) → Option Int := fun x _ k => slices_IndexFunc_api_Platform_L0_G N x.1 x.2.1 x.2.2.1 x.2.2.2.1 k
noncomputable def slices_IndexFunc_api_Platform_LP (N : Nat) : Nat → Code → St → (Ex → St → Option Int) → Option Int := fun i c =>
  match i with
  | 0 => (LPc 19 slices_IndexFunc_api_Platform_L0_fs slices_IndexFunc_api_Platform_L0_bs (slices_IndexFunc_api_Platform_L0_F N) (fun st k => iter (slices_IndexFunc_api_Platform_h 0) (exec (slices_IndexFunc_api_Platform_E N) N c 0) N st k))
  | i => fun st k => iter (slices_IndexFunc_api_Platform_h i) (exec (slices_IndexFunc_api_Platform_E N) N c i) N st k
theorem slices_IndexFunc_api_Platform_L0_step (N : Nat) (x0 : List (Str × List (Str × Str))) (x1 : (Str × List (Str × Str)) × Unit) (c7 : Int) (KX : Nat → St → Option Int) (I : St → Option Int) (s8 : Int) :
    execL (slices_IndexFunc_api_Platform_LP N) (slices_IndexFunc_api_Platform_E N) (cAt (bodyOf Tryd.f97) [true, false, true, false, false]) 0 (slices_IndexFunc_api_Platform_L0_hd x0 x1 c7 s8) (roundK (slices_IndexFunc_api_Platform_h 0) I KX (resD (slices_IndexFunc_api_Platform_E N) Tryd.f97 (slices_IndexFunc_api_Platform_sg fun x _ => slices_IndexFunc_api_Platform N x.1 x.2.1) slices_IndexFunc_api_Platform_pk)) = slices_IndexFunc_api_Platform_L0T N x0 x1 c7 (KX 0 (slices_IndexFunc_api_Platform_L0_tl0 x0 x1 c7)) (fun s8 => I (slices_IndexFunc_api_Platform_L0_hd x0 x1 c7 s8)) s8 := by kernel_rfl
theorem slices_IndexFunc_api_Platform_L0_ok (N : Nat) : ∀ x y k, (∀ st, k .ret st = (resD (slices_IndexFunc_api_Platform_E N) Tryd.f97 (slices_IndexFunc_api_Platform_sg fun x _ => slices_IndexFunc_api_Platform N x.1 x.2.1) slices_IndexFunc_api_Platform_pk) st) → iter (slices_IndexFunc_api_Platform_h 0) (exec (slices_IndexFunc_api_Platform_E N) N (cAt (bodyOf Tryd.f97) [true, false, true, false, false]) 0) N ⟨19, unF slices_IndexFunc_api_Platform_L0_fs x, unH slices_IndexFunc_api_Platform_L0_bs y⟩ k = slices_IndexFunc_api_Platform_L0_F N x y k := fun x _ k hk =>
  iter_link (S := (Int) × Unit) (slices_IndexFunc_api_Platform_h 0) _ (execL (slices_IndexFunc_api_Platform_LP N) (slices_IndexFunc_api_Platform_E N) (cAt (bodyOf Tryd.f97) [true, false, true, false, false]) 0) (resD (slices_IndexFunc_api_Platform_E N) Tryd.f97 (slices_IndexFunc_api_Platform_sg fun x _ => slices_IndexFunc_api_Platform N x.1 x.2.1) slices_IndexFunc_api_Platform_pk) (fun st k hk => execL_eq _ _ N _ (cAt (bodyOf Tryd.f97) [true, false, true, false, false]) 0 (show LoopsOk (slices_IndexFunc_api_Platform_LP N) (slices_IndexFunc_api_Platform_E N) N (resD (slices_IndexFunc_api_Platform_E N) Tryd.f97 (slices_IndexFunc_api_Platform_sg fun x _ => slices_IndexFunc_api_Platform N x.1 x.2.1) slices_IndexFunc_api_Platform_pk) [] from trivial) st k hk) (fun s => slices_IndexFunc_api_Platform_L0_hd x.1 x.2.1 x.2.2.1 s.1) k hk
    (fun self s => slices_IndexFunc_api_Platform_L0T N x.1 x.2.1 x.2.2.1 (k (.exit 0) (slices_IndexFunc_api_Platform_L0_tl0 x.1 x.2.1 x.2.2.1)) (fun s8 => self (s8, ())) s.1) (fun n s => slices_IndexFunc_api_Platform_L0 N x.1 x.2.1 x.2.2.1 (k (.exit 0) (slices_IndexFunc_api_Platform_L0_tl0 x.1 x.2.1 x.2.2.1)) n s.1) (fun _ => rfl) (fun _ _ => rfl)
    (fun I s => slices_IndexFunc_api_Platform_L0_step N x.1 x.2.1 x.2.2.1 (fun j => k (.exit j)) I s.1) N (x.2.2.2.1, ())
theorem slices_IndexFunc_api_Platform_lp0 (N : Nat) : ∀ st k, (∀ st, k .ret st = (resD (slices_IndexFunc_api_Platform_E N) Tryd.f97 (slices_IndexFunc_api_Platform_sg fun x _ => slices_IndexFunc_api_Platform N x.1 x.2.1) slices_IndexFunc_api_Platform_pk) st) → slices_IndexFunc_api_Platform_LP N 0 (cAt (bodyOf Tryd.f97) [true, false, true, false, false]) st k = iter (Env.hint (slices_IndexFunc_api_Platform_E N) 0) (exec (slices_IndexFunc_api_Platform_E N) N (cAt (bodyOf Tryd.f97) [true, false, true, false, false]) 0) N st k := fun st k hk => LPc_eq 19 slices_IndexFunc_api_Platform_L0_fs slices_IndexFunc_api_Platform_L0_bs _ _ (resD (slices_IndexFunc_api_Platform_E N) Tryd.f97 (slices_IndexFunc_api_Platform_sg fun x _ => slices_IndexFunc_api_Platform N x.1 x.2.1) slices_IndexFunc_api_Platform_pk) (slices_IndexFunc_api_Platform_L0_ok N) _ st k hk (rfl)
theorem slices_IndexFunc_api_Platform_core (N : Nat) (x : SV [.v (.sl (.pr .str (.sl (.pr .str .str)))), .v (.clo 61 (.pr (.ptr (.pr .str (.sl (.pr .str .str)))) .un))]) (y : BV []) : runL (slices_IndexFunc_api_Platform_E N) Tryd.f97 (slices_IndexFunc_api_Platform_sg fun x _ => slices_IndexFunc_api_Platform N x.1 x.2.1) slices_IndexFunc_api_Platform_pk (slices_IndexFunc_api_Platform_LP N) x y = slices_IndexFunc_api_Platform N x.1 x.2.1 := by kernel_rfl
theorem slices_IndexFunc_api_Platform_sound (N : Nat) : Sound Tryd.prog GW B0G 97 (slices_IndexFunc_api_Platform_sg fun x _ => slices_IndexFunc_api_Platform N x.1 x.2.1) :=
  runD_sound (mkE_ok slices_IndexFunc_api_Platform_h (slices_IndexFunc_api_Platform_fn N) _ _ (slices_IndexFunc_api_Platform_fn_ok N)) Tryd.func97 rfl Tryd.call97 (slices_IndexFunc_api_Platform_sg fun x _ => slices_IndexFunc_api_Platform N x.1 x.2.1) slices_IndexFunc_api_Platform_pk (fun _ _ => rfl) N (fun x y _ h => ((runL_eq (slices_IndexFunc_api_Platform_E N) N Tryd.f97 (slices_IndexFunc_api_Platform_sg fun x _ => slices_IndexFunc_api_Platform N x.1 x.2.1) slices_IndexFunc_api_Platform_pk (slices_IndexFunc_api_Platform_LP N) (show LoopsOk (slices_IndexFunc_api_Platform_LP N) (slices_IndexFunc_api_Platform_E N) N (resD (slices_IndexFunc_api_Platform_E N) Tryd.f97 (slices_IndexFunc_api_Platform_sg fun x _ => slices_IndexFunc_api_Platform N x.1 x.2.1) slices_IndexFunc_api_Platform_pk) [(0, (cAt (bodyOf Tryd.f97) [true, false, true, false, false]))] from ⟨slices_IndexFunc_api_Platform_lp0 N, trivial⟩) x y).trans (slices_IndexFunc_api_Platform_core N x y)).trans h)
def slices_ContainsFunc_api_Platform (N : Nat) (x0 : List (Str × List (Str × Str))) (x1 : (Str × List (Str × Str)) × Unit) : Option Bool :=
  bnd (slices_IndexFunc_api_Platform N x0 x1) fun t7 =>
  some (decide (t7 ≥ (0 : Int)))
abbrev slices_ContainsFunc_api_Platform_sg (f : SV [.v (.sl (.pr .str (.sl (.pr .str .str)))), .v (.clo 61 (.pr (.ptr (.pr .str (.sl (.pr .str .str)))) .un))] → BV [] → Option (Bool)) : AF := { ps := [.v (.sl (.pr .str (.sl (.pr .str .str)))), .v (.clo 61 (.pr (.ptr (.pr .str (.sl (.pr .str .str)))) .un))], bs := [], rs := [.v .bool], cs := [], R := Bool, out := fun z => ((z, ()), ()), f := f }
abbrev slices_ContainsFunc_api_Platform_pk : SV [.v .bool] → BV [] → Bool := fun x _ => x.1
def slices_ContainsFunc_api_Platform_fn (N : Nat) : FuncId → Option Tmp → Option AF := fun f _ =>
  match f with
    | 97 => some (slices_IndexFunc_api_Platform_sg fun x _ => slices_IndexFunc_api_Platform N x.1 x.2.1)
    | _ => none
theorem slices_ContainsFunc_api_Platform_fn_ok (N : Nat) : ∀ f q F, slices_ContainsFunc_api_Platform_fn N f q = some F → Sound Tryd.prog GW B0G f F := by
  intro f q F h
  unfold slices_ContainsFunc_api_Platform_fn at h
  split at h
  · cases h; exact slices_IndexFunc_api_Platform_sound N
  · cases h
def slices_ContainsFunc_api_Platform_h : Nat → Hint := fun i =>
  match i with
  | _ => ⟨[], [], [], [], [], []⟩
abbrev slices_ContainsFunc_api_Platform_E (N : Nat) : Env := mkE slices_ContainsFunc_api_Platform_h (slices_ContainsFunc_api_Platform_fn N) (fun _ => false) (fun _ => false)
noncomputable def slices_ContainsFunc_api_Platform_LP (N : Nat) : Nat → Code → St → (Ex → St → Option Bool) → Option Bool := fun i c =>
  match i with
  | i => fun st k => iter (slices_ContainsFunc_api_Platform_h i) (exec (slices_ContainsFunc_api_Platform_E N) N c i) N st k
theorem slices_ContainsFunc_api_Platform_core (N : Nat) (x : SV [.v (.sl (.pr .str (.sl (.pr .str .str)))), .v (.clo 61 (.pr (.ptr (.pr .str (.sl (.pr .str .str)))) .un))]) (y : BV []) : runL (slices_ContainsFunc_api_Platform_E N) Tryd.f60 (slices_ContainsFunc_api_Platform_sg fun x _ => slices_ContainsFunc_api_Platform N x.1 x.2.1) slices_ContainsFunc_api_Platform_pk (slices_ContainsFunc_api_Platform_LP N) x y = slices_ContainsFunc_api_Platform N x.1 x.2.1 := by kernel_rfl
theorem slices_ContainsFunc_api_Platform_sound (N : Nat) : Sound Tryd.prog GW B0G 60 (slices_ContainsFunc_api_Platform_sg fun x _ => slices_ContainsFunc_api_Platform N x.1 x.2.1) :=
  runD_sound (mkE_ok slices_ContainsFunc_api_Platform_h (slices_ContainsFunc_api_Platform_fn N) _ _ (slices_ContainsFunc_api_Platform_fn_ok N)) Tryd.func60 rfl Tryd.call60 (slices_ContainsFunc_api_Platform_sg fun x _ => slices_ContainsFunc_api_Platform N x.1 x.2.1) slices_ContainsFunc_api_Platform_pk (fun _ _ => rfl) N (fun x y _ h => ((runL_eq (slices_ContainsFunc_api_Platform_E N) N Tryd.f60 (slices_ContainsFunc_api_Platform_sg fun x _ => slices_ContainsFunc_api_Platform N x.1 x.2.1) slices_ContainsFunc_api_Platform_pk (slices_ContainsFunc_api_Platform_LP N) (show LoopsOk (slices_ContainsFunc_api_Platform_LP N) (slices_ContainsFunc_api_Platform_E N) N (resD (slices_ContainsFunc_api_Platform_E N) Tryd.f60 (slices_ContainsFunc_api_Platform_sg fun x _ => slices_ContainsFunc_api_Platform N x.1 x.2.1) slices_ContainsFunc_api_Platform_pk) [] from trivial) x y).trans (slices_ContainsFunc_api_Platform_core N x y)).trans h)
def config_CheckPlatforms_L0T (N : Nat) (x0 : List (Str × List (Str × Str))) (c9 : List (Str × List (Str × Str))) (c10 : Int) (k0 : Option Int) (self : Int → Option Int) (s11 : Int) : Option Int :=
  br (decide (s11 < c10))
    (bnd (geti c9 s11) fun t14 =>
    bnd (config_IsWord N t14.1) fun t18 =>
    br (!t18)
      (some (5 : Int))
      (bnd (config_CheckPairs N t14.2) fun t22 =>
      br (t22 != (0 : Int))
        (some t22)
        (bnd (slc x0 (0 : Int) s11) fun t28 =>
        bnd (slices_ContainsFunc_api_Platform N t28 (t14, ())) fun t30 =>
        br (t30)
          (some (7 : Int))
          (self (IntKind.i64.wrap (s11 + (1 : Int)))))))
    (k0)
def config_CheckPlatforms_L0 (N : Nat) (x0 : List (Str × List (Str × Str))) (c9 : List (Str × List (Str × Str))) (c10 : Int) (k0 : Option Int) : Nat → Int → Option Int
  | 0, _ => none
  | n + 1, s11 => config_CheckPlatforms_L0T N x0 c9 c10 k0 (config_CheckPlatforms_L0 N x0 c9 c10 k0 n) s11
def config_CheckPlatforms (N : Nat) (x0 : List (Str × List (Str × Str))) : Option Int :=
  br (decide ((x0.length : Int) > (50 : Int)))
    (some (2 : Int))
    (config_CheckPlatforms_L0 N x0 x0 (x0.length : Int) (some (0 : Int)) N (0 : Int))
abbrev config_CheckPlatforms_sg (f : SV [.v (.sl (.pr .str (.sl (.pr .str .str))))] → BV [] → Option (Int)) : AF := { ps := [.v (.sl (.pr .str (.sl (.pr .str .str))))], bs := [], rs := [.v (.int .i64)], cs := [], R := Int, out := fun z => ((z, ()), ()), f := f }
abbrev config_CheckPlatforms_pk : SV [.v (.int .i64)] → BV [] → Int := fun x _ => x.1
def config_CheckPlatforms_fn (N : Nat) : FuncId → Option Tmp → Option AF := fun f _ =>
  match f with
    | 53 => some (config_IsWord_sg fun x _ => config_IsWord N x.1)
    | 59 => some (config_CheckPairs_sg fun x _ => config_CheckPairs N x.1)
    | 60 => some (slices_ContainsFunc_api_Platform_sg fun x _ => slices_ContainsFunc_api_Platform N x.1 x.2.1)
    | 61 => some (noneAF [.v (.ptr (.pr .str (.sl (.pr .str .str))))])
    | _ => none
theorem config_CheckPlatforms_fn_ok (N : Nat) : ∀ f q F, config_CheckPlatforms_fn N f q = some F → Sound Tryd.prog GW B0G f F := by
  intro f q F h
  unfold config_CheckPlatforms_fn at h
  split at h
  · cases h; exact config_IsWord_sound N
  · cases h; exact config_CheckPairs_sound N
  · cases h; exact slices_ContainsFunc_api_Platform_sound N
  · cases h; exact noneAF_sound Tryd.call61 _
  · cases h
def config_CheckPlatforms_h : Nat → Hint := fun i =>
  match i with
  | 0 => ⟨[], [0, 9, 10, 11], [], [], [], []⟩
  | _ => ⟨[], [], [], [], [], []⟩
abbrev config_CheckPlatforms_E (N : Nat) : Env := mkE config_CheckPlatforms_h (config_CheckPlatforms_fn N) (fun _ => false) (fun _ => false)
abbrev config_CheckPlatforms_L0_fs : List (Nat × Sl) := [(0, .v (.sl (.pr .str (.sl (.pr .str .str))))), (9, .v (.sl (.pr .str (.sl (.pr .str .str))))), (10, .v (.int .i64)), (11, .v (.int .i64))]
abbrev config_CheckPlatforms_L0_bs : List (Nat × Sb) := []
def config_CheckPlatforms_L0_hd (x0 : List (Str × List (Str × Str))) (c9 : List (Str × List (Str × Str))) (c10 : Int) (s11 : Int) : St := ⟨32, [(0, .v (.sl (.pr .str (.sl (.pr .str .str)))) x0), (9, .v (.sl (.pr .str (.sl (.pr .str .str)))) c9), (10, .v (.int .i64) c10), (11, .v (.int .i64) s11)], []⟩
def config_CheckPlatforms_L0_tl0 (_x0 : List (Str × List (Str × Str))) (_c9 : List (Str × List (Str × Str))) (_c10 : Int) : St := ⟨32, [], []⟩
def config_CheckPlatforms_L0_G (N : Nat) (x0 : List (Str × List (Str × Str))) (c9 : List (Str × List (Str × Str))) (c10 : Int) (s11 : Int) (k : Ex → St → Option Int) : Option Int :=
  config_CheckPlatforms_L0 N x0 c9 c10 (k (.exit 0) (config_CheckPlatforms_L0_tl0 x0 c9 c10)) N s11
abbrev config_CheckPlatforms_L0_F (N : Nat) : FV config_CheckPlatforms_L0_fs → HV config_CheckPlatforms_L0_bs → (Ex → St → Option Int) → Option Int := fun x _ k => config_CheckPlatforms_L0_G N x.1 x.2.1 x.2.2.1 x.2.2.2.1 k
noncomputable def config_CheckPlatforms_LP (N : Nat) : Nat → Code → St → (Ex → St → Option Int) → Option Int := fun i c =>
  match i with
  | 0 => (LPc 32 config_CheckPlatforms_L0_fs config_CheckPlatforms_L0_bs (config_CheckPlatforms_L0_F N) (fun st k => iter (config_CheckPlatforms_h 0) (exec (config_CheckPlatforms_E N) N c 0) N st k))
  | i => fun st k => iter (config_CheckPlatforms_h i) (exec (config_CheckPlatforms_E N) N c i) N st k
theorem config_CheckPlatforms_L0_step (N : Nat) (x0 : List (Str × List (Str × Str))) (c9 : List (Str × List (Str × Str))) (c10 : Int) (KX : Nat → St → Option Int) (I : St → Option Int) (s11 : Int) :
    execL (config_CheckPlatforms_LP N) (config_CheckPlatforms_E N) (cAt (bodyOf Tryd.f23) [true, true, false, true, false, false]) 0 (config_CheckPlatforms_L0_hd x0 c9 c10 s11) (roundK (config_CheckPlatforms_h 0) I KX (resD (config_CheckPlatforms_E N) Tryd.f23 (config_CheckPlatforms_sg fun x _ => config_CheckPlatforms N x.1) config_CheckPlatforms_pk)) = config_CheckPlatforms_L0T N x0 c9 c10 (KX 0 (config_CheckPlatforms_L0_tl0 x0 c9 c10)) (fun s11 => I (config_CheckPlatforms_L0_hd x0 c9 c10 s11)) s11 := by kernel_rfl
theorem config_CheckPlatforms_L0_ok (N : Nat) : ∀ x y k, (∀ st, k .ret st = (resD (config_CheckPlatforms_E N) Tryd.f23 (config_CheckPlatforms_sg fun x _ => config_CheckPlatforms N x.1) config_CheckPlatforms_pk) st) → iter (config_CheckPlatforms_h 0) (exec (config_CheckPlatforms_E N) N (cAt (bodyOf Tryd.f23) [true, true, false, true, false, false]) 0) N ⟨32, unF config_CheckPlatforms_L0_fs x, unH config_CheckPlatforms_L0_bs y⟩ k = config_CheckPlatforms_L0_F N x y k := fun x _ k hk =>
  iter_link (S := (Int) × Unit) (config_CheckPlatforms_h 0) _ (execL (config_CheckPlatforms_LP N) (config_CheckPlatforms_E N) (cAt (bodyOf Tryd.f23) [true, true, false, true, false, false]) 0) (resD (config_CheckPlatforms_E N) Tryd.f23 (config_CheckPlatforms_sg fun x _ => config_CheckPlatforms N x.1) config_CheckPlatforms_pk) (fun st k hk => execL_eq _ _ N _ (cAt (bodyOf Tryd.f23) [true, true, false, true, false, false]) 0 (show LoopsOk (config_CheckPlatforms_LP N) (config_CheckPlatforms_E N) N (resD (config_CheckPlatforms_E N) Tryd.f23 (config_CheckPlatforms_sg fun x _ => config_CheckPlatforms N x.1) config_CheckPlatforms_pk) [] from trivial) st k hk) (fun s => config_CheckPlatforms_L0_hd x.1 x.2.1 x.2.2.1 s.1) k hk
    (fun self s => config_CheckPlatforms_L0T N x.1 x.2.1 x.2.2.1 (k (.exit 0) (config_CheckPlatforms_L0_tl0 x.1 x.2.1 x.2.2.1)) (fun s11 => self (s11, ())) s.1) (fun n s => config_CheckPlatforms_L0 N x.1 x.2.1 x.2.2.1 (k (.exit 0) (config_CheckPlatforms_L0_tl0 x.1 x.2.1 x.2.2.1)) n s.1) (fun _ => rfl) (fun _ _ => rfl)
    (fun I s => config_CheckPlatforms_L0_step N x.1 x.2.1 x.2.2.1 (fun j => k (.exit j)) I s.1) N (x.2.2.2.1, ())
theorem config_CheckPlatforms_lp0 (N : Nat) : ∀ st k, (∀ st, k .ret st = (resD (config_CheckPlatforms_E N) Tryd.f23 (config_CheckPlatforms_sg fun x _ => config_CheckPlatforms N x.1) config_CheckPlatforms_pk) st) → config_CheckPlatforms_LP N 0 (cAt (bodyOf Tryd.f23) [true, true, false, true, false, false]) st k = iter (Env.hint (config_CheckPlatforms_E N) 0) (exec (config_CheckPlatforms_E N) N (cAt (bodyOf Tryd.f23) [true, true, false, true, false, false]) 0) N st k := fun st k hk => LPc_eq 32 config_CheckPlatforms_L0_fs config_CheckPlatforms_L0_bs _ _ (resD (config_CheckPlatforms_E N) Tryd.f23 (config_CheckPlatforms_sg fun x _ => config_CheckPlatforms N x.1) config_CheckPlatforms_pk) (config_CheckPlatforms_L0_ok N) _ st k hk (rfl)
theorem config_CheckPlatforms_core (N : Nat) (x : SV [.v (.sl (.pr .str (.sl (.pr .str .str))))]) (y : BV []) : runL (config_CheckPlatforms_E N) Tryd.f23 (config_CheckPlatforms_sg fun x _ => config_CheckPlatforms N x.1) config_CheckPlatforms_pk (config_CheckPlatforms_LP N) x y = config_CheckPlatforms N x.1 := by kernel_rfl
theorem config_CheckPlatforms_sound (N : Nat) : Sound Tryd.prog GW B0G 23 (config_CheckPlatforms_sg fun x _ => config_CheckPlatforms N x.1) :=
  runD_sound (mkE_ok config_CheckPlatforms_h (config_CheckPlatforms_fn N) _ _ (config_CheckPlatforms_fn_ok N)) Tryd.func23 rfl Tryd.call23 (config_CheckPlatforms_sg fun x _ => config_CheckPlatforms N x.1) config_CheckPlatforms_pk (fun _ _ => rfl) N (fun x y _ h => ((runL_eq (config_CheckPlatforms_E N) N Tryd.f23 (config_CheckPlatforms_sg fun x _ => config_CheckPlatforms N x.1) config_CheckPlatforms_pk (config_CheckPlatforms_LP N) (show LoopsOk (config_CheckPlatforms_LP N) (config_CheckPlatforms_E N) N (resD (config_CheckPlatforms_E N) Tryd.f23 (config_CheckPlatforms_sg fun x _ => config_CheckPlatforms N x.1) config_CheckPlatforms_pk) [(0, (cAt (bodyOf Tryd.f23) [true, true, false, true, false, false]))] from ⟨config_CheckPlatforms_lp0 N, trivial⟩) x y).trans (config_CheckPlatforms_core N x y)).trans h)
def slices_Index_api_Pair_L0T (_N : Nat) (x0 : List (Str × Str)) (c7 : Int) (c1003_0 : Str) (c1003_1 : Str) (k0 : Option Int) (self : Int → Option Int) (s8 : Int) : Option Int :=
  br (decide (s8 < c7))
    (bnd (geti x0 s8) fun t14 =>
    br (eqb (.pr .str .str) (c1003_0, c1003_1) t14)
      (some s8)
      (self (IntKind.i64.wrap (s8 + (1 : Int)))))
    (k0)
def slices_Index_api_Pair_L0 (N : Nat) (x0 : List (Str × Str)) (c7 : Int) (c1003_0 : Str) (c1003_1 : Str) (k0 : Option Int) : Nat → Int → Option Int
  | 0, _ => none
  | n + 1, s8 => slices_Index_api_Pair_L0T N x0 c7 c1003_0 c1003_1 k0 (slices_Index_api_Pair_L0 N x0 c7 c1003_0 c1003_1 k0 n) s8
def slices_Index_api_Pair (N : Nat) (x0 : List (Str × Str)) (x1 : Str × Str) : Option Int :=
  slices_Index_api_Pair_L0 N x0 (x0.length : Int) x1.1 x1.2 (some (-1 : Int)) N (0 : Int)
abbrev slices_Index_api_Pair_sg (f : SV [.v (.sl (.pr .str .str)), .v (.pr .str .str)] → BV [] → Option (Int)) : AF := { ps := [.v (.sl (.pr .str .str)), .v (.pr .str .str)], bs := [], rs := [.v (.int .i64)], cs := [], R := Int, out := fun z => ((z, ()), ()), f := f }
abbrev slices_Index_api_Pair_pk : SV [.v (.int .i64)] → BV [] → Int := fun x _ => x.1
def slices_Index_api_Pair_fn (_N : Nat) : FuncId → Option Tmp → Option AF := fun f _ =>
  match f with
    | _ => none
theorem slices_Index_api_Pair_fn_ok (N : Nat) : ∀ f q F, slices_Index_api_Pair_fn N f q = some F → Sound Tryd.prog GW B0G f F := by
  intro f q F h
  unfold slices_Index_api_Pair_fn at h
  split at h
  · cases h
def slices_Index_api_Pair_h : Nat → Hint := fun i =>
  match i with
  | 0 => ⟨[], [0, 3, 7, 8], [1003], [], [], []⟩
  | _ => ⟨[], [], [], [], [], []⟩
abbrev slices_Index_api_Pair_E (N : Nat) : Env := mkE slices_Index_api_Pair_h (slices_Index_api_Pair_fn N) (fun _ => false) (fun _ => false)
abbrev slices_Index_api_Pair_L0_fs : List (Nat × Sl) := [(0, .v (.sl (.pr .str .str))), (3, .box 1003 0), (7, .v (.int .i64)), (8, .v (.int .i64))]
abbrev slices_Index_api_Pair_L0_bs : List (Nat × Sb) := [(1003, .cells [.v .str, .v .str])]
def slices_Index_api_Pair_L0_hd (x0 : List (Str × Str)) (c7 : Int) (c1003_0 : Str) (c1003_1 : Str) (s8 : Int) : St := ⟨19, [(0, .v (.sl (.pr .str .str)) x0), (3, .box 1003 0), (7, .v (.int .i64) c7), (8, .v (.int .i64) s8)], [(1003, .cells [.v .str c1003_0, .v .str c1003_1])]⟩
def slices_Index_api_Pair_L0_tl0 (_x0 : List (Str × Str)) (_c7 : Int) (_c1003_0 : Str) (_c1003_1 : Str) : St := ⟨19, [], []⟩
def slices_Index_api_Pair_L0_G (N : Nat) (x0 : List (Str × Str)) (c7 : Int) (c1003_0 : Str) (c1003_1 : Str) (s8 : Int) (k : Ex → St → Option Int) : Option Int :=
  slices_Index_api_Pair_L0 N x0 c7 c1003_0 c1003_1 (k (.exit 0) (slices_Index_api_Pair_L0_tl0 x0 c7 c1003_0 c1003_1)) N s8
abbrev slices_Index_api_Pair_L0_F (N : Nat) : FV slices_Index_api_Pair_L0_fs → HV slices_Index_api_Pair_L0_bs → (Ex → St → Option Int) → Option Int := fun x y k => slices_Index_api_Pair_L0_G N x.1 x.2.2.1 y.1.1 y.1.2.1 x.2.2.2.1 k
noncomputable def slices_Index_api_Pair_LP (N : Nat) : Nat → Code → St → (Ex → St → Option Int) → Option Int := fun i c =>
  match i with
  | 0 => (LPc 19 slices_Index_api_Pair_L0_fs slices_Index_api_Pair_L0_bs (slices_Index_api_Pair_L0_F N) (fun st k => iter (slices_Index_api_Pair_h 0) (exec (slices_Index_api_Pair_E N) N c 0) N st k))
  | i => fun st k => iter (slices_Index_api_Pair_h i) (exec (slices_Index_api_Pair_E N) N c i) N st k
theorem slices_Index_api_Pair_L0_step (N : Nat) (x0 : List (Str × Str)) (c7 : Int) (c1003_0 : Str) (c1003_1 : Str) (KX : Nat → St → Option Int) (I : St → Option Int) (s8 : Int) :
    execL (slices_Index_api_Pair_LP N) (slices_Index_api_Pair_E N) (cAt (bodyOf Tryd.f158) [true, false, true, false, false]) 0 (slices_Index_api_Pair_L0_hd x0 c7 c1003_0 c1003_1 s8) (roundK (slices_Index_api_Pair_h 0) I KX (resD (slices_Index_api_Pair_E N) Tryd.f158 (slices_Index_api_Pair_sg fun x _ => slices_Index_api_Pair N x.1 x.2.1) slices_Index_api_Pair_pk)) = slices_Index_api_Pair_L0T N x0 c7 c1003_0 c1003_1 (KX 0 (slices_Index_api_Pair_L0_tl0 x0 c7 c1003_0 c1003_1)) (fun s8 => I (slices_Index_api_Pair_L0_hd x0 c7 c1003_0 c1003_1 s8)) s8 := by kernel_rfl
theorem slices_Index_api_Pair_L0_ok (N : Nat) : ∀ x y k, (∀ st, k .ret st = (resD (slices_Index_api_Pair_E N) Tryd.f158 (slices_Index_api_Pair_sg fun x _ => slices_Index_api_Pair N x.1 x.2.1) slices_Index_api_Pair_pk) st) → iter (slices_Index_api_Pair_h 0) (exec (slices_Index_api_Pair_E N) N (cAt (bodyOf Tryd.f158) [true, false, true, false, false]) 0) N ⟨19, unF slices_Index_api_Pair_L0_fs x, unH slices_Index_api_Pair_L0_bs y⟩ k = slices_Index_api_Pair_L0_F N x y k := fun x y k hk =>
  iter_link (S := (Int) × Unit) (slices_Index_api_Pair_h 0) _ (execL (slices_Index_api_Pair_LP N) (slices_Index_api_Pair_E N) (cAt (bodyOf Tryd.f158) [true, false, true, false, false]) 0) (resD (slices_Index_api_Pair_E N) Tryd.f158 (slices_Index_api_Pair_sg fun x _ => slices_Index_api_Pair N x.1 x.2.1) slices_Index_api_Pair_pk) (fun st k hk => execL_eq _ _ N _ (cAt (bodyOf Tryd.f158) [true, false, true, false, false]) 0 (show LoopsOk (slices_Index_api_Pair_LP N) (slices_Index_api_Pair_E N) N (resD (slices_Index_api_Pair_E N) Tryd.f158 (slices_Index_api_Pair_sg fun x _ => slices_Index_api_Pair N x.1 x.2.1) slices_Index_api_Pair_pk) [] from trivial) st k hk) (fun s => slices_Index_api_Pair_L0_hd x.1 x.2.2.1 y.1.1 y.1.2.1 s.1) k hk
    (fun self s => slices_Index_api_Pair_L0T N x.1 x.2.2.1 y.1.1 y.1.2.1 (k (.exit 0) (slices_Index_api_Pair_L0_tl0 x.1 x.2.2.1 y.1.1 y.1.2.1)) (fun s8 => self (s8, ())) s.1) (fun n s => slices_Index_api_Pair_L0 N x.1 x.2.2.1 y.1.1 y.1.2.1 (k (.exit 0) (slices_Index_api_Pair_L0_tl0 x.1 x.2.2.1 y.1.1 y.1.2.1)) n s.1) (fun _ => rfl) (fun _ _ => rfl)
    (fun I s => slices_Index_api_Pair_L0_step N x.1 x.2.2.1 y.1.1 y.1.2.1 (fun j => k (.exit j)) I s.1) N (x.2.2.2.1, ())
theorem slices_Index_api_Pair_lp0 (N : Nat) : ∀ st k, (∀ st, k .ret st = (resD (slices_Index_api_Pair_E N) Tryd.f158 (slices_Index_api_Pair_sg fun x _ => slices_Index_api_Pair N x.1 x.2.1) slices_Index_api_Pair_pk) st) → slices_Index_api_Pair_LP N 0 (cAt (bodyOf Tryd.f158) [true, false, true, false, false]) st k = iter (Env.hint (slices_Index_api_Pair_E N) 0) (exec (slices_Index_api_Pair_E N) N (cAt (bodyOf Tryd.f158) [true, false, true, false, false]) 0) N st k := fun st k hk => LPc_eq 19 slices_Index_api_Pair_L0_fs slices_Index_api_Pair_L0_bs _ _ (resD (slices_Index_api_Pair_E N) Tryd.f158 (slices_Index_api_Pair_sg fun x _ => slices_Index_api_Pair N x.1 x.2.1) slices_Index_api_Pair_pk) (slices_Index_api_Pair_L0_ok N) _ st k hk (rfl)
theorem slices_Index_api_Pair_core (N : Nat) (x : SV [.v (.sl (.pr .str .str)), .v (.pr .str .str)]) (y : BV []) : runL (slices_Index_api_Pair_E N) Tryd.f158 (slices_Index_api_Pair_sg fun x _ => slices_Index_api_Pair N x.1 x.2.1) slices_Index_api_Pair_pk (slices_Index_api_Pair_LP N) x y = slices_Index_api_Pair N x.1 x.2.1 := by kernel_rfl
theorem slices_Index_api_Pair_sound (N : Nat) : Sound Tryd.prog GW B0G 158 (slices_Index_api_Pair_sg fun x _ => slices_Index_api_Pair N x.1 x.2.1) :=
  runD_sound (mkE_ok slices_Index_api_Pair_h (slices_Index_api_Pair_fn N) _ _ (slices_Index_api_Pair_fn_ok N)) Tryd.func158 rfl Tryd.call158 (slices_Index_api_Pair_sg fun x _ => slices_Index_api_Pair N x.1 x.2.1) slices_Index_api_Pair_pk (fun _ _ => rfl) N (fun x y _ h => ((runL_eq (slices_Index_api_Pair_E N) N Tryd.f158 (slices_Index_api_Pair_sg fun x _ => slices_Index_api_Pair N x.1 x.2.1) slices_Index_api_Pair_pk (slices_Index_api_Pair_LP N) (show LoopsOk (slices_Index_api_Pair_LP N) (slices_Index_api_Pair_E N) N (resD (slices_Index_api_Pair_E N) Tryd.f158 (slices_Index_api_Pair_sg fun x _ => slices_Index_api_Pair N x.1 x.2.1) slices_Index_api_Pair_pk) [(0, (cAt (bodyOf Tryd.f158) [true, false, true, false, false]))] from ⟨slices_Index_api_Pair_lp0 N, trivial⟩) x y).trans (slices_Index_api_Pair_core N x y)).trans h)
def slices_Contains_api_Pair (N : Nat) (x0 : List (Str × Str)) (x1 : Str × Str) : Option Bool :=
  bnd (slices_Index_api_Pair N x0 x1) fun t7 =>
  some (decide (t7 ≥ (0 : Int)))
abbrev slices_Contains_api_Pair_sg (f : SV [.v (.sl (.pr .str .str)), .v (.pr .str .str)] → BV [] → Option (Bool)) : AF := { ps := [.v (.sl (.pr .str .str)), .v (.pr .str .str)], bs := [], rs := [.v .bool], cs := [], R := Bool, out := fun z => ((z, ()), ()), f := f }
abbrev slices_Contains_api_Pair_pk : SV [.v .bool] → BV [] → Bool := fun x _ => x.1
def slices_Contains_api_Pair_fn (N : Nat) : FuncId → Option Tmp → Option AF := fun f _ =>
  match f with
    | 158 => some (slices_Index_api_Pair_sg fun x _ => slices_Index_api_Pair N x.1 x.2.1)
    | _ => none
theorem slices_Contains_api_Pair_fn_ok (N : Nat) : ∀ f q F, slices_Contains_api_Pair_fn N f q = some F → Sound Tryd.prog GW B0G f F := by
  intro f q F h
  unfold slices_Contains_api_Pair_fn at h
  split at h
  · cases h; exact slices_Index_api_Pair_sound N
  · cases h
def slices_Contains_api_Pair_h : Nat → Hint := fun i =>
  match i with
  | _ => ⟨[], [], [], [], [], []⟩
abbrev slices_Contains_api_Pair_E (N : Nat) : Env := mkE slices_Contains_api_Pair_h (slices_Contains_api_Pair_fn N) (fun _ => false) (fun _ => false)
noncomputable def slices_Contains_api_Pair_LP (N : Nat) : Nat → Code → St → (Ex → St → Option Bool) → Option Bool := fun i c =>
  match i with
  | i => fun st k => iter (slices_Contains_api_Pair_h i) (exec (slices_Contains_api_Pair_E N) N c i) N st k
theorem slices_Contains_api_Pair_core (N : Nat) (x : SV [.v (.sl (.pr .str .str)), .v (.pr .str .str)]) (y : BV []) : runL (slices_Contains_api_Pair_E N) Tryd.f133 (slices_Contains_api_Pair_sg fun x _ => slices_Contains_api_Pair N x.1 x.2.1) slices_Contains_api_Pair_pk (slices_Contains_api_Pair_LP N) x y = slices_Contains_api_Pair N x.1 x.2.1 := by kernel_rfl
theorem slices_Contains_api_Pair_sound (N : Nat) : Sound Tryd.prog GW B0G 133 (slices_Contains_api_Pair_sg fun x _ => slices_Contains_api_Pair N x.1 x.2.1) :=
  runD_sound (mkE_ok slices_Contains_api_Pair_h (slices_Contains_api_Pair_fn N) _ _ (slices_Contains_api_Pair_fn_ok N)) Tryd.func133 rfl Tryd.call133 (slices_Contains_api_Pair_sg fun x _ => slices_Contains_api_Pair N x.1 x.2.1) slices_Contains_api_Pair_pk (fun _ _ => rfl) N (fun x y _ h => ((runL_eq (slices_Contains_api_Pair_E N) N Tryd.f133 (slices_Contains_api_Pair_sg fun x _ => slices_Contains_api_Pair N x.1 x.2.1) slices_Contains_api_Pair_pk (slices_Contains_api_Pair_LP N) (show LoopsOk (slices_Contains_api_Pair_LP N) (slices_Contains_api_Pair_E N) N (resD (slices_Contains_api_Pair_E N) Tryd.f133 (slices_Contains_api_Pair_sg fun x _ => slices_Contains_api_Pair N x.1 x.2.1) slices_Contains_api_Pair_pk) [] from trivial) x y).trans (slices_Contains_api_Pair_core N x y)).trans h)
def config_Fit_L0T (N : Nat) (x1 : List (Str × Str)) (x0 : List (Str × Str)) (c8 : Int) (k0 : Option Bool) (self : Int → Option Bool) (s9 : Int) : Option Bool :=
  br (decide (s9 < c8))
    (bnd (geti x0 s9) fun t11 =>
    bnd (slices_Contains_api_Pair N x1 t11) fun t15 =>
    br (!t15)
      (some false)
      (self (IntKind.i64.wrap (s9 + (1 : Int)))))
    (k0)
def config_Fit_L0 (N : Nat) (x1 : List (Str × Str)) (x0 : List (Str × Str)) (c8 : Int) (k0 : Option Bool) : Nat → Int → Option Bool
  | 0, _ => none
  | n + 1, s9 => config_Fit_L0T N x1 x0 c8 k0 (config_Fit_L0 N x1 x0 c8 k0 n) s9
def config_Fit (N : Nat) (x0 : List (Str × Str)) (x1 : List (Str × Str)) : Option Bool :=
  config_Fit_L0 N x1 x0 (x0.length : Int) (some true) N (0 : Int)
abbrev config_Fit_sg (f : SV [.v (.sl (.pr .str .str)), .v (.sl (.pr .str .str))] → BV [] → Option (Bool)) : AF := { ps := [.v (.sl (.pr .str .str)), .v (.sl (.pr .str .str))], bs := [], rs := [.v .bool], cs := [], R := Bool, out := fun z => ((z, ()), ()), f := f }
abbrev config_Fit_pk : SV [.v .bool] → BV [] → Bool := fun x _ => x.1
def config_Fit_fn (N : Nat) : FuncId → Option Tmp → Option AF := fun f _ =>
  match f with
    | 133 => some (slices_Contains_api_Pair_sg fun x _ => slices_Contains_api_Pair N x.1 x.2.1)
    | _ => none
theorem config_Fit_fn_ok (N : Nat) : ∀ f q F, config_Fit_fn N f q = some F → Sound Tryd.prog GW B0G f F := by
  intro f q F h
  unfold config_Fit_fn at h
  split at h
  · cases h; exact slices_Contains_api_Pair_sound N
  · cases h
def config_Fit_h : Nat → Hint := fun i =>
  match i with
  | 0 => ⟨[], [1, 7, 8, 9], [], [], [], []⟩
  | _ => ⟨[], [], [], [], [], []⟩
abbrev config_Fit_E (N : Nat) : Env := mkE config_Fit_h (config_Fit_fn N) (fun _ => false) (fun _ => false)
abbrev config_Fit_L0_fs : List (Nat × Sl) := [(1, .v (.sl (.pr .str .str))), (7, .v (.sl (.pr .str .str))), (8, .v (.int .i64)), (9, .v (.int .i64))]
abbrev config_Fit_L0_bs : List (Nat × Sb) := []
def config_Fit_L0_hd (x1 : List (Str × Str)) (x0 : List (Str × Str)) (c8 : Int) (s9 : Int) : St := ⟨18, [(1, .v (.sl (.pr .str .str)) x1), (7, .v (.sl (.pr .str .str)) x0), (8, .v (.int .i64) c8), (9, .v (.int .i64) s9)], []⟩
def config_Fit_L0_tl0 (_x1 : List (Str × Str)) (_x0 : List (Str × Str)) (_c8 : Int) : St := ⟨18, [], []⟩
def config_Fit_L0_G (N : Nat) (x1 : List (Str × Str)) (x0 : List (Str × Str)) (c8 : Int) (s9 : Int) (k : Ex → St → Option Bool) : Option Bool :=
  config_Fit_L0 N x1 x0 c8 (k (.exit 0) (config_Fit_L0_tl0 x1 x0 c8)) N s9
abbrev config_Fit_L0_F (N : Nat) : FV config_Fit_L0_fs → HV config_Fit_L0_bs → (Ex → St → Option Bool) → Option Bool := fun x _ k => config_Fit_L0_G N x.1 x.2.1 x.2.2.1 x.2.2.2.1 k
noncomputable def config_Fit_LP (N : Nat) : Nat → Code → St → (Ex → St → Option Bool) → Option Bool := fun i c =>
  match i with
  | 0 => (LPc 18 config_Fit_L0_fs config_Fit_L0_bs (config_Fit_L0_F N) (fun st k => iter (config_Fit_h 0) (exec (config_Fit_E N) N c 0) N st k))
  | i => fun st k => iter (config_Fit_h i) (exec (config_Fit_E N) N c i) N st k
theorem config_Fit_L0_step (N : Nat) (x1 : List (Str × Str)) (x0 : List (Str × Str)) (c8 : Int) (KX : Nat → St → Option Bool) (I : St → Option Bool) (s9 : Int) :
    execL (config_Fit_LP N) (config_Fit_E N) (cAt (bodyOf Tryd.f95) [true, false, true, false, false]) 0 (config_Fit_L0_hd x1 x0 c8 s9) (roundK (config_Fit_h 0) I KX (resD (config_Fit_E N) Tryd.f95 (config_Fit_sg fun x _ => config_Fit N x.1 x.2.1) config_Fit_pk)) = config_Fit_L0T N x1 x0 c8 (KX 0 (config_Fit_L0_tl0 x1 x0 c8)) (fun s9 => I (config_Fit_L0_hd x1 x0 c8 s9)) s9 := by kernel_rfl
theorem config_Fit_L0_ok (N : Nat) : ∀ x y k, (∀ st, k .ret st = (resD (config_Fit_E N) Tryd.f95 (config_Fit_sg fun x _ => config_Fit N x.1 x.2.1) config_Fit_pk) st) → iter (config_Fit_h 0) (exec (config_Fit_E N) N (cAt (bodyOf Tryd.f95) [true, false, true, false, false]) 0) N ⟨18, unF config_Fit_L0_fs x, unH config_Fit_L0_bs y⟩ k = config_Fit_L0_F N x y k := fun x _ k hk =>
  iter_link (S := (Int) × Unit) (config_Fit_h 0) _ (execL (config_Fit_LP N) (config_Fit_E N) (cAt (bodyOf Tryd.f95) [true, false, true, false, false]) 0) (resD (config_Fit_E N) Tryd.f95 (config_Fit_sg fun x _ => config_Fit N x.1 x.2.1) config_Fit_pk) (fun st k hk => execL_eq _ _ N _ (cAt (bodyOf Tryd.f95) [true, false, true, false, false]) 0 (show LoopsOk (config_Fit_LP N) (config_Fit_E N) N (resD (config_Fit_E N) Tryd.f95 (config_Fit_sg fun x _ => config_Fit N x.1 x.2.1) config_Fit_pk) [] from trivial) st k hk) (fun s => config_Fit_L0_hd x.1 x.2.1 x.2.2.1 s.1) k hk
    (fun self s => config_Fit_L0T N x.1 x.2.1 x.2.2.1 (k (.exit 0) (config_Fit_L0_tl0 x.1 x.2.1 x.2.2.1)) (fun s9 => self (s9, ())) s.1) (fun n s => config_Fit_L0 N x.1 x.2.1 x.2.2.1 (k (.exit 0) (config_Fit_L0_tl0 x.1 x.2.1 x.2.2.1)) n s.1) (fun _ => rfl) (fun _ _ => rfl)
    (fun I s => config_Fit_L0_step N x.1 x.2.1 x.2.2.1 (fun j => k (.exit j)) I s.1) N (x.2.2.2.1, ())
theorem config_Fit_lp0 (N : Nat) : ∀ st k, (∀ st, k .ret st = (resD (config_Fit_E N) Tryd.f95 (config_Fit_sg fun x _ => config_Fit N x.1 x.2.1) config_Fit_pk) st) → config_Fit_LP N 0 (cAt (bodyOf Tryd.f95) [true, false, true, false, false]) st k = iter (Env.hint (config_Fit_E N) 0) (exec (config_Fit_E N) N (cAt (bodyOf Tryd.f95) [true, false, true, false, false]) 0) N st k := fun st k hk => LPc_eq 18 config_Fit_L0_fs config_Fit_L0_bs _ _ (resD (config_Fit_E N) Tryd.f95 (config_Fit_sg fun x _ => config_Fit N x.1 x.2.1) config_Fit_pk) (config_Fit_L0_ok N) _ st k hk (rfl)
theorem config_Fit_core (N : Nat) (x : SV [.v (.sl (.pr .str .str)), .v (.sl (.pr .str .str))]) (y : BV []) : runL (config_Fit_E N) Tryd.f95 (config_Fit_sg fun x _ => config_Fit N x.1 x.2.1) config_Fit_pk (config_Fit_LP N) x y = config_Fit N x.1 x.2.1 := by kernel_rfl
theorem config_Fit_sound (N : Nat) : Sound Tryd.prog GW B0G 95 (config_Fit_sg fun x _ => config_Fit N x.1 x.2.1) :=
  runD_sound (mkE_ok config_Fit_h (config_Fit_fn N) _ _ (config_Fit_fn_ok N)) Tryd.func95 rfl Tryd.call95 (config_Fit_sg fun x _ => config_Fit N x.1 x.2.1) config_Fit_pk (fun _ _ => rfl) N (fun x y _ h => ((runL_eq (config_Fit_E N) N Tryd.f95 (config_Fit_sg fun x _ => config_Fit N x.1 x.2.1) config_Fit_pk (config_Fit_LP N) (show LoopsOk (config_Fit_LP N) (config_Fit_E N) N (resD (config_Fit_E N) Tryd.f95 (config_Fit_sg fun x _ => config_Fit N x.1 x.2.1) config_Fit_pk) [(0, (cAt (bodyOf Tryd.f95) [true, false, true, false, false]))] from ⟨config_Fit_lp0 N, trivial⟩) x y).trans (config_Fit_core N x y)).trans h)
def config_holds_L0T (N : Nat) (x0 : List (Str × List Str)) (x2 : List (Str × Str)) (c12 : List (Str × Str)) (c13 : Int) (k0 : Option Bool) (self : Int → Option Bool) (s14 : Int) : Option Bool :=
  br (decide (s14 < c13))
    (bnd (geti c12 s14) fun t16 =>
    bnd (config_valueOf N x0 x2 t16.1) fun t22 =>
    br (!(t22 == t16.2))
      (some false)
      (self (IntKind.i64.wrap (s14 + (1 : Int)))))
    (k0)
def config_holds_L0 (N : Nat) (x0 : List (Str × List Str)) (x2 : List (Str × Str)) (c12 : List (Str × Str)) (c13 : Int) (k0 : Option Bool) : Nat → Int → Option Bool
  | 0, _ => none
  | n + 1, s14 => config_holds_L0T N x0 x2 c12 c13 k0 (config_holds_L0 N x0 x2 c12 c13 k0 n) s14
def config_holds (N : Nat) (x0 : List (Str × List Str)) (x1 : Str × List (Str × Str) × List (Str × Str)) (x2 : List (Str × Str)) (x3 : Str × List (Str × Str)) : Option Bool :=
  config_holds_L0 N x0 x2 x1.2.1 (x1.2.1.length : Int) (bnd (config_Fit N x1.2.2 x3.2) fun t31 =>
      some t31) N (0 : Int)
abbrev config_holds_sg (f : SV [.v (.sl (.pr .str (.sl .str))), .v (.pr .str (.pr (.sl (.pr .str .str)) (.sl (.pr .str .str)))), .v (.sl (.pr .str .str)), .v (.pr .str (.sl (.pr .str .str)))] → BV [] → Option (Bool)) : AF := { ps := [.v (.sl (.pr .str (.sl .str))), .v (.pr .str (.pr (.sl (.pr .str .str)) (.sl (.pr .str .str)))), .v (.sl (.pr .str .str)), .v (.pr .str (.sl (.pr .str .str)))], bs := [], rs := [.v .bool], cs := [], R := Bool, out := fun z => ((z, ()), ()), f := f }
abbrev config_holds_pk : SV [.v .bool] → BV [] → Bool := fun x _ => x.1
def config_holds_fn (N : Nat) : FuncId → Option Tmp → Option AF := fun f _ =>
  match f with
    | 50 => some (config_valueOf_sg fun x _ => config_valueOf N x.1 x.2.1 x.2.2.1)
    | 95 => some (config_Fit_sg fun x _ => config_Fit N x.1 x.2.1)
    | _ => none
theorem config_holds_fn_ok (N : Nat) : ∀ f q F, config_holds_fn N f q = some F → Sound Tryd.prog GW B0G f F := by
  intro f q F h
  unfold config_holds_fn at h
  split at h
  · cases h; exact config_valueOf_sound N
  · cases h; exact config_Fit_sound N
  · cases h
def config_holds_h : Nat → Hint := fun i =>
  match i with
  | 0 => ⟨[], [0, 2, 5, 7, 12, 13, 14], [1005, 1007], [5, 7], [1005, 1007], []⟩
  | _ => ⟨[], [], [], [], [], []⟩
abbrev config_holds_E (N : Nat) : Env := mkE config_holds_h (config_holds_fn N) (fun _ => false) (fun _ => false)
abbrev config_holds_L0_fs : List (Nat × Sl) := [(0, .v (.sl (.pr .str (.sl .str)))), (2, .v (.sl (.pr .str .str))), (5, .box 1005 0), (7, .box 1007 0), (12, .v (.sl (.pr .str .str))), (13, .v (.int .i64)), (14, .v (.int .i64))]
abbrev config_holds_L0_bs : List (Nat × Sb) := [(1005, .cells [.v .str, .v (.sl (.pr .str .str)), .v (.sl (.pr .str .str))]), (1007, .cells [.v .str, .v (.sl (.pr .str .str))])]
def config_holds_L0_hd (x0 : List (Str × List Str)) (x2 : List (Str × Str)) (c12 : List (Str × Str)) (c13 : Int) (c1005_0 : Str) (c1005_1 : List (Str × Str)) (c1005_2 : List (Str × Str)) (c1007_0 : Str) (c1007_1 : List (Str × Str)) (s14 : Int) : St := ⟨32, [(0, .v (.sl (.pr .str (.sl .str))) x0), (2, .v (.sl (.pr .str .str)) x2), (5, .box 1005 0), (7, .box 1007 0), (12, .v (.sl (.pr .str .str)) c12), (13, .v (.int .i64) c13), (14, .v (.int .i64) s14)], [(1005, .cells [.v .str c1005_0, .v (.sl (.pr .str .str)) c1005_1, .v (.sl (.pr .str .str)) c1005_2]), (1007, .cells [.v .str c1007_0, .v (.sl (.pr .str .str)) c1007_1])]⟩
def config_holds_L0_tl0 (_x0 : List (Str × List Str)) (_x2 : List (Str × Str)) (_c12 : List (Str × Str)) (_c13 : Int) (c1005_0 : Str) (c1005_1 : List (Str × Str)) (c1005_2 : List (Str × Str)) (c1007_0 : Str) (c1007_1 : List (Str × Str)) : St := ⟨32, [(5, .box 1005 0), (7, .box 1007 0)], [(1005, .cells [.v .str c1005_0, .v (.sl (.pr .str .str)) c1005_1, .v (.sl (.pr .str .str)) c1005_2]), (1007, .cells [.v .str c1007_0, .v (.sl (.pr .str .str)) c1007_1])]⟩
def config_holds_L0_G (N : Nat) (x0 : List (Str × List Str)) (x2 : List (Str × Str)) (c12 : List (Str × Str)) (c13 : Int) (c1005_0 : Str) (c1005_1 : List (Str × Str)) (c1005_2 : List (Str × Str)) (c1007_0 : Str) (c1007_1 : List (Str × Str)) (s14 : Int) (k : Ex → St → Option Bool) : Option Bool :=
  config_holds_L0 N x0 x2 c12 c13 (k (.exit 0) (config_holds_L0_tl0 x0 x2 c12 c13 c1005_0 c1005_1 c1005_2 c1007_0 c1007_1)) N s14
abbrev config_holds_L0_F (N : Nat) : FV config_holds_L0_fs → HV config_holds_L0_bs → (Ex → St → Option Bool) → Option Bool := fun x y k => config_holds_L0_G N x.1 x.2.1 x.2.2.2.2.1 x.2.2.2.2.2.1 y.1.1 y.1.2.1 y.1.2.2.1 y.2.1.1 y.2.1.2.1 x.2.2.2.2.2.2.1 k
noncomputable def config_holds_LP (N : Nat) : Nat → Code → St → (Ex → St → Option Bool) → Option Bool := fun i c =>
  match i with
  | 0 => (LPc 32 config_holds_L0_fs config_holds_L0_bs (config_holds_L0_F N) (fun st k => iter (config_holds_h 0) (exec (config_holds_E N) N c 0) N st k))
  | i => fun st k => iter (config_holds_h i) (exec (config_holds_E N) N c i) N st k
theorem config_holds_L0_step (N : Nat) (x0 : List (Str × List Str)) (x2 : List (Str × Str)) (c12 : List (Str × Str)) (c13 : Int) (c1005_0 : Str) (c1005_1 : List (Str × Str)) (c1005_2 : List (Str × Str)) (c1007_0 : Str) (c1007_1 : List (Str × Str)) (KX : Nat → St → Option Bool) (I : St → Option Bool) (s14 : Int) :
    execL (config_holds_LP N) (config_holds_E N) (cAt (bodyOf Tryd.f57) [true, false, true, false, false]) 0 (config_holds_L0_hd x0 x2 c12 c13 c1005_0 c1005_1 c1005_2 c1007_0 c1007_1 s14) (roundK (config_holds_h 0) I KX (resD (config_holds_E N) Tryd.f57 (config_holds_sg fun x _ => config_holds N x.1 x.2.1 x.2.2.1 x.2.2.2.1) config_holds_pk)) = config_holds_L0T N x0 x2 c12 c13 (KX 0 (config_holds_L0_tl0 x0 x2 c12 c13 c1005_0 c1005_1 c1005_2 c1007_0 c1007_1)) (fun s14 => I (config_holds_L0_hd x0 x2 c12 c13 c1005_0 c1005_1 c1005_2 c1007_0 c1007_1 s14)) s14 := by kernel_rfl
theorem config_holds_L0_ok (N : Nat) : ∀ x y k, (∀ st, k .ret st = (resD (config_holds_E N) Tryd.f57 (config_holds_sg fun x _ => config_holds N x.1 x.2.1 x.2.2.1 x.2.2.2.1) config_holds_pk) st) → iter (config_holds_h 0) (exec (config_holds_E N) N (cAt (bodyOf Tryd.f57) [true, false, true, false, false]) 0) N ⟨32, unF config_holds_L0_fs x, unH config_holds_L0_bs y⟩ k = config_holds_L0_F N x y k := fun x y k hk =>
  iter_link (S := (Int) × Unit) (config_holds_h 0) _ (execL (config_holds_LP N) (config_holds_E N) (cAt (bodyOf Tryd.f57) [true, false, true, false, false]) 0) (resD (config_holds_E N) Tryd.f57 (config_holds_sg fun x _ => config_holds N x.1 x.2.1 x.2.2.1 x.2.2.2.1) config_holds_pk) (fun st k hk => execL_eq _ _ N _ (cAt (bodyOf Tryd.f57) [true, false, true, false, false]) 0 (show LoopsOk (config_holds_LP N) (config_holds_E N) N (resD (config_holds_E N) Tryd.f57 (config_holds_sg fun x _ => config_holds N x.1 x.2.1 x.2.2.1 x.2.2.2.1) config_holds_pk) [] from trivial) st k hk) (fun s => config_holds_L0_hd x.1 x.2.1 x.2.2.2.2.1 x.2.2.2.2.2.1 y.1.1 y.1.2.1 y.1.2.2.1 y.2.1.1 y.2.1.2.1 s.1) k hk
    (fun self s => config_holds_L0T N x.1 x.2.1 x.2.2.2.2.1 x.2.2.2.2.2.1 (k (.exit 0) (config_holds_L0_tl0 x.1 x.2.1 x.2.2.2.2.1 x.2.2.2.2.2.1 y.1.1 y.1.2.1 y.1.2.2.1 y.2.1.1 y.2.1.2.1)) (fun s14 => self (s14, ())) s.1) (fun n s => config_holds_L0 N x.1 x.2.1 x.2.2.2.2.1 x.2.2.2.2.2.1 (k (.exit 0) (config_holds_L0_tl0 x.1 x.2.1 x.2.2.2.2.1 x.2.2.2.2.2.1 y.1.1 y.1.2.1 y.1.2.2.1 y.2.1.1 y.2.1.2.1)) n s.1) (fun _ => rfl) (fun _ _ => rfl)
    (fun I s => config_holds_L0_step N x.1 x.2.1 x.2.2.2.2.1 x.2.2.2.2.2.1 y.1.1 y.1.2.1 y.1.2.2.1 y.2.1.1 y.2.1.2.1 (fun j => k (.exit j)) I s.1) N (x.2.2.2.2.2.2.1, ())
theorem config_holds_lp0 (N : Nat) : ∀ st k, (∀ st, k .ret st = (resD (config_holds_E N) Tryd.f57 (config_holds_sg fun x _ => config_holds N x.1 x.2.1 x.2.2.1 x.2.2.2.1) config_holds_pk) st) → config_holds_LP N 0 (cAt (bodyOf Tryd.f57) [true, false, true, false, false]) st k = iter (Env.hint (config_holds_E N) 0) (exec (config_holds_E N) N (cAt (bodyOf Tryd.f57) [true, false, true, false, false]) 0) N st k := fun st k hk => LPc_eq 32 config_holds_L0_fs config_holds_L0_bs _ _ (resD (config_holds_E N) Tryd.f57 (config_holds_sg fun x _ => config_holds N x.1 x.2.1 x.2.2.1 x.2.2.2.1) config_holds_pk) (config_holds_L0_ok N) _ st k hk (rfl)
theorem config_holds_core (N : Nat) (x : SV [.v (.sl (.pr .str (.sl .str))), .v (.pr .str (.pr (.sl (.pr .str .str)) (.sl (.pr .str .str)))), .v (.sl (.pr .str .str)), .v (.pr .str (.sl (.pr .str .str)))]) (y : BV []) : runL (config_holds_E N) Tryd.f57 (config_holds_sg fun x _ => config_holds N x.1 x.2.1 x.2.2.1 x.2.2.2.1) config_holds_pk (config_holds_LP N) x y = config_holds N x.1 x.2.1 x.2.2.1 x.2.2.2.1 := by kernel_rfl
theorem config_holds_sound (N : Nat) : Sound Tryd.prog GW B0G 57 (config_holds_sg fun x _ => config_holds N x.1 x.2.1 x.2.2.1 x.2.2.2.1) :=
  runD_sound (mkE_ok config_holds_h (config_holds_fn N) _ _ (config_holds_fn_ok N)) Tryd.func57 rfl Tryd.call57 (config_holds_sg fun x _ => config_holds N x.1 x.2.1 x.2.2.1 x.2.2.2.1) config_holds_pk (fun _ _ => rfl) N (fun x y _ h => ((runL_eq (config_holds_E N) N Tryd.f57 (config_holds_sg fun x _ => config_holds N x.1 x.2.1 x.2.2.1 x.2.2.2.1) config_holds_pk (config_holds_LP N) (show LoopsOk (config_holds_LP N) (config_holds_E N) N (resD (config_holds_E N) Tryd.f57 (config_holds_sg fun x _ => config_holds N x.1 x.2.1 x.2.2.1 x.2.2.2.1) config_holds_pk) [(0, (cAt (bodyOf Tryd.f57) [true, false, true, false, false]))] from ⟨config_holds_lp0 N, trivial⟩) x y).trans (config_holds_core N x y)).trans h)
end
end Go.Proofs.YtbekhaioddmliaaDoor


/- What functions of the program compute, as plain functions (printed). -/
namespace Go.Proofs.YtbekhaioddmliaaDoor
open Go Go.RowKit
set_option maxRecDepth 100000
set_option linter.unusedVariables false
noncomputable section
end
end Go.Proofs.YtbekhaioddmliaaDoor


/- What functions of the program compute, as plain functions (printed). -/
namespace Go.Proofs.YtbekhaioddmliaaDoor
open Go Go.RowKit
set_option maxRecDepth 100000
set_option linter.unusedVariables false
noncomputable section
end
end Go.Proofs.YtbekhaioddmliaaDoor

