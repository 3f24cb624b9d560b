/- What functions of the program compute, as plain functions (printed). -/
import Derived.Test.YtbekhaioddmliaaDoorQCfF11
namespace Go.Proofs.YtbekhaioddmliaaDoor
open Go Go.RowKit
set_option maxRecDepth 100000
set_option linter.unusedVariables false
noncomputable section
def config_checkNamed_L0T (N : Nat) (x0 : List (Str × List (Str × Str) × List (Str × Str))) (c10 : List (Str × GValue)) (c11 : Int) (k0 : Option Int) (self : Int → Option Int) (s12 : Int) : Option Int :=
  br (decide (s12 < c11))
    (bnd (geti c10 s12) fun t14 =>
    bnd (config_conditionOf N x0 t14.1) fun t20 =>
    br (!t20.2)
      (br (!(t14.1 == ([100, 101, 102, 97, 117, 108, 116] : Str)))
        (some (5 : Int))
        (self (IntKind.i64.wrap (s12 + (1 : Int)))))
      (self (IntKind.i64.wrap (s12 + (1 : Int)))))
    (k0)
def config_checkNamed_L0 (N : Nat) (x0 : List (Str × List (Str × Str) × List (Str × Str))) (c10 : List (Str × GValue)) (c11 : Int) (k0 : Option Int) : Nat → Int → Option Int
  | 0, _ => none
  | n + 1, s12 => config_checkNamed_L0T N x0 c10 c11 k0 (config_checkNamed_L0 N x0 c10 c11 k0 n) s12
def config_checkNamed (N : Nat) (x0 : List (Str × List (Str × Str) × List (Str × Str))) (x1 : GValue) : Option Int :=
  config_checkNamed_L0 N x0 x1.cases (x1.cases.length : Int) (some (0 : Int)) N (0 : Int)
abbrev config_checkNamed_sg (f : SV [.v (.sl (.pr .str (.pr (.sl (.pr .str .str)) (.sl (.pr .str .str))))), .v (.rc .value)] → BV [] → Option (Int)) : AF := { ps := [.v (.sl (.pr .str (.pr (.sl (.pr .str .str)) (.sl (.pr .str .str))))), .v (.rc .value)], bs := [], rs := [.v (.int .i64)], cs := [], R := Int, out := fun z => ((z, ()), ()), f := f }
abbrev config_checkNamed_pk : SV [.v (.int .i64)] → BV [] → Int := fun x _ => x.1
def config_checkNamed_fn (N : Nat) : FuncId → Option Tmp → Option AF := fun f _ =>
  match f with
    | 119 => some (config_conditionOf_sg fun x _ => config_conditionOf N x.1 x.2.1)
    | _ => none
theorem config_checkNamed_fn_ok (N : Nat) : ∀ f q F, config_checkNamed_fn N f q = some F → Sound Tryd.prog GW B0G f F := by
  intro f q F h
  unfold config_checkNamed_fn at h
  split at h
  · cases h; exact config_conditionOf_sound N
  · cases h
def config_checkNamed_h : Nat → Hint := fun i =>
  match i with
  | 0 => ⟨[], [0, 10, 11, 12], [], [], [], []⟩
  | _ => ⟨[], [], [], [], [], []⟩
abbrev config_checkNamed_E (N : Nat) : Env := mkE config_checkNamed_h (config_checkNamed_fn N) (fun _ => false) (fun _ => false)
abbrev config_checkNamed_L0_fs : List (Nat × Sl) := [(0, .v (.sl (.pr .str (.pr (.sl (.pr .str .str)) (.sl (.pr .str .str)))))), (10, .v (.sl (.pr .str (.rc .value)))), (11, .v (.int .i64)), (12, .v (.int .i64))]
abbrev config_checkNamed_L0_bs : List (Nat × Sb) := []
def config_checkNamed_L0_hd (x0 : List (Str × List (Str × Str) × List (Str × Str))) (c10 : List (Str × GValue)) (c11 : Int) (s12 : Int) : St := ⟨31, [(0, .v (.sl (.pr .str (.pr (.sl (.pr .str .str)) (.sl (.pr .str .str))))) x0), (10, .v (.sl (.pr .str (.rc .value))) c10), (11, .v (.int .i64) c11), (12, .v (.int .i64) s12)], []⟩
def config_checkNamed_L0_tl0 (_x0 : List (Str × List (Str × Str) × List (Str × Str))) (_c10 : List (Str × GValue)) (_c11 : Int) : St := ⟨31, [], []⟩
def config_checkNamed_L0_G (N : Nat) (x0 : List (Str × List (Str × Str) × List (Str × Str))) (c10 : List (Str × GValue)) (c11 : Int) (s12 : Int) (k : Ex → St → Option Int) : Option Int :=
  config_checkNamed_L0 N x0 c10 c11 (k (.exit 0) (config_checkNamed_L0_tl0 x0 c10 c11)) N s12
abbrev config_checkNamed_L0_F (N : Nat) : FV config_checkNamed_L0_fs → HV config_checkNamed_L0_bs → (Ex → St → Option Int) → Option Int := fun x _ k => config_checkNamed_L0_G N x.1 x.2.1 x.2.2.1 x.2.2.2.1 k
noncomputable def config_checkNamed_LP (N : Nat) : Nat → Code → St → (Ex → St → Option Int) → Option Int := fun i c =>
  match i with
  | 0 => (LPc 31 config_checkNamed_L0_fs config_checkNamed_L0_bs (config_checkNamed_L0_F N) (fun st k => iter (config_checkNamed_h 0) (exec (config_checkNamed_E N) N c 0) N st k))
  | i => fun st k => iter (config_checkNamed_h i) (exec (config_checkNamed_E N) N c i) N st k
theorem config_checkNamed_L0_step (N : Nat) (x0 : List (Str × List (Str × Str) × List (Str × Str))) (c10 : List (Str × GValue)) (c11 : Int) (KX : Nat → St → Option Int) (I : St → Option Int) (s12 : Int) :
    execL (config_checkNamed_LP N) (config_checkNamed_E N) (cAt (bodyOf Tryd.f118) [true, false, true, false, false]) 0 (config_checkNamed_L0_hd x0 c10 c11 s12) (roundK (config_checkNamed_h 0) I KX (resD (config_checkNamed_E N) Tryd.f118 (config_checkNamed_sg fun x _ => config_checkNamed N x.1 x.2.1) config_checkNamed_pk)) = config_checkNamed_L0T N x0 c10 c11 (KX 0 (config_checkNamed_L0_tl0 x0 c10 c11)) (fun s12 => I (config_checkNamed_L0_hd x0 c10 c11 s12)) s12 := by kernel_rfl
theorem config_checkNamed_L0_ok (N : Nat) : ∀ x y k, (∀ st, k .ret st = (resD (config_checkNamed_E N) Tryd.f118 (config_checkNamed_sg fun x _ => config_checkNamed N x.1 x.2.1) config_checkNamed_pk) st) → iter (config_checkNamed_h 0) (exec (config_checkNamed_E N) N (cAt (bodyOf Tryd.f118) [true, false, true, false, false]) 0) N ⟨31, unF config_checkNamed_L0_fs x, unH config_checkNamed_L0_bs y⟩ k = config_checkNamed_L0_F N x y k := fun x _ k hk =>
  iter_link (S := (Int) × Unit) (config_checkNamed_h 0) _ (execL (config_checkNamed_LP N) (config_checkNamed_E N) (cAt (bodyOf Tryd.f118) [true, false, true, false, false]) 0) (resD (config_checkNamed_E N) Tryd.f118 (config_checkNamed_sg fun x _ => config_checkNamed N x.1 x.2.1) config_checkNamed_pk) (fun st k hk => execL_eq _ _ N _ (cAt (bodyOf Tryd.f118) [true, false, true, false, false]) 0 (show LoopsOk (config_checkNamed_LP N) (config_checkNamed_E N) N (resD (config_checkNamed_E N) Tryd.f118 (config_checkNamed_sg fun x _ => config_checkNamed N x.1 x.2.1) config_checkNamed_pk) [] from trivial) st k hk) (fun s => config_checkNamed_L0_hd x.1 x.2.1 x.2.2.1 s.1) k hk
    (fun self s => config_checkNamed_L0T N x.1 x.2.1 x.2.2.1 (k (.exit 0) (config_checkNamed_L0_tl0 x.1 x.2.1 x.2.2.1)) (fun s12 => self (s12, ())) s.1) (fun n s => config_checkNamed_L0 N x.1 x.2.1 x.2.2.1 (k (.exit 0) (config_checkNamed_L0_tl0 x.1 x.2.1 x.2.2.1)) n s.1) (fun _ => rfl) (fun _ _ => rfl)
    (fun I s => config_checkNamed_L0_step N x.1 x.2.1 x.2.2.1 (fun j => k (.exit j)) I s.1) N (x.2.2.2.1, ())
theorem config_checkNamed_lp0 (N : Nat) : ∀ st k, (∀ st, k .ret st = (resD (config_checkNamed_E N) Tryd.f118 (config_checkNamed_sg fun x _ => config_checkNamed N x.1 x.2.1) config_checkNamed_pk) st) → config_checkNamed_LP N 0 (cAt (bodyOf Tryd.f118) [true, false, true, false, false]) st k = iter (Env.hint (config_checkNamed_E N) 0) (exec (config_checkNamed_E N) N (cAt (bodyOf Tryd.f118) [true, false, true, false, false]) 0) N st k := fun st k hk => LPc_eq 31 config_checkNamed_L0_fs config_checkNamed_L0_bs _ _ (resD (config_checkNamed_E N) Tryd.f118 (config_checkNamed_sg fun x _ => config_checkNamed N x.1 x.2.1) config_checkNamed_pk) (config_checkNamed_L0_ok N) _ st k hk (rfl)
theorem config_checkNamed_core (N : Nat) (x : SV [.v (.sl (.pr .str (.pr (.sl (.pr .str .str)) (.sl (.pr .str .str))))), .v (.rc .value)]) (y : BV []) : runL (config_checkNamed_E N) Tryd.f118 (config_checkNamed_sg fun x _ => config_checkNamed N x.1 x.2.1) config_checkNamed_pk (config_checkNamed_LP N) x y = config_checkNamed N x.1 x.2.1 := by kernel_rfl
theorem config_checkNamed_sound (N : Nat) : Sound Tryd.prog GW B0G 118 (config_checkNamed_sg fun x _ => config_checkNamed N x.1 x.2.1) :=
  runD_sound (mkE_ok config_checkNamed_h (config_checkNamed_fn N) _ _ (config_checkNamed_fn_ok N)) Tryd.func118 rfl Tryd.call118 (config_checkNamed_sg fun x _ => config_checkNamed N x.1 x.2.1) config_checkNamed_pk (fun _ _ => rfl) N (fun x y _ h => ((runL_eq (config_checkNamed_E N) N Tryd.f118 (config_checkNamed_sg fun x _ => config_checkNamed N x.1 x.2.1) config_checkNamed_pk (config_checkNamed_LP N) (show LoopsOk (config_checkNamed_LP N) (config_checkNamed_E N) N (resD (config_checkNamed_E N) Tryd.f118 (config_checkNamed_sg fun x _ => config_checkNamed N x.1 x.2.1) config_checkNamed_pk) [(0, (cAt (bodyOf Tryd.f118) [true, false, true, false, false]))] from ⟨config_checkNamed_lp0 N, trivial⟩) x y).trans (config_checkNamed_core N x y)).trans h)
def config_chosen_1 (_N : Nat) (x0 : Str × GValue) : Option Bool :=
  some (x0.1 == ([100, 101, 102, 97, 117, 108, 116] : Str))
abbrev config_chosen_1_sg (f : SV [.v (.pr .str (.rc .value))] → BV [] → Option (Bool)) : AF := { ps := [.v (.pr .str (.rc .value))], bs := [], rs := [.v .bool], cs := [], R := Bool, out := fun z => ((z, ()), ()), f := f }
abbrev config_chosen_1_pk : SV [.v .bool] → BV [] → Bool := fun x _ => x.1
def config_chosen_1_fn (_N : Nat) : FuncId → Option Tmp → Option AF := fun f _ =>
  match f with
    | _ => none
theorem config_chosen_1_fn_ok (N : Nat) : ∀ f q F, config_chosen_1_fn N f q = some F → Sound Tryd.prog GW B0G f F := by
  intro f q F h
  unfold config_chosen_1_fn at h
  split at h
  · cases h
def config_chosen_1_h : Nat → Hint := fun i =>
  match i with
  | _ => ⟨[], [], [], [], [], []⟩
abbrev config_chosen_1_E (N : Nat) : Env := mkE config_chosen_1_h (config_chosen_1_fn N) (fun _ => false) (fun _ => false)
noncomputable def config_chosen_1_LP (N : Nat) : Nat → Code → St → (Ex → St → Option Bool) → Option Bool := fun i c =>
  match i with
  | i => fun st k => iter (config_chosen_1_h i) (exec (config_chosen_1_E N) N c i) N st k
theorem config_chosen_1_core (N : Nat) (x : SV [.v (.pr .str (.rc .value))]) (y : BV []) : runL (config_chosen_1_E N) Tryd.f121 (config_chosen_1_sg fun x _ => config_chosen_1 N x.1) config_chosen_1_pk (config_chosen_1_LP N) x y = config_chosen_1 N x.1 := by kernel_rfl
theorem config_chosen_1_sound (N : Nat) : Sound Tryd.prog GW B0G 121 (config_chosen_1_sg fun x _ => config_chosen_1 N x.1) :=
  runD_sound (mkE_ok config_chosen_1_h (config_chosen_1_fn N) _ _ (config_chosen_1_fn_ok N)) Tryd.func121 rfl Tryd.call121 (config_chosen_1_sg fun x _ => config_chosen_1 N x.1) config_chosen_1_pk (fun _ _ => rfl) N (fun x y _ h => ((runL_eq (config_chosen_1_E N) N Tryd.f121 (config_chosen_1_sg fun x _ => config_chosen_1 N x.1) config_chosen_1_pk (config_chosen_1_LP N) (show LoopsOk (config_chosen_1_LP N) (config_chosen_1_E N) N (resD (config_chosen_1_E N) Tryd.f121 (config_chosen_1_sg fun x _ => config_chosen_1 N x.1) config_chosen_1_pk) [] from trivial) x y).trans (config_chosen_1_core N x y)).trans h)
abbrev script_Equal_1_sg (f : SV [.v (.pr .str (.rc .value)), .v (.pr .str (.rc .value))] → BV [] → Option (Bool)) : AF := { ps := [.v (.pr .str (.rc .value)), .v (.pr .str (.rc .value))], bs := [], rs := [.v .bool], cs := [], R := Bool, out := fun z => ((z, ()), ()), f := f }
def slices_EqualFunc_api_Case_L0T (_N : Nat) (r_script_Equal_1 : (Str × GValue) → (Str × GValue) → Option (Bool)) (x1 : List (Str × GValue)) (x0 : List (Str × GValue)) (c16 : Int) (k0 : Option Bool) (self : Int → Option Bool) (s17 : Int) : Option Bool :=
  br (decide (s17 < c16))
    (bnd (geti x0 s17) fun t20 =>
    bnd (geti x1 s17) fun t24 =>
    bnd (r_script_Equal_1 (t20.1, GValue.mk t20.2.kind t20.2.text t20.2.number t20.2.list t20.2.cases) (t24.1, GValue.mk t24.2.kind t24.2.text t24.2.number t24.2.list t24.2.cases)) fun t29 =>
    br (!t29)
      (some false)
      (self (IntKind.i64.wrap (s17 + (1 : Int)))))
    (k0)
def slices_EqualFunc_api_Case_L0 (N : Nat) (r_script_Equal_1 : (Str × GValue) → (Str × GValue) → Option (Bool)) (x1 : List (Str × GValue)) (x0 : List (Str × GValue)) (c16 : Int) (k0 : Option Bool) : Nat → Int → Option Bool
  | 0, _ => none
  | n + 1, s17 => slices_EqualFunc_api_Case_L0T N r_script_Equal_1 x1 x0 c16 k0 (slices_EqualFunc_api_Case_L0 N r_script_Equal_1 x1 x0 c16 k0 n) s17
def slices_EqualFunc_api_Case (N : Nat) (r_script_Equal_1 : (Str × GValue) → (Str × GValue) → Option (Bool)) (x0 : List (Str × GValue)) (x1 : List (Str × GValue)) (_x2 : Unit) : Option Bool :=
  br ((x0.length : Int) != (x1.length : Int))
    (some false)
    (slices_EqualFunc_api_Case_L0 N r_script_Equal_1 x1 x0 (x0.length : Int) (some true) N (0 : Int))
abbrev slices_EqualFunc_api_Case_sg (f : SV [.v (.sl (.pr .str (.rc .value))), .v (.sl (.pr .str (.rc .value))), .v (.clo 152 .un)] → BV [] → Option (Bool)) : AF := { ps := [.v (.sl (.pr .str (.rc .value))), .v (.sl (.pr .str (.rc .value))), .v (.clo 152 .un)], bs := [], rs := [.v .bool], cs := [], R := Bool, out := fun z => ((z, ()), ()), f := f }
abbrev slices_EqualFunc_api_Case_pk : SV [.v .bool] → BV [] → Bool := fun x _ => x.1
def slices_EqualFunc_api_Case_fn (_N : Nat) (r_script_Equal_1 : (Str × GValue) → (Str × GValue) → Option (Bool)) : FuncId → Option Tmp → Option AF := fun f _ =>
  match f with
    | 152 => some (script_Equal_1_sg fun x _ => r_script_Equal_1 x.1 x.2.1)
    | _ => none
theorem slices_EqualFunc_api_Case_fn_ok (N : Nat) (r_script_Equal_1 : (Str × GValue) → (Str × GValue) → Option (Bool)) (h_script_Equal_1 : Sound Tryd.prog GW B0G 152 (script_Equal_1_sg fun x y => r_script_Equal_1 x.1 x.2.1)) : ∀ f q F, slices_EqualFunc_api_Case_fn N r_script_Equal_1 f q = some F → Sound Tryd.prog GW B0G f F := by
  intro f q F h
  unfold slices_EqualFunc_api_Case_fn at h
  split at h
  · cases h; exact h_script_Equal_1
  · cases h
def slices_EqualFunc_api_Case_h : Nat → Hint := fun i =>
  match i with
  | 0 => ⟨[], [1, 2, 15, 16, 17], [], [], [], []⟩
  | _ => ⟨[], [], [], [], [], []⟩
abbrev slices_EqualFunc_api_Case_E (N : Nat) (r_script_Equal_1 : (Str × GValue) → (Str × GValue) → Option (Bool)) : Env := mkE slices_EqualFunc_api_Case_h (slices_EqualFunc_api_Case_fn N r_script_Equal_1) (fun _ => false) (fun _ => false)
abbrev slices_EqualFunc_api_Case_L0_fs : List (Nat × Sl) := [(1, .v (.sl (.pr .str (.rc .value)))), (2, .v (.clo 152 .un)), (15, .v (.sl (.pr .str (.rc .value)))), (16, .v (.int .i64)), (17, .v (.int .i64))]
abbrev slices_EqualFunc_api_Case_L0_bs : List (Nat × Sb) := []
def slices_EqualFunc_api_Case_L0_hd (x1 : List (Str × GValue)) (x2 : Unit) (x0 : List (Str × GValue)) (c16 : Int) (s17 : Int) : St := ⟨32, [(1, .v (.sl (.pr .str (.rc .value))) x1), (2, .v (.clo 152 .un) x2), (15, .v (.sl (.pr .str (.rc .value))) x0), (16, .v (.int .i64) c16), (17, .v (.int .i64) s17)], []⟩
def slices_EqualFunc_api_Case_L0_tl0 (_x1 : List (Str × GValue)) (_x2 : Unit) (_x0 : List (Str × GValue)) (_c16 : Int) : St := ⟨32, [], []⟩
def slices_EqualFunc_api_Case_L0_G (N : Nat) (r_script_Equal_1 : (Str × GValue) → (Str × GValue) → Option (Bool)) (x1 : List (Str × GValue)) (x2 : Unit) (x0 : List (Str × GValue)) (c16 : Int) (s17 : Int) (k : Ex → St → Option Bool) : Option Bool :=
  slices_EqualFunc_api_Case_L0 N r_script_Equal_1 x1 x0 c16 (k (.exit 0) (slices_EqualFunc_api_Case_L0_tl0 x1 x2 x0 c16)) N s17
abbrev slices_EqualFunc_api_Case_L0_F (N : Nat) (r_script_Equal_1 : (Str × GValue) → (Str × GValue) → Option (Bool)) : FV slices_EqualFunc_api_Case_L0_fs → HV slices_EqualFunc_api_Case_L0_bs → (Ex → St → Option Bool) → Option Bool := fun x _ k => slices_EqualFunc_api_Case_L0_G N r_script_Equal_1 x.1 x.2.1 x.2.2.1 x.2.2.2.1 x.2.2.2.2.1 k
noncomputable def slices_EqualFunc_api_Case_LP (N : Nat) (r_script_Equal_1 : (Str × GValue) → (Str × GValue) → Option (Bool)) : Nat → Code → St → (Ex → St → Option Bool) → Option Bool := fun i c =>
  match i with
  | 0 => (LPc 32 slices_EqualFunc_api_Case_L0_fs slices_EqualFunc_api_Case_L0_bs (slices_EqualFunc_api_Case_L0_F N r_script_Equal_1) (fun st k => iter (slices_EqualFunc_api_Case_h 0) (exec (slices_EqualFunc_api_Case_E N r_script_Equal_1) N c 0) N st k))
  | i => fun st k => iter (slices_EqualFunc_api_Case_h i) (exec (slices_EqualFunc_api_Case_E N r_script_Equal_1) N c i) N st k
theorem slices_EqualFunc_api_Case_L0_step (N : Nat) (r_script_Equal_1 : (Str × GValue) → (Str × GValue) → Option (Bool)) (x1 : List (Str × GValue)) (x2 : Unit) (x0 : List (Str × GValue)) (c16 : Int) (KX : Nat → St → Option Bool) (I : St → Option Bool) (s17 : Int) :
    execL (slices_EqualFunc_api_Case_LP N r_script_Equal_1) (slices_EqualFunc_api_Case_E N r_script_Equal_1) (cAt (bodyOf Tryd.f151) [true, true, false, true, false, false]) 0 (slices_EqualFunc_api_Case_L0_hd x1 x2 x0 c16 s17) (roundK (slices_EqualFunc_api_Case_h 0) I KX (resD (slices_EqualFunc_api_Case_E N r_script_Equal_1) Tryd.f151 (slices_EqualFunc_api_Case_sg fun x _ => slices_EqualFunc_api_Case N r_script_Equal_1 x.1 x.2.1 x.2.2.1) slices_EqualFunc_api_Case_pk)) = slices_EqualFunc_api_Case_L0T N r_script_Equal_1 x1 x0 c16 (KX 0 (slices_EqualFunc_api_Case_L0_tl0 x1 x2 x0 c16)) (fun s17 => I (slices_EqualFunc_api_Case_L0_hd x1 x2 x0 c16 s17)) s17 := by kernel_rfl
theorem slices_EqualFunc_api_Case_L0_ok (N : Nat) (r_script_Equal_1 : (Str × GValue) → (Str × GValue) → Option (Bool)) : ∀ x y k, (∀ st, k .ret st = (resD (slices_EqualFunc_api_Case_E N r_script_Equal_1) Tryd.f151 (slices_EqualFunc_api_Case_sg fun x _ => slices_EqualFunc_api_Case N r_script_Equal_1 x.1 x.2.1 x.2.2.1) slices_EqualFunc_api_Case_pk) st) → iter (slices_EqualFunc_api_Case_h 0) (exec (slices_EqualFunc_api_Case_E N r_script_Equal_1) N (cAt (bodyOf Tryd.f151) [true, true, false, true, false, false]) 0) N ⟨32, unF slices_EqualFunc_api_Case_L0_fs x, unH slices_EqualFunc_api_Case_L0_bs y⟩ k = slices_EqualFunc_api_Case_L0_F N r_script_Equal_1 x y k := fun x _ k hk =>
  iter_link (S := (Int) × Unit) (slices_EqualFunc_api_Case_h 0) _ (execL (slices_EqualFunc_api_Case_LP N r_script_Equal_1) (slices_EqualFunc_api_Case_E N r_script_Equal_1) (cAt (bodyOf Tryd.f151) [true, true, false, true, false, false]) 0) (resD (slices_EqualFunc_api_Case_E N r_script_Equal_1) Tryd.f151 (slices_EqualFunc_api_Case_sg fun x _ => slices_EqualFunc_api_Case N r_script_Equal_1 x.1 x.2.1 x.2.2.1) slices_EqualFunc_api_Case_pk) (fun st k hk => execL_eq _ _ N _ (cAt (bodyOf Tryd.f151) [true, true, false, true, false, false]) 0 (show LoopsOk (slices_EqualFunc_api_Case_LP N r_script_Equal_1) (slices_EqualFunc_api_Case_E N r_script_Equal_1) N (resD (slices_EqualFunc_api_Case_E N r_script_Equal_1) Tryd.f151 (slices_EqualFunc_api_Case_sg fun x _ => slices_EqualFunc_api_Case N r_script_Equal_1 x.1 x.2.1 x.2.2.1) slices_EqualFunc_api_Case_pk) [] from trivial) st k hk) (fun s => slices_EqualFunc_api_Case_L0_hd x.1 x.2.1 x.2.2.1 x.2.2.2.1 s.1) k hk
    (fun self s => slices_EqualFunc_api_Case_L0T N r_script_Equal_1 x.1 x.2.2.1 x.2.2.2.1 (k (.exit 0) (slices_EqualFunc_api_Case_L0_tl0 x.1 x.2.1 x.2.2.1 x.2.2.2.1)) (fun s17 => self (s17, ())) s.1) (fun n s => slices_EqualFunc_api_Case_L0 N r_script_Equal_1 x.1 x.2.2.1 x.2.2.2.1 (k (.exit 0) (slices_EqualFunc_api_Case_L0_tl0 x.1 x.2.1 x.2.2.1 x.2.2.2.1)) n s.1) (fun _ => rfl) (fun _ _ => rfl)
    (fun I s => slices_EqualFunc_api_Case_L0_step N r_script_Equal_1 x.1 x.2.1 x.2.2.1 x.2.2.2.1 (fun j => k (.exit j)) I s.1) N (x.2.2.2.2.1, ())
theorem slices_EqualFunc_api_Case_lp0 (N : Nat) (r_script_Equal_1 : (Str × GValue) → (Str × GValue) → Option (Bool)) : ∀ st k, (∀ st, k .ret st = (resD (slices_EqualFunc_api_Case_E N r_script_Equal_1) Tryd.f151 (slices_EqualFunc_api_Case_sg fun x _ => slices_EqualFunc_api_Case N r_script_Equal_1 x.1 x.2.1 x.2.2.1) slices_EqualFunc_api_Case_pk) st) → slices_EqualFunc_api_Case_LP N r_script_Equal_1 0 (cAt (bodyOf Tryd.f151) [true, true, false, true, false, false]) st k = iter (Env.hint (slices_EqualFunc_api_Case_E N r_script_Equal_1) 0) (exec (slices_EqualFunc_api_Case_E N r_script_Equal_1) N (cAt (bodyOf Tryd.f151) [true, true, false, true, false, false]) 0) N st k := fun st k hk => LPc_eq 32 slices_EqualFunc_api_Case_L0_fs slices_EqualFunc_api_Case_L0_bs _ _ (resD (slices_EqualFunc_api_Case_E N r_script_Equal_1) Tryd.f151 (slices_EqualFunc_api_Case_sg fun x _ => slices_EqualFunc_api_Case N r_script_Equal_1 x.1 x.2.1 x.2.2.1) slices_EqualFunc_api_Case_pk) (slices_EqualFunc_api_Case_L0_ok N r_script_Equal_1) _ st k hk (rfl)
theorem slices_EqualFunc_api_Case_core (N : Nat) (r_script_Equal_1 : (Str × GValue) → (Str × GValue) → Option (Bool)) (x : SV [.v (.sl (.pr .str (.rc .value))), .v (.sl (.pr .str (.rc .value))), .v (.clo 152 .un)]) (y : BV []) : runL (slices_EqualFunc_api_Case_E N r_script_Equal_1) Tryd.f151 (slices_EqualFunc_api_Case_sg fun x _ => slices_EqualFunc_api_Case N r_script_Equal_1 x.1 x.2.1 x.2.2.1) slices_EqualFunc_api_Case_pk (slices_EqualFunc_api_Case_LP N r_script_Equal_1) x y = slices_EqualFunc_api_Case N r_script_Equal_1 x.1 x.2.1 x.2.2.1 := by kernel_rfl
theorem slices_EqualFunc_api_Case_sound (N : Nat) (r_script_Equal_1 : (Str × GValue) → (Str × GValue) → Option (Bool)) (h_script_Equal_1 : Sound Tryd.prog GW B0G 152 (script_Equal_1_sg fun x y => r_script_Equal_1 x.1 x.2.1)) : Sound Tryd.prog GW B0G 151 (slices_EqualFunc_api_Case_sg fun x _ => slices_EqualFunc_api_Case N r_script_Equal_1 x.1 x.2.1 x.2.2.1) :=
  runD_sound (mkE_ok slices_EqualFunc_api_Case_h (slices_EqualFunc_api_Case_fn N r_script_Equal_1) _ _ (slices_EqualFunc_api_Case_fn_ok N r_script_Equal_1 h_script_Equal_1)) Tryd.func151 rfl Tryd.call151 (slices_EqualFunc_api_Case_sg fun x _ => slices_EqualFunc_api_Case N r_script_Equal_1 x.1 x.2.1 x.2.2.1) slices_EqualFunc_api_Case_pk (fun _ _ => rfl) N (fun x y _ h => ((runL_eq (slices_EqualFunc_api_Case_E N r_script_Equal_1) N Tryd.f151 (slices_EqualFunc_api_Case_sg fun x _ => slices_EqualFunc_api_Case N r_script_Equal_1 x.1 x.2.1 x.2.2.1) slices_EqualFunc_api_Case_pk (slices_EqualFunc_api_Case_LP N r_script_Equal_1) (show LoopsOk (slices_EqualFunc_api_Case_LP N r_script_Equal_1) (slices_EqualFunc_api_Case_E N r_script_Equal_1) N (resD (slices_EqualFunc_api_Case_E N r_script_Equal_1) Tryd.f151 (slices_EqualFunc_api_Case_sg fun x _ => slices_EqualFunc_api_Case N r_script_Equal_1 x.1 x.2.1 x.2.2.1) slices_EqualFunc_api_Case_pk) [(0, (cAt (bodyOf Tryd.f151) [true, true, false, true, false, false]))] from ⟨slices_EqualFunc_api_Case_lp0 N r_script_Equal_1, trivial⟩) x y).trans (slices_EqualFunc_api_Case_core N r_script_Equal_1 x y)).trans h)
def script_Equal (N : Nat) (r_script_Equal_1 : (Str × GValue) → (Str × GValue) → Option (Bool)) (x0 : GValue) (x1 : GValue) : Option Bool :=
  br (x0.kind == x1.kind)
    (br (x0.text == x1.text)
      (br (x0.number == x1.number)
        (bnd (slices_Equal_string_string N x0.list x1.list) fun t29 =>
        br (t29)
          (bnd (slices_EqualFunc_api_Case N r_script_Equal_1 x0.cases x1.cases ()) fun t36 =>
          some t36)
          (some false))
        (some false))
      (some false))
    (some false)
abbrev script_Equal_sg (f : SV [.v (.rc .value), .v (.rc .value)] → BV [] → Option (Bool)) : AF := { ps := [.v (.rc .value), .v (.rc .value)], bs := [], rs := [.v .bool], cs := [], R := Bool, out := fun z => ((z, ()), ()), f := f }
abbrev script_Equal_pk : SV [.v .bool] → BV [] → Bool := fun x _ => x.1
def script_Equal_fn (N : Nat) (r_script_Equal_1 : (Str × GValue) → (Str × GValue) → Option (Bool)) : FuncId → Option Tmp → Option AF := fun f _ =>
  match f with
    | 31 => some (slices_Equal_string_string_sg fun x _ => slices_Equal_string_string N x.1 x.2.1)
    | 151 => some (slices_EqualFunc_api_Case_sg fun x _ => slices_EqualFunc_api_Case N r_script_Equal_1 x.1 x.2.1 x.2.2.1)
    | _ => none
theorem script_Equal_fn_ok (N : Nat) (r_script_Equal_1 : (Str × GValue) → (Str × GValue) → Option (Bool)) (h_script_Equal_1 : Sound Tryd.prog GW B0G 152 (script_Equal_1_sg fun x y => r_script_Equal_1 x.1 x.2.1)) : ∀ f q F, script_Equal_fn N r_script_Equal_1 f q = some F → Sound Tryd.prog GW B0G f F := by
  intro f q F h
  unfold script_Equal_fn at h
  split at h
  · cases h; exact slices_Equal_string_string_sound N
  · cases h; exact slices_EqualFunc_api_Case_sound N r_script_Equal_1 h_script_Equal_1
  · cases h
def script_Equal_h : Nat → Hint := fun i =>
  match i with
  | _ => ⟨[], [], [], [], [], []⟩
abbrev script_Equal_E (N : Nat) (r_script_Equal_1 : (Str × GValue) → (Str × GValue) → Option (Bool)) : Env := mkE script_Equal_h (script_Equal_fn N r_script_Equal_1) (fun _ => false) (fun _ => false)
noncomputable def script_Equal_LP (N : Nat) (r_script_Equal_1 : (Str × GValue) → (Str × GValue) → Option (Bool)) : Nat → Code → St → (Ex → St → Option Bool) → Option Bool := fun i c =>
  match i with
  | i => fun st k => iter (script_Equal_h i) (exec (script_Equal_E N r_script_Equal_1) N c i) N st k
theorem script_Equal_core (N : Nat) (r_script_Equal_1 : (Str × GValue) → (Str × GValue) → Option (Bool)) (x : SV [.v (.rc .value), .v (.rc .value)]) (y : BV []) : runL (script_Equal_E N r_script_Equal_1) Tryd.f122 (script_Equal_sg fun x _ => script_Equal N r_script_Equal_1 x.1 x.2.1) script_Equal_pk (script_Equal_LP N r_script_Equal_1) x y = script_Equal N r_script_Equal_1 x.1 x.2.1 := by kernel_rfl
theorem script_Equal_sound (N : Nat) (r_script_Equal_1 : (Str × GValue) → (Str × GValue) → Option (Bool)) (h_script_Equal_1 : Sound Tryd.prog GW B0G 152 (script_Equal_1_sg fun x y => r_script_Equal_1 x.1 x.2.1)) : Sound Tryd.prog GW B0G 122 (script_Equal_sg fun x _ => script_Equal N r_script_Equal_1 x.1 x.2.1) :=
  runD_sound (mkE_ok script_Equal_h (script_Equal_fn N r_script_Equal_1) _ _ (script_Equal_fn_ok N r_script_Equal_1 h_script_Equal_1)) Tryd.func122 rfl Tryd.call122 (script_Equal_sg fun x _ => script_Equal N r_script_Equal_1 x.1 x.2.1) script_Equal_pk (fun _ _ => rfl) N (fun x y _ h => ((runL_eq (script_Equal_E N r_script_Equal_1) N Tryd.f122 (script_Equal_sg fun x _ => script_Equal N r_script_Equal_1 x.1 x.2.1) script_Equal_pk (script_Equal_LP N r_script_Equal_1) (show LoopsOk (script_Equal_LP N r_script_Equal_1) (script_Equal_E N r_script_Equal_1) N (resD (script_Equal_E N r_script_Equal_1) Tryd.f122 (script_Equal_sg fun x _ => script_Equal N r_script_Equal_1 x.1 x.2.1) script_Equal_pk) [] from trivial) x y).trans (script_Equal_core N r_script_Equal_1 x y)).trans h)
def script_Equal_1_b (N : Nat) (r_script_Equal_1 : (Str × GValue) → (Str × GValue) → Option (Bool)) (x0 : Str × GValue) (x1 : Str × GValue) : Option Bool :=
  br (x0.1 == x1.1)
    (bnd (script_Equal N r_script_Equal_1 (GValue.mk x0.2.kind x0.2.text x0.2.number x0.2.list x0.2.cases) (GValue.mk x1.2.kind x1.2.text x1.2.number x1.2.list x1.2.cases)) fun t15 =>
    some t15)
    (some false)
abbrev script_Equal_1_b_sg (f : SV [.v (.pr .str (.rc .value)), .v (.pr .str (.rc .value))] → BV [] → Option (Bool)) : AF := { ps := [.v (.pr .str (.rc .value)), .v (.pr .str (.rc .value))], bs := [], rs := [.v .bool], cs := [], R := Bool, out := fun z => ((z, ()), ()), f := f }
abbrev script_Equal_1_b_pk : SV [.v .bool] → BV [] → Bool := fun x _ => x.1
def script_Equal_1_b_fn (N : Nat) (r_script_Equal_1 : (Str × GValue) → (Str × GValue) → Option (Bool)) : FuncId → Option Tmp → Option AF := fun f _ =>
  match f with
    | 122 => some (script_Equal_sg fun x _ => script_Equal N r_script_Equal_1 x.1 x.2.1)
    | _ => none
theorem script_Equal_1_b_fn_ok (N : Nat) (r_script_Equal_1 : (Str × GValue) → (Str × GValue) → Option (Bool)) (h_script_Equal_1 : Sound Tryd.prog GW B0G 152 (script_Equal_1_sg fun x y => r_script_Equal_1 x.1 x.2.1)) : ∀ f q F, script_Equal_1_b_fn N r_script_Equal_1 f q = some F → Sound Tryd.prog GW B0G f F := by
  intro f q F h
  unfold script_Equal_1_b_fn at h
  split at h
  · cases h; exact script_Equal_sound N r_script_Equal_1 h_script_Equal_1
  · cases h
def script_Equal_1_b_h : Nat → Hint := fun i =>
  match i with
  | _ => ⟨[], [], [], [], [], []⟩
abbrev script_Equal_1_b_E (N : Nat) (r_script_Equal_1 : (Str × GValue) → (Str × GValue) → Option (Bool)) : Env := mkE script_Equal_1_b_h (script_Equal_1_b_fn N r_script_Equal_1) (fun _ => false) (fun _ => false)
noncomputable def script_Equal_1_b_LP (N : Nat) (r_script_Equal_1 : (Str × GValue) → (Str × GValue) → Option (Bool)) : Nat → Code → St → (Ex → St → Option Bool) → Option Bool := fun i c =>
  match i with
  | i => fun st k => iter (script_Equal_1_b_h i) (exec (script_Equal_1_b_E N r_script_Equal_1) N c i) N st k
theorem script_Equal_1_b_core (N : Nat) (r_script_Equal_1 : (Str × GValue) → (Str × GValue) → Option (Bool)) (x : SV [.v (.pr .str (.rc .value)), .v (.pr .str (.rc .value))]) (y : BV []) : runL (script_Equal_1_b_E N r_script_Equal_1) Tryd.f152 (script_Equal_1_b_sg fun x _ => script_Equal_1_b N r_script_Equal_1 x.1 x.2.1) script_Equal_1_b_pk (script_Equal_1_b_LP N r_script_Equal_1) x y = script_Equal_1_b N r_script_Equal_1 x.1 x.2.1 := by kernel_rfl
theorem script_Equal_1_b_sound (N : Nat) (r_script_Equal_1 : (Str × GValue) → (Str × GValue) → Option (Bool)) (h_script_Equal_1 : Sound Tryd.prog GW B0G 152 (script_Equal_1_sg fun x y => r_script_Equal_1 x.1 x.2.1)) : Sound Tryd.prog GW B0G 152 (script_Equal_1_b_sg fun x _ => script_Equal_1_b N r_script_Equal_1 x.1 x.2.1) :=
  runD_sound (mkE_ok script_Equal_1_b_h (script_Equal_1_b_fn N r_script_Equal_1) _ _ (script_Equal_1_b_fn_ok N r_script_Equal_1 h_script_Equal_1)) Tryd.func152 rfl Tryd.call152 (script_Equal_1_b_sg fun x _ => script_Equal_1_b N r_script_Equal_1 x.1 x.2.1) script_Equal_1_b_pk (fun _ _ => rfl) N (fun x y _ h => ((runL_eq (script_Equal_1_b_E N r_script_Equal_1) N Tryd.f152 (script_Equal_1_b_sg fun x _ => script_Equal_1_b N r_script_Equal_1 x.1 x.2.1) script_Equal_1_b_pk (script_Equal_1_b_LP N r_script_Equal_1) (show LoopsOk (script_Equal_1_b_LP N r_script_Equal_1) (script_Equal_1_b_E N r_script_Equal_1) N (resD (script_Equal_1_b_E N r_script_Equal_1) Tryd.f152 (script_Equal_1_b_sg fun x _ => script_Equal_1_b N r_script_Equal_1 x.1 x.2.1) script_Equal_1_b_pk) [] from trivial) x y).trans (script_Equal_1_b_core N r_script_Equal_1 x y)).trans h)
def script_Equal_1 (N : Nat) : Nat → (Str × GValue) → (Str × GValue) → Option (Bool)
  | 0 => fun _ _ => none
  | d + 1 => script_Equal_1_b N (script_Equal_1 N d)
theorem script_Equal_1_sound (N : Nat) : ∀ d, Sound Tryd.prog GW B0G 152 (script_Equal_1_sg fun x y => script_Equal_1 N d x.1 x.2.1)
  | 0 => Sound.never Tryd.call152 (fun _ _ => rfl)
  | d + 1 => script_Equal_1_b_sound N (script_Equal_1 N d) (script_Equal_1_sound N d)
def config_isMore (N : Nat) (x0 : Str × List (Str × Str) × List (Str × Str)) (x1 : Str × List (Str × Str) × List (Str × Str)) : Option Bool :=
  bnd (config_Fit N x1.2.1 x0.2.1) fun t9 =>
  br (t9)
    (bnd (config_Fit N x1.2.2 x0.2.2) fun t15 =>
    br (t15)
      (some (decide ((IntKind.i64.wrap ((x0.2.1.length : Int) + (x0.2.2.length : Int))) > (IntKind.i64.wrap ((x1.2.1.length : Int) + (x1.2.2.length : Int))))))
      (some false))
    (some false)
abbrev config_isMore_sg (f : SV [.v (.pr .str (.pr (.sl (.pr .str .str)) (.sl (.pr .str .str)))), .v (.pr .str (.pr (.sl (.pr .str .str)) (.sl (.pr .str .str))))] → BV [] → Option (Bool)) : AF := { ps := [.v (.pr .str (.pr (.sl (.pr .str .str)) (.sl (.pr .str .str)))), .v (.pr .str (.pr (.sl (.pr .str .str)) (.sl (.pr .str .str))))], bs := [], rs := [.v .bool], cs := [], R := Bool, out := fun z => ((z, ()), ()), f := f }
abbrev config_isMore_pk : SV [.v .bool] → BV [] → Bool := fun x _ => x.1
def config_isMore_fn (N : Nat) : FuncId → Option Tmp → Option AF := fun f _ =>
  match f with
    | 95 => some (config_Fit_sg fun x _ => config_Fit N x.1 x.2.1)
    | _ => none
theorem config_isMore_fn_ok (N : Nat) : ∀ f q F, config_isMore_fn N f q = some F → Sound Tryd.prog GW B0G f F := by
  intro f q F h
  unfold config_isMore_fn at h
  split at h
  · cases h; exact config_Fit_sound N
  · cases h
def config_isMore_h : Nat → Hint := fun i =>
  match i with
  | _ => ⟨[], [], [], [], [], []⟩
abbrev config_isMore_E (N : Nat) : Env := mkE config_isMore_h (config_isMore_fn N) (fun _ => false) (fun _ => false)
noncomputable def config_isMore_LP (N : Nat) : Nat → Code → St → (Ex → St → Option Bool) → Option Bool := fun i c =>
  match i with
  | i => fun st k => iter (config_isMore_h i) (exec (config_isMore_E N) N c i) N st k
theorem config_isMore_core (N : Nat) (x : SV [.v (.pr .str (.pr (.sl (.pr .str .str)) (.sl (.pr .str .str)))), .v (.pr .str (.pr (.sl (.pr .str .str)) (.sl (.pr .str .str))))]) (y : BV []) : runL (config_isMore_E N) Tryd.f123 (config_isMore_sg fun x _ => config_isMore N x.1 x.2.1) config_isMore_pk (config_isMore_LP N) x y = config_isMore N x.1 x.2.1 := by kernel_rfl
theorem config_isMore_sound (N : Nat) : Sound Tryd.prog GW B0G 123 (config_isMore_sg fun x _ => config_isMore N x.1 x.2.1) :=
  runD_sound (mkE_ok config_isMore_h (config_isMore_fn N) _ _ (config_isMore_fn_ok N)) Tryd.func123 rfl Tryd.call123 (config_isMore_sg fun x _ => config_isMore N x.1 x.2.1) config_isMore_pk (fun _ _ => rfl) N (fun x y _ h => ((runL_eq (config_isMore_E N) N Tryd.f123 (config_isMore_sg fun x _ => config_isMore N x.1 x.2.1) config_isMore_pk (config_isMore_LP N) (show LoopsOk (config_isMore_LP N) (config_isMore_E N) N (resD (config_isMore_E N) Tryd.f123 (config_isMore_sg fun x _ => config_isMore N x.1 x.2.1) config_isMore_pk) [] from trivial) x y).trans (config_isMore_core N x y)).trans h)
def slices_IndexFunc_api_Case_2_L0T (N : Nat) (x0 : List (Str × GValue)) (c7 : Int) (k0 : Option Int) (self : Int → Option Int) (s8 : Int) : Option Int :=
  br (decide (s8 < c7))
    (bnd (geti x0 s8) fun t14 =>
    bnd (config_chosen_1 N t14) fun t16 =>
    br (t16)
      (some s8)
      (self (IntKind.i64.wrap (s8 + (1 : Int)))))
    (k0)
def slices_IndexFunc_api_Case_2_L0 (N : Nat) (x0 : List (Str × GValue)) (c7 : Int) (k0 : Option Int) : Nat → Int → Option Int
  | 0, _ => none
  | n + 1, s8 => slices_IndexFunc_api_Case_2_L0T N x0 c7 k0 (slices_IndexFunc_api_Case_2_L0 N x0 c7 k0 n) s8
def slices_IndexFunc_api_Case_2 (N : Nat) (x0 : List (Str × GValue)) (_x1 : Unit) : Option Int :=
  slices_IndexFunc_api_Case_2_L0 N x0 (x0.length : Int) (some (-1 : Int)) N (0 : Int)
abbrev slices_IndexFunc_api_Case_2_sg (f : SV [.v (.sl (.pr .str (.rc .value))), .v (.clo 121 .un)] → BV [] → Option (Int)) : AF := { ps := [.v (.sl (.pr .str (.rc .value))), .v (.clo 121 .un)], bs := [], rs := [.v (.int .i64)], cs := [], R := Int, out := fun z => ((z, ()), ()), f := f }
abbrev slices_IndexFunc_api_Case_2_pk : SV [.v (.int .i64)] → BV [] → Int := fun x _ => x.1
def slices_IndexFunc_api_Case_2_fn (N : Nat) : FuncId → Option Tmp → Option AF := fun f _ =>
  match f with
    | 121 => some (config_chosen_1_sg fun x _ => config_chosen_1 N x.1)
    | _ => none
theorem slices_IndexFunc_api_Case_2_fn_ok (N : Nat) : ∀ f q F, slices_IndexFunc_api_Case_2_fn N f q = some F → Sound Tryd.prog GW B0G f F := by
  intro f q F h
  unfold slices_IndexFunc_api_Case_2_fn at h
  split at h
  · cases h; exact config_chosen_1_sound N
  · cases h
def slices_IndexFunc_api_Case_2_h : Nat → Hint := fun i =>
  match i with
  | 0 => ⟨[], [0, 1, 7, 8], [], [], [], []⟩
  | _ => ⟨[], [], [], [], [], []⟩
abbrev slices_IndexFunc_api_Case_2_E (N : Nat) : Env := mkE slices_IndexFunc_api_Case_2_h (slices_IndexFunc_api_Case_2_fn N) (fun _ => false) (fun _ => false)
abbrev slices_IndexFunc_api_Case_2_L0_fs : List (Nat × Sl) := [(0, .v (.sl (.pr .str (.rc .value)))), (1, .v (.clo 121 .un)), (7, .v (.int .i64)), (8, .v (.int .i64))]
abbrev slices_IndexFunc_api_Case_2_L0_bs : List (Nat × Sb) := []
def slices_IndexFunc_api_Case_2_L0_hd (x0 : List (Str × GValue)) (x1 : Unit) (c7 : Int) (s8 : Int) : St := ⟨19, [(0, .v (.sl (.pr .str (.rc .value))) x0), (1, .v (.clo 121 .un) x1), (7, .v (.int .i64) c7), (8, .v (.int .i64) s8)], []⟩
def slices_IndexFunc_api_Case_2_L0_tl0 (_x0 : List (Str × GValue)) (_x1 : Unit) (_c7 : Int) : St := ⟨19, [], []⟩
def slices_IndexFunc_api_Case_2_L0_G (N : Nat) (x0 : List (Str × GValue)) (x1 : Unit) (c7 : Int) (s8 : Int) (k : Ex → St → Option Int) : Option Int :=
  slices_IndexFunc_api_Case_2_L0 N x0 c7 (k (.exit 0) (slices_IndexFunc_api_Case_2_L0_tl0 x0 x1 c7)) N s8
abbrev slices_IndexFunc_api_Case_2_L0_F (N : Nat) : FV slices_IndexFunc_api_Case_2_L0_fs → HV slices_IndexFunc_api_Case_2_L0_bs → (Ex → St → Option Int) → Option Int := fun x _ k => slices_IndexFunc_api_Case_2_L0_G N x.1 x.2.1 x.2.2.1 x.2.2.2.1 k
noncomputable def slices_IndexFunc_api_Case_2_LP (N : Nat) : Nat → Code → St → (Ex → St → Option Int) → Option Int := fun i c =>
  match i with
  | 0 => (LPc 19 slices_IndexFunc_api_Case_2_L0_fs slices_IndexFunc_api_Case_2_L0_bs (slices_IndexFunc_api_Case_2_L0_F N) (fun st k => iter (slices_IndexFunc_api_Case_2_h 0) (exec (slices_IndexFunc_api_Case_2_E N) N c 0) N st k))
  | i => fun st k => iter (slices_IndexFunc_api_Case_2_h i) (exec (slices_IndexFunc_api_Case_2_E N) N c i) N st k
theorem slices_IndexFunc_api_Case_2_L0_step (N : Nat) (x0 : List (Str × GValue)) (x1 : Unit) (c7 : Int) (KX : Nat → St → Option Int) (I : St → Option Int) (s8 : Int) :
    execL (slices_IndexFunc_api_Case_2_LP N) (slices_IndexFunc_api_Case_2_E N) (cAt (bodyOf Tryd.f120) [true, false, true, false, false]) 0 (slices_IndexFunc_api_Case_2_L0_hd x0 x1 c7 s8) (roundK (slices_IndexFunc_api_Case_2_h 0) I KX (resD (slices_IndexFunc_api_Case_2_E N) Tryd.f120 (slices_IndexFunc_api_Case_2_sg fun x _ => slices_IndexFunc_api_Case_2 N x.1 x.2.1) slices_IndexFunc_api_Case_2_pk)) = slices_IndexFunc_api_Case_2_L0T N x0 c7 (KX 0 (slices_IndexFunc_api_Case_2_L0_tl0 x0 x1 c7)) (fun s8 => I (slices_IndexFunc_api_Case_2_L0_hd x0 x1 c7 s8)) s8 := by kernel_rfl
theorem slices_IndexFunc_api_Case_2_L0_ok (N : Nat) : ∀ x y k, (∀ st, k .ret st = (resD (slices_IndexFunc_api_Case_2_E N) Tryd.f120 (slices_IndexFunc_api_Case_2_sg fun x _ => slices_IndexFunc_api_Case_2 N x.1 x.2.1) slices_IndexFunc_api_Case_2_pk) st) → iter (slices_IndexFunc_api_Case_2_h 0) (exec (slices_IndexFunc_api_Case_2_E N) N (cAt (bodyOf Tryd.f120) [true, false, true, false, false]) 0) N ⟨19, unF slices_IndexFunc_api_Case_2_L0_fs x, unH slices_IndexFunc_api_Case_2_L0_bs y⟩ k = slices_IndexFunc_api_Case_2_L0_F N x y k := fun x _ k hk =>
  iter_link (S := (Int) × Unit) (slices_IndexFunc_api_Case_2_h 0) _ (execL (slices_IndexFunc_api_Case_2_LP N) (slices_IndexFunc_api_Case_2_E N) (cAt (bodyOf Tryd.f120) [true, false, true, false, false]) 0) (resD (slices_IndexFunc_api_Case_2_E N) Tryd.f120 (slices_IndexFunc_api_Case_2_sg fun x _ => slices_IndexFunc_api_Case_2 N x.1 x.2.1) slices_IndexFunc_api_Case_2_pk) (fun st k hk => execL_eq _ _ N _ (cAt (bodyOf Tryd.f120) [true, false, true, false, false]) 0 (show LoopsOk (slices_IndexFunc_api_Case_2_LP N) (slices_IndexFunc_api_Case_2_E N) N (resD (slices_IndexFunc_api_Case_2_E N) Tryd.f120 (slices_IndexFunc_api_Case_2_sg fun x _ => slices_IndexFunc_api_Case_2 N x.1 x.2.1) slices_IndexFunc_api_Case_2_pk) [] from trivial) st k hk) (fun s => slices_IndexFunc_api_Case_2_L0_hd x.1 x.2.1 x.2.2.1 s.1) k hk
    (fun self s => slices_IndexFunc_api_Case_2_L0T N x.1 x.2.2.1 (k (.exit 0) (slices_IndexFunc_api_Case_2_L0_tl0 x.1 x.2.1 x.2.2.1)) (fun s8 => self (s8, ())) s.1) (fun n s => slices_IndexFunc_api_Case_2_L0 N x.1 x.2.2.1 (k (.exit 0) (slices_IndexFunc_api_Case_2_L0_tl0 x.1 x.2.1 x.2.2.1)) n s.1) (fun _ => rfl) (fun _ _ => rfl)
    (fun I s => slices_IndexFunc_api_Case_2_L0_step N x.1 x.2.1 x.2.2.1 (fun j => k (.exit j)) I s.1) N (x.2.2.2.1, ())
theorem slices_IndexFunc_api_Case_2_lp0 (N : Nat) : ∀ st k, (∀ st, k .ret st = (resD (slices_IndexFunc_api_Case_2_E N) Tryd.f120 (slices_IndexFunc_api_Case_2_sg fun x _ => slices_IndexFunc_api_Case_2 N x.1 x.2.1) slices_IndexFunc_api_Case_2_pk) st) → slices_IndexFunc_api_Case_2_LP N 0 (cAt (bodyOf Tryd.f120) [true, false, true, false, false]) st k = iter (Env.hint (slices_IndexFunc_api_Case_2_E N) 0) (exec (slices_IndexFunc_api_Case_2_E N) N (cAt (bodyOf Tryd.f120) [true, false, true, false, false]) 0) N st k := fun st k hk => LPc_eq 19 slices_IndexFunc_api_Case_2_L0_fs slices_IndexFunc_api_Case_2_L0_bs _ _ (resD (slices_IndexFunc_api_Case_2_E N) Tryd.f120 (slices_IndexFunc_api_Case_2_sg fun x _ => slices_IndexFunc_api_Case_2 N x.1 x.2.1) slices_IndexFunc_api_Case_2_pk) (slices_IndexFunc_api_Case_2_L0_ok N) _ st k hk (rfl)
theorem slices_IndexFunc_api_Case_2_core (N : Nat) (x : SV [.v (.sl (.pr .str (.rc .value))), .v (.clo 121 .un)]) (y : BV []) : runL (slices_IndexFunc_api_Case_2_E N) Tryd.f120 (slices_IndexFunc_api_Case_2_sg fun x _ => slices_IndexFunc_api_Case_2 N x.1 x.2.1) slices_IndexFunc_api_Case_2_pk (slices_IndexFunc_api_Case_2_LP N) x y = slices_IndexFunc_api_Case_2 N x.1 x.2.1 := by kernel_rfl
theorem slices_IndexFunc_api_Case_2_sound (N : Nat) : Sound Tryd.prog GW B0G 120 (slices_IndexFunc_api_Case_2_sg fun x _ => slices_IndexFunc_api_Case_2 N x.1 x.2.1) :=
  runD_sound (mkE_ok slices_IndexFunc_api_Case_2_h (slices_IndexFunc_api_Case_2_fn N) _ _ (slices_IndexFunc_api_Case_2_fn_ok N)) Tryd.func120 rfl Tryd.call120 (slices_IndexFunc_api_Case_2_sg fun x _ => slices_IndexFunc_api_Case_2 N x.1 x.2.1) slices_IndexFunc_api_Case_2_pk (fun _ _ => rfl) N (fun x y _ h => ((runL_eq (slices_IndexFunc_api_Case_2_E N) N Tryd.f120 (slices_IndexFunc_api_Case_2_sg fun x _ => slices_IndexFunc_api_Case_2 N x.1 x.2.1) slices_IndexFunc_api_Case_2_pk (slices_IndexFunc_api_Case_2_LP N) (show LoopsOk (slices_IndexFunc_api_Case_2_LP N) (slices_IndexFunc_api_Case_2_E N) N (resD (slices_IndexFunc_api_Case_2_E N) Tryd.f120 (slices_IndexFunc_api_Case_2_sg fun x _ => slices_IndexFunc_api_Case_2 N x.1 x.2.1) slices_IndexFunc_api_Case_2_pk) [(0, (cAt (bodyOf Tryd.f120) [true, false, true, false, false]))] from ⟨slices_IndexFunc_api_Case_2_lp0 N, trivial⟩) x y).trans (slices_IndexFunc_api_Case_2_core N x y)).trans h)
end
end Go.Proofs.YtbekhaioddmliaaDoor

