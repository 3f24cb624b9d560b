/- What functions of the program compute, as plain functions (printed). -/
import Derived.Test.YtbekhaioddmliaaGreatDoorQZcF7
namespace Go.Proofs.YtbekhaioddmliaaGreatDoor
open Go Go.RowKit
set_option maxRecDepth 100000
set_option linter.unusedVariables false
noncomputable section
def z5L0T (N : Nat) (x0 : List (Str × List (Str × Str) × List (Str × Str))) (x1 : Str × Unit) (c7 : Int) (k0 : Option Int) (self : Int → Option Int) (s8 : Int) : Option Int :=
  br (decide (s8 < c7))
    (bnd (geti x0 s8) fun t14 =>
    bnd (config_conditionOf_1 N t14 x1.1) fun t16 =>
    br (t16)
      (some s8)
      (self (IntKind.i64.wrap (s8 + (1 : Int)))))
    (k0)
def z5L0 (N : Nat) (x0 : List (Str × List (Str × Str) × List (Str × Str))) (x1 : Str × Unit) (c7 : Int) (k0 : Option Int) : Nat → Int → Option Int
  | 0, _ => none
  | n + 1, s8 => z5L0T N x0 x1 c7 k0 (z5L0 N x0 x1 c7 k0 n) s8
def slices_IndexFunc_api_Condition (N : Nat) (x0 : List (Str × List (Str × Str) × List (Str × Str))) (x1 : Str × Unit) : Option Int :=
  z5L0 N x0 x1 (x0.length : Int) (some (-1 : Int)) N (0 : Int)
abbrev z5sg (f : SV [.v (.sl (.pr .str (.pr (.sl (.pr .str .str)) (.sl (.pr .str .str))))), .v (.clo 121 (.pr (.ptr .str) .un))] → BV [] → Option (Int)) : AF := { ps := [.v (.sl (.pr .str (.pr (.sl (.pr .str .str)) (.sl (.pr .str .str))))), .v (.clo 121 (.pr (.ptr .str) .un))], bs := [], rs := [.v (.int .i64)], cs := [], R := Int, out := fun z => ((z, ()), ()), f := f }
abbrev z5pk : SV [.v (.int .i64)] → BV [] → Int := fun x _ => x.1
def z5fn (N : Nat) : FuncId → Option Tmp → Option AF := fun f _ =>
  match f with
    | 121 => some (z26sg fun x _ => config_conditionOf_1 N x.1 x.2.1)
    | _ => none
theorem z5fn_ok (N : Nat) : ∀ f q F, z5fn N f q = some F → Sound Tryz.prog GW B0G f F := by
  intro f q F h
  unfold z5fn at h
  split at h
  · cases h; exact z26sound N
  · cases h
def z5h : Nat → Hint := fun i =>
  match i with
  | 0 => ⟨[], [0, 1, 7, 8], [], [], [], []⟩
  | _ => ⟨[], [], [], [], [], []⟩
abbrev z5E (N : Nat) : Env := mkE z5h (z5fn N) (fun _ => false) (fun _ => false)
abbrev z5L0_fs : List (Nat × Sl) := [(0, .v (.sl (.pr .str (.pr (.sl (.pr .str .str)) (.sl (.pr .str .str)))))), (1, .v (.clo 121 (.pr (.ptr .str) .un))), (7, .v (.int .i64)), (8, .v (.int .i64))]
abbrev z5L0_bs : List (Nat × Sb) := []
def z5L0_hd (x0 : List (Str × List (Str × Str) × List (Str × Str))) (x1 : Str × Unit) (c7 : Int) (s8 : Int) : St := ⟨19, [(0, .v (.sl (.pr .str (.pr (.sl (.pr .str .str)) (.sl (.pr .str .str))))) x0), (1, .v (.clo 121 (.pr (.ptr .str) .un)) x1), (7, .v (.int .i64) c7), (8, .v (.int .i64) s8)], []⟩
def z5L0_tl0 (_x0 : List (Str × List (Str × Str) × List (Str × Str))) (_x1 : Str × Unit) (_c7 : Int) : St := ⟨19, [], []⟩
def z5L0_G (N : Nat) (x0 : List (Str × List (Str × Str) × List (Str × Str))) (x1 : Str × Unit) (c7 : Int) (s8 : Int) (k : Ex → St → Option Int) : Option Int :=
  z5L0 N x0 x1 c7 (k (.exit 0) (z5L0_tl0 x0 x1 c7)) N s8
abbrev z5L0_F (N : Nat) : FV z5L0_fs → HV z5L0_bs → (Ex → St → Option Int) → Option Int := fun x _ k => z5L0_G N x.1 x.2.1 x.2.2.1 x.2.2.2.1 k
noncomputable def z5LP (N : Nat) : Nat → Code → St → (Ex → St → Option Int) → Option Int := fun i c =>
  match i with
  | 0 => (LPc 19 z5L0_fs z5L0_bs (z5L0_F N) (fun st k => iter (z5h 0) (exec (z5E N) N c 0) N st k))
  | i => fun st k => iter (z5h i) (exec (z5E N) N c i) N st k
theorem z5L0_step (N : Nat) (x0 : List (Str × List (Str × Str) × List (Str × Str))) (x1 : Str × Unit) (c7 : Int) (KX : Nat → St → Option Int) (I : St → Option Int) (s8 : Int) :
    execL (z5LP N) (z5E N) (cAt (bodyOf Tryz.f120) [true, false, true, false, false]) 0 (z5L0_hd x0 x1 c7 s8) (roundK (z5h 0) I KX (resD (z5E N) Tryz.f120 (z5sg fun x _ => slices_IndexFunc_api_Condition N x.1 x.2.1) z5pk)) = z5L0T N x0 x1 c7 (KX 0 (z5L0_tl0 x0 x1 c7)) (fun s8 => I (z5L0_hd x0 x1 c7 s8)) s8 := by kernel_rfl
theorem z5L0_ok (N : Nat) : ∀ x y k, (∀ st, k .ret st = (resD (z5E N) Tryz.f120 (z5sg fun x _ => slices_IndexFunc_api_Condition N x.1 x.2.1) z5pk) st) → iter (z5h 0) (exec (z5E N) N (cAt (bodyOf Tryz.f120) [true, false, true, false, false]) 0) N ⟨19, unF z5L0_fs x, unH z5L0_bs y⟩ k = z5L0_F N x y k := fun x _ k hk =>
  iter_link (S := (Int) × Unit) (z5h 0) _ (execL (z5LP N) (z5E N) (cAt (bodyOf Tryz.f120) [true, false, true, false, false]) 0) (resD (z5E N) Tryz.f120 (z5sg fun x _ => slices_IndexFunc_api_Condition N x.1 x.2.1) z5pk) (fun st k hk => execL_eq _ _ N _ (cAt (bodyOf Tryz.f120) [true, false, true, false, false]) 0 (show LoopsOk (z5LP N) (z5E N) N (resD (z5E N) Tryz.f120 (z5sg fun x _ => slices_IndexFunc_api_Condition N x.1 x.2.1) z5pk) [] from trivial) st k hk) (fun s => z5L0_hd x.1 x.2.1 x.2.2.1 s.1) k hk
    (fun self s => z5L0T N x.1 x.2.1 x.2.2.1 (k (.exit 0) (z5L0_tl0 x.1 x.2.1 x.2.2.1)) (fun s8 => self (s8, ())) s.1) (fun n s => z5L0 N x.1 x.2.1 x.2.2.1 (k (.exit 0) (z5L0_tl0 x.1 x.2.1 x.2.2.1)) n s.1) (fun _ => rfl) (fun _ _ => rfl)
    (fun I s => z5L0_step N x.1 x.2.1 x.2.2.1 (fun j => k (.exit j)) I s.1) N (x.2.2.2.1, ())
theorem z5lp0 (N : Nat) : ∀ st k, (∀ st, k .ret st = (resD (z5E N) Tryz.f120 (z5sg fun x _ => slices_IndexFunc_api_Condition N x.1 x.2.1) z5pk) st) → z5LP N 0 (cAt (bodyOf Tryz.f120) [true, false, true, false, false]) st k = iter (Env.hint (z5E N) 0) (exec (z5E N) N (cAt (bodyOf Tryz.f120) [true, false, true, false, false]) 0) N st k := fun st k hk => LPc_eq 19 z5L0_fs z5L0_bs _ _ (resD (z5E N) Tryz.f120 (z5sg fun x _ => slices_IndexFunc_api_Condition N x.1 x.2.1) z5pk) (z5L0_ok N) _ st k hk (rfl)
theorem z5core (N : Nat) (x : SV [.v (.sl (.pr .str (.pr (.sl (.pr .str .str)) (.sl (.pr .str .str))))), .v (.clo 121 (.pr (.ptr .str) .un))]) (y : BV []) : runL (z5E N) Tryz.f120 (z5sg fun x _ => slices_IndexFunc_api_Condition N x.1 x.2.1) z5pk (z5LP N) x y = slices_IndexFunc_api_Condition N x.1 x.2.1 := by kernel_rfl
theorem z5sound (N : Nat) : Sound Tryz.prog GW B0G 120 (z5sg fun x _ => slices_IndexFunc_api_Condition N x.1 x.2.1) :=
  runD_sound (mkE_ok z5h (z5fn N) _ _ (z5fn_ok N)) Tryz.func120 rfl Tryz.call120 (z5sg fun x _ => slices_IndexFunc_api_Condition N x.1 x.2.1) z5pk (fun _ _ => rfl) N (fun x y _ h => ((runL_eq (z5E N) N Tryz.f120 (z5sg fun x _ => slices_IndexFunc_api_Condition N x.1 x.2.1) z5pk (z5LP N) (show LoopsOk (z5LP N) (z5E N) N (resD (z5E N) Tryz.f120 (z5sg fun x _ => slices_IndexFunc_api_Condition N x.1 x.2.1) z5pk) [(0, (cAt (bodyOf Tryz.f120) [true, false, true, false, false]))] from ⟨z5lp0 N, trivial⟩) x y).trans (z5core N x y)).trans h)
def config_conditionOf (N : Nat) (x0 : List (Str × List (Str × Str) × List (Str × Str))) (x1 : Str) : Option ((Str × List (Str × Str) × List (Str × Str)) × Bool) :=
  bnd (slices_IndexFunc_api_Condition N x0 (x1, ())) fun t9 =>
  br (decide (t9 < (0 : Int)))
    (some ((([] : Str), (([] : List (Str × Str)), ([] : List (Str × Str)))), false))
    (bnd (geti x0 t9) fun t15 =>
    some (t15, true))
abbrev z35sg (f : SV [.v (.sl (.pr .str (.pr (.sl (.pr .str .str)) (.sl (.pr .str .str))))), .v .str] → BV [] → Option ((Str × List (Str × Str) × List (Str × Str)) × Bool)) : AF := { ps := [.v (.sl (.pr .str (.pr (.sl (.pr .str .str)) (.sl (.pr .str .str))))), .v .str], bs := [], rs := [.v (.pr .str (.pr (.sl (.pr .str .str)) (.sl (.pr .str .str)))), .v .bool], cs := [], R := (Str × List (Str × Str) × List (Str × Str)) × Bool, out := fun z => ((z.1, z.2, ()), ()), f := f }
abbrev z35pk : SV [.v (.pr .str (.pr (.sl (.pr .str .str)) (.sl (.pr .str .str)))), .v .bool] → BV [] → ((Str × List (Str × Str) × List (Str × Str)) × Bool) := fun x _ => (x.1, x.2.1)
def z35fn (N : Nat) : FuncId → Option Tmp → Option AF := fun f _ =>
  match f with
    | 120 => some (z5sg fun x _ => slices_IndexFunc_api_Condition N x.1 x.2.1)
    | 121 => some (noneAF [.v (.ptr .str)])
    | _ => none
theorem z35fn_ok (N : Nat) : ∀ f q F, z35fn N f q = some F → Sound Tryz.prog GW B0G f F := by
  intro f q F h
  unfold z35fn at h
  split at h
  · cases h; exact z5sound N
  · cases h; exact noneAF_sound Tryz.call121 _
  · cases h
def z35h : Nat → Hint := fun i =>
  match i with
  | _ => ⟨[], [], [], [], [], []⟩
abbrev z35E (N : Nat) : Env := mkE z35h (z35fn N) (fun _ => false) (fun _ => false)
noncomputable def z35LP (N : Nat) : Nat → Code → St → (Ex → St → Option ((Str × List (Str × Str) × List (Str × Str)) × Bool)) → Option ((Str × List (Str × Str) × List (Str × Str)) × Bool) := fun i c =>
  match i with
  | i => fun st k => iter (z35h i) (exec (z35E N) N c i) N st k
theorem z35core (N : Nat) (x : SV [.v (.sl (.pr .str (.pr (.sl (.pr .str .str)) (.sl (.pr .str .str))))), .v .str]) (y : BV []) : runL (z35E N) Tryz.f66 (z35sg fun x _ => config_conditionOf N x.1 x.2.1) z35pk (z35LP N) x y = config_conditionOf N x.1 x.2.1 := by kernel_rfl
theorem z35sound (N : Nat) : Sound Tryz.prog GW B0G 66 (z35sg fun x _ => config_conditionOf N x.1 x.2.1) :=
  runD_sound (mkE_ok z35h (z35fn N) _ _ (z35fn_ok N)) Tryz.func66 rfl Tryz.call66 (z35sg fun x _ => config_conditionOf N x.1 x.2.1) z35pk (fun _ _ => rfl) N (fun x y _ h => ((runL_eq (z35E N) N Tryz.f66 (z35sg fun x _ => config_conditionOf N x.1 x.2.1) z35pk (z35LP N) (show LoopsOk (z35LP N) (z35E N) N (resD (z35E N) Tryz.f66 (z35sg fun x _ => config_conditionOf N x.1 x.2.1) z35pk) [] from trivial) x y).trans (z35core N x y)).trans h)
def z39L0T (N : Nat) (x0 : List (Str × List (Str × Str) × List (Str × Str))) (c10 : List (Str × GValue)) (c11 : Int) (k0 : Option Int) (self : Int → Option Int) (s12 : Int) : Option Int :=
  br (decide (s12 < c11))
    (bnd (geti c10 s12) fun t14 =>
    bnd (config_conditionOf N x0 t14.1) fun t20 =>
    br (!t20.2)
      (br (!(t14.1 == ([100, 101, 102, 97, 117, 108, 116] : Str)))
        (some (5 : Int))
        (self (IntKind.i64.wrap (s12 + (1 : Int)))))
      (self (IntKind.i64.wrap (s12 + (1 : Int)))))
    (k0)
def z39L0 (N : Nat) (x0 : List (Str × List (Str × Str) × List (Str × Str))) (c10 : List (Str × GValue)) (c11 : Int) (k0 : Option Int) : Nat → Int → Option Int
  | 0, _ => none
  | n + 1, s12 => z39L0T N x0 c10 c11 k0 (z39L0 N x0 c10 c11 k0 n) s12
def config_checkNamed (N : Nat) (x0 : List (Str × List (Str × Str) × List (Str × Str))) (x1 : GValue) : Option Int :=
  z39L0 N x0 x1.cases (x1.cases.length : Int) (some (0 : Int)) N (0 : Int)
abbrev z39sg (f : SV [.v (.sl (.pr .str (.pr (.sl (.pr .str .str)) (.sl (.pr .str .str))))), .v (.rc .value)] → BV [] → Option (Int)) : AF := { ps := [.v (.sl (.pr .str (.pr (.sl (.pr .str .str)) (.sl (.pr .str .str))))), .v (.rc .value)], bs := [], rs := [.v (.int .i64)], cs := [], R := Int, out := fun z => ((z, ()), ()), f := f }
abbrev z39pk : SV [.v (.int .i64)] → BV [] → Int := fun x _ => x.1
def z39fn (N : Nat) : FuncId → Option Tmp → Option AF := fun f _ =>
  match f with
    | 66 => some (z35sg fun x _ => config_conditionOf N x.1 x.2.1)
    | _ => none
theorem z39fn_ok (N : Nat) : ∀ f q F, z39fn N f q = some F → Sound Tryz.prog GW B0G f F := by
  intro f q F h
  unfold z39fn at h
  split at h
  · cases h; exact z35sound N
  · cases h
def z39h : Nat → Hint := fun i =>
  match i with
  | 0 => ⟨[], [0, 10, 11, 12], [], [], [], []⟩
  | _ => ⟨[], [], [], [], [], []⟩
abbrev z39E (N : Nat) : Env := mkE z39h (z39fn N) (fun _ => false) (fun _ => false)
abbrev z39L0_fs : List (Nat × Sl) := [(0, .v (.sl (.pr .str (.pr (.sl (.pr .str .str)) (.sl (.pr .str .str)))))), (10, .v (.sl (.pr .str (.rc .value)))), (11, .v (.int .i64)), (12, .v (.int .i64))]
abbrev z39L0_bs : List (Nat × Sb) := []
def z39L0_hd (x0 : List (Str × List (Str × Str) × List (Str × Str))) (c10 : List (Str × GValue)) (c11 : Int) (s12 : Int) : St := ⟨31, [(0, .v (.sl (.pr .str (.pr (.sl (.pr .str .str)) (.sl (.pr .str .str))))) x0), (10, .v (.sl (.pr .str (.rc .value))) c10), (11, .v (.int .i64) c11), (12, .v (.int .i64) s12)], []⟩
def z39L0_tl0 (_x0 : List (Str × List (Str × Str) × List (Str × Str))) (_c10 : List (Str × GValue)) (_c11 : Int) : St := ⟨31, [], []⟩
def z39L0_G (N : Nat) (x0 : List (Str × List (Str × Str) × List (Str × Str))) (c10 : List (Str × GValue)) (c11 : Int) (s12 : Int) (k : Ex → St → Option Int) : Option Int :=
  z39L0 N x0 c10 c11 (k (.exit 0) (z39L0_tl0 x0 c10 c11)) N s12
abbrev z39L0_F (N : Nat) : FV z39L0_fs → HV z39L0_bs → (Ex → St → Option Int) → Option Int := fun x _ k => z39L0_G N x.1 x.2.1 x.2.2.1 x.2.2.2.1 k
noncomputable def z39LP (N : Nat) : Nat → Code → St → (Ex → St → Option Int) → Option Int := fun i c =>
  match i with
  | 0 => (LPc 31 z39L0_fs z39L0_bs (z39L0_F N) (fun st k => iter (z39h 0) (exec (z39E N) N c 0) N st k))
  | i => fun st k => iter (z39h i) (exec (z39E N) N c i) N st k
theorem z39L0_step (N : Nat) (x0 : List (Str × List (Str × Str) × List (Str × Str))) (c10 : List (Str × GValue)) (c11 : Int) (KX : Nat → St → Option Int) (I : St → Option Int) (s12 : Int) :
    execL (z39LP N) (z39E N) (cAt (bodyOf Tryz.f65) [true, false, true, false, false]) 0 (z39L0_hd x0 c10 c11 s12) (roundK (z39h 0) I KX (resD (z39E N) Tryz.f65 (z39sg fun x _ => config_checkNamed N x.1 x.2.1) z39pk)) = z39L0T N x0 c10 c11 (KX 0 (z39L0_tl0 x0 c10 c11)) (fun s12 => I (z39L0_hd x0 c10 c11 s12)) s12 := by kernel_rfl
theorem z39L0_ok (N : Nat) : ∀ x y k, (∀ st, k .ret st = (resD (z39E N) Tryz.f65 (z39sg fun x _ => config_checkNamed N x.1 x.2.1) z39pk) st) → iter (z39h 0) (exec (z39E N) N (cAt (bodyOf Tryz.f65) [true, false, true, false, false]) 0) N ⟨31, unF z39L0_fs x, unH z39L0_bs y⟩ k = z39L0_F N x y k := fun x _ k hk =>
  iter_link (S := (Int) × Unit) (z39h 0) _ (execL (z39LP N) (z39E N) (cAt (bodyOf Tryz.f65) [true, false, true, false, false]) 0) (resD (z39E N) Tryz.f65 (z39sg fun x _ => config_checkNamed N x.1 x.2.1) z39pk) (fun st k hk => execL_eq _ _ N _ (cAt (bodyOf Tryz.f65) [true, false, true, false, false]) 0 (show LoopsOk (z39LP N) (z39E N) N (resD (z39E N) Tryz.f65 (z39sg fun x _ => config_checkNamed N x.1 x.2.1) z39pk) [] from trivial) st k hk) (fun s => z39L0_hd x.1 x.2.1 x.2.2.1 s.1) k hk
    (fun self s => z39L0T N x.1 x.2.1 x.2.2.1 (k (.exit 0) (z39L0_tl0 x.1 x.2.1 x.2.2.1)) (fun s12 => self (s12, ())) s.1) (fun n s => z39L0 N x.1 x.2.1 x.2.2.1 (k (.exit 0) (z39L0_tl0 x.1 x.2.1 x.2.2.1)) n s.1) (fun _ => rfl) (fun _ _ => rfl)
    (fun I s => z39L0_step N x.1 x.2.1 x.2.2.1 (fun j => k (.exit j)) I s.1) N (x.2.2.2.1, ())
theorem z39lp0 (N : Nat) : ∀ st k, (∀ st, k .ret st = (resD (z39E N) Tryz.f65 (z39sg fun x _ => config_checkNamed N x.1 x.2.1) z39pk) st) → z39LP N 0 (cAt (bodyOf Tryz.f65) [true, false, true, false, false]) st k = iter (Env.hint (z39E N) 0) (exec (z39E N) N (cAt (bodyOf Tryz.f65) [true, false, true, false, false]) 0) N st k := fun st k hk => LPc_eq 31 z39L0_fs z39L0_bs _ _ (resD (z39E N) Tryz.f65 (z39sg fun x _ => config_checkNamed N x.1 x.2.1) z39pk) (z39L0_ok N) _ st k hk (rfl)
theorem z39core (N : Nat) (x : SV [.v (.sl (.pr .str (.pr (.sl (.pr .str .str)) (.sl (.pr .str .str))))), .v (.rc .value)]) (y : BV []) : runL (z39E N) Tryz.f65 (z39sg fun x _ => config_checkNamed N x.1 x.2.1) z39pk (z39LP N) x y = config_checkNamed N x.1 x.2.1 := by kernel_rfl
theorem z39sound (N : Nat) : Sound Tryz.prog GW B0G 65 (z39sg fun x _ => config_checkNamed N x.1 x.2.1) :=
  runD_sound (mkE_ok z39h (z39fn N) _ _ (z39fn_ok N)) Tryz.func65 rfl Tryz.call65 (z39sg fun x _ => config_checkNamed N x.1 x.2.1) z39pk (fun _ _ => rfl) N (fun x y _ h => ((runL_eq (z39E N) N Tryz.f65 (z39sg fun x _ => config_checkNamed N x.1 x.2.1) z39pk (z39LP N) (show LoopsOk (z39LP N) (z39E N) N (resD (z39E N) Tryz.f65 (z39sg fun x _ => config_checkNamed N x.1 x.2.1) z39pk) [(0, (cAt (bodyOf Tryz.f65) [true, false, true, false, false]))] from ⟨z39lp0 N, trivial⟩) x y).trans (z39core N x y)).trans h)
def config_chosen_1 (_N : Nat) (x0 : Str × GValue) : Option Bool :=
  some (x0.1 == ([100, 101, 102, 97, 117, 108, 116] : Str))
abbrev z50sg (f : SV [.v (.pr .str (.rc .value))] → BV [] → Option (Bool)) : AF := { ps := [.v (.pr .str (.rc .value))], bs := [], rs := [.v .bool], cs := [], R := Bool, out := fun z => ((z, ()), ()), f := f }
abbrev z50pk : SV [.v .bool] → BV [] → Bool := fun x _ => x.1
def z50fn (_N : Nat) : FuncId → Option Tmp → Option AF := fun f _ =>
  match f with
    | _ => none
theorem z50fn_ok (N : Nat) : ∀ f q F, z50fn N f q = some F → Sound Tryz.prog GW B0G f F := by
  intro f q F h
  unfold z50fn at h
  split at h
  · cases h
def z50h : Nat → Hint := fun i =>
  match i with
  | _ => ⟨[], [], [], [], [], []⟩
abbrev z50E (N : Nat) : Env := mkE z50h (z50fn N) (fun _ => false) (fun _ => false)
noncomputable def z50LP (N : Nat) : Nat → Code → St → (Ex → St → Option Bool) → Option Bool := fun i c =>
  match i with
  | i => fun st k => iter (z50h i) (exec (z50E N) N c i) N st k
theorem z50core (N : Nat) (x : SV [.v (.pr .str (.rc .value))]) (y : BV []) : runL (z50E N) Tryz.f83 (z50sg fun x _ => config_chosen_1 N x.1) z50pk (z50LP N) x y = config_chosen_1 N x.1 := by kernel_rfl
theorem z50sound (N : Nat) : Sound Tryz.prog GW B0G 83 (z50sg fun x _ => config_chosen_1 N x.1) :=
  runD_sound (mkE_ok z50h (z50fn N) _ _ (z50fn_ok N)) Tryz.func83 rfl Tryz.call83 (z50sg fun x _ => config_chosen_1 N x.1) z50pk (fun _ _ => rfl) N (fun x y _ h => ((runL_eq (z50E N) N Tryz.f83 (z50sg fun x _ => config_chosen_1 N x.1) z50pk (z50LP N) (show LoopsOk (z50LP N) (z50E N) N (resD (z50E N) Tryz.f83 (z50sg fun x _ => config_chosen_1 N x.1) z50pk) [] from trivial) x y).trans (z50core N x y)).trans h)
abbrev z60sg (f : SV [.v (.pr .str (.rc .value)), .v (.pr .str (.rc .value))] → BV [] → Option (Bool)) : AF := { ps := [.v (.pr .str (.rc .value)), .v (.pr .str (.rc .value))], bs := [], rs := [.v .bool], cs := [], R := Bool, out := fun z => ((z, ()), ()), f := f }
def z16L0T (_N : Nat) (r_script_Equal_1 : (Str × GValue) → (Str × GValue) → Option (Bool)) (x1 : List (Str × GValue)) (x0 : List (Str × GValue)) (c16 : Int) (k0 : Option Bool) (self : Int → Option Bool) (s17 : Int) : Option Bool :=
  br (decide (s17 < c16))
    (bnd (geti x0 s17) fun t20 =>
    bnd (geti x1 s17) fun t24 =>
    bnd (r_script_Equal_1 (t20.1, GValue.mk t20.2.kind t20.2.text t20.2.number t20.2.list t20.2.cases) (t24.1, GValue.mk t24.2.kind t24.2.text t24.2.number t24.2.list t24.2.cases)) fun t29 =>
    br (!t29)
      (some false)
      (self (IntKind.i64.wrap (s17 + (1 : Int)))))
    (k0)
def z16L0 (N : Nat) (r_script_Equal_1 : (Str × GValue) → (Str × GValue) → Option (Bool)) (x1 : List (Str × GValue)) (x0 : List (Str × GValue)) (c16 : Int) (k0 : Option Bool) : Nat → Int → Option Bool
  | 0, _ => none
  | n + 1, s17 => z16L0T N r_script_Equal_1 x1 x0 c16 k0 (z16L0 N r_script_Equal_1 x1 x0 c16 k0 n) s17
def slices_EqualFunc_api_Case (N : Nat) (r_script_Equal_1 : (Str × GValue) → (Str × GValue) → Option (Bool)) (x0 : List (Str × GValue)) (x1 : List (Str × GValue)) (_x2 : Unit) : Option Bool :=
  br ((x0.length : Int) != (x1.length : Int))
    (some false)
    (z16L0 N r_script_Equal_1 x1 x0 (x0.length : Int) (some true) N (0 : Int))
abbrev z16sg (f : SV [.v (.sl (.pr .str (.rc .value))), .v (.sl (.pr .str (.rc .value))), .v (.clo 136 .un)] → BV [] → Option (Bool)) : AF := { ps := [.v (.sl (.pr .str (.rc .value))), .v (.sl (.pr .str (.rc .value))), .v (.clo 136 .un)], bs := [], rs := [.v .bool], cs := [], R := Bool, out := fun z => ((z, ()), ()), f := f }
abbrev z16pk : SV [.v .bool] → BV [] → Bool := fun x _ => x.1
def z16fn (_N : Nat) (r_script_Equal_1 : (Str × GValue) → (Str × GValue) → Option (Bool)) : FuncId → Option Tmp → Option AF := fun f _ =>
  match f with
    | 136 => some (z60sg fun x _ => r_script_Equal_1 x.1 x.2.1)
    | _ => none
theorem z16fn_ok (N : Nat) (r_script_Equal_1 : (Str × GValue) → (Str × GValue) → Option (Bool)) (h_script_Equal_1 : Sound Tryz.prog GW B0G 136 (z60sg fun x y => r_script_Equal_1 x.1 x.2.1)) : ∀ f q F, z16fn N r_script_Equal_1 f q = some F → Sound Tryz.prog GW B0G f F := by
  intro f q F h
  unfold z16fn at h
  split at h
  · cases h; exact h_script_Equal_1
  · cases h
def z16h : Nat → Hint := fun i =>
  match i with
  | 0 => ⟨[], [1, 2, 15, 16, 17], [], [], [], []⟩
  | _ => ⟨[], [], [], [], [], []⟩
abbrev z16E (N : Nat) (r_script_Equal_1 : (Str × GValue) → (Str × GValue) → Option (Bool)) : Env := mkE z16h (z16fn N r_script_Equal_1) (fun _ => false) (fun _ => false)
abbrev z16L0_fs : List (Nat × Sl) := [(1, .v (.sl (.pr .str (.rc .value)))), (2, .v (.clo 136 .un)), (15, .v (.sl (.pr .str (.rc .value)))), (16, .v (.int .i64)), (17, .v (.int .i64))]
abbrev z16L0_bs : List (Nat × Sb) := []
def z16L0_hd (x1 : List (Str × GValue)) (x2 : Unit) (x0 : List (Str × GValue)) (c16 : Int) (s17 : Int) : St := ⟨32, [(1, .v (.sl (.pr .str (.rc .value))) x1), (2, .v (.clo 136 .un) x2), (15, .v (.sl (.pr .str (.rc .value))) x0), (16, .v (.int .i64) c16), (17, .v (.int .i64) s17)], []⟩
def z16L0_tl0 (_x1 : List (Str × GValue)) (_x2 : Unit) (_x0 : List (Str × GValue)) (_c16 : Int) : St := ⟨32, [], []⟩
def z16L0_G (N : Nat) (r_script_Equal_1 : (Str × GValue) → (Str × GValue) → Option (Bool)) (x1 : List (Str × GValue)) (x2 : Unit) (x0 : List (Str × GValue)) (c16 : Int) (s17 : Int) (k : Ex → St → Option Bool) : Option Bool :=
  z16L0 N r_script_Equal_1 x1 x0 c16 (k (.exit 0) (z16L0_tl0 x1 x2 x0 c16)) N s17
abbrev z16L0_F (N : Nat) (r_script_Equal_1 : (Str × GValue) → (Str × GValue) → Option (Bool)) : FV z16L0_fs → HV z16L0_bs → (Ex → St → Option Bool) → Option Bool := fun x _ k => z16L0_G N r_script_Equal_1 x.1 x.2.1 x.2.2.1 x.2.2.2.1 x.2.2.2.2.1 k
noncomputable def z16LP (N : Nat) (r_script_Equal_1 : (Str × GValue) → (Str × GValue) → Option (Bool)) : Nat → Code → St → (Ex → St → Option Bool) → Option Bool := fun i c =>
  match i with
  | 0 => (LPc 32 z16L0_fs z16L0_bs (z16L0_F N r_script_Equal_1) (fun st k => iter (z16h 0) (exec (z16E N r_script_Equal_1) N c 0) N st k))
  | i => fun st k => iter (z16h i) (exec (z16E N r_script_Equal_1) N c i) N st k
theorem z16L0_step (N : Nat) (r_script_Equal_1 : (Str × GValue) → (Str × GValue) → Option (Bool)) (x1 : List (Str × GValue)) (x2 : Unit) (x0 : List (Str × GValue)) (c16 : Int) (KX : Nat → St → Option Bool) (I : St → Option Bool) (s17 : Int) :
    execL (z16LP N r_script_Equal_1) (z16E N r_script_Equal_1) (cAt (bodyOf Tryz.f135) [true, true, false, true, false, false]) 0 (z16L0_hd x1 x2 x0 c16 s17) (roundK (z16h 0) I KX (resD (z16E N r_script_Equal_1) Tryz.f135 (z16sg fun x _ => slices_EqualFunc_api_Case N r_script_Equal_1 x.1 x.2.1 x.2.2.1) z16pk)) = z16L0T N r_script_Equal_1 x1 x0 c16 (KX 0 (z16L0_tl0 x1 x2 x0 c16)) (fun s17 => I (z16L0_hd x1 x2 x0 c16 s17)) s17 := by kernel_rfl
theorem z16L0_ok (N : Nat) (r_script_Equal_1 : (Str × GValue) → (Str × GValue) → Option (Bool)) : ∀ x y k, (∀ st, k .ret st = (resD (z16E N r_script_Equal_1) Tryz.f135 (z16sg fun x _ => slices_EqualFunc_api_Case N r_script_Equal_1 x.1 x.2.1 x.2.2.1) z16pk) st) → iter (z16h 0) (exec (z16E N r_script_Equal_1) N (cAt (bodyOf Tryz.f135) [true, true, false, true, false, false]) 0) N ⟨32, unF z16L0_fs x, unH z16L0_bs y⟩ k = z16L0_F N r_script_Equal_1 x y k := fun x _ k hk =>
  iter_link (S := (Int) × Unit) (z16h 0) _ (execL (z16LP N r_script_Equal_1) (z16E N r_script_Equal_1) (cAt (bodyOf Tryz.f135) [true, true, false, true, false, false]) 0) (resD (z16E N r_script_Equal_1) Tryz.f135 (z16sg fun x _ => slices_EqualFunc_api_Case N r_script_Equal_1 x.1 x.2.1 x.2.2.1) z16pk) (fun st k hk => execL_eq _ _ N _ (cAt (bodyOf Tryz.f135) [true, true, false, true, false, false]) 0 (show LoopsOk (z16LP N r_script_Equal_1) (z16E N r_script_Equal_1) N (resD (z16E N r_script_Equal_1) Tryz.f135 (z16sg fun x _ => slices_EqualFunc_api_Case N r_script_Equal_1 x.1 x.2.1 x.2.2.1) z16pk) [] from trivial) st k hk) (fun s => z16L0_hd x.1 x.2.1 x.2.2.1 x.2.2.2.1 s.1) k hk
    (fun self s => z16L0T N r_script_Equal_1 x.1 x.2.2.1 x.2.2.2.1 (k (.exit 0) (z16L0_tl0 x.1 x.2.1 x.2.2.1 x.2.2.2.1)) (fun s17 => self (s17, ())) s.1) (fun n s => z16L0 N r_script_Equal_1 x.1 x.2.2.1 x.2.2.2.1 (k (.exit 0) (z16L0_tl0 x.1 x.2.1 x.2.2.1 x.2.2.2.1)) n s.1) (fun _ => rfl) (fun _ _ => rfl)
    (fun I s => z16L0_step N r_script_Equal_1 x.1 x.2.1 x.2.2.1 x.2.2.2.1 (fun j => k (.exit j)) I s.1) N (x.2.2.2.2.1, ())
theorem z16lp0 (N : Nat) (r_script_Equal_1 : (Str × GValue) → (Str × GValue) → Option (Bool)) : ∀ st k, (∀ st, k .ret st = (resD (z16E N r_script_Equal_1) Tryz.f135 (z16sg fun x _ => slices_EqualFunc_api_Case N r_script_Equal_1 x.1 x.2.1 x.2.2.1) z16pk) st) → z16LP N r_script_Equal_1 0 (cAt (bodyOf Tryz.f135) [true, true, false, true, false, false]) st k = iter (Env.hint (z16E N r_script_Equal_1) 0) (exec (z16E N r_script_Equal_1) N (cAt (bodyOf Tryz.f135) [true, true, false, true, false, false]) 0) N st k := fun st k hk => LPc_eq 32 z16L0_fs z16L0_bs _ _ (resD (z16E N r_script_Equal_1) Tryz.f135 (z16sg fun x _ => slices_EqualFunc_api_Case N r_script_Equal_1 x.1 x.2.1 x.2.2.1) z16pk) (z16L0_ok N r_script_Equal_1) _ st k hk (rfl)
theorem z16core (N : Nat) (r_script_Equal_1 : (Str × GValue) → (Str × GValue) → Option (Bool)) (x : SV [.v (.sl (.pr .str (.rc .value))), .v (.sl (.pr .str (.rc .value))), .v (.clo 136 .un)]) (y : BV []) : runL (z16E N r_script_Equal_1) Tryz.f135 (z16sg fun x _ => slices_EqualFunc_api_Case N r_script_Equal_1 x.1 x.2.1 x.2.2.1) z16pk (z16LP N r_script_Equal_1) x y = slices_EqualFunc_api_Case N r_script_Equal_1 x.1 x.2.1 x.2.2.1 := by kernel_rfl
theorem z16sound (N : Nat) (r_script_Equal_1 : (Str × GValue) → (Str × GValue) → Option (Bool)) (h_script_Equal_1 : Sound Tryz.prog GW B0G 136 (z60sg fun x y => r_script_Equal_1 x.1 x.2.1)) : Sound Tryz.prog GW B0G 135 (z16sg fun x _ => slices_EqualFunc_api_Case N r_script_Equal_1 x.1 x.2.1 x.2.2.1) :=
  runD_sound (mkE_ok z16h (z16fn N r_script_Equal_1) _ _ (z16fn_ok N r_script_Equal_1 h_script_Equal_1)) Tryz.func135 rfl Tryz.call135 (z16sg fun x _ => slices_EqualFunc_api_Case N r_script_Equal_1 x.1 x.2.1 x.2.2.1) z16pk (fun _ _ => rfl) N (fun x y _ h => ((runL_eq (z16E N r_script_Equal_1) N Tryz.f135 (z16sg fun x _ => slices_EqualFunc_api_Case N r_script_Equal_1 x.1 x.2.1 x.2.2.1) z16pk (z16LP N r_script_Equal_1) (show LoopsOk (z16LP N r_script_Equal_1) (z16E N r_script_Equal_1) N (resD (z16E N r_script_Equal_1) Tryz.f135 (z16sg fun x _ => slices_EqualFunc_api_Case N r_script_Equal_1 x.1 x.2.1 x.2.2.1) z16pk) [(0, (cAt (bodyOf Tryz.f135) [true, true, false, true, false, false]))] from ⟨z16lp0 N r_script_Equal_1, trivial⟩) x y).trans (z16core N r_script_Equal_1 x y)).trans h)
def script_Equal (N : Nat) (r_script_Equal_1 : (Str × GValue) → (Str × GValue) → Option (Bool)) (x0 : GValue) (x1 : GValue) : Option Bool :=
  br (x0.kind == x1.kind)
    (br (x0.text == x1.text)
      (br (x0.number == x1.number)
        (bnd (slices_Equal_string_string N x0.list x1.list) fun t29 =>
        br (t29)
          (bnd (slices_EqualFunc_api_Case N r_script_Equal_1 x0.cases x1.cases ()) fun t36 =>
          some t36)
          (some false))
        (some false))
      (some false))
    (some false)
abbrev z71sg (f : SV [.v (.rc .value), .v (.rc .value)] → BV [] → Option (Bool)) : AF := { ps := [.v (.rc .value), .v (.rc .value)], bs := [], rs := [.v .bool], cs := [], R := Bool, out := fun z => ((z, ()), ()), f := f }
abbrev z71pk : SV [.v .bool] → BV [] → Bool := fun x _ => x.1
def z71fn (N : Nat) (r_script_Equal_1 : (Str × GValue) → (Str × GValue) → Option (Bool)) : FuncId → Option Tmp → Option AF := fun f _ =>
  match f with
    | 20 => some (z14sg fun x _ => slices_Equal_string_string N x.1 x.2.1)
    | 135 => some (z16sg fun x _ => slices_EqualFunc_api_Case N r_script_Equal_1 x.1 x.2.1 x.2.2.1)
    | _ => none
theorem z71fn_ok (N : Nat) (r_script_Equal_1 : (Str × GValue) → (Str × GValue) → Option (Bool)) (h_script_Equal_1 : Sound Tryz.prog GW B0G 136 (z60sg fun x y => r_script_Equal_1 x.1 x.2.1)) : ∀ f q F, z71fn N r_script_Equal_1 f q = some F → Sound Tryz.prog GW B0G f F := by
  intro f q F h
  unfold z71fn at h
  split at h
  · cases h; exact z14sound N
  · cases h; exact z16sound N r_script_Equal_1 h_script_Equal_1
  · cases h
def z71h : Nat → Hint := fun i =>
  match i with
  | _ => ⟨[], [], [], [], [], []⟩
abbrev z71E (N : Nat) (r_script_Equal_1 : (Str × GValue) → (Str × GValue) → Option (Bool)) : Env := mkE z71h (z71fn N r_script_Equal_1) (fun _ => false) (fun _ => false)
noncomputable def z71LP (N : Nat) (r_script_Equal_1 : (Str × GValue) → (Str × GValue) → Option (Bool)) : Nat → Code → St → (Ex → St → Option Bool) → Option Bool := fun i c =>
  match i with
  | i => fun st k => iter (z71h i) (exec (z71E N r_script_Equal_1) N c i) N st k
theorem z71core (N : Nat) (r_script_Equal_1 : (Str × GValue) → (Str × GValue) → Option (Bool)) (x : SV [.v (.rc .value), .v (.rc .value)]) (y : BV []) : runL (z71E N r_script_Equal_1) Tryz.f84 (z71sg fun x _ => script_Equal N r_script_Equal_1 x.1 x.2.1) z71pk (z71LP N r_script_Equal_1) x y = script_Equal N r_script_Equal_1 x.1 x.2.1 := by kernel_rfl
theorem z71sound (N : Nat) (r_script_Equal_1 : (Str × GValue) → (Str × GValue) → Option (Bool)) (h_script_Equal_1 : Sound Tryz.prog GW B0G 136 (z60sg fun x y => r_script_Equal_1 x.1 x.2.1)) : Sound Tryz.prog GW B0G 84 (z71sg fun x _ => script_Equal N r_script_Equal_1 x.1 x.2.1) :=
  runD_sound (mkE_ok z71h (z71fn N r_script_Equal_1) _ _ (z71fn_ok N r_script_Equal_1 h_script_Equal_1)) Tryz.func84 rfl Tryz.call84 (z71sg fun x _ => script_Equal N r_script_Equal_1 x.1 x.2.1) z71pk (fun _ _ => rfl) N (fun x y _ h => ((runL_eq (z71E N r_script_Equal_1) N Tryz.f84 (z71sg fun x _ => script_Equal N r_script_Equal_1 x.1 x.2.1) z71pk (z71LP N r_script_Equal_1) (show LoopsOk (z71LP N r_script_Equal_1) (z71E N r_script_Equal_1) N (resD (z71E N r_script_Equal_1) Tryz.f84 (z71sg fun x _ => script_Equal N r_script_Equal_1 x.1 x.2.1) z71pk) [] from trivial) x y).trans (z71core N r_script_Equal_1 x y)).trans h)
def script_Equal_1_b (N : Nat) (r_script_Equal_1 : (Str × GValue) → (Str × GValue) → Option (Bool)) (x0 : Str × GValue) (x1 : Str × GValue) : Option Bool :=
  br (x0.1 == x1.1)
    (bnd (script_Equal N r_script_Equal_1 (GValue.mk x0.2.kind x0.2.text x0.2.number x0.2.list x0.2.cases) (GValue.mk x1.2.kind x1.2.text x1.2.number x1.2.list x1.2.cases)) fun t15 =>
    some t15)
    (some false)
abbrev z47sg (f : SV [.v (.pr .str (.rc .value)), .v (.pr .str (.rc .value))] → BV [] → Option (Bool)) : AF := { ps := [.v (.pr .str (.rc .value)), .v (.pr .str (.rc .value))], bs := [], rs := [.v .bool], cs := [], R := Bool, out := fun z => ((z, ()), ()), f := f }
abbrev z47pk : SV [.v .bool] → BV [] → Bool := fun x _ => x.1
def z47fn (N : Nat) (r_script_Equal_1 : (Str × GValue) → (Str × GValue) → Option (Bool)) : FuncId → Option Tmp → Option AF := fun f _ =>
  match f with
    | 84 => some (z71sg fun x _ => script_Equal N r_script_Equal_1 x.1 x.2.1)
    | _ => none
theorem z47fn_ok (N : Nat) (r_script_Equal_1 : (Str × GValue) → (Str × GValue) → Option (Bool)) (h_script_Equal_1 : Sound Tryz.prog GW B0G 136 (z60sg fun x y => r_script_Equal_1 x.1 x.2.1)) : ∀ f q F, z47fn N r_script_Equal_1 f q = some F → Sound Tryz.prog GW B0G f F := by
  intro f q F h
  unfold z47fn at h
  split at h
  · cases h; exact z71sound N r_script_Equal_1 h_script_Equal_1
  · cases h
def z47h : Nat → Hint := fun i =>
  match i with
  | _ => ⟨[], [], [], [], [], []⟩
abbrev z47E (N : Nat) (r_script_Equal_1 : (Str × GValue) → (Str × GValue) → Option (Bool)) : Env := mkE z47h (z47fn N r_script_Equal_1) (fun _ => false) (fun _ => false)
noncomputable def z47LP (N : Nat) (r_script_Equal_1 : (Str × GValue) → (Str × GValue) → Option (Bool)) : Nat → Code → St → (Ex → St → Option Bool) → Option Bool := fun i c =>
  match i with
  | i => fun st k => iter (z47h i) (exec (z47E N r_script_Equal_1) N c i) N st k
theorem z47core (N : Nat) (r_script_Equal_1 : (Str × GValue) → (Str × GValue) → Option (Bool)) (x : SV [.v (.pr .str (.rc .value)), .v (.pr .str (.rc .value))]) (y : BV []) : runL (z47E N r_script_Equal_1) Tryz.f136 (z47sg fun x _ => script_Equal_1_b N r_script_Equal_1 x.1 x.2.1) z47pk (z47LP N r_script_Equal_1) x y = script_Equal_1_b N r_script_Equal_1 x.1 x.2.1 := by kernel_rfl
theorem z47sound (N : Nat) (r_script_Equal_1 : (Str × GValue) → (Str × GValue) → Option (Bool)) (h_script_Equal_1 : Sound Tryz.prog GW B0G 136 (z60sg fun x y => r_script_Equal_1 x.1 x.2.1)) : Sound Tryz.prog GW B0G 136 (z47sg fun x _ => script_Equal_1_b N r_script_Equal_1 x.1 x.2.1) :=
  runD_sound (mkE_ok z47h (z47fn N r_script_Equal_1) _ _ (z47fn_ok N r_script_Equal_1 h_script_Equal_1)) Tryz.func136 rfl Tryz.call136 (z47sg fun x _ => script_Equal_1_b N r_script_Equal_1 x.1 x.2.1) z47pk (fun _ _ => rfl) N (fun x y _ h => ((runL_eq (z47E N r_script_Equal_1) N Tryz.f136 (z47sg fun x _ => script_Equal_1_b N r_script_Equal_1 x.1 x.2.1) z47pk (z47LP N r_script_Equal_1) (show LoopsOk (z47LP N r_script_Equal_1) (z47E N r_script_Equal_1) N (resD (z47E N r_script_Equal_1) Tryz.f136 (z47sg fun x _ => script_Equal_1_b N r_script_Equal_1 x.1 x.2.1) z47pk) [] from trivial) x y).trans (z47core N r_script_Equal_1 x y)).trans h)
def script_Equal_1 (N : Nat) : Nat → (Str × GValue) → (Str × GValue) → Option (Bool)
  | 0 => fun _ _ => none
  | d + 1 => script_Equal_1_b N (script_Equal_1 N d)
theorem z60sound (N : Nat) : ∀ d, Sound Tryz.prog GW B0G 136 (z60sg fun x y => script_Equal_1 N d x.1 x.2.1)
  | 0 => Sound.never Tryz.call136 (fun _ _ => rfl)
  | d + 1 => z47sound N (script_Equal_1 N d) (z60sound N d)
def config_isMore (N : Nat) (x0 : Str × List (Str × Str) × List (Str × Str)) (x1 : Str × List (Str × Str) × List (Str × Str)) : Option Bool :=
  bnd (config_Fit N x1.2.1 x0.2.1) fun t9 =>
  br (t9)
    (bnd (config_Fit N x1.2.2 x0.2.2) fun t15 =>
    br (t15)
      (some (decide ((IntKind.i64.wrap ((x0.2.1.length : Int) + (x0.2.2.length : Int))) > (IntKind.i64.wrap ((x1.2.1.length : Int) + (x1.2.2.length : Int))))))
      (some false))
    (some false)
abbrev z65sg (f : SV [.v (.pr .str (.pr (.sl (.pr .str .str)) (.sl (.pr .str .str)))), .v (.pr .str (.pr (.sl (.pr .str .str)) (.sl (.pr .str .str))))] → BV [] → Option (Bool)) : AF := { ps := [.v (.pr .str (.pr (.sl (.pr .str .str)) (.sl (.pr .str .str)))), .v (.pr .str (.pr (.sl (.pr .str .str)) (.sl (.pr .str .str))))], bs := [], rs := [.v .bool], cs := [], R := Bool, out := fun z => ((z, ()), ()), f := f }
abbrev z65pk : SV [.v .bool] → BV [] → Bool := fun x _ => x.1
def z65fn (N : Nat) : FuncId → Option Tmp → Option AF := fun f _ =>
  match f with
    | 134 => some (z83sg fun x _ => config_Fit N x.1 x.2.1)
    | _ => none
theorem z65fn_ok (N : Nat) : ∀ f q F, z65fn N f q = some F → Sound Tryz.prog GW B0G f F := by
  intro f q F h
  unfold z65fn at h
  split at h
  · cases h; exact z83sound N
  · cases h
def z65h : Nat → Hint := fun i =>
  match i with
  | _ => ⟨[], [], [], [], [], []⟩
abbrev z65E (N : Nat) : Env := mkE z65h (z65fn N) (fun _ => false) (fun _ => false)
noncomputable def z65LP (N : Nat) : Nat → Code → St → (Ex → St → Option Bool) → Option Bool := fun i c =>
  match i with
  | i => fun st k => iter (z65h i) (exec (z65E N) N c i) N st k
theorem z65core (N : Nat) (x : SV [.v (.pr .str (.pr (.sl (.pr .str .str)) (.sl (.pr .str .str)))), .v (.pr .str (.pr (.sl (.pr .str .str)) (.sl (.pr .str .str))))]) (y : BV []) : runL (z65E N) Tryz.f85 (z65sg fun x _ => config_isMore N x.1 x.2.1) z65pk (z65LP N) x y = config_isMore N x.1 x.2.1 := by kernel_rfl
theorem z65sound (N : Nat) : Sound Tryz.prog GW B0G 85 (z65sg fun x _ => config_isMore N x.1 x.2.1) :=
  runD_sound (mkE_ok z65h (z65fn N) _ _ (z65fn_ok N)) Tryz.func85 rfl Tryz.call85 (z65sg fun x _ => config_isMore N x.1 x.2.1) z65pk (fun _ _ => rfl) N (fun x y _ h => ((runL_eq (z65E N) N Tryz.f85 (z65sg fun x _ => config_isMore N x.1 x.2.1) z65pk (z65LP N) (show LoopsOk (z65LP N) (z65E N) N (resD (z65E N) Tryz.f85 (z65sg fun x _ => config_isMore N x.1 x.2.1) z65pk) [] from trivial) x y).trans (z65core N x y)).trans h)
def z12L0T (N : Nat) (x0 : List (Str × GValue)) (c7 : Int) (k0 : Option Int) (self : Int → Option Int) (s8 : Int) : Option Int :=
  br (decide (s8 < c7))
    (bnd (geti x0 s8) fun t14 =>
    bnd (config_chosen_1 N t14) fun t16 =>
    br (t16)
      (some s8)
      (self (IntKind.i64.wrap (s8 + (1 : Int)))))
    (k0)
def z12L0 (N : Nat) (x0 : List (Str × GValue)) (c7 : Int) (k0 : Option Int) : Nat → Int → Option Int
  | 0, _ => none
  | n + 1, s8 => z12L0T N x0 c7 k0 (z12L0 N x0 c7 k0 n) s8
def slices_IndexFunc_api_Case_2 (N : Nat) (x0 : List (Str × GValue)) (_x1 : Unit) : Option Int :=
  z12L0 N x0 (x0.length : Int) (some (-1 : Int)) N (0 : Int)
abbrev z12sg (f : SV [.v (.sl (.pr .str (.rc .value))), .v (.clo 83 .un)] → BV [] → Option (Int)) : AF := { ps := [.v (.sl (.pr .str (.rc .value))), .v (.clo 83 .un)], bs := [], rs := [.v (.int .i64)], cs := [], R := Int, out := fun z => ((z, ()), ()), f := f }
abbrev z12pk : SV [.v (.int .i64)] → BV [] → Int := fun x _ => x.1
def z12fn (N : Nat) : FuncId → Option Tmp → Option AF := fun f _ =>
  match f with
    | 83 => some (z50sg fun x _ => config_chosen_1 N x.1)
    | _ => none
theorem z12fn_ok (N : Nat) : ∀ f q F, z12fn N f q = some F → Sound Tryz.prog GW B0G f F := by
  intro f q F h
  unfold z12fn at h
  split at h
  · cases h; exact z50sound N
  · cases h
def z12h : Nat → Hint := fun i =>
  match i with
  | 0 => ⟨[], [0, 1, 7, 8], [], [], [], []⟩
  | _ => ⟨[], [], [], [], [], []⟩
abbrev z12E (N : Nat) : Env := mkE z12h (z12fn N) (fun _ => false) (fun _ => false)
abbrev z12L0_fs : List (Nat × Sl) := [(0, .v (.sl (.pr .str (.rc .value)))), (1, .v (.clo 83 .un)), (7, .v (.int .i64)), (8, .v (.int .i64))]
abbrev z12L0_bs : List (Nat × Sb) := []
def z12L0_hd (x0 : List (Str × GValue)) (x1 : Unit) (c7 : Int) (s8 : Int) : St := ⟨19, [(0, .v (.sl (.pr .str (.rc .value))) x0), (1, .v (.clo 83 .un) x1), (7, .v (.int .i64) c7), (8, .v (.int .i64) s8)], []⟩
def z12L0_tl0 (_x0 : List (Str × GValue)) (_x1 : Unit) (_c7 : Int) : St := ⟨19, [], []⟩
def z12L0_G (N : Nat) (x0 : List (Str × GValue)) (x1 : Unit) (c7 : Int) (s8 : Int) (k : Ex → St → Option Int) : Option Int :=
  z12L0 N x0 c7 (k (.exit 0) (z12L0_tl0 x0 x1 c7)) N s8
abbrev z12L0_F (N : Nat) : FV z12L0_fs → HV z12L0_bs → (Ex → St → Option Int) → Option Int := fun x _ k => z12L0_G N x.1 x.2.1 x.2.2.1 x.2.2.2.1 k
noncomputable def z12LP (N : Nat) : Nat → Code → St → (Ex → St → Option Int) → Option Int := fun i c =>
  match i with
  | 0 => (LPc 19 z12L0_fs z12L0_bs (z12L0_F N) (fun st k => iter (z12h 0) (exec (z12E N) N c 0) N st k))
  | i => fun st k => iter (z12h i) (exec (z12E N) N c i) N st k
theorem z12L0_step (N : Nat) (x0 : List (Str × GValue)) (x1 : Unit) (c7 : Int) (KX : Nat → St → Option Int) (I : St → Option Int) (s8 : Int) :
    execL (z12LP N) (z12E N) (cAt (bodyOf Tryz.f82) [true, false, true, false, false]) 0 (z12L0_hd x0 x1 c7 s8) (roundK (z12h 0) I KX (resD (z12E N) Tryz.f82 (z12sg fun x _ => slices_IndexFunc_api_Case_2 N x.1 x.2.1) z12pk)) = z12L0T N x0 c7 (KX 0 (z12L0_tl0 x0 x1 c7)) (fun s8 => I (z12L0_hd x0 x1 c7 s8)) s8 := by kernel_rfl
theorem z12L0_ok (N : Nat) : ∀ x y k, (∀ st, k .ret st = (resD (z12E N) Tryz.f82 (z12sg fun x _ => slices_IndexFunc_api_Case_2 N x.1 x.2.1) z12pk) st) → iter (z12h 0) (exec (z12E N) N (cAt (bodyOf Tryz.f82) [true, false, true, false, false]) 0) N ⟨19, unF z12L0_fs x, unH z12L0_bs y⟩ k = z12L0_F N x y k := fun x _ k hk =>
  iter_link (S := (Int) × Unit) (z12h 0) _ (execL (z12LP N) (z12E N) (cAt (bodyOf Tryz.f82) [true, false, true, false, false]) 0) (resD (z12E N) Tryz.f82 (z12sg fun x _ => slices_IndexFunc_api_Case_2 N x.1 x.2.1) z12pk) (fun st k hk => execL_eq _ _ N _ (cAt (bodyOf Tryz.f82) [true, false, true, false, false]) 0 (show LoopsOk (z12LP N) (z12E N) N (resD (z12E N) Tryz.f82 (z12sg fun x _ => slices_IndexFunc_api_Case_2 N x.1 x.2.1) z12pk) [] from trivial) st k hk) (fun s => z12L0_hd x.1 x.2.1 x.2.2.1 s.1) k hk
    (fun self s => z12L0T N x.1 x.2.2.1 (k (.exit 0) (z12L0_tl0 x.1 x.2.1 x.2.2.1)) (fun s8 => self (s8, ())) s.1) (fun n s => z12L0 N x.1 x.2.2.1 (k (.exit 0) (z12L0_tl0 x.1 x.2.1 x.2.2.1)) n s.1) (fun _ => rfl) (fun _ _ => rfl)
    (fun I s => z12L0_step N x.1 x.2.1 x.2.2.1 (fun j => k (.exit j)) I s.1) N (x.2.2.2.1, ())
theorem z12lp0 (N : Nat) : ∀ st k, (∀ st, k .ret st = (resD (z12E N) Tryz.f82 (z12sg fun x _ => slices_IndexFunc_api_Case_2 N x.1 x.2.1) z12pk) st) → z12LP N 0 (cAt (bodyOf Tryz.f82) [true, false, true, false, false]) st k = iter (Env.hint (z12E N) 0) (exec (z12E N) N (cAt (bodyOf Tryz.f82) [true, false, true, false, false]) 0) N st k := fun st k hk => LPc_eq 19 z12L0_fs z12L0_bs _ _ (resD (z12E N) Tryz.f82 (z12sg fun x _ => slices_IndexFunc_api_Case_2 N x.1 x.2.1) z12pk) (z12L0_ok N) _ st k hk (rfl)
theorem z12core (N : Nat) (x : SV [.v (.sl (.pr .str (.rc .value))), .v (.clo 83 .un)]) (y : BV []) : runL (z12E N) Tryz.f82 (z12sg fun x _ => slices_IndexFunc_api_Case_2 N x.1 x.2.1) z12pk (z12LP N) x y = slices_IndexFunc_api_Case_2 N x.1 x.2.1 := by kernel_rfl
theorem z12sound (N : Nat) : Sound Tryz.prog GW B0G 82 (z12sg fun x _ => slices_IndexFunc_api_Case_2 N x.1 x.2.1) :=
  runD_sound (mkE_ok z12h (z12fn N) _ _ (z12fn_ok N)) Tryz.func82 rfl Tryz.call82 (z12sg fun x _ => slices_IndexFunc_api_Case_2 N x.1 x.2.1) z12pk (fun _ _ => rfl) N (fun x y _ h => ((runL_eq (z12E N) N Tryz.f82 (z12sg fun x _ => slices_IndexFunc_api_Case_2 N x.1 x.2.1) z12pk (z12LP N) (show LoopsOk (z12LP N) (z12E N) N (resD (z12E N) Tryz.f82 (z12sg fun x _ => slices_IndexFunc_api_Case_2 N x.1 x.2.1) z12pk) [(0, (cAt (bodyOf Tryz.f82) [true, false, true, false, false]))] from ⟨z12lp0 N, trivial⟩) x y).trans (z12core N x y)).trans h)
end
end Go.Proofs.YtbekhaioddmliaaGreatDoor

