/- What functions of the program compute, as plain functions (printed). -/
import Derived.Test.YtbekhaioddmliaaGreatDoorQZeF3
namespace Go.Proofs.YtbekhaioddmliaaGreatDoor
open Go Go.RowKit
set_option maxRecDepth 100000
set_option linter.unusedVariables false
noncomputable section
def slices_Clone_string_string (_N : Nat) (x0 : List Str) : Option (List Str) :=
  br ((x0).isEmpty)
    (both
      (some ([] : List Str))
      (br (decide ((([] : List Str).length + x0.length) * (24 * Ty.sz .str) ≤ 140737488355328))
        (some (([] : List Str) ++ x0))
        none))
    (br (decide ((([] : List Str).length + x0.length) * (24 * Ty.sz .str) ≤ 140737488355328))
      (some (([] : List Str) ++ x0))
      none)
abbrev slices_Clone_string_string_sg (f : SV [.v (.sl .str)] → BV [] → Option (List Str)) : AF := { ps := [.v (.sl .str)], bs := [], rs := [.row 0], cs := [.row 9 .str true], R := List Str, out := fun z => (((), ()), (z, ())), f := f }
abbrev slices_Clone_string_string_pk : SV [.row 0] → BV [.row 9 .str true] → (List Str) := fun _ y => y.1
def slices_Clone_string_string_fn (_N : Nat) : FuncId → Option Tmp → Option AF := fun f _ =>
  match f with
    | _ => none
theorem slices_Clone_string_string_fn_ok (N : Nat) : ∀ f q F, slices_Clone_string_string_fn N f q = some F → Sound Tryz.prog GW B0G f F := by
  intro f q F h
  unfold slices_Clone_string_string_fn at h
  split at h
  · cases h
def slices_Clone_string_string_h : Nat → Hint := fun i =>
  match i with
  | _ => ⟨[], [], [], [], [], []⟩
abbrev slices_Clone_string_string_E (N : Nat) : Env := mkE slices_Clone_string_string_h (slices_Clone_string_string_fn N) (fun i => match i with | 2 => true | 5 => true | _ => false) (fun _ => false)
noncomputable def slices_Clone_string_string_LP (N : Nat) : Nat → Code → St → (Ex → St → Option (List Str)) → Option (List Str) := fun i c =>
  match i with
  | i => fun st k => iter (slices_Clone_string_string_h i) (exec (slices_Clone_string_string_E N) N c i) N st k
theorem slices_Clone_string_string_core (N : Nat) (x : SV [.v (.sl .str)]) (y : BV []) : runL (slices_Clone_string_string_E N) Tryz.f55 (slices_Clone_string_string_sg fun x _ => slices_Clone_string_string N x.1) slices_Clone_string_string_pk (slices_Clone_string_string_LP N) x y = slices_Clone_string_string N x.1 := by kernel_rfl
theorem slices_Clone_string_string_sound (N : Nat) : Sound Tryz.prog GW B0G 55 (slices_Clone_string_string_sg fun x _ => slices_Clone_string_string N x.1) :=
  runD_sound (mkE_ok slices_Clone_string_string_h (slices_Clone_string_string_fn N) _ _ (slices_Clone_string_string_fn_ok N)) Tryz.func55 rfl Tryz.call55 (slices_Clone_string_string_sg fun x _ => slices_Clone_string_string N x.1) slices_Clone_string_string_pk (fun _ _ => rfl) N (fun x y _ h => ((runL_eq (slices_Clone_string_string_E N) N Tryz.f55 (slices_Clone_string_string_sg fun x _ => slices_Clone_string_string N x.1) slices_Clone_string_string_pk (slices_Clone_string_string_LP N) (show LoopsOk (slices_Clone_string_string_LP N) (slices_Clone_string_string_E N) N (resD (slices_Clone_string_string_E N) Tryz.f55 (slices_Clone_string_string_sg fun x _ => slices_Clone_string_string N x.1) slices_Clone_string_string_pk) [] from trivial) x y).trans (slices_Clone_string_string_core N x y)).trans h)
def slices_Equal_api_Pair_L0T (_N : Nat) (x0 : List (Str × Str)) (x1 : List (Str × Str)) (c12 : Int) (k0 : Option Bool) (self : Int → Option Bool) (s13 : Int) : Option Bool :=
  br (decide (s13 < c12))
    (bnd (geti x0 s13) fun t18 =>
    bnd (geti x1 s13) fun t22 =>
    br (!(eqb (.pr .str .str) t18 t22))
      (some false)
      (self (IntKind.i64.wrap (s13 + (1 : Int)))))
    (k0)
def slices_Equal_api_Pair_L0 (N : Nat) (x0 : List (Str × Str)) (x1 : List (Str × Str)) (c12 : Int) (k0 : Option Bool) : Nat → Int → Option Bool
  | 0, _ => none
  | n + 1, s13 => slices_Equal_api_Pair_L0T N x0 x1 c12 k0 (slices_Equal_api_Pair_L0 N x0 x1 c12 k0 n) s13
def slices_Equal_api_Pair (N : Nat) (x0 : List (Str × Str)) (x1 : List (Str × Str)) : Option Bool :=
  br ((x0.length : Int) != (x1.length : Int))
    (some false)
    (slices_Equal_api_Pair_L0 N x0 x1 (x0.length : Int) (some true) N (0 : Int))
abbrev slices_Equal_api_Pair_sg (f : SV [.v (.sl (.pr .str .str)), .v (.sl (.pr .str .str))] → BV [] → Option (Bool)) : AF := { ps := [.v (.sl (.pr .str .str)), .v (.sl (.pr .str .str))], bs := [], rs := [.v .bool], cs := [], R := Bool, out := fun z => ((z, ()), ()), f := f }
abbrev slices_Equal_api_Pair_pk : SV [.v .bool] → BV [] → Bool := fun x _ => x.1
def slices_Equal_api_Pair_fn (_N : Nat) : FuncId → Option Tmp → Option AF := fun f _ =>
  match f with
    | _ => none
theorem slices_Equal_api_Pair_fn_ok (N : Nat) : ∀ f q F, slices_Equal_api_Pair_fn N f q = some F → Sound Tryz.prog GW B0G f F := by
  intro f q F h
  unfold slices_Equal_api_Pair_fn at h
  split at h
  · cases h
def slices_Equal_api_Pair_h : Nat → Hint := fun i =>
  match i with
  | 0 => ⟨[], [0, 1, 12, 13], [], [], [], []⟩
  | _ => ⟨[], [], [], [], [], []⟩
abbrev slices_Equal_api_Pair_E (N : Nat) : Env := mkE slices_Equal_api_Pair_h (slices_Equal_api_Pair_fn N) (fun _ => false) (fun _ => false)
abbrev slices_Equal_api_Pair_L0_fs : List (Nat × Sl) := [(0, .v (.sl (.pr .str .str))), (1, .v (.sl (.pr .str .str))), (12, .v (.int .i64)), (13, .v (.int .i64))]
abbrev slices_Equal_api_Pair_L0_bs : List (Nat × Sb) := []
def slices_Equal_api_Pair_L0_hd (x0 : List (Str × Str)) (x1 : List (Str × Str)) (c12 : Int) (s13 : Int) : St := ⟨26, [(0, .v (.sl (.pr .str .str)) x0), (1, .v (.sl (.pr .str .str)) x1), (12, .v (.int .i64) c12), (13, .v (.int .i64) s13)], []⟩
def slices_Equal_api_Pair_L0_tl0 (_x0 : List (Str × Str)) (_x1 : List (Str × Str)) (_c12 : Int) : St := ⟨26, [], []⟩
def slices_Equal_api_Pair_L0_G (N : Nat) (x0 : List (Str × Str)) (x1 : List (Str × Str)) (c12 : Int) (s13 : Int) (k : Ex → St → Option Bool) : Option Bool :=
  slices_Equal_api_Pair_L0 N x0 x1 c12 (k (.exit 0) (slices_Equal_api_Pair_L0_tl0 x0 x1 c12)) N s13
abbrev slices_Equal_api_Pair_L0_F (N : Nat) : FV slices_Equal_api_Pair_L0_fs → HV slices_Equal_api_Pair_L0_bs → (Ex → St → Option Bool) → Option Bool := fun x _ k => slices_Equal_api_Pair_L0_G N x.1 x.2.1 x.2.2.1 x.2.2.2.1 k
noncomputable def slices_Equal_api_Pair_LP (N : Nat) : Nat → Code → St → (Ex → St → Option Bool) → Option Bool := fun i c =>
  match i with
  | 0 => (LPc 26 slices_Equal_api_Pair_L0_fs slices_Equal_api_Pair_L0_bs (slices_Equal_api_Pair_L0_F N) (fun st k => iter (slices_Equal_api_Pair_h 0) (exec (slices_Equal_api_Pair_E N) N c 0) N st k))
  | i => fun st k => iter (slices_Equal_api_Pair_h i) (exec (slices_Equal_api_Pair_E N) N c i) N st k
theorem slices_Equal_api_Pair_L0_step (N : Nat) (x0 : List (Str × Str)) (x1 : List (Str × Str)) (c12 : Int) (KX : Nat → St → Option Bool) (I : St → Option Bool) (s13 : Int) :
    execL (slices_Equal_api_Pair_LP N) (slices_Equal_api_Pair_E N) (cAt (bodyOf Tryz.f19) [true, true, false, true, false, false]) 0 (slices_Equal_api_Pair_L0_hd x0 x1 c12 s13) (roundK (slices_Equal_api_Pair_h 0) I KX (resD (slices_Equal_api_Pair_E N) Tryz.f19 (slices_Equal_api_Pair_sg fun x _ => slices_Equal_api_Pair N x.1 x.2.1) slices_Equal_api_Pair_pk)) = slices_Equal_api_Pair_L0T N x0 x1 c12 (KX 0 (slices_Equal_api_Pair_L0_tl0 x0 x1 c12)) (fun s13 => I (slices_Equal_api_Pair_L0_hd x0 x1 c12 s13)) s13 := by kernel_rfl
theorem slices_Equal_api_Pair_L0_ok (N : Nat) : ∀ x y k, (∀ st, k .ret st = (resD (slices_Equal_api_Pair_E N) Tryz.f19 (slices_Equal_api_Pair_sg fun x _ => slices_Equal_api_Pair N x.1 x.2.1) slices_Equal_api_Pair_pk) st) → iter (slices_Equal_api_Pair_h 0) (exec (slices_Equal_api_Pair_E N) N (cAt (bodyOf Tryz.f19) [true, true, false, true, false, false]) 0) N ⟨26, unF slices_Equal_api_Pair_L0_fs x, unH slices_Equal_api_Pair_L0_bs y⟩ k = slices_Equal_api_Pair_L0_F N x y k := fun x _ k hk =>
  iter_link (S := (Int) × Unit) (slices_Equal_api_Pair_h 0) _ (execL (slices_Equal_api_Pair_LP N) (slices_Equal_api_Pair_E N) (cAt (bodyOf Tryz.f19) [true, true, false, true, false, false]) 0) (resD (slices_Equal_api_Pair_E N) Tryz.f19 (slices_Equal_api_Pair_sg fun x _ => slices_Equal_api_Pair N x.1 x.2.1) slices_Equal_api_Pair_pk) (fun st k hk => execL_eq _ _ N _ (cAt (bodyOf Tryz.f19) [true, true, false, true, false, false]) 0 (show LoopsOk (slices_Equal_api_Pair_LP N) (slices_Equal_api_Pair_E N) N (resD (slices_Equal_api_Pair_E N) Tryz.f19 (slices_Equal_api_Pair_sg fun x _ => slices_Equal_api_Pair N x.1 x.2.1) slices_Equal_api_Pair_pk) [] from trivial) st k hk) (fun s => slices_Equal_api_Pair_L0_hd x.1 x.2.1 x.2.2.1 s.1) k hk
    (fun self s => slices_Equal_api_Pair_L0T N x.1 x.2.1 x.2.2.1 (k (.exit 0) (slices_Equal_api_Pair_L0_tl0 x.1 x.2.1 x.2.2.1)) (fun s13 => self (s13, ())) s.1) (fun n s => slices_Equal_api_Pair_L0 N x.1 x.2.1 x.2.2.1 (k (.exit 0) (slices_Equal_api_Pair_L0_tl0 x.1 x.2.1 x.2.2.1)) n s.1) (fun _ => rfl) (fun _ _ => rfl)
    (fun I s => slices_Equal_api_Pair_L0_step N x.1 x.2.1 x.2.2.1 (fun j => k (.exit j)) I s.1) N (x.2.2.2.1, ())
theorem slices_Equal_api_Pair_lp0 (N : Nat) : ∀ st k, (∀ st, k .ret st = (resD (slices_Equal_api_Pair_E N) Tryz.f19 (slices_Equal_api_Pair_sg fun x _ => slices_Equal_api_Pair N x.1 x.2.1) slices_Equal_api_Pair_pk) st) → slices_Equal_api_Pair_LP N 0 (cAt (bodyOf Tryz.f19) [true, true, false, true, false, false]) st k = iter (Env.hint (slices_Equal_api_Pair_E N) 0) (exec (slices_Equal_api_Pair_E N) N (cAt (bodyOf Tryz.f19) [true, true, false, true, false, false]) 0) N st k := fun st k hk => LPc_eq 26 slices_Equal_api_Pair_L0_fs slices_Equal_api_Pair_L0_bs _ _ (resD (slices_Equal_api_Pair_E N) Tryz.f19 (slices_Equal_api_Pair_sg fun x _ => slices_Equal_api_Pair N x.1 x.2.1) slices_Equal_api_Pair_pk) (slices_Equal_api_Pair_L0_ok N) _ st k hk (rfl)
theorem slices_Equal_api_Pair_core (N : Nat) (x : SV [.v (.sl (.pr .str .str)), .v (.sl (.pr .str .str))]) (y : BV []) : runL (slices_Equal_api_Pair_E N) Tryz.f19 (slices_Equal_api_Pair_sg fun x _ => slices_Equal_api_Pair N x.1 x.2.1) slices_Equal_api_Pair_pk (slices_Equal_api_Pair_LP N) x y = slices_Equal_api_Pair N x.1 x.2.1 := by kernel_rfl
theorem slices_Equal_api_Pair_sound (N : Nat) : Sound Tryz.prog GW B0G 19 (slices_Equal_api_Pair_sg fun x _ => slices_Equal_api_Pair N x.1 x.2.1) :=
  runD_sound (mkE_ok slices_Equal_api_Pair_h (slices_Equal_api_Pair_fn N) _ _ (slices_Equal_api_Pair_fn_ok N)) Tryz.func19 rfl Tryz.call19 (slices_Equal_api_Pair_sg fun x _ => slices_Equal_api_Pair N x.1 x.2.1) slices_Equal_api_Pair_pk (fun _ _ => rfl) N (fun x y _ h => ((runL_eq (slices_Equal_api_Pair_E N) N Tryz.f19 (slices_Equal_api_Pair_sg fun x _ => slices_Equal_api_Pair N x.1 x.2.1) slices_Equal_api_Pair_pk (slices_Equal_api_Pair_LP N) (show LoopsOk (slices_Equal_api_Pair_LP N) (slices_Equal_api_Pair_E N) N (resD (slices_Equal_api_Pair_E N) Tryz.f19 (slices_Equal_api_Pair_sg fun x _ => slices_Equal_api_Pair N x.1 x.2.1) slices_Equal_api_Pair_pk) [(0, (cAt (bodyOf Tryz.f19) [true, true, false, true, false, false]))] from ⟨slices_Equal_api_Pair_lp0 N, trivial⟩) x y).trans (slices_Equal_api_Pair_core N x y)).trans h)
def slices_Clone_api_Pair (_N : Nat) (x0 : List (Str × Str)) : Option (List (Str × Str)) :=
  br ((x0).isEmpty)
    (both
      (some ([] : List (Str × Str)))
      (br (decide ((([] : List (Str × Str)).length + x0.length) * (24 * Ty.sz (.pr .str .str)) ≤ 140737488355328))
        (some (([] : List (Str × Str)) ++ x0))
        none))
    (br (decide ((([] : List (Str × Str)).length + x0.length) * (24 * Ty.sz (.pr .str .str)) ≤ 140737488355328))
      (some (([] : List (Str × Str)) ++ x0))
      none)
abbrev slices_Clone_api_Pair_sg (f : SV [.v (.sl (.pr .str .str))] → BV [] → Option (List (Str × Str))) : AF := { ps := [.v (.sl (.pr .str .str))], bs := [], rs := [.row 0], cs := [.row 53 (.pr .str .str) true], R := List (Str × Str), out := fun z => (((), ()), (z, ())), f := f }
abbrev slices_Clone_api_Pair_pk : SV [.row 0] → BV [.row 53 (.pr .str .str) true] → (List (Str × Str)) := fun _ y => y.1
def slices_Clone_api_Pair_fn (_N : Nat) : FuncId → Option Tmp → Option AF := fun f _ =>
  match f with
    | _ => none
theorem slices_Clone_api_Pair_fn_ok (N : Nat) : ∀ f q F, slices_Clone_api_Pair_fn N f q = some F → Sound Tryz.prog GW B0G f F := by
  intro f q F h
  unfold slices_Clone_api_Pair_fn at h
  split at h
  · cases h
def slices_Clone_api_Pair_h : Nat → Hint := fun i =>
  match i with
  | _ => ⟨[], [], [], [], [], []⟩
abbrev slices_Clone_api_Pair_E (N : Nat) : Env := mkE slices_Clone_api_Pair_h (slices_Clone_api_Pair_fn N) (fun i => match i with | 2 => true | 5 => true | _ => false) (fun _ => false)
noncomputable def slices_Clone_api_Pair_LP (N : Nat) : Nat → Code → St → (Ex → St → Option (List (Str × Str))) → Option (List (Str × Str)) := fun i c =>
  match i with
  | i => fun st k => iter (slices_Clone_api_Pair_h i) (exec (slices_Clone_api_Pair_E N) N c i) N st k
theorem slices_Clone_api_Pair_core (N : Nat) (x : SV [.v (.sl (.pr .str .str))]) (y : BV []) : runL (slices_Clone_api_Pair_E N) Tryz.f54 (slices_Clone_api_Pair_sg fun x _ => slices_Clone_api_Pair N x.1) slices_Clone_api_Pair_pk (slices_Clone_api_Pair_LP N) x y = slices_Clone_api_Pair N x.1 := by kernel_rfl
theorem slices_Clone_api_Pair_sound (N : Nat) : Sound Tryz.prog GW B0G 54 (slices_Clone_api_Pair_sg fun x _ => slices_Clone_api_Pair N x.1) :=
  runD_sound (mkE_ok slices_Clone_api_Pair_h (slices_Clone_api_Pair_fn N) _ _ (slices_Clone_api_Pair_fn_ok N)) Tryz.func54 rfl Tryz.call54 (slices_Clone_api_Pair_sg fun x _ => slices_Clone_api_Pair N x.1) slices_Clone_api_Pair_pk (fun _ _ => rfl) N (fun x y _ h => ((runL_eq (slices_Clone_api_Pair_E N) N Tryz.f54 (slices_Clone_api_Pair_sg fun x _ => slices_Clone_api_Pair N x.1) slices_Clone_api_Pair_pk (slices_Clone_api_Pair_LP N) (show LoopsOk (slices_Clone_api_Pair_LP N) (slices_Clone_api_Pair_E N) N (resD (slices_Clone_api_Pair_E N) Tryz.f54 (slices_Clone_api_Pair_sg fun x _ => slices_Clone_api_Pair N x.1) slices_Clone_api_Pair_pk) [] from trivial) x y).trans (slices_Clone_api_Pair_core N x y)).trans h)
def config_with_2 (_N : Nat) (x0 : Str × Str) (x1 : Str) : Option Int :=
  bnd (strings_Compare x0.1 x1) fun t8 =>
  some t8
abbrev config_with_2_sg (f : SV [.v (.pr .str .str), .v .str] → BV [] → Option (Int)) : AF := { ps := [.v (.pr .str .str), .v .str], bs := [], rs := [.v (.int .i64)], cs := [], R := Int, out := fun z => ((z, ()), ()), f := f }
abbrev config_with_2_pk : SV [.v (.int .i64)] → BV [] → Int := fun x _ => x.1
def config_with_2_fn (_N : Nat) : FuncId → Option Tmp → Option AF := fun f _ =>
  match f with
    | 98 => some (strings_Compare_sg fun x _ => strings_Compare x.1 x.2.1)
    | _ => none
theorem config_with_2_fn_ok (N : Nat) : ∀ f q F, config_with_2_fn N f q = some F → Sound Tryz.prog GW B0G f F := by
  intro f q F h
  unfold config_with_2_fn at h
  split at h
  · cases h; exact strings_Compare_sound
  · cases h
def config_with_2_h : Nat → Hint := fun i =>
  match i with
  | _ => ⟨[], [], [], [], [], []⟩
abbrev config_with_2_E (N : Nat) : Env := mkE config_with_2_h (config_with_2_fn N) (fun _ => false) (fun _ => false)
noncomputable def config_with_2_LP (N : Nat) : Nat → Code → St → (Ex → St → Option Int) → Option Int := fun i c =>
  match i with
  | i => fun st k => iter (config_with_2_h i) (exec (config_with_2_E N) N c i) N st k
theorem config_with_2_core (N : Nat) (x : SV [.v (.pr .str .str), .v .str]) (y : BV []) : runL (config_with_2_E N) Tryz.f97 (config_with_2_sg fun x _ => config_with_2 N x.1 x.2.1) config_with_2_pk (config_with_2_LP N) x y = config_with_2 N x.1 x.2.1 := by kernel_rfl
theorem config_with_2_sound (N : Nat) : Sound Tryz.prog GW B0G 97 (config_with_2_sg fun x _ => config_with_2 N x.1 x.2.1) :=
  runD_sound (mkE_ok config_with_2_h (config_with_2_fn N) _ _ (config_with_2_fn_ok N)) Tryz.func97 rfl Tryz.call97 (config_with_2_sg fun x _ => config_with_2 N x.1 x.2.1) config_with_2_pk (fun _ _ => rfl) N (fun x y _ h => ((runL_eq (config_with_2_E N) N Tryz.f97 (config_with_2_sg fun x _ => config_with_2 N x.1 x.2.1) config_with_2_pk (config_with_2_LP N) (show LoopsOk (config_with_2_LP N) (config_with_2_E N) N (resD (config_with_2_E N) Tryz.f97 (config_with_2_sg fun x _ => config_with_2 N x.1 x.2.1) config_with_2_pk) [] from trivial) x y).trans (config_with_2_core N x y)).trans h)
def config_with_1 (_N : Nat) (x0 : Str × Str) (x1 : Str) : Option Bool :=
  some (x0.1 == x1)
abbrev config_with_1_sg (f : SV [.v (.pr .str .str), .v (.ptr .str)] → BV [] → Option (Bool)) : AF := { ps := [.v (.pr .str .str), .v (.ptr .str)], bs := [], rs := [.v .bool], cs := [], R := Bool, out := fun z => ((z, ()), ()), f := f }
abbrev config_with_1_pk : SV [.v .bool] → BV [] → Bool := fun x _ => x.1
def config_with_1_fn (_N : Nat) : FuncId → Option Tmp → Option AF := fun f _ =>
  match f with
    | _ => none
theorem config_with_1_fn_ok (N : Nat) : ∀ f q F, config_with_1_fn N f q = some F → Sound Tryz.prog GW B0G f F := by
  intro f q F h
  unfold config_with_1_fn at h
  split at h
  · cases h
def config_with_1_h : Nat → Hint := fun i =>
  match i with
  | _ => ⟨[], [], [], [], [], []⟩
abbrev config_with_1_E (N : Nat) : Env := mkE config_with_1_h (config_with_1_fn N) (fun _ => false) (fun _ => false)
noncomputable def config_with_1_LP (N : Nat) : Nat → Code → St → (Ex → St → Option Bool) → Option Bool := fun i c =>
  match i with
  | i => fun st k => iter (config_with_1_h i) (exec (config_with_1_E N) N c i) N st k
theorem config_with_1_core (N : Nat) (x : SV [.v (.pr .str .str), .v (.ptr .str)]) (y : BV []) : runL (config_with_1_E N) Tryz.f95 (config_with_1_sg fun x _ => config_with_1 N x.1 x.2.1) config_with_1_pk (config_with_1_LP N) x y = config_with_1 N x.1 x.2.1 := by kernel_rfl
theorem config_with_1_sound (N : Nat) : Sound Tryz.prog GW B0G 95 (config_with_1_sg fun x _ => config_with_1 N x.1 x.2.1) :=
  runD_sound (mkE_ok config_with_1_h (config_with_1_fn N) _ _ (config_with_1_fn_ok N)) Tryz.func95 rfl Tryz.call95 (config_with_1_sg fun x _ => config_with_1 N x.1 x.2.1) config_with_1_pk (fun _ _ => rfl) N (fun x y _ h => ((runL_eq (config_with_1_E N) N Tryz.f95 (config_with_1_sg fun x _ => config_with_1 N x.1 x.2.1) config_with_1_pk (config_with_1_LP N) (show LoopsOk (config_with_1_LP N) (config_with_1_E N) N (resD (config_with_1_E N) Tryz.f95 (config_with_1_sg fun x _ => config_with_1 N x.1 x.2.1) config_with_1_pk) [] from trivial) x y).trans (config_with_1_core N x y)).trans h)
def slices_IndexFunc_api_Pair_L0T (N : Nat) (x0 : List (Str × Str)) (x1 : Str × Unit) (c7 : Int) (k0 : Option Int) (self : Int → Option Int) (s8 : Int) : Option Int :=
  br (decide (s8 < c7))
    (bnd (geti x0 s8) fun t14 =>
    bnd (config_with_1 N t14 x1.1) fun t16 =>
    br (t16)
      (some s8)
      (self (IntKind.i64.wrap (s8 + (1 : Int)))))
    (k0)
def slices_IndexFunc_api_Pair_L0 (N : Nat) (x0 : List (Str × Str)) (x1 : Str × Unit) (c7 : Int) (k0 : Option Int) : Nat → Int → Option Int
  | 0, _ => none
  | n + 1, s8 => slices_IndexFunc_api_Pair_L0T N x0 x1 c7 k0 (slices_IndexFunc_api_Pair_L0 N x0 x1 c7 k0 n) s8
def slices_IndexFunc_api_Pair (N : Nat) (x0 : List (Str × Str)) (x1 : Str × Unit) : Option Int :=
  slices_IndexFunc_api_Pair_L0 N x0 x1 (x0.length : Int) (some (-1 : Int)) N (0 : Int)
abbrev slices_IndexFunc_api_Pair_sg (f : SV [.v (.sl (.pr .str .str)), .v (.clo 95 (.pr (.ptr .str) .un))] → BV [] → Option (Int)) : AF := { ps := [.v (.sl (.pr .str .str)), .v (.clo 95 (.pr (.ptr .str) .un))], bs := [], rs := [.v (.int .i64)], cs := [], R := Int, out := fun z => ((z, ()), ()), f := f }
abbrev slices_IndexFunc_api_Pair_pk : SV [.v (.int .i64)] → BV [] → Int := fun x _ => x.1
def slices_IndexFunc_api_Pair_fn (N : Nat) : FuncId → Option Tmp → Option AF := fun f _ =>
  match f with
    | 95 => some (config_with_1_sg fun x _ => config_with_1 N x.1 x.2.1)
    | _ => none
theorem slices_IndexFunc_api_Pair_fn_ok (N : Nat) : ∀ f q F, slices_IndexFunc_api_Pair_fn N f q = some F → Sound Tryz.prog GW B0G f F := by
  intro f q F h
  unfold slices_IndexFunc_api_Pair_fn at h
  split at h
  · cases h; exact config_with_1_sound N
  · cases h
def slices_IndexFunc_api_Pair_h : Nat → Hint := fun i =>
  match i with
  | 0 => ⟨[], [0, 1, 7, 8], [], [], [], []⟩
  | _ => ⟨[], [], [], [], [], []⟩
abbrev slices_IndexFunc_api_Pair_E (N : Nat) : Env := mkE slices_IndexFunc_api_Pair_h (slices_IndexFunc_api_Pair_fn N) (fun _ => false) (fun _ => false)
abbrev slices_IndexFunc_api_Pair_L0_fs : List (Nat × Sl) := [(0, .v (.sl (.pr .str .str))), (1, .v (.clo 95 (.pr (.ptr .str) .un))), (7, .v (.int .i64)), (8, .v (.int .i64))]
abbrev slices_IndexFunc_api_Pair_L0_bs : List (Nat × Sb) := []
def slices_IndexFunc_api_Pair_L0_hd (x0 : List (Str × Str)) (x1 : Str × Unit) (c7 : Int) (s8 : Int) : St := ⟨19, [(0, .v (.sl (.pr .str .str)) x0), (1, .v (.clo 95 (.pr (.ptr .str) .un)) x1), (7, .v (.int .i64) c7), (8, .v (.int .i64) s8)], []⟩
def slices_IndexFunc_api_Pair_L0_tl0 (_x0 : List (Str × Str)) (_x1 : Str × Unit) (_c7 : Int) : St := ⟨19, [], []⟩
def slices_IndexFunc_api_Pair_L0_G (N : Nat) (x0 : List (Str × Str)) (x1 : Str × Unit) (c7 : Int) (s8 : Int) (k : Ex → St → Option Int) : Option Int :=
  slices_IndexFunc_api_Pair_L0 N x0 x1 c7 (k (.exit 0) (slices_IndexFunc_api_Pair_L0_tl0 x0 x1 c7)) N s8
abbrev slices_IndexFunc_api_Pair_L0_F (N : Nat) : FV slices_IndexFunc_api_Pair_L0_fs → HV slices_IndexFunc_api_Pair_L0_bs → (Ex → St → Option Int) → Option Int := fun x _ k => slices_IndexFunc_api_Pair_L0_G N x.1 x.2.1 x.2.2.1 x.2.2.2.1 k
noncomputable def slices_IndexFunc_api_Pair_LP (N : Nat) : Nat → Code → St → (Ex → St → Option Int) → Option Int := fun i c =>
  match i with
  | 0 => (LPc 19 slices_IndexFunc_api_Pair_L0_fs slices_IndexFunc_api_Pair_L0_bs (slices_IndexFunc_api_Pair_L0_F N) (fun st k => iter (slices_IndexFunc_api_Pair_h 0) (exec (slices_IndexFunc_api_Pair_E N) N c 0) N st k))
  | i => fun st k => iter (slices_IndexFunc_api_Pair_h i) (exec (slices_IndexFunc_api_Pair_E N) N c i) N st k
theorem slices_IndexFunc_api_Pair_L0_step (N : Nat) (x0 : List (Str × Str)) (x1 : Str × Unit) (c7 : Int) (KX : Nat → St → Option Int) (I : St → Option Int) (s8 : Int) :
    execL (slices_IndexFunc_api_Pair_LP N) (slices_IndexFunc_api_Pair_E N) (cAt (bodyOf Tryz.f143) [true, false, true, false, false]) 0 (slices_IndexFunc_api_Pair_L0_hd x0 x1 c7 s8) (roundK (slices_IndexFunc_api_Pair_h 0) I KX (resD (slices_IndexFunc_api_Pair_E N) Tryz.f143 (slices_IndexFunc_api_Pair_sg fun x _ => slices_IndexFunc_api_Pair N x.1 x.2.1) slices_IndexFunc_api_Pair_pk)) = slices_IndexFunc_api_Pair_L0T N x0 x1 c7 (KX 0 (slices_IndexFunc_api_Pair_L0_tl0 x0 x1 c7)) (fun s8 => I (slices_IndexFunc_api_Pair_L0_hd x0 x1 c7 s8)) s8 := by kernel_rfl
theorem slices_IndexFunc_api_Pair_L0_ok (N : Nat) : ∀ x y k, (∀ st, k .ret st = (resD (slices_IndexFunc_api_Pair_E N) Tryz.f143 (slices_IndexFunc_api_Pair_sg fun x _ => slices_IndexFunc_api_Pair N x.1 x.2.1) slices_IndexFunc_api_Pair_pk) st) → iter (slices_IndexFunc_api_Pair_h 0) (exec (slices_IndexFunc_api_Pair_E N) N (cAt (bodyOf Tryz.f143) [true, false, true, false, false]) 0) N ⟨19, unF slices_IndexFunc_api_Pair_L0_fs x, unH slices_IndexFunc_api_Pair_L0_bs y⟩ k = slices_IndexFunc_api_Pair_L0_F N x y k := fun x _ k hk =>
  iter_link (S := (Int) × Unit) (slices_IndexFunc_api_Pair_h 0) _ (execL (slices_IndexFunc_api_Pair_LP N) (slices_IndexFunc_api_Pair_E N) (cAt (bodyOf Tryz.f143) [true, false, true, false, false]) 0) (resD (slices_IndexFunc_api_Pair_E N) Tryz.f143 (slices_IndexFunc_api_Pair_sg fun x _ => slices_IndexFunc_api_Pair N x.1 x.2.1) slices_IndexFunc_api_Pair_pk) (fun st k hk => execL_eq _ _ N _ (cAt (bodyOf Tryz.f143) [true, false, true, false, false]) 0 (show LoopsOk (slices_IndexFunc_api_Pair_LP N) (slices_IndexFunc_api_Pair_E N) N (resD (slices_IndexFunc_api_Pair_E N) Tryz.f143 (slices_IndexFunc_api_Pair_sg fun x _ => slices_IndexFunc_api_Pair N x.1 x.2.1) slices_IndexFunc_api_Pair_pk) [] from trivial) st k hk) (fun s => slices_IndexFunc_api_Pair_L0_hd x.1 x.2.1 x.2.2.1 s.1) k hk
    (fun self s => slices_IndexFunc_api_Pair_L0T N x.1 x.2.1 x.2.2.1 (k (.exit 0) (slices_IndexFunc_api_Pair_L0_tl0 x.1 x.2.1 x.2.2.1)) (fun s8 => self (s8, ())) s.1) (fun n s => slices_IndexFunc_api_Pair_L0 N x.1 x.2.1 x.2.2.1 (k (.exit 0) (slices_IndexFunc_api_Pair_L0_tl0 x.1 x.2.1 x.2.2.1)) n s.1) (fun _ => rfl) (fun _ _ => rfl)
    (fun I s => slices_IndexFunc_api_Pair_L0_step N x.1 x.2.1 x.2.2.1 (fun j => k (.exit j)) I s.1) N (x.2.2.2.1, ())
theorem slices_IndexFunc_api_Pair_lp0 (N : Nat) : ∀ st k, (∀ st, k .ret st = (resD (slices_IndexFunc_api_Pair_E N) Tryz.f143 (slices_IndexFunc_api_Pair_sg fun x _ => slices_IndexFunc_api_Pair N x.1 x.2.1) slices_IndexFunc_api_Pair_pk) st) → slices_IndexFunc_api_Pair_LP N 0 (cAt (bodyOf Tryz.f143) [true, false, true, false, false]) st k = iter (Env.hint (slices_IndexFunc_api_Pair_E N) 0) (exec (slices_IndexFunc_api_Pair_E N) N (cAt (bodyOf Tryz.f143) [true, false, true, false, false]) 0) N st k := fun st k hk => LPc_eq 19 slices_IndexFunc_api_Pair_L0_fs slices_IndexFunc_api_Pair_L0_bs _ _ (resD (slices_IndexFunc_api_Pair_E N) Tryz.f143 (slices_IndexFunc_api_Pair_sg fun x _ => slices_IndexFunc_api_Pair N x.1 x.2.1) slices_IndexFunc_api_Pair_pk) (slices_IndexFunc_api_Pair_L0_ok N) _ st k hk (rfl)
theorem slices_IndexFunc_api_Pair_core (N : Nat) (x : SV [.v (.sl (.pr .str .str)), .v (.clo 95 (.pr (.ptr .str) .un))]) (y : BV []) : runL (slices_IndexFunc_api_Pair_E N) Tryz.f143 (slices_IndexFunc_api_Pair_sg fun x _ => slices_IndexFunc_api_Pair N x.1 x.2.1) slices_IndexFunc_api_Pair_pk (slices_IndexFunc_api_Pair_LP N) x y = slices_IndexFunc_api_Pair N x.1 x.2.1 := by kernel_rfl
theorem slices_IndexFunc_api_Pair_sound (N : Nat) : Sound Tryz.prog GW B0G 143 (slices_IndexFunc_api_Pair_sg fun x _ => slices_IndexFunc_api_Pair N x.1 x.2.1) :=
  runD_sound (mkE_ok slices_IndexFunc_api_Pair_h (slices_IndexFunc_api_Pair_fn N) _ _ (slices_IndexFunc_api_Pair_fn_ok N)) Tryz.func143 rfl Tryz.call143 (slices_IndexFunc_api_Pair_sg fun x _ => slices_IndexFunc_api_Pair N x.1 x.2.1) slices_IndexFunc_api_Pair_pk (fun _ _ => rfl) N (fun x y _ h => ((runL_eq (slices_IndexFunc_api_Pair_E N) N Tryz.f143 (slices_IndexFunc_api_Pair_sg fun x _ => slices_IndexFunc_api_Pair N x.1 x.2.1) slices_IndexFunc_api_Pair_pk (slices_IndexFunc_api_Pair_LP N) (show LoopsOk (slices_IndexFunc_api_Pair_LP N) (slices_IndexFunc_api_Pair_E N) N (resD (slices_IndexFunc_api_Pair_E N) Tryz.f143 (slices_IndexFunc_api_Pair_sg fun x _ => slices_IndexFunc_api_Pair N x.1 x.2.1) slices_IndexFunc_api_Pair_pk) [(0, (cAt (bodyOf Tryz.f143) [true, false, true, false, false]))] from ⟨slices_IndexFunc_api_Pair_lp0 N, trivial⟩) x y).trans (slices_IndexFunc_api_Pair_core N x y)).trans h)
def slices_DeleteFunc_api_Pair_L0T (N : Nat) (x1 : Str × Unit) (k0 : Int → (List (Str × Str)) → Option (List (Str × Str))) (self : Int → Int → (List (Str × Str)) → Option (List (Str × Str))) (s5 : Int) (s6 : Int) (w0_1 : List (Str × Str)) : Option (List (Str × Str)) :=
  br (decide (s6 < (w0_1.length : Int)))
    (br (decide (0 ≤ s6 ∧ s6 < (w0_1.length : Int)))
      (bnd (geti w0_1 s6) fun t25 =>
      bnd (config_with_1 N t25 x1.1) fun t28 =>
      br (!t28)
        (br (decide (0 ≤ s5 ∧ s5 < (w0_1.length : Int)))
          (bnd (geti w0_1 s5) fun _ =>
          self (IntKind.i64.wrap (s5 + (1 : Int))) (IntKind.i64.wrap (s6 + (1 : Int))) (seti w0_1 s5 t25))
          none)
        (self s5 (IntKind.i64.wrap (s6 + (1 : Int))) w0_1))
      none)
    (k0 s5 w0_1)
def slices_DeleteFunc_api_Pair_L0 (N : Nat) (x1 : Str × Unit) (k0 : Int → (List (Str × Str)) → Option (List (Str × Str))) : Nat → Int → Int → (List (Str × Str)) → Option (List (Str × Str))
  | 0, _, _, _ => none
  | n + 1, s5, s6, w0_1 => slices_DeleteFunc_api_Pair_L0T N x1 k0 (slices_DeleteFunc_api_Pair_L0 N x1 k0 n) s5 s6 w0_1
def slices_DeleteFunc_api_Pair (N : Nat) (x1 : Str × Unit) (w0 : List (Str × Str)) : Option (List (Str × Str)) :=
  bnd (slices_IndexFunc_api_Pair N w0 x1) fun t10 =>
  br (t10 == (-1 : Int))
    (some w0)
    (slices_DeleteFunc_api_Pair_L0 N x1 (fun o0_5 o0_w0 =>
        br (decide (0 ≤ o0_5 ∧ o0_5 ≤ (o0_w0.length : Int) ∧ 0 < o0_w0.length))
          (br (decide (0 ≤ o0_5 ∧ o0_5 ≤ ((clr o0_w0 o0_5 (zero (.pr .str .str))).length : Int)))
            (some (cut (clr o0_w0 o0_5 (zero (.pr .str .str))) o0_5))
            none)
          none) N t10 (IntKind.i64.wrap (t10 + (1 : Int))) w0)
abbrev slices_DeleteFunc_api_Pair_sg (f : SV [.row 0, .v (.clo 95 (.pr (.ptr .str) .un))] → BV [.row 53 (.pr .str .str) true] → Option (List (Str × Str))) : AF := { ps := [.row 0, .v (.clo 95 (.pr (.ptr .str) .un))], bs := [.row 53 (.pr .str .str) true], rs := [.row 0], cs := [.row 53 (.pr .str .str) true], R := List (Str × Str), out := fun z => (((), ()), (z, ())), f := f }
abbrev slices_DeleteFunc_api_Pair_pk : SV [.row 0] → BV [.row 53 (.pr .str .str) true] → (List (Str × Str)) := fun _ y => y.1
def slices_DeleteFunc_api_Pair_fn (N : Nat) : FuncId → Option Tmp → Option AF := fun f _ =>
  match f with
    | 95 => some (config_with_1_sg fun x _ => config_with_1 N x.1 x.2.1)
    | 143 => some (slices_IndexFunc_api_Pair_sg fun x _ => slices_IndexFunc_api_Pair N x.1 x.2.1)
    | _ => none
theorem slices_DeleteFunc_api_Pair_fn_ok (N : Nat) : ∀ f q F, slices_DeleteFunc_api_Pair_fn N f q = some F → Sound Tryz.prog GW B0G f F := by
  intro f q F h
  unfold slices_DeleteFunc_api_Pair_fn at h
  split at h
  · cases h; exact config_with_1_sound N
  · cases h; exact slices_IndexFunc_api_Pair_sound N
  · cases h
def slices_DeleteFunc_api_Pair_h : Nat → Hint := fun i =>
  match i with
  | 0 => ⟨[], [0, 1, 5, 6], [0], [0, 5], [0], []⟩
  | _ => ⟨[], [], [], [], [], []⟩
abbrev slices_DeleteFunc_api_Pair_E (N : Nat) : Env := mkE slices_DeleteFunc_api_Pair_h (slices_DeleteFunc_api_Pair_fn N) (fun i => match i with | 4 => true | _ => false) (fun _ => false)
abbrev slices_DeleteFunc_api_Pair_L0_fs : List (Nat × Sl) := [(0, .row 0), (1, .v (.clo 95 (.pr (.ptr .str) .un))), (5, .v (.int .i64)), (6, .v (.int .i64))]
abbrev slices_DeleteFunc_api_Pair_L0_bs : List (Nat × Sb) := [(0, .row 53 (.pr .str .str) true)]
def slices_DeleteFunc_api_Pair_L0_hd (x1 : Str × Unit) (s5 : Int) (s6 : Int) (w0_1 : List (Str × Str)) : St := ⟨42, [(0, .row 0), (1, .v (.clo 95 (.pr (.ptr .str) .un)) x1), (5, .v (.int .i64) s5), (6, .v (.int .i64) s6)], [(0, .row 53 (.pr .str .str) true w0_1)]⟩
def slices_DeleteFunc_api_Pair_L0_tl0 (_x1 : Str × Unit) (o0_5 : Int) (o0_w0 : List (Str × Str)) : St := ⟨42, [(0, .row 0), (5, .v (.int .i64) o0_5)], [(0, .row 53 (.pr .str .str) true o0_w0)]⟩
def slices_DeleteFunc_api_Pair_L0_G (N : Nat) (x1 : Str × Unit) (s5 : Int) (s6 : Int) (w0_1 : List (Str × Str)) (k : Ex → St → Option (List (Str × Str))) : Option (List (Str × Str)) :=
  slices_DeleteFunc_api_Pair_L0 N x1 (fun o0_5 o0_w0 => k (.exit 0) (slices_DeleteFunc_api_Pair_L0_tl0 x1 o0_5 o0_w0)) N s5 s6 w0_1
abbrev slices_DeleteFunc_api_Pair_L0_F (N : Nat) : FV slices_DeleteFunc_api_Pair_L0_fs → HV slices_DeleteFunc_api_Pair_L0_bs → (Ex → St → Option (List (Str × Str))) → Option (List (Str × Str)) := fun x y k => slices_DeleteFunc_api_Pair_L0_G N x.2.1 x.2.2.1 x.2.2.2.1 y.1 k
noncomputable def slices_DeleteFunc_api_Pair_LP (N : Nat) : Nat → Code → St → (Ex → St → Option (List (Str × Str))) → Option (List (Str × Str)) := fun i c =>
  match i with
  | 0 => (LPc 42 slices_DeleteFunc_api_Pair_L0_fs slices_DeleteFunc_api_Pair_L0_bs (slices_DeleteFunc_api_Pair_L0_F N) (fun st k => iter (slices_DeleteFunc_api_Pair_h 0) (exec (slices_DeleteFunc_api_Pair_E N) N c 0) N st k))
  | i => fun st k => iter (slices_DeleteFunc_api_Pair_h i) (exec (slices_DeleteFunc_api_Pair_E N) N c i) N st k
theorem slices_DeleteFunc_api_Pair_L0_step (N : Nat) (x1 : Str × Unit) (KX : Nat → St → Option (List (Str × Str))) (I : St → Option (List (Str × Str))) (s5 : Int) (s6 : Int) (w0_1 : List (Str × Str)) :
    execL (slices_DeleteFunc_api_Pair_LP N) (slices_DeleteFunc_api_Pair_E N) (cAt (bodyOf Tryz.f94) [true, true, true, false, true, false, false]) 0 (slices_DeleteFunc_api_Pair_L0_hd x1 s5 s6 w0_1) (roundK (slices_DeleteFunc_api_Pair_h 0) I KX (resD (slices_DeleteFunc_api_Pair_E N) Tryz.f94 (slices_DeleteFunc_api_Pair_sg fun x y => slices_DeleteFunc_api_Pair N x.2.1 y.1) slices_DeleteFunc_api_Pair_pk)) = slices_DeleteFunc_api_Pair_L0T N x1 (fun o0_5 o0_w0 => KX 0 (slices_DeleteFunc_api_Pair_L0_tl0 x1 o0_5 o0_w0)) (fun s5 s6 w0_1 => I (slices_DeleteFunc_api_Pair_L0_hd x1 s5 s6 w0_1)) s5 s6 w0_1 := by kernel_rfl
theorem slices_DeleteFunc_api_Pair_L0_ok (N : Nat) : ∀ x y k, (∀ st, k .ret st = (resD (slices_DeleteFunc_api_Pair_E N) Tryz.f94 (slices_DeleteFunc_api_Pair_sg fun x y => slices_DeleteFunc_api_Pair N x.2.1 y.1) slices_DeleteFunc_api_Pair_pk) st) → iter (slices_DeleteFunc_api_Pair_h 0) (exec (slices_DeleteFunc_api_Pair_E N) N (cAt (bodyOf Tryz.f94) [true, true, true, false, true, false, false]) 0) N ⟨42, unF slices_DeleteFunc_api_Pair_L0_fs x, unH slices_DeleteFunc_api_Pair_L0_bs y⟩ k = slices_DeleteFunc_api_Pair_L0_F N x y k := fun x y k hk =>
  iter_link (S := (Int) × (Int) × (List (Str × Str)) × Unit) (slices_DeleteFunc_api_Pair_h 0) _ (execL (slices_DeleteFunc_api_Pair_LP N) (slices_DeleteFunc_api_Pair_E N) (cAt (bodyOf Tryz.f94) [true, true, true, false, true, false, false]) 0) (resD (slices_DeleteFunc_api_Pair_E N) Tryz.f94 (slices_DeleteFunc_api_Pair_sg fun x y => slices_DeleteFunc_api_Pair N x.2.1 y.1) slices_DeleteFunc_api_Pair_pk) (fun st k hk => execL_eq _ _ N _ (cAt (bodyOf Tryz.f94) [true, true, true, false, true, false, false]) 0 (show LoopsOk (slices_DeleteFunc_api_Pair_LP N) (slices_DeleteFunc_api_Pair_E N) N (resD (slices_DeleteFunc_api_Pair_E N) Tryz.f94 (slices_DeleteFunc_api_Pair_sg fun x y => slices_DeleteFunc_api_Pair N x.2.1 y.1) slices_DeleteFunc_api_Pair_pk) [] from trivial) st k hk) (fun s => slices_DeleteFunc_api_Pair_L0_hd x.2.1 s.1 s.2.1 s.2.2.1) k hk
    (fun self s => slices_DeleteFunc_api_Pair_L0T N x.2.1 (fun o0_5 o0_w0 => k (.exit 0) (slices_DeleteFunc_api_Pair_L0_tl0 x.2.1 o0_5 o0_w0)) (fun s5 s6 w0_1 => self (s5, s6, w0_1, ())) s.1 s.2.1 s.2.2.1) (fun n s => slices_DeleteFunc_api_Pair_L0 N x.2.1 (fun o0_5 o0_w0 => k (.exit 0) (slices_DeleteFunc_api_Pair_L0_tl0 x.2.1 o0_5 o0_w0)) n s.1 s.2.1 s.2.2.1) (fun _ => rfl) (fun _ _ => rfl)
    (fun I s => slices_DeleteFunc_api_Pair_L0_step N x.2.1 (fun j => k (.exit j)) I s.1 s.2.1 s.2.2.1) N (x.2.2.1, x.2.2.2.1, y.1, ())
theorem slices_DeleteFunc_api_Pair_lp0 (N : Nat) : ∀ st k, (∀ st, k .ret st = (resD (slices_DeleteFunc_api_Pair_E N) Tryz.f94 (slices_DeleteFunc_api_Pair_sg fun x y => slices_DeleteFunc_api_Pair N x.2.1 y.1) slices_DeleteFunc_api_Pair_pk) st) → slices_DeleteFunc_api_Pair_LP N 0 (cAt (bodyOf Tryz.f94) [true, true, true, false, true, false, false]) st k = iter (Env.hint (slices_DeleteFunc_api_Pair_E N) 0) (exec (slices_DeleteFunc_api_Pair_E N) N (cAt (bodyOf Tryz.f94) [true, true, true, false, true, false, false]) 0) N st k := fun st k hk => LPc_eq 42 slices_DeleteFunc_api_Pair_L0_fs slices_DeleteFunc_api_Pair_L0_bs _ _ (resD (slices_DeleteFunc_api_Pair_E N) Tryz.f94 (slices_DeleteFunc_api_Pair_sg fun x y => slices_DeleteFunc_api_Pair N x.2.1 y.1) slices_DeleteFunc_api_Pair_pk) (slices_DeleteFunc_api_Pair_L0_ok N) _ st k hk (rfl)
theorem slices_DeleteFunc_api_Pair_core (N : Nat) (x : SV [.row 0, .v (.clo 95 (.pr (.ptr .str) .un))]) (y : BV [.row 53 (.pr .str .str) true]) : runL (slices_DeleteFunc_api_Pair_E N) Tryz.f94 (slices_DeleteFunc_api_Pair_sg fun x y => slices_DeleteFunc_api_Pair N x.2.1 y.1) slices_DeleteFunc_api_Pair_pk (slices_DeleteFunc_api_Pair_LP N) x y = slices_DeleteFunc_api_Pair N x.2.1 y.1 := by kernel_rfl
theorem slices_DeleteFunc_api_Pair_sound (N : Nat) : Sound Tryz.prog GW B0G 94 (slices_DeleteFunc_api_Pair_sg fun x y => slices_DeleteFunc_api_Pair N x.2.1 y.1) :=
  runD_sound (mkE_ok slices_DeleteFunc_api_Pair_h (slices_DeleteFunc_api_Pair_fn N) _ _ (slices_DeleteFunc_api_Pair_fn_ok N)) Tryz.func94 rfl Tryz.call94 (slices_DeleteFunc_api_Pair_sg fun x y => slices_DeleteFunc_api_Pair N x.2.1 y.1) slices_DeleteFunc_api_Pair_pk (fun _ _ => rfl) N (fun x y _ h => ((runL_eq (slices_DeleteFunc_api_Pair_E N) N Tryz.f94 (slices_DeleteFunc_api_Pair_sg fun x y => slices_DeleteFunc_api_Pair N x.2.1 y.1) slices_DeleteFunc_api_Pair_pk (slices_DeleteFunc_api_Pair_LP N) (show LoopsOk (slices_DeleteFunc_api_Pair_LP N) (slices_DeleteFunc_api_Pair_E N) N (resD (slices_DeleteFunc_api_Pair_E N) Tryz.f94 (slices_DeleteFunc_api_Pair_sg fun x y => slices_DeleteFunc_api_Pair N x.2.1 y.1) slices_DeleteFunc_api_Pair_pk) [(0, (cAt (bodyOf Tryz.f94) [true, true, true, false, true, false, false]))] from ⟨slices_DeleteFunc_api_Pair_lp0 N, trivial⟩) x y).trans (slices_DeleteFunc_api_Pair_core N x y)).trans h)
end
end Go.Proofs.YtbekhaioddmliaaGreatDoor


/- What functions of the program compute, as plain functions (printed). -/
namespace Go.Proofs.YtbekhaioddmliaaGreatDoor
open Go Go.RowKit
set_option maxRecDepth 100000
set_option linter.unusedVariables false
noncomputable section
def slices_BinarySearchFunc_api_Pair_string_L0T (N : Nat) (x0 : List (Str × Str)) (x1 : Str) (k0 : Int → Option (Int × Bool)) (self : Int → Int → Option (Int × Bool)) (s9 : Int) (s10 : Int) : Option (Int × Bool) :=
  br (decide (s9 < s10))
    (br (decide (0 ≤ (1 : Int)))
      (bnd (geti x0 (IntKind.i64.wrap (shrI .u64 (IntKind.u64.wrap (IntKind.i64.wrap (s9 + s10))) (1 : Int)))) fun t27 =>
      bnd (config_with_2 N t27 x1) fun t30 =>
      br (decide (t30 < (0 : Int)))
        (self (IntKind.i64.wrap ((IntKind.i64.wrap (shrI .u64 (IntKind.u64.wrap (IntKind.i64.wrap (s9 + s10))) (1 : Int))) + (1 : Int))) s10)
        (self s9 (IntKind.i64.wrap (shrI .u64 (IntKind.u64.wrap (IntKind.i64.wrap (s9 + s10))) (1 : Int)))))
      none)
    (k0 s9)
def slices_BinarySearchFunc_api_Pair_string_L0 (N : Nat) (x0 : List (Str × Str)) (x1 : Str) (k0 : Int → Option (Int × Bool)) : Nat → Int → Int → Option (Int × Bool)
  | 0, _, _ => none
  | n + 1, s9, s10 => slices_BinarySearchFunc_api_Pair_string_L0T N x0 x1 k0 (slices_BinarySearchFunc_api_Pair_string_L0 N x0 x1 k0 n) s9 s10
def slices_BinarySearchFunc_api_Pair_string (N : Nat) (x0 : List (Str × Str)) (x1 : Str) (_x2 : Unit) : Option (Int × Bool) :=
  slices_BinarySearchFunc_api_Pair_string_L0 N x0 x1 (fun o0_9 =>
      br (decide (o0_9 < (x0.length : Int)))
        (bnd (geti x0 o0_9) fun t43 =>
        bnd (config_with_2 N t43 x1) fun t46 =>
        some (o0_9, t46 == (0 : Int)))
        (some (o0_9, false))) N (0 : Int) (x0.length : Int)
abbrev slices_BinarySearchFunc_api_Pair_string_sg (f : SV [.v (.sl (.pr .str .str)), .v .str, .v (.clo 97 .un)] → BV [] → Option (Int × Bool)) : AF := { ps := [.v (.sl (.pr .str .str)), .v .str, .v (.clo 97 .un)], bs := [], rs := [.v (.int .i64), .v .bool], cs := [], R := Int × Bool, out := fun z => ((z.1, z.2, ()), ()), f := f }
abbrev slices_BinarySearchFunc_api_Pair_string_pk : SV [.v (.int .i64), .v .bool] → BV [] → (Int × Bool) := fun x _ => (x.1, x.2.1)
def slices_BinarySearchFunc_api_Pair_string_fn (N : Nat) : FuncId → Option Tmp → Option AF := fun f _ =>
  match f with
    | 97 => some (config_with_2_sg fun x _ => config_with_2 N x.1 x.2.1)
    | _ => none
theorem slices_BinarySearchFunc_api_Pair_string_fn_ok (N : Nat) : ∀ f q F, slices_BinarySearchFunc_api_Pair_string_fn N f q = some F → Sound Tryz.prog GW B0G f F := by
  intro f q F h
  unfold slices_BinarySearchFunc_api_Pair_string_fn at h
  split at h
  · cases h; exact config_with_2_sound N
  · cases h
def slices_BinarySearchFunc_api_Pair_string_h : Nat → Hint := fun i =>
  match i with
  | 0 => ⟨[], [0, 1, 2, 8, 9, 10], [], [0, 1, 2, 8, 9], [], []⟩
  | _ => ⟨[], [], [], [], [], []⟩
abbrev slices_BinarySearchFunc_api_Pair_string_E (N : Nat) : Env := mkE slices_BinarySearchFunc_api_Pair_string_h (slices_BinarySearchFunc_api_Pair_string_fn N) (fun _ => false) (fun _ => false)
abbrev slices_BinarySearchFunc_api_Pair_string_L0_fs : List (Nat × Sl) := [(0, .v (.sl (.pr .str .str))), (1, .v .str), (2, .v (.clo 97 .un)), (8, .v (.int .i64)), (9, .v (.int .i64)), (10, .v (.int .i64))]
abbrev slices_BinarySearchFunc_api_Pair_string_L0_bs : List (Nat × Sb) := []
def slices_BinarySearchFunc_api_Pair_string_L0_hd (x0 : List (Str × Str)) (x1 : Str) (x2 : Unit) (c8 : Int) (s9 : Int) (s10 : Int) : St := ⟨49, [(0, .v (.sl (.pr .str .str)) x0), (1, .v .str x1), (2, .v (.clo 97 .un) x2), (8, .v (.int .i64) c8), (9, .v (.int .i64) s9), (10, .v (.int .i64) s10)], []⟩
def slices_BinarySearchFunc_api_Pair_string_L0_tl0 (x0 : List (Str × Str)) (x1 : Str) (x2 : Unit) (c8 : Int) (o0_9 : Int) : St := ⟨49, [(0, .v (.sl (.pr .str .str)) x0), (1, .v .str x1), (2, .v (.clo 97 .un) x2), (8, .v (.int .i64) c8), (9, .v (.int .i64) o0_9)], []⟩
def slices_BinarySearchFunc_api_Pair_string_L0_G (N : Nat) (x0 : List (Str × Str)) (x1 : Str) (x2 : Unit) (c8 : Int) (s9 : Int) (s10 : Int) (k : Ex → St → Option (Int × Bool)) : Option (Int × Bool) :=
  slices_BinarySearchFunc_api_Pair_string_L0 N x0 x1 (fun o0_9 => k (.exit 0) (slices_BinarySearchFunc_api_Pair_string_L0_tl0 x0 x1 x2 c8 o0_9)) N s9 s10
abbrev slices_BinarySearchFunc_api_Pair_string_L0_F (N : Nat) : FV slices_BinarySearchFunc_api_Pair_string_L0_fs → HV slices_BinarySearchFunc_api_Pair_string_L0_bs → (Ex → St → Option (Int × Bool)) → Option (Int × Bool) := fun x _ k => slices_BinarySearchFunc_api_Pair_string_L0_G N x.1 x.2.1 x.2.2.1 x.2.2.2.1 x.2.2.2.2.1 x.2.2.2.2.2.1 k
noncomputable def slices_BinarySearchFunc_api_Pair_string_LP (N : Nat) : Nat → Code → St → (Ex → St → Option (Int × Bool)) → Option (Int × Bool) := fun i c =>
  match i with
  | 0 => (LPc 49 slices_BinarySearchFunc_api_Pair_string_L0_fs slices_BinarySearchFunc_api_Pair_string_L0_bs (slices_BinarySearchFunc_api_Pair_string_L0_F N) (fun st k => iter (slices_BinarySearchFunc_api_Pair_string_h 0) (exec (slices_BinarySearchFunc_api_Pair_string_E N) N c 0) N st k))
  | i => fun st k => iter (slices_BinarySearchFunc_api_Pair_string_h i) (exec (slices_BinarySearchFunc_api_Pair_string_E N) N c i) N st k
theorem slices_BinarySearchFunc_api_Pair_string_L0_step (N : Nat) (x0 : List (Str × Str)) (x1 : Str) (x2 : Unit) (c8 : Int) (KX : Nat → St → Option (Int × Bool)) (I : St → Option (Int × Bool)) (s9 : Int) (s10 : Int) :
    execL (slices_BinarySearchFunc_api_Pair_string_LP N) (slices_BinarySearchFunc_api_Pair_string_E N) (cAt (bodyOf Tryz.f96) [true, true, true, false, false, false]) 0 (slices_BinarySearchFunc_api_Pair_string_L0_hd x0 x1 x2 c8 s9 s10) (roundK (slices_BinarySearchFunc_api_Pair_string_h 0) I KX (resD (slices_BinarySearchFunc_api_Pair_string_E N) Tryz.f96 (slices_BinarySearchFunc_api_Pair_string_sg fun x _ => slices_BinarySearchFunc_api_Pair_string N x.1 x.2.1 x.2.2.1) slices_BinarySearchFunc_api_Pair_string_pk)) = slices_BinarySearchFunc_api_Pair_string_L0T N x0 x1 (fun o0_9 => KX 0 (slices_BinarySearchFunc_api_Pair_string_L0_tl0 x0 x1 x2 c8 o0_9)) (fun s9 s10 => I (slices_BinarySearchFunc_api_Pair_string_L0_hd x0 x1 x2 c8 s9 s10)) s9 s10 := by kernel_rfl
theorem slices_BinarySearchFunc_api_Pair_string_L0_ok (N : Nat) : ∀ x y k, (∀ st, k .ret st = (resD (slices_BinarySearchFunc_api_Pair_string_E N) Tryz.f96 (slices_BinarySearchFunc_api_Pair_string_sg fun x _ => slices_BinarySearchFunc_api_Pair_string N x.1 x.2.1 x.2.2.1) slices_BinarySearchFunc_api_Pair_string_pk) st) → iter (slices_BinarySearchFunc_api_Pair_string_h 0) (exec (slices_BinarySearchFunc_api_Pair_string_E N) N (cAt (bodyOf Tryz.f96) [true, true, true, false, false, false]) 0) N ⟨49, unF slices_BinarySearchFunc_api_Pair_string_L0_fs x, unH slices_BinarySearchFunc_api_Pair_string_L0_bs y⟩ k = slices_BinarySearchFunc_api_Pair_string_L0_F N x y k := fun x _ k hk =>
  iter_link (S := (Int) × (Int) × Unit) (slices_BinarySearchFunc_api_Pair_string_h 0) _ (execL (slices_BinarySearchFunc_api_Pair_string_LP N) (slices_BinarySearchFunc_api_Pair_string_E N) (cAt (bodyOf Tryz.f96) [true, true, true, false, false, false]) 0) (resD (slices_BinarySearchFunc_api_Pair_string_E N) Tryz.f96 (slices_BinarySearchFunc_api_Pair_string_sg fun x _ => slices_BinarySearchFunc_api_Pair_string N x.1 x.2.1 x.2.2.1) slices_BinarySearchFunc_api_Pair_string_pk) (fun st k hk => execL_eq _ _ N _ (cAt (bodyOf Tryz.f96) [true, true, true, false, false, false]) 0 (show LoopsOk (slices_BinarySearchFunc_api_Pair_string_LP N) (slices_BinarySearchFunc_api_Pair_string_E N) N (resD (slices_BinarySearchFunc_api_Pair_string_E N) Tryz.f96 (slices_BinarySearchFunc_api_Pair_string_sg fun x _ => slices_BinarySearchFunc_api_Pair_string N x.1 x.2.1 x.2.2.1) slices_BinarySearchFunc_api_Pair_string_pk) [] from trivial) st k hk) (fun s => slices_BinarySearchFunc_api_Pair_string_L0_hd x.1 x.2.1 x.2.2.1 x.2.2.2.1 s.1 s.2.1) k hk
    (fun self s => slices_BinarySearchFunc_api_Pair_string_L0T N x.1 x.2.1 (fun o0_9 => k (.exit 0) (slices_BinarySearchFunc_api_Pair_string_L0_tl0 x.1 x.2.1 x.2.2.1 x.2.2.2.1 o0_9)) (fun s9 s10 => self (s9, s10, ())) s.1 s.2.1) (fun n s => slices_BinarySearchFunc_api_Pair_string_L0 N x.1 x.2.1 (fun o0_9 => k (.exit 0) (slices_BinarySearchFunc_api_Pair_string_L0_tl0 x.1 x.2.1 x.2.2.1 x.2.2.2.1 o0_9)) n s.1 s.2.1) (fun _ => rfl) (fun _ _ => rfl)
    (fun I s => slices_BinarySearchFunc_api_Pair_string_L0_step N x.1 x.2.1 x.2.2.1 x.2.2.2.1 (fun j => k (.exit j)) I s.1 s.2.1) N (x.2.2.2.2.1, x.2.2.2.2.2.1, ())
theorem slices_BinarySearchFunc_api_Pair_string_lp0 (N : Nat) : ∀ st k, (∀ st, k .ret st = (resD (slices_BinarySearchFunc_api_Pair_string_E N) Tryz.f96 (slices_BinarySearchFunc_api_Pair_string_sg fun x _ => slices_BinarySearchFunc_api_Pair_string N x.1 x.2.1 x.2.2.1) slices_BinarySearchFunc_api_Pair_string_pk) st) → slices_BinarySearchFunc_api_Pair_string_LP N 0 (cAt (bodyOf Tryz.f96) [true, true, true, false, false, false]) st k = iter (Env.hint (slices_BinarySearchFunc_api_Pair_string_E N) 0) (exec (slices_BinarySearchFunc_api_Pair_string_E N) N (cAt (bodyOf Tryz.f96) [true, true, true, false, false, false]) 0) N st k := fun st k hk => LPc_eq 49 slices_BinarySearchFunc_api_Pair_string_L0_fs slices_BinarySearchFunc_api_Pair_string_L0_bs _ _ (resD (slices_BinarySearchFunc_api_Pair_string_E N) Tryz.f96 (slices_BinarySearchFunc_api_Pair_string_sg fun x _ => slices_BinarySearchFunc_api_Pair_string N x.1 x.2.1 x.2.2.1) slices_BinarySearchFunc_api_Pair_string_pk) (slices_BinarySearchFunc_api_Pair_string_L0_ok N) _ st k hk (rfl)
theorem slices_BinarySearchFunc_api_Pair_string_core (N : Nat) (x : SV [.v (.sl (.pr .str .str)), .v .str, .v (.clo 97 .un)]) (y : BV []) : runL (slices_BinarySearchFunc_api_Pair_string_E N) Tryz.f96 (slices_BinarySearchFunc_api_Pair_string_sg fun x _ => slices_BinarySearchFunc_api_Pair_string N x.1 x.2.1 x.2.2.1) slices_BinarySearchFunc_api_Pair_string_pk (slices_BinarySearchFunc_api_Pair_string_LP N) x y = slices_BinarySearchFunc_api_Pair_string N x.1 x.2.1 x.2.2.1 := by kernel_rfl
theorem slices_BinarySearchFunc_api_Pair_string_sound (N : Nat) : Sound Tryz.prog GW B0G 96 (slices_BinarySearchFunc_api_Pair_string_sg fun x _ => slices_BinarySearchFunc_api_Pair_string N x.1 x.2.1 x.2.2.1) :=
  runD_sound (mkE_ok slices_BinarySearchFunc_api_Pair_string_h (slices_BinarySearchFunc_api_Pair_string_fn N) _ _ (slices_BinarySearchFunc_api_Pair_string_fn_ok N)) Tryz.func96 rfl Tryz.call96 (slices_BinarySearchFunc_api_Pair_string_sg fun x _ => slices_BinarySearchFunc_api_Pair_string N x.1 x.2.1 x.2.2.1) slices_BinarySearchFunc_api_Pair_string_pk (fun _ _ => rfl) N (fun x y _ h => ((runL_eq (slices_BinarySearchFunc_api_Pair_string_E N) N Tryz.f96 (slices_BinarySearchFunc_api_Pair_string_sg fun x _ => slices_BinarySearchFunc_api_Pair_string N x.1 x.2.1 x.2.2.1) slices_BinarySearchFunc_api_Pair_string_pk (slices_BinarySearchFunc_api_Pair_string_LP N) (show LoopsOk (slices_BinarySearchFunc_api_Pair_string_LP N) (slices_BinarySearchFunc_api_Pair_string_E N) N (resD (slices_BinarySearchFunc_api_Pair_string_E N) Tryz.f96 (slices_BinarySearchFunc_api_Pair_string_sg fun x _ => slices_BinarySearchFunc_api_Pair_string N x.1 x.2.1 x.2.2.1) slices_BinarySearchFunc_api_Pair_string_pk) [(0, (cAt (bodyOf Tryz.f96) [true, true, true, false, false, false]))] from ⟨slices_BinarySearchFunc_api_Pair_string_lp0 N, trivial⟩) x y).trans (slices_BinarySearchFunc_api_Pair_string_core N x y)).trans h)
def config_with (N : Nat) (x0 : List (Str × List Str)) (x1 : List (Str × Str)) (x2 : Str) (x3 : Str) : Option (List (Str × Str)) :=
  bnd (slices_Clone_api_Pair N x1) fun t13 =>
  bnd (slices_DeleteFunc_api_Pair N (x2, ()) t13) fun t15 =>
  bnd (config_find N x0 x2) fun t20 =>
  bnd (geti x0 t20) fun t21 =>
  bnd (geti t21.2 (0 : Int)) fun t24 =>
  br (x3 == t24)
    (some t15)
    (bnd (slices_BinarySearchFunc_api_Pair_string N t15 x2 ()) fun t31 =>
    bnd (slices_Insert_pair t31.1 t15 [(x2, x3)]) fun t40 =>
    some t40)
abbrev config_with_sg (f : SV [.v (.sl (.pr .str (.sl .str))), .v (.sl (.pr .str .str)), .v .str, .v .str] → BV [] → Option (List (Str × Str))) : AF := { ps := [.v (.sl (.pr .str (.sl .str))), .v (.sl (.pr .str .str)), .v .str, .v .str], bs := [], rs := [.row 0], cs := [.row 53 (.pr .str .str) true], R := List (Str × Str), out := fun z => (((), ()), (z, ())), f := f }
abbrev config_with_pk : SV [.row 0] → BV [.row 53 (.pr .str .str) true] → (List (Str × Str)) := fun _ y => y.1
def config_with_fn (N : Nat) : FuncId → Option Tmp → Option AF := fun f _ =>
  match f with
    | 54 => some (slices_Clone_api_Pair_sg fun x _ => slices_Clone_api_Pair N x.1)
    | 73 => some (config_find_sg fun x _ => config_find N x.1 x.2.1)
    | 94 => some (slices_DeleteFunc_api_Pair_sg fun x y => slices_DeleteFunc_api_Pair N x.2.1 y.1)
    | 96 => some (slices_BinarySearchFunc_api_Pair_string_sg fun x _ => slices_BinarySearchFunc_api_Pair_string N x.1 x.2.1 x.2.2.1)
    | 99 => some (slices_Insert_pair_sg fun x y => slices_Insert_pair x.2.1 y.1 y.2.1)
    | 95 => some (noneAF [.v (.ptr .str)])
    | _ => none
theorem config_with_fn_ok (N : Nat) : ∀ f q F, config_with_fn N f q = some F → Sound Tryz.prog GW B0G f F := by
  intro f q F h
  unfold config_with_fn at h
  split at h
  · cases h; exact slices_Clone_api_Pair_sound N
  · cases h; exact config_find_sound N
  · cases h; exact slices_DeleteFunc_api_Pair_sound N
  · cases h; exact slices_BinarySearchFunc_api_Pair_string_sound N
  · cases h; exact slices_Insert_pair_sound
  · cases h; exact noneAF_sound Tryz.call95 _
  · cases h
def config_with_h : Nat → Hint := fun i =>
  match i with
  | _ => ⟨[], [], [], [], [], []⟩
abbrev config_with_E (N : Nat) : Env := mkE config_with_h (config_with_fn N) (fun _ => false) (fun _ => false)
noncomputable def config_with_LP (N : Nat) : Nat → Code → St → (Ex → St → Option (List (Str × Str))) → Option (List (Str × Str)) := fun i c =>
  match i with
  | i => fun st k => iter (config_with_h i) (exec (config_with_E N) N c i) N st k
theorem config_with_core (N : Nat) (x : SV [.v (.sl (.pr .str (.sl .str))), .v (.sl (.pr .str .str)), .v .str, .v .str]) (y : BV []) : runL (config_with_E N) Tryz.f37 (config_with_sg fun x _ => config_with N x.1 x.2.1 x.2.2.1 x.2.2.2.1) config_with_pk (config_with_LP N) x y = config_with N x.1 x.2.1 x.2.2.1 x.2.2.2.1 := by kernel_rfl
theorem config_with_sound (N : Nat) : Sound Tryz.prog GW B0G 37 (config_with_sg fun x _ => config_with N x.1 x.2.1 x.2.2.1 x.2.2.2.1) :=
  runD_sound (mkE_ok config_with_h (config_with_fn N) _ _ (config_with_fn_ok N)) Tryz.func37 rfl Tryz.call37 (config_with_sg fun x _ => config_with N x.1 x.2.1 x.2.2.1 x.2.2.2.1) config_with_pk (fun _ _ => rfl) N (fun x y _ h => ((runL_eq (config_with_E N) N Tryz.f37 (config_with_sg fun x _ => config_with N x.1 x.2.1 x.2.2.1 x.2.2.2.1) config_with_pk (config_with_LP N) (show LoopsOk (config_with_LP N) (config_with_E N) N (resD (config_with_E N) Tryz.f37 (config_with_sg fun x _ => config_with N x.1 x.2.1 x.2.2.1 x.2.2.2.1) config_with_pk) [] from trivial) x y).trans (config_with_core N x y)).trans h)
def config_checkNames_L0T (N : Nat) (x0 : List (Str × List Str)) (x1 : List Str) (c7 : List Str) (c8 : Int) (k0 : Option Int) (self : Int → Option Int) (s9 : Int) : Option Int :=
  br (decide (s9 < c8))
    (bnd (geti c7 s9) fun t12 =>
    bnd (config_find N x0 t12) fun t16 =>
    br (decide (t16 < (0 : Int)))
      (some (5 : Int))
      (br (decide (s9 > (0 : Int)))
        (bnd (geti x1 (IntKind.i64.wrap (s9 - (1 : Int)))) fun t25 =>
        br (Op.bytesLess t12 t25 || t12 == t25)
          (some (8 : Int))
          (self (IntKind.i64.wrap (s9 + (1 : Int)))))
        (self (IntKind.i64.wrap (s9 + (1 : Int))))))
    (k0)
def config_checkNames_L0 (N : Nat) (x0 : List (Str × List Str)) (x1 : List Str) (c7 : List Str) (c8 : Int) (k0 : Option Int) : Nat → Int → Option Int
  | 0, _ => none
  | n + 1, s9 => config_checkNames_L0T N x0 x1 c7 c8 k0 (config_checkNames_L0 N x0 x1 c7 c8 k0 n) s9
def config_checkNames (N : Nat) (x0 : List (Str × List Str)) (x1 : List Str) : Option Int :=
  config_checkNames_L0 N x0 x1 x1 (x1.length : Int) (some (0 : Int)) N (0 : Int)
abbrev config_checkNames_sg (f : SV [.v (.sl (.pr .str (.sl .str))), .v (.sl .str)] → BV [] → Option (Int)) : AF := { ps := [.v (.sl (.pr .str (.sl .str))), .v (.sl .str)], bs := [], rs := [.v (.int .i64)], cs := [], R := Int, out := fun z => ((z, ()), ()), f := f }
abbrev config_checkNames_pk : SV [.v (.int .i64)] → BV [] → Int := fun x _ => x.1
def config_checkNames_fn (N : Nat) : FuncId → Option Tmp → Option AF := fun f _ =>
  match f with
    | 73 => some (config_find_sg fun x _ => config_find N x.1 x.2.1)
    | _ => none
theorem config_checkNames_fn_ok (N : Nat) : ∀ f q F, config_checkNames_fn N f q = some F → Sound Tryz.prog GW B0G f F := by
  intro f q F h
  unfold config_checkNames_fn at h
  split at h
  · cases h; exact config_find_sound N
  · cases h
def config_checkNames_h : Nat → Hint := fun i =>
  match i with
  | 0 => ⟨[], [0, 1, 7, 8, 9], [], [], [], []⟩
  | _ => ⟨[], [], [], [], [], []⟩
abbrev config_checkNames_E (N : Nat) : Env := mkE config_checkNames_h (config_checkNames_fn N) (fun _ => false) (fun _ => false)
abbrev config_checkNames_L0_fs : List (Nat × Sl) := [(0, .v (.sl (.pr .str (.sl .str)))), (1, .v (.sl .str)), (7, .v (.sl .str)), (8, .v (.int .i64)), (9, .v (.int .i64))]
abbrev config_checkNames_L0_bs : List (Nat × Sb) := []
def config_checkNames_L0_hd (x0 : List (Str × List Str)) (x1 : List Str) (c7 : List Str) (c8 : Int) (s9 : Int) : St := ⟨30, [(0, .v (.sl (.pr .str (.sl .str))) x0), (1, .v (.sl .str) x1), (7, .v (.sl .str) c7), (8, .v (.int .i64) c8), (9, .v (.int .i64) s9)], []⟩
def config_checkNames_L0_tl0 (_x0 : List (Str × List Str)) (_x1 : List Str) (_c7 : List Str) (_c8 : Int) : St := ⟨30, [], []⟩
def config_checkNames_L0_G (N : Nat) (x0 : List (Str × List Str)) (x1 : List Str) (c7 : List Str) (c8 : Int) (s9 : Int) (k : Ex → St → Option Int) : Option Int :=
  config_checkNames_L0 N x0 x1 c7 c8 (k (.exit 0) (config_checkNames_L0_tl0 x0 x1 c7 c8)) N s9
abbrev config_checkNames_L0_F (N : Nat) : FV config_checkNames_L0_fs → HV config_checkNames_L0_bs → (Ex → St → Option Int) → Option Int := fun x _ k => config_checkNames_L0_G N x.1 x.2.1 x.2.2.1 x.2.2.2.1 x.2.2.2.2.1 k
noncomputable def config_checkNames_LP (N : Nat) : Nat → Code → St → (Ex → St → Option Int) → Option Int := fun i c =>
  match i with
  | 0 => (LPc 30 config_checkNames_L0_fs config_checkNames_L0_bs (config_checkNames_L0_F N) (fun st k => iter (config_checkNames_h 0) (exec (config_checkNames_E N) N c 0) N st k))
  | i => fun st k => iter (config_checkNames_h i) (exec (config_checkNames_E N) N c i) N st k
theorem config_checkNames_L0_step (N : Nat) (x0 : List (Str × List Str)) (x1 : List Str) (c7 : List Str) (c8 : Int) (KX : Nat → St → Option Int) (I : St → Option Int) (s9 : Int) :
    execL (config_checkNames_LP N) (config_checkNames_E N) (cAt (bodyOf Tryz.f45) [true, false, true, false, false]) 0 (config_checkNames_L0_hd x0 x1 c7 c8 s9) (roundK (config_checkNames_h 0) I KX (resD (config_checkNames_E N) Tryz.f45 (config_checkNames_sg fun x _ => config_checkNames N x.1 x.2.1) config_checkNames_pk)) = config_checkNames_L0T N x0 x1 c7 c8 (KX 0 (config_checkNames_L0_tl0 x0 x1 c7 c8)) (fun s9 => I (config_checkNames_L0_hd x0 x1 c7 c8 s9)) s9 := by kernel_rfl
theorem config_checkNames_L0_ok (N : Nat) : ∀ x y k, (∀ st, k .ret st = (resD (config_checkNames_E N) Tryz.f45 (config_checkNames_sg fun x _ => config_checkNames N x.1 x.2.1) config_checkNames_pk) st) → iter (config_checkNames_h 0) (exec (config_checkNames_E N) N (cAt (bodyOf Tryz.f45) [true, false, true, false, false]) 0) N ⟨30, unF config_checkNames_L0_fs x, unH config_checkNames_L0_bs y⟩ k = config_checkNames_L0_F N x y k := fun x _ k hk =>
  iter_link (S := (Int) × Unit) (config_checkNames_h 0) _ (execL (config_checkNames_LP N) (config_checkNames_E N) (cAt (bodyOf Tryz.f45) [true, false, true, false, false]) 0) (resD (config_checkNames_E N) Tryz.f45 (config_checkNames_sg fun x _ => config_checkNames N x.1 x.2.1) config_checkNames_pk) (fun st k hk => execL_eq _ _ N _ (cAt (bodyOf Tryz.f45) [true, false, true, false, false]) 0 (show LoopsOk (config_checkNames_LP N) (config_checkNames_E N) N (resD (config_checkNames_E N) Tryz.f45 (config_checkNames_sg fun x _ => config_checkNames N x.1 x.2.1) config_checkNames_pk) [] from trivial) st k hk) (fun s => config_checkNames_L0_hd x.1 x.2.1 x.2.2.1 x.2.2.2.1 s.1) k hk
    (fun self s => config_checkNames_L0T N x.1 x.2.1 x.2.2.1 x.2.2.2.1 (k (.exit 0) (config_checkNames_L0_tl0 x.1 x.2.1 x.2.2.1 x.2.2.2.1)) (fun s9 => self (s9, ())) s.1) (fun n s => config_checkNames_L0 N x.1 x.2.1 x.2.2.1 x.2.2.2.1 (k (.exit 0) (config_checkNames_L0_tl0 x.1 x.2.1 x.2.2.1 x.2.2.2.1)) n s.1) (fun _ => rfl) (fun _ _ => rfl)
    (fun I s => config_checkNames_L0_step N x.1 x.2.1 x.2.2.1 x.2.2.2.1 (fun j => k (.exit j)) I s.1) N (x.2.2.2.2.1, ())
theorem config_checkNames_lp0 (N : Nat) : ∀ st k, (∀ st, k .ret st = (resD (config_checkNames_E N) Tryz.f45 (config_checkNames_sg fun x _ => config_checkNames N x.1 x.2.1) config_checkNames_pk) st) → config_checkNames_LP N 0 (cAt (bodyOf Tryz.f45) [true, false, true, false, false]) st k = iter (Env.hint (config_checkNames_E N) 0) (exec (config_checkNames_E N) N (cAt (bodyOf Tryz.f45) [true, false, true, false, false]) 0) N st k := fun st k hk => LPc_eq 30 config_checkNames_L0_fs config_checkNames_L0_bs _ _ (resD (config_checkNames_E N) Tryz.f45 (config_checkNames_sg fun x _ => config_checkNames N x.1 x.2.1) config_checkNames_pk) (config_checkNames_L0_ok N) _ st k hk (rfl)
theorem config_checkNames_core (N : Nat) (x : SV [.v (.sl (.pr .str (.sl .str))), .v (.sl .str)]) (y : BV []) : runL (config_checkNames_E N) Tryz.f45 (config_checkNames_sg fun x _ => config_checkNames N x.1 x.2.1) config_checkNames_pk (config_checkNames_LP N) x y = config_checkNames N x.1 x.2.1 := by kernel_rfl
theorem config_checkNames_sound (N : Nat) : Sound Tryz.prog GW B0G 45 (config_checkNames_sg fun x _ => config_checkNames N x.1 x.2.1) :=
  runD_sound (mkE_ok config_checkNames_h (config_checkNames_fn N) _ _ (config_checkNames_fn_ok N)) Tryz.func45 rfl Tryz.call45 (config_checkNames_sg fun x _ => config_checkNames N x.1 x.2.1) config_checkNames_pk (fun _ _ => rfl) N (fun x y _ h => ((runL_eq (config_checkNames_E N) N Tryz.f45 (config_checkNames_sg fun x _ => config_checkNames N x.1 x.2.1) config_checkNames_pk (config_checkNames_LP N) (show LoopsOk (config_checkNames_LP N) (config_checkNames_E N) N (resD (config_checkNames_E N) Tryz.f45 (config_checkNames_sg fun x _ => config_checkNames N x.1 x.2.1) config_checkNames_pk) [(0, (cAt (bodyOf Tryz.f45) [true, false, true, false, false]))] from ⟨config_checkNames_lp0 N, trivial⟩) x y).trans (config_checkNames_core N x y)).trans h)
def config_spread_L2T (N : Nat) (x0 : List (Str × List Str)) (t23 : Str) (t29 : List (Str × Str)) (c37 : List Str) (c38 : Int) (k4 : (List (List (Str × Str))) → Option (List (List (Str × Str)) × Bool)) (self : Int → (List (List (Str × Str))) → Option (List (List (Str × Str)) × Bool)) (s39 : Int) (w1011_1 : List (List (Str × Str))) : Option (List (List (Str × Str)) × Bool) :=
  br (decide (s39 < c38))
    (bnd (geti c37 s39) fun t41 =>
    bnd (config_with N x0 t29 t23 t41) fun t48 =>
    br (decide ((w1011_1.length + [t48].length) * (24 * Ty.sz (.sl (.pr .str .str))) ≤ 140737488355328))
      (self (IntKind.i64.wrap (s39 + (1 : Int))) (w1011_1 ++ [t48]))
      none)
    (k4 w1011_1)
def config_spread_L2 (N : Nat) (x0 : List (Str × List Str)) (t23 : Str) (t29 : List (Str × Str)) (c37 : List Str) (c38 : Int) (k4 : (List (List (Str × Str))) → Option (List (List (Str × Str)) × Bool)) : Nat → Int → (List (List (Str × Str))) → Option (List (List (Str × Str)) × Bool)
  | 0, _, _ => none
  | n + 1, s39, w1011_1 => config_spread_L2T N x0 t23 t29 c37 c38 k4 (config_spread_L2 N x0 t23 t29 c37 c38 k4 n) s39 w1011_1
def config_spread_L1T (N : Nat) (x0 : List (Str × List Str)) (t23 : Str) (s8 : List (List (Str × Str))) (c26 : Int) (k2 : (List (List (Str × Str))) → Option (List (List (Str × Str)) × Bool)) (self : Int → (List (List (Str × Str))) → Option (List (List (Str × Str)) × Bool)) (s27 : Int) (w1011 : List (List (Str × Str))) : Option (List (List (Str × Str)) × Bool) :=
  br (decide (s27 < c26))
    (bnd (geti s8 s27) fun t29 =>
    bnd (config_find N x0 t23) fun t34 =>
    bnd (geti x0 t34) fun t35 =>
    config_spread_L2 N x0 t23 t29 t35.2 (t35.2.length : Int) (fun o2_w1011 =>
        self (IntKind.i64.wrap (s27 + (1 : Int))) o2_w1011) N (0 : Int) w1011)
    (k2 w1011)
def config_spread_L1 (N : Nat) (x0 : List (Str × List Str)) (t23 : Str) (s8 : List (List (Str × Str))) (c26 : Int) (k2 : (List (List (Str × Str))) → Option (List (List (Str × Str)) × Bool)) : Nat → Int → (List (List (Str × Str))) → Option (List (List (Str × Str)) × Bool)
  | 0, _, _ => none
  | n + 1, s27, w1011 => config_spread_L1T N x0 t23 s8 c26 k2 (config_spread_L1 N x0 t23 s8 c26 k2 n) s27 w1011
def config_spread_L0T (N : Nat) (x0 : List (Str × List Str)) (x2 : List Str) (c20 : Int) (k0 : (List (List (Str × Str))) → Option (List (List (Str × Str)) × Bool)) (self : (List (List (Str × Str))) → Int → Option (List (List (Str × Str)) × Bool)) (s8 : List (List (Str × Str))) (s21 : Int) : Option (List (List (Str × Str)) × Bool) :=
  br (decide (s21 < c20))
    (bnd (geti x2 s21) fun t23 =>
    config_spread_L1 N x0 t23 s8 (s8.length : Int) (fun o1_w1011 =>
        br (decide ((o1_w1011.length : Int) > (1000 : Int)))
          (some (([] : List (List (Str × Str))), false))
          (self o1_w1011 (IntKind.i64.wrap (s21 + (1 : Int))))) N (0 : Int) ([] : List (List (Str × Str))))
    (k0 s8)
def config_spread_L0 (N : Nat) (x0 : List (Str × List Str)) (x2 : List Str) (c20 : Int) (k0 : (List (List (Str × Str))) → Option (List (List (Str × Str)) × Bool)) : Nat → (List (List (Str × Str))) → Int → Option (List (List (Str × Str)) × Bool)
  | 0, _, _ => none
  | n + 1, s8, s21 => config_spread_L0T N x0 x2 c20 k0 (config_spread_L0 N x0 x2 c20 k0 n) s8 s21
def config_spread (N : Nat) (x0 : List (Str × List Str)) (x1 : List (Str × Str)) (x2 : List Str) : Option (List (List (Str × Str)) × Bool) :=
  bnd (slices_Clone_api_Pair N x1) fun t17 =>
  config_spread_L0 N x0 x2 (x2.length : Int) (fun o0_8 =>
      some (o0_8, true)) N [t17] (0 : Int)
abbrev config_spread_sg (f : SV [.v (.sl (.pr .str (.sl .str))), .v (.sl (.pr .str .str)), .v (.sl .str)] → BV [] → Option (List (List (Str × Str)) × Bool)) : AF := { ps := [.v (.sl (.pr .str (.sl .str))), .v (.sl (.pr .str .str)), .v (.sl .str)], bs := [], rs := [.v (.sl (.sl (.pr .str .str))), .v .bool], cs := [], R := List (List (Str × Str)) × Bool, out := fun z => ((z.1, z.2, ()), ()), f := f }
abbrev config_spread_pk : SV [.v (.sl (.sl (.pr .str .str))), .v .bool] → BV [] → (List (List (Str × Str)) × Bool) := fun x _ => (x.1, x.2.1)
def config_spread_fn (N : Nat) : FuncId → Option Tmp → Option AF := fun f _ =>
  match f with
    | 37 => some (config_with_sg fun x _ => config_with N x.1 x.2.1 x.2.2.1 x.2.2.2.1)
    | 54 => some (slices_Clone_api_Pair_sg fun x _ => slices_Clone_api_Pair N x.1)
    | 73 => some (config_find_sg fun x _ => config_find N x.1 x.2.1)
    | _ => none
theorem config_spread_fn_ok (N : Nat) : ∀ f q F, config_spread_fn N f q = some F → Sound Tryz.prog GW B0G f F := by
  intro f q F h
  unfold config_spread_fn at h
  split at h
  · cases h; exact config_with_sound N
  · cases h; exact slices_Clone_api_Pair_sound N
  · cases h; exact config_find_sound N
  · cases h
def config_spread_h : Nat → Hint := fun i =>
  match i with
  | 0 => ⟨[8], [0, 8, 19, 20, 21], [], [8], [], []⟩
  | 2 => ⟨[], [0, 10, 11, 19, 20, 21, 25, 26, 27], [1011], [0, 11, 19, 20, 21], [1011], []⟩
  | 4 => ⟨[], [0, 10, 11, 13, 19, 20, 21, 25, 26, 27, 37, 38, 39], [1011], [0, 10, 11, 19, 20, 21, 25, 26, 27], [1011], []⟩
  | _ => ⟨[], [], [], [], [], []⟩
abbrev config_spread_E (N : Nat) : Env := mkE config_spread_h (config_spread_fn N) (fun _ => false) (fun _ => false)
abbrev config_spread_L2_fs : List (Nat × Sl) := [(0, .v (.sl (.pr .str (.sl .str)))), (10, .v .str), (11, .row 1011), (13, .v (.sl (.pr .str .str))), (19, .v (.sl .str)), (20, .v (.int .i64)), (21, .v (.int .i64)), (25, .v (.sl (.sl (.pr .str .str)))), (26, .v (.int .i64)), (27, .v (.int .i64)), (37, .v (.sl .str)), (38, .v (.int .i64)), (39, .v (.int .i64))]
abbrev config_spread_L2_bs : List (Nat × Sb) := [(1011, .row 33 (.sl (.pr .str .str)) false)]
def config_spread_L2_hd (x0 : List (Str × List Str)) (t23 : Str) (t29 : List (Str × Str)) (x2 : List Str) (c20 : Int) (s21 : Int) (s8 : List (List (Str × Str))) (c26 : Int) (s27 : Int) (c37 : List Str) (c38 : Int) (s39 : Int) (w1011_1 : List (List (Str × Str))) : St := ⟨59, [(0, .v (.sl (.pr .str (.sl .str))) x0), (10, .v .str t23), (11, .row 1011), (13, .v (.sl (.pr .str .str)) t29), (19, .v (.sl .str) x2), (20, .v (.int .i64) c20), (21, .v (.int .i64) s21), (25, .v (.sl (.sl (.pr .str .str))) s8), (26, .v (.int .i64) c26), (27, .v (.int .i64) s27), (37, .v (.sl .str) c37), (38, .v (.int .i64) c38), (39, .v (.int .i64) s39)], [(1011, .row 33 (.sl (.pr .str .str)) false w1011_1)]⟩
def config_spread_L2_tl4 (x0 : List (Str × List Str)) (t23 : Str) (_t29 : List (Str × Str)) (x2 : List Str) (c20 : Int) (s21 : Int) (s8 : List (List (Str × Str))) (c26 : Int) (s27 : Int) (_c37 : List Str) (_c38 : Int) (o2_w1011 : List (List (Str × Str))) : St := ⟨59, [(0, .v (.sl (.pr .str (.sl .str))) x0), (10, .v .str t23), (11, .row 1011), (19, .v (.sl .str) x2), (20, .v (.int .i64) c20), (21, .v (.int .i64) s21), (25, .v (.sl (.sl (.pr .str .str))) s8), (26, .v (.int .i64) c26), (27, .v (.int .i64) s27)], [(1011, .row 33 (.sl (.pr .str .str)) false o2_w1011)]⟩
def config_spread_L2_G (N : Nat) (x0 : List (Str × List Str)) (t23 : Str) (t29 : List (Str × Str)) (x2 : List Str) (c20 : Int) (s21 : Int) (s8 : List (List (Str × Str))) (c26 : Int) (s27 : Int) (c37 : List Str) (c38 : Int) (s39 : Int) (w1011_1 : List (List (Str × Str))) (k : Ex → St → Option (List (List (Str × Str)) × Bool)) : Option (List (List (Str × Str)) × Bool) :=
  config_spread_L2 N x0 t23 t29 c37 c38 (fun o2_w1011 => k (.exit 4) (config_spread_L2_tl4 x0 t23 t29 x2 c20 s21 s8 c26 s27 c37 c38 o2_w1011)) N s39 w1011_1
abbrev config_spread_L2_F (N : Nat) : FV config_spread_L2_fs → HV config_spread_L2_bs → (Ex → St → Option (List (List (Str × Str)) × Bool)) → Option (List (List (Str × Str)) × Bool) := fun x y k => config_spread_L2_G N x.1 x.2.1 x.2.2.2.1 x.2.2.2.2.1 x.2.2.2.2.2.1 x.2.2.2.2.2.2.1 x.2.2.2.2.2.2.2.1 x.2.2.2.2.2.2.2.2.1 x.2.2.2.2.2.2.2.2.2.1 x.2.2.2.2.2.2.2.2.2.2.1 x.2.2.2.2.2.2.2.2.2.2.2.1 x.2.2.2.2.2.2.2.2.2.2.2.2.1 y.1 k
abbrev config_spread_L1_fs : List (Nat × Sl) := [(0, .v (.sl (.pr .str (.sl .str)))), (10, .v .str), (11, .row 1011), (19, .v (.sl .str)), (20, .v (.int .i64)), (21, .v (.int .i64)), (25, .v (.sl (.sl (.pr .str .str)))), (26, .v (.int .i64)), (27, .v (.int .i64))]
abbrev config_spread_L1_bs : List (Nat × Sb) := [(1011, .row 33 (.sl (.pr .str .str)) false)]
def config_spread_L1_hd (x0 : List (Str × List Str)) (t23 : Str) (x2 : List Str) (c20 : Int) (s21 : Int) (s8 : List (List (Str × Str))) (c26 : Int) (s27 : Int) (w1011 : List (List (Str × Str))) : St := ⟨59, [(0, .v (.sl (.pr .str (.sl .str))) x0), (10, .v .str t23), (11, .row 1011), (19, .v (.sl .str) x2), (20, .v (.int .i64) c20), (21, .v (.int .i64) s21), (25, .v (.sl (.sl (.pr .str .str))) s8), (26, .v (.int .i64) c26), (27, .v (.int .i64) s27)], [(1011, .row 33 (.sl (.pr .str .str)) false w1011)]⟩
def config_spread_L1_tl2 (x0 : List (Str × List Str)) (_t23 : Str) (x2 : List Str) (c20 : Int) (s21 : Int) (_s8 : List (List (Str × Str))) (_c26 : Int) (o1_w1011 : List (List (Str × Str))) : St := ⟨59, [(0, .v (.sl (.pr .str (.sl .str))) x0), (11, .row 1011), (19, .v (.sl .str) x2), (20, .v (.int .i64) c20), (21, .v (.int .i64) s21)], [(1011, .row 33 (.sl (.pr .str .str)) false o1_w1011)]⟩
def config_spread_L1_G (N : Nat) (x0 : List (Str × List Str)) (t23 : Str) (x2 : List Str) (c20 : Int) (s21 : Int) (s8 : List (List (Str × Str))) (c26 : Int) (s27 : Int) (w1011 : List (List (Str × Str))) (k : Ex → St → Option (List (List (Str × Str)) × Bool)) : Option (List (List (Str × Str)) × Bool) :=
  config_spread_L1 N x0 t23 s8 c26 (fun o1_w1011 => k (.exit 2) (config_spread_L1_tl2 x0 t23 x2 c20 s21 s8 c26 o1_w1011)) N s27 w1011
abbrev config_spread_L1_F (N : Nat) : FV config_spread_L1_fs → HV config_spread_L1_bs → (Ex → St → Option (List (List (Str × Str)) × Bool)) → Option (List (List (Str × Str)) × Bool) := fun x y k => config_spread_L1_G N x.1 x.2.1 x.2.2.2.1 x.2.2.2.2.1 x.2.2.2.2.2.1 x.2.2.2.2.2.2.1 x.2.2.2.2.2.2.2.1 x.2.2.2.2.2.2.2.2.1 y.1 k
abbrev config_spread_L0_fs : List (Nat × Sl) := [(0, .v (.sl (.pr .str (.sl .str)))), (8, .v (.sl (.sl (.pr .str .str)))), (19, .v (.sl .str)), (20, .v (.int .i64)), (21, .v (.int .i64))]
abbrev config_spread_L0_bs : List (Nat × Sb) := []
def config_spread_L0_hd (x0 : List (Str × List Str)) (x2 : List Str) (c20 : Int) (s8 : List (List (Str × Str))) (s21 : Int) : St := ⟨59, [(0, .v (.sl (.pr .str (.sl .str))) x0), (8, .v (.sl (.sl (.pr .str .str))) s8), (19, .v (.sl .str) x2), (20, .v (.int .i64) c20), (21, .v (.int .i64) s21)], []⟩
def config_spread_L0_tl0 (_x0 : List (Str × List Str)) (_x2 : List Str) (_c20 : Int) (o0_8 : List (List (Str × Str))) : St := ⟨59, [(8, .v (.sl (.sl (.pr .str .str))) o0_8)], []⟩
def config_spread_L0_G (N : Nat) (x0 : List (Str × List Str)) (x2 : List Str) (c20 : Int) (s8 : List (List (Str × Str))) (s21 : Int) (k : Ex → St → Option (List (List (Str × Str)) × Bool)) : Option (List (List (Str × Str)) × Bool) :=
  config_spread_L0 N x0 x2 c20 (fun o0_8 => k (.exit 0) (config_spread_L0_tl0 x0 x2 c20 o0_8)) N s8 s21
abbrev config_spread_L0_F (N : Nat) : FV config_spread_L0_fs → HV config_spread_L0_bs → (Ex → St → Option (List (List (Str × Str)) × Bool)) → Option (List (List (Str × Str)) × Bool) := fun x _ k => config_spread_L0_G N x.1 x.2.2.1 x.2.2.2.1 x.2.1 x.2.2.2.2.1 k
noncomputable def config_spread_LP (N : Nat) : Nat → Code → St → (Ex → St → Option (List (List (Str × Str)) × Bool)) → Option (List (List (Str × Str)) × Bool) := fun i c =>
  match i with
  | 0 => (LPc 59 config_spread_L0_fs config_spread_L0_bs (config_spread_L0_F N) (fun st k => iter (config_spread_h 0) (exec (config_spread_E N) N c 0) N st k))
  | 2 => (LPc 59 config_spread_L1_fs config_spread_L1_bs (config_spread_L1_F N) (fun st k => iter (config_spread_h 2) (exec (config_spread_E N) N c 2) N st k))
  | 4 => (LPc 59 config_spread_L2_fs config_spread_L2_bs (config_spread_L2_F N) (fun st k => iter (config_spread_h 4) (exec (config_spread_E N) N c 4) N st k))
  | i => fun st k => iter (config_spread_h i) (exec (config_spread_E N) N c i) N st k
theorem config_spread_L2_step (N : Nat) (x0 : List (Str × List Str)) (t23 : Str) (t29 : List (Str × Str)) (x2 : List Str) (c20 : Int) (s21 : Int) (s8 : List (List (Str × Str))) (c26 : Int) (s27 : Int) (c37 : List Str) (c38 : Int) (KX : Nat → St → Option (List (List (Str × Str)) × Bool)) (I : St → Option (List (List (Str × Str)) × Bool)) (s39 : Int) (w1011_1 : List (List (Str × Str))) :
    execL (config_spread_LP N) (config_spread_E N) (cAt (bodyOf Tryz.f38) [true, true, false, true, false, false, true, true, false, false, true, true, false, true, false, false, true, true, false, false, true, true, false, false]) 4 (config_spread_L2_hd x0 t23 t29 x2 c20 s21 s8 c26 s27 c37 c38 s39 w1011_1) (roundK (config_spread_h 4) I KX (resD (config_spread_E N) Tryz.f38 (config_spread_sg fun x _ => config_spread N x.1 x.2.1 x.2.2.1) config_spread_pk)) = config_spread_L2T N x0 t23 t29 c37 c38 (fun o2_w1011 => KX 4 (config_spread_L2_tl4 x0 t23 t29 x2 c20 s21 s8 c26 s27 c37 c38 o2_w1011)) (fun s39 w1011_1 => I (config_spread_L2_hd x0 t23 t29 x2 c20 s21 s8 c26 s27 c37 c38 s39 w1011_1)) s39 w1011_1 := by kernel_rfl
theorem config_spread_L2_ok (N : Nat) : ∀ x y k, (∀ st, k .ret st = (resD (config_spread_E N) Tryz.f38 (config_spread_sg fun x _ => config_spread N x.1 x.2.1 x.2.2.1) config_spread_pk) st) → iter (config_spread_h 4) (exec (config_spread_E N) N (cAt (bodyOf Tryz.f38) [true, true, false, true, false, false, true, true, false, false, true, true, false, true, false, false, true, true, false, false, true, true, false, false]) 4) N ⟨59, unF config_spread_L2_fs x, unH config_spread_L2_bs y⟩ k = config_spread_L2_F N x y k := fun x y k hk =>
  iter_link (S := (Int) × (List (List (Str × Str))) × Unit) (config_spread_h 4) _ (execL (config_spread_LP N) (config_spread_E N) (cAt (bodyOf Tryz.f38) [true, true, false, true, false, false, true, true, false, false, true, true, false, true, false, false, true, true, false, false, true, true, false, false]) 4) (resD (config_spread_E N) Tryz.f38 (config_spread_sg fun x _ => config_spread N x.1 x.2.1 x.2.2.1) config_spread_pk) (fun st k hk => execL_eq _ _ N _ (cAt (bodyOf Tryz.f38) [true, true, false, true, false, false, true, true, false, false, true, true, false, true, false, false, true, true, false, false, true, true, false, false]) 4 (show LoopsOk (config_spread_LP N) (config_spread_E N) N (resD (config_spread_E N) Tryz.f38 (config_spread_sg fun x _ => config_spread N x.1 x.2.1 x.2.2.1) config_spread_pk) [] from trivial) st k hk) (fun s => config_spread_L2_hd x.1 x.2.1 x.2.2.2.1 x.2.2.2.2.1 x.2.2.2.2.2.1 x.2.2.2.2.2.2.1 x.2.2.2.2.2.2.2.1 x.2.2.2.2.2.2.2.2.1 x.2.2.2.2.2.2.2.2.2.1 x.2.2.2.2.2.2.2.2.2.2.1 x.2.2.2.2.2.2.2.2.2.2.2.1 s.1 s.2.1) k hk
    (fun self s => config_spread_L2T N x.1 x.2.1 x.2.2.2.1 x.2.2.2.2.2.2.2.2.2.2.1 x.2.2.2.2.2.2.2.2.2.2.2.1 (fun o2_w1011 => k (.exit 4) (config_spread_L2_tl4 x.1 x.2.1 x.2.2.2.1 x.2.2.2.2.1 x.2.2.2.2.2.1 x.2.2.2.2.2.2.1 x.2.2.2.2.2.2.2.1 x.2.2.2.2.2.2.2.2.1 x.2.2.2.2.2.2.2.2.2.1 x.2.2.2.2.2.2.2.2.2.2.1 x.2.2.2.2.2.2.2.2.2.2.2.1 o2_w1011)) (fun s39 w1011_1 => self (s39, w1011_1, ())) s.1 s.2.1) (fun n s => config_spread_L2 N x.1 x.2.1 x.2.2.2.1 x.2.2.2.2.2.2.2.2.2.2.1 x.2.2.2.2.2.2.2.2.2.2.2.1 (fun o2_w1011 => k (.exit 4) (config_spread_L2_tl4 x.1 x.2.1 x.2.2.2.1 x.2.2.2.2.1 x.2.2.2.2.2.1 x.2.2.2.2.2.2.1 x.2.2.2.2.2.2.2.1 x.2.2.2.2.2.2.2.2.1 x.2.2.2.2.2.2.2.2.2.1 x.2.2.2.2.2.2.2.2.2.2.1 x.2.2.2.2.2.2.2.2.2.2.2.1 o2_w1011)) n s.1 s.2.1) (fun _ => rfl) (fun _ _ => rfl)
    (fun I s => config_spread_L2_step N x.1 x.2.1 x.2.2.2.1 x.2.2.2.2.1 x.2.2.2.2.2.1 x.2.2.2.2.2.2.1 x.2.2.2.2.2.2.2.1 x.2.2.2.2.2.2.2.2.1 x.2.2.2.2.2.2.2.2.2.1 x.2.2.2.2.2.2.2.2.2.2.1 x.2.2.2.2.2.2.2.2.2.2.2.1 (fun j => k (.exit j)) I s.1 s.2.1) N (x.2.2.2.2.2.2.2.2.2.2.2.2.1, y.1, ())
theorem config_spread_lp4 (N : Nat) : ∀ st k, (∀ st, k .ret st = (resD (config_spread_E N) Tryz.f38 (config_spread_sg fun x _ => config_spread N x.1 x.2.1 x.2.2.1) config_spread_pk) st) → config_spread_LP N 4 (cAt (bodyOf Tryz.f38) [true, true, false, true, false, false, true, true, false, false, true, true, false, true, false, false, true, true, false, false, true, true, false, false]) st k = iter (Env.hint (config_spread_E N) 4) (exec (config_spread_E N) N (cAt (bodyOf Tryz.f38) [true, true, false, true, false, false, true, true, false, false, true, true, false, true, false, false, true, true, false, false, true, true, false, false]) 4) N st k := fun st k hk => LPc_eq 59 config_spread_L2_fs config_spread_L2_bs _ _ (resD (config_spread_E N) Tryz.f38 (config_spread_sg fun x _ => config_spread N x.1 x.2.1 x.2.2.1) config_spread_pk) (config_spread_L2_ok N) _ st k hk (rfl)
theorem config_spread_L1_step (N : Nat) (x0 : List (Str × List Str)) (t23 : Str) (x2 : List Str) (c20 : Int) (s21 : Int) (s8 : List (List (Str × Str))) (c26 : Int) (KX : Nat → St → Option (List (List (Str × Str)) × Bool)) (I : St → Option (List (List (Str × Str)) × Bool)) (s27 : Int) (w1011 : List (List (Str × Str))) :
    execL (config_spread_LP N) (config_spread_E N) (cAt (bodyOf Tryz.f38) [true, true, false, true, false, false, true, true, false, false, true, true, false, true, false, false]) 2 (config_spread_L1_hd x0 t23 x2 c20 s21 s8 c26 s27 w1011) (roundK (config_spread_h 2) I KX (resD (config_spread_E N) Tryz.f38 (config_spread_sg fun x _ => config_spread N x.1 x.2.1 x.2.2.1) config_spread_pk)) = config_spread_L1T N x0 t23 s8 c26 (fun o1_w1011 => KX 2 (config_spread_L1_tl2 x0 t23 x2 c20 s21 s8 c26 o1_w1011)) (fun s27 w1011 => I (config_spread_L1_hd x0 t23 x2 c20 s21 s8 c26 s27 w1011)) s27 w1011 := by kernel_rfl
theorem config_spread_L1_ok (N : Nat) : ∀ x y k, (∀ st, k .ret st = (resD (config_spread_E N) Tryz.f38 (config_spread_sg fun x _ => config_spread N x.1 x.2.1 x.2.2.1) config_spread_pk) st) → iter (config_spread_h 2) (exec (config_spread_E N) N (cAt (bodyOf Tryz.f38) [true, true, false, true, false, false, true, true, false, false, true, true, false, true, false, false]) 2) N ⟨59, unF config_spread_L1_fs x, unH config_spread_L1_bs y⟩ k = config_spread_L1_F N x y k := fun x y k hk =>
  iter_link (S := (Int) × (List (List (Str × Str))) × Unit) (config_spread_h 2) _ (execL (config_spread_LP N) (config_spread_E N) (cAt (bodyOf Tryz.f38) [true, true, false, true, false, false, true, true, false, false, true, true, false, true, false, false]) 2) (resD (config_spread_E N) Tryz.f38 (config_spread_sg fun x _ => config_spread N x.1 x.2.1 x.2.2.1) config_spread_pk) (fun st k hk => execL_eq _ _ N _ (cAt (bodyOf Tryz.f38) [true, true, false, true, false, false, true, true, false, false, true, true, false, true, false, false]) 2 (show LoopsOk (config_spread_LP N) (config_spread_E N) N (resD (config_spread_E N) Tryz.f38 (config_spread_sg fun x _ => config_spread N x.1 x.2.1 x.2.2.1) config_spread_pk) [(4, (cAt (bodyOf Tryz.f38) [true, true, false, true, false, false, true, true, false, false, true, true, false, true, false, false, true, true, false, false, true, true, false, false]))] from ⟨config_spread_lp4 N, trivial⟩) st k hk) (fun s => config_spread_L1_hd x.1 x.2.1 x.2.2.2.1 x.2.2.2.2.1 x.2.2.2.2.2.1 x.2.2.2.2.2.2.1 x.2.2.2.2.2.2.2.1 s.1 s.2.1) k hk
    (fun self s => config_spread_L1T N x.1 x.2.1 x.2.2.2.2.2.2.1 x.2.2.2.2.2.2.2.1 (fun o1_w1011 => k (.exit 2) (config_spread_L1_tl2 x.1 x.2.1 x.2.2.2.1 x.2.2.2.2.1 x.2.2.2.2.2.1 x.2.2.2.2.2.2.1 x.2.2.2.2.2.2.2.1 o1_w1011)) (fun s27 w1011 => self (s27, w1011, ())) s.1 s.2.1) (fun n s => config_spread_L1 N x.1 x.2.1 x.2.2.2.2.2.2.1 x.2.2.2.2.2.2.2.1 (fun o1_w1011 => k (.exit 2) (config_spread_L1_tl2 x.1 x.2.1 x.2.2.2.1 x.2.2.2.2.1 x.2.2.2.2.2.1 x.2.2.2.2.2.2.1 x.2.2.2.2.2.2.2.1 o1_w1011)) n s.1 s.2.1) (fun _ => rfl) (fun _ _ => rfl)
    (fun I s => config_spread_L1_step N x.1 x.2.1 x.2.2.2.1 x.2.2.2.2.1 x.2.2.2.2.2.1 x.2.2.2.2.2.2.1 x.2.2.2.2.2.2.2.1 (fun j => k (.exit j)) I s.1 s.2.1) N (x.2.2.2.2.2.2.2.2.1, y.1, ())
theorem config_spread_lp2 (N : Nat) : ∀ st k, (∀ st, k .ret st = (resD (config_spread_E N) Tryz.f38 (config_spread_sg fun x _ => config_spread N x.1 x.2.1 x.2.2.1) config_spread_pk) st) → config_spread_LP N 2 (cAt (bodyOf Tryz.f38) [true, true, false, true, false, false, true, true, false, false, true, true, false, true, false, false]) st k = iter (Env.hint (config_spread_E N) 2) (exec (config_spread_E N) N (cAt (bodyOf Tryz.f38) [true, true, false, true, false, false, true, true, false, false, true, true, false, true, false, false]) 2) N st k := fun st k hk => LPc_eq 59 config_spread_L1_fs config_spread_L1_bs _ _ (resD (config_spread_E N) Tryz.f38 (config_spread_sg fun x _ => config_spread N x.1 x.2.1 x.2.2.1) config_spread_pk) (config_spread_L1_ok N) _ st k hk (rfl)
theorem config_spread_L0_step (N : Nat) (x0 : List (Str × List Str)) (x2 : List Str) (c20 : Int) (KX : Nat → St → Option (List (List (Str × Str)) × Bool)) (I : St → Option (List (List (Str × Str)) × Bool)) (s8 : List (List (Str × Str))) (s21 : Int) :
    execL (config_spread_LP N) (config_spread_E N) (cAt (bodyOf Tryz.f38) [true, true, false, true, false, false]) 0 (config_spread_L0_hd x0 x2 c20 s8 s21) (roundK (config_spread_h 0) I KX (resD (config_spread_E N) Tryz.f38 (config_spread_sg fun x _ => config_spread N x.1 x.2.1 x.2.2.1) config_spread_pk)) = config_spread_L0T N x0 x2 c20 (fun o0_8 => KX 0 (config_spread_L0_tl0 x0 x2 c20 o0_8)) (fun s8 s21 => I (config_spread_L0_hd x0 x2 c20 s8 s21)) s8 s21 := by kernel_rfl
theorem config_spread_L0_ok (N : Nat) : ∀ x y k, (∀ st, k .ret st = (resD (config_spread_E N) Tryz.f38 (config_spread_sg fun x _ => config_spread N x.1 x.2.1 x.2.2.1) config_spread_pk) st) → iter (config_spread_h 0) (exec (config_spread_E N) N (cAt (bodyOf Tryz.f38) [true, true, false, true, false, false]) 0) N ⟨59, unF config_spread_L0_fs x, unH config_spread_L0_bs y⟩ k = config_spread_L0_F N x y k := fun x _ k hk =>
  iter_link (S := (List (List (Str × Str))) × (Int) × Unit) (config_spread_h 0) _ (execL (config_spread_LP N) (config_spread_E N) (cAt (bodyOf Tryz.f38) [true, true, false, true, false, false]) 0) (resD (config_spread_E N) Tryz.f38 (config_spread_sg fun x _ => config_spread N x.1 x.2.1 x.2.2.1) config_spread_pk) (fun st k hk => execL_eq _ _ N _ (cAt (bodyOf Tryz.f38) [true, true, false, true, false, false]) 0 (show LoopsOk (config_spread_LP N) (config_spread_E N) N (resD (config_spread_E N) Tryz.f38 (config_spread_sg fun x _ => config_spread N x.1 x.2.1 x.2.2.1) config_spread_pk) [(2, (cAt (bodyOf Tryz.f38) [true, true, false, true, false, false, true, true, false, false, true, true, false, true, false, false])), (4, (cAt (bodyOf Tryz.f38) [true, true, false, true, false, false, true, true, false, false, true, true, false, true, false, false, true, true, false, false, true, true, false, false]))] from ⟨config_spread_lp2 N, config_spread_lp4 N, trivial⟩) st k hk) (fun s => config_spread_L0_hd x.1 x.2.2.1 x.2.2.2.1 s.1 s.2.1) k hk
    (fun self s => config_spread_L0T N x.1 x.2.2.1 x.2.2.2.1 (fun o0_8 => k (.exit 0) (config_spread_L0_tl0 x.1 x.2.2.1 x.2.2.2.1 o0_8)) (fun s8 s21 => self (s8, s21, ())) s.1 s.2.1) (fun n s => config_spread_L0 N x.1 x.2.2.1 x.2.2.2.1 (fun o0_8 => k (.exit 0) (config_spread_L0_tl0 x.1 x.2.2.1 x.2.2.2.1 o0_8)) n s.1 s.2.1) (fun _ => rfl) (fun _ _ => rfl)
    (fun I s => config_spread_L0_step N x.1 x.2.2.1 x.2.2.2.1 (fun j => k (.exit j)) I s.1 s.2.1) N (x.2.1, x.2.2.2.2.1, ())
theorem config_spread_lp0 (N : Nat) : ∀ st k, (∀ st, k .ret st = (resD (config_spread_E N) Tryz.f38 (config_spread_sg fun x _ => config_spread N x.1 x.2.1 x.2.2.1) config_spread_pk) st) → config_spread_LP N 0 (cAt (bodyOf Tryz.f38) [true, true, false, true, false, false]) st k = iter (Env.hint (config_spread_E N) 0) (exec (config_spread_E N) N (cAt (bodyOf Tryz.f38) [true, true, false, true, false, false]) 0) N st k := fun st k hk => LPc_eq 59 config_spread_L0_fs config_spread_L0_bs _ _ (resD (config_spread_E N) Tryz.f38 (config_spread_sg fun x _ => config_spread N x.1 x.2.1 x.2.2.1) config_spread_pk) (config_spread_L0_ok N) _ st k hk (rfl)
theorem config_spread_core (N : Nat) (x : SV [.v (.sl (.pr .str (.sl .str))), .v (.sl (.pr .str .str)), .v (.sl .str)]) (y : BV []) : runL (config_spread_E N) Tryz.f38 (config_spread_sg fun x _ => config_spread N x.1 x.2.1 x.2.2.1) config_spread_pk (config_spread_LP N) x y = config_spread N x.1 x.2.1 x.2.2.1 := by kernel_rfl
theorem config_spread_sound (N : Nat) : Sound Tryz.prog GW B0G 38 (config_spread_sg fun x _ => config_spread N x.1 x.2.1 x.2.2.1) :=
  runD_sound (mkE_ok config_spread_h (config_spread_fn N) _ _ (config_spread_fn_ok N)) Tryz.func38 rfl Tryz.call38 (config_spread_sg fun x _ => config_spread N x.1 x.2.1 x.2.2.1) config_spread_pk (fun _ _ => rfl) N (fun x y _ h => ((runL_eq (config_spread_E N) N Tryz.f38 (config_spread_sg fun x _ => config_spread N x.1 x.2.1 x.2.2.1) config_spread_pk (config_spread_LP N) (show LoopsOk (config_spread_LP N) (config_spread_E N) N (resD (config_spread_E N) Tryz.f38 (config_spread_sg fun x _ => config_spread N x.1 x.2.1 x.2.2.1) config_spread_pk) [(0, (cAt (bodyOf Tryz.f38) [true, true, false, true, false, false])), (2, (cAt (bodyOf Tryz.f38) [true, true, false, true, false, false, true, true, false, false, true, true, false, true, false, false])), (4, (cAt (bodyOf Tryz.f38) [true, true, false, true, false, false, true, true, false, false, true, true, false, true, false, false, true, true, false, false, true, true, false, false]))] from ⟨config_spread_lp0 N, config_spread_lp2 N, config_spread_lp4 N, trivial⟩) x y).trans (config_spread_core N x y)).trans h)
end
end Go.Proofs.YtbekhaioddmliaaGreatDoor


/- What functions of the program compute, as plain functions (printed). -/
namespace Go.Proofs.YtbekhaioddmliaaGreatDoor
open Go Go.RowKit
set_option maxRecDepth 100000
set_option linter.unusedVariables false
noncomputable section
end
end Go.Proofs.YtbekhaioddmliaaGreatDoor


/- What functions of the program compute, as plain functions (printed). -/
namespace Go.Proofs.YtbekhaioddmliaaGreatDoor
open Go Go.RowKit
set_option maxRecDepth 100000
set_option linter.unusedVariables false
noncomputable section
end
end Go.Proofs.YtbekhaioddmliaaGreatDoor


/- What functions of the program compute, as plain functions (printed). -/
namespace Go.Proofs.YtbekhaioddmliaaGreatDoor
open Go Go.RowKit
set_option maxRecDepth 100000
set_option linter.unusedVariables false
noncomputable section
end
end Go.Proofs.YtbekhaioddmliaaGreatDoor

