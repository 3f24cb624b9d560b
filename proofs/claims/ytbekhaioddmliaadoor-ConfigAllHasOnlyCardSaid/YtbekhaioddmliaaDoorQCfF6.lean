/- What functions of the program compute, as plain functions (printed). -/
import Derived.Test.YtbekhaioddmliaaDoorQCfF5
namespace Go.Proofs.YtbekhaioddmliaaDoor
open Go Go.RowKit
set_option maxRecDepth 100000
set_option linter.unusedVariables false
noncomputable section
def slices_Equal_api_Pair_L0T (_N : Nat) (x0 : List (Str × Str)) (x1 : List (Str × Str)) (c12 : Int) (k0 : Option Bool) (self : Int → Option Bool) (s13 : Int) : Option Bool :=
  br (decide (s13 < c12))
    (bnd (geti x0 s13) fun t18 =>
    bnd (geti x1 s13) fun t22 =>
    br (!(eqb (.pr .str .str) t18 t22))
      (some false)
      (self (IntKind.i64.wrap (s13 + (1 : Int)))))
    (k0)
def slices_Equal_api_Pair_L0 (N : Nat) (x0 : List (Str × Str)) (x1 : List (Str × Str)) (c12 : Int) (k0 : Option Bool) : Nat → Int → Option Bool
  | 0, _ => none
  | n + 1, s13 => slices_Equal_api_Pair_L0T N x0 x1 c12 k0 (slices_Equal_api_Pair_L0 N x0 x1 c12 k0 n) s13
def slices_Equal_api_Pair (N : Nat) (x0 : List (Str × Str)) (x1 : List (Str × Str)) : Option Bool :=
  br ((x0.length : Int) != (x1.length : Int))
    (some false)
    (slices_Equal_api_Pair_L0 N x0 x1 (x0.length : Int) (some true) N (0 : Int))
abbrev slices_Equal_api_Pair_sg (f : SV [.v (.sl (.pr .str .str)), .v (.sl (.pr .str .str))] → BV [] → Option (Bool)) : AF := { ps := [.v (.sl (.pr .str .str)), .v (.sl (.pr .str .str))], bs := [], rs := [.v .bool], cs := [], R := Bool, out := fun z => ((z, ()), ()), f := f }
abbrev slices_Equal_api_Pair_pk : SV [.v .bool] → BV [] → Bool := fun x _ => x.1
def slices_Equal_api_Pair_fn (_N : Nat) : FuncId → Option Tmp → Option AF := fun f _ =>
  match f with
    | _ => none
theorem slices_Equal_api_Pair_fn_ok (N : Nat) : ∀ f q F, slices_Equal_api_Pair_fn N f q = some F → Sound Tryd.prog GW B0G f F := by
  intro f q F h
  unfold slices_Equal_api_Pair_fn at h
  split at h
  · cases h
def slices_Equal_api_Pair_h : Nat → Hint := fun i =>
  match i with
  | 0 => ⟨[], [0, 1, 12, 13], [], [], []⟩
  | _ => ⟨[], [], [], [], []⟩
abbrev slices_Equal_api_Pair_E (N : Nat) : Env := mkE slices_Equal_api_Pair_h (slices_Equal_api_Pair_fn N) (fun _ => false) (fun _ => false)
abbrev slices_Equal_api_Pair_L0_fs : List (Nat × Sl) := [(0, .v (.sl (.pr .str .str))), (1, .v (.sl (.pr .str .str))), (12, .v (.int .i64)), (13, .v (.int .i64))]
abbrev slices_Equal_api_Pair_L0_bs : List (Nat × Sb) := []
def slices_Equal_api_Pair_L0_hd (x0 : List (Str × Str)) (x1 : List (Str × Str)) (c12 : Int) (s13 : Int) : St := ⟨26, [(0, .v (.sl (.pr .str .str)) x0), (1, .v (.sl (.pr .str .str)) x1), (12, .v (.int .i64) c12), (13, .v (.int .i64) s13)], []⟩
def slices_Equal_api_Pair_L0_tl0 (_x0 : List (Str × Str)) (_x1 : List (Str × Str)) (_c12 : Int) : St := ⟨26, [], []⟩
def slices_Equal_api_Pair_L0_G (N : Nat) (x0 : List (Str × Str)) (x1 : List (Str × Str)) (c12 : Int) (s13 : Int) (k : Ex → St → Option Bool) : Option Bool :=
  slices_Equal_api_Pair_L0 N x0 x1 c12 (k (.exit 0) (slices_Equal_api_Pair_L0_tl0 x0 x1 c12)) N s13
abbrev slices_Equal_api_Pair_L0_F (N : Nat) : FV slices_Equal_api_Pair_L0_fs → HV slices_Equal_api_Pair_L0_bs → (Ex → St → Option Bool) → Option Bool := fun x _ k => slices_Equal_api_Pair_L0_G N x.1 x.2.1 x.2.2.1 x.2.2.2.1 k
noncomputable def slices_Equal_api_Pair_LP (N : Nat) : Nat → Code → St → (Ex → St → Option Bool) → Option Bool := fun i c =>
  match i with
  | 0 => (LPc 26 slices_Equal_api_Pair_L0_fs slices_Equal_api_Pair_L0_bs (slices_Equal_api_Pair_L0_F N) (fun st k => iter (slices_Equal_api_Pair_h 0) (exec (slices_Equal_api_Pair_E N) N c 0) N st k))
  | i => fun st k => iter (slices_Equal_api_Pair_h i) (exec (slices_Equal_api_Pair_E N) N c i) N st k
theorem slices_Equal_api_Pair_L0_step (N : Nat) (x0 : List (Str × Str)) (x1 : List (Str × Str)) (c12 : Int) (KX : Nat → St → Option Bool) (I : St → Option Bool) (s13 : Int) :
    execL (slices_Equal_api_Pair_LP N) (slices_Equal_api_Pair_E N) (cAt (bodyOf Tryd.f37) [true, true, false, true, false, false]) 0 (slices_Equal_api_Pair_L0_hd x0 x1 c12 s13) (roundK (slices_Equal_api_Pair_h 0) I KX (resD (slices_Equal_api_Pair_E N) Tryd.f37 (slices_Equal_api_Pair_sg fun x _ => slices_Equal_api_Pair N x.1 x.2.1) slices_Equal_api_Pair_pk)) = slices_Equal_api_Pair_L0T N x0 x1 c12 (KX 0 (slices_Equal_api_Pair_L0_tl0 x0 x1 c12)) (fun s13 => I (slices_Equal_api_Pair_L0_hd x0 x1 c12 s13)) s13 := by kernel_rfl
theorem slices_Equal_api_Pair_L0_ok (N : Nat) : ∀ x y k, (∀ st, k .ret st = (resD (slices_Equal_api_Pair_E N) Tryd.f37 (slices_Equal_api_Pair_sg fun x _ => slices_Equal_api_Pair N x.1 x.2.1) slices_Equal_api_Pair_pk) st) → iter (slices_Equal_api_Pair_h 0) (exec (slices_Equal_api_Pair_E N) N (cAt (bodyOf Tryd.f37) [true, true, false, true, false, false]) 0) N ⟨26, unF slices_Equal_api_Pair_L0_fs x, unH slices_Equal_api_Pair_L0_bs y⟩ k = slices_Equal_api_Pair_L0_F N x y k := fun x _ k hk =>
  iter_link (S := (Int) × Unit) (slices_Equal_api_Pair_h 0) _ (execL (slices_Equal_api_Pair_LP N) (slices_Equal_api_Pair_E N) (cAt (bodyOf Tryd.f37) [true, true, false, true, false, false]) 0) (resD (slices_Equal_api_Pair_E N) Tryd.f37 (slices_Equal_api_Pair_sg fun x _ => slices_Equal_api_Pair N x.1 x.2.1) slices_Equal_api_Pair_pk) (fun st k hk => execL_eq _ _ N _ (cAt (bodyOf Tryd.f37) [true, true, false, true, false, false]) 0 (show LoopsOk (slices_Equal_api_Pair_LP N) (slices_Equal_api_Pair_E N) N (resD (slices_Equal_api_Pair_E N) Tryd.f37 (slices_Equal_api_Pair_sg fun x _ => slices_Equal_api_Pair N x.1 x.2.1) slices_Equal_api_Pair_pk) [] from trivial) st k hk) (fun s => slices_Equal_api_Pair_L0_hd x.1 x.2.1 x.2.2.1 s.1) k hk
    (fun self s => slices_Equal_api_Pair_L0T N x.1 x.2.1 x.2.2.1 (k (.exit 0) (slices_Equal_api_Pair_L0_tl0 x.1 x.2.1 x.2.2.1)) (fun s13 => self (s13, ())) s.1) (fun n s => slices_Equal_api_Pair_L0 N x.1 x.2.1 x.2.2.1 (k (.exit 0) (slices_Equal_api_Pair_L0_tl0 x.1 x.2.1 x.2.2.1)) n s.1) (fun _ => rfl) (fun _ _ => rfl)
    (fun I s => slices_Equal_api_Pair_L0_step N x.1 x.2.1 x.2.2.1 (fun j => k (.exit j)) I s.1) N (x.2.2.2.1, ())
theorem slices_Equal_api_Pair_lp0 (N : Nat) : ∀ st k, (∀ st, k .ret st = (resD (slices_Equal_api_Pair_E N) Tryd.f37 (slices_Equal_api_Pair_sg fun x _ => slices_Equal_api_Pair N x.1 x.2.1) slices_Equal_api_Pair_pk) st) → slices_Equal_api_Pair_LP N 0 (cAt (bodyOf Tryd.f37) [true, true, false, true, false, false]) st k = iter (Env.hint (slices_Equal_api_Pair_E N) 0) (exec (slices_Equal_api_Pair_E N) N (cAt (bodyOf Tryd.f37) [true, true, false, true, false, false]) 0) N st k := fun st k hk => LPc_eq 26 slices_Equal_api_Pair_L0_fs slices_Equal_api_Pair_L0_bs _ _ (resD (slices_Equal_api_Pair_E N) Tryd.f37 (slices_Equal_api_Pair_sg fun x _ => slices_Equal_api_Pair N x.1 x.2.1) slices_Equal_api_Pair_pk) (slices_Equal_api_Pair_L0_ok N) _ st k hk (rfl)
theorem slices_Equal_api_Pair_core (N : Nat) (x : SV [.v (.sl (.pr .str .str)), .v (.sl (.pr .str .str))]) (y : BV []) : runL (slices_Equal_api_Pair_E N) Tryd.f37 (slices_Equal_api_Pair_sg fun x _ => slices_Equal_api_Pair N x.1 x.2.1) slices_Equal_api_Pair_pk (slices_Equal_api_Pair_LP N) x y = slices_Equal_api_Pair N x.1 x.2.1 := by kernel_rfl
theorem slices_Equal_api_Pair_sound (N : Nat) : Sound Tryd.prog GW B0G 37 (slices_Equal_api_Pair_sg fun x _ => slices_Equal_api_Pair N x.1 x.2.1) :=
  runD_sound (mkE_ok slices_Equal_api_Pair_h (slices_Equal_api_Pair_fn N) _ _ (slices_Equal_api_Pair_fn_ok N)) Tryd.func37 rfl Tryd.call37 (slices_Equal_api_Pair_sg fun x _ => slices_Equal_api_Pair N x.1 x.2.1) slices_Equal_api_Pair_pk (fun _ _ => rfl) N (fun x y _ h => ((runL_eq (slices_Equal_api_Pair_E N) N Tryd.f37 (slices_Equal_api_Pair_sg fun x _ => slices_Equal_api_Pair N x.1 x.2.1) slices_Equal_api_Pair_pk (slices_Equal_api_Pair_LP N) (show LoopsOk (slices_Equal_api_Pair_LP N) (slices_Equal_api_Pair_E N) N (resD (slices_Equal_api_Pair_E N) Tryd.f37 (slices_Equal_api_Pair_sg fun x _ => slices_Equal_api_Pair N x.1 x.2.1) slices_Equal_api_Pair_pk) [(0, (cAt (bodyOf Tryd.f37) [true, true, false, true, false, false]))] from ⟨slices_Equal_api_Pair_lp0 N, trivial⟩) x y).trans (slices_Equal_api_Pair_core N x y)).trans h)
def slices_Clone_api_Pair (_N : Nat) (x0 : List (Str × Str)) : Option (List (Str × Str)) :=
  br ((x0).isEmpty)
    (both
      (some ([] : List (Str × Str)))
      (br (decide ((([] : List (Str × Str)).length + x0.length) * (24 * Ty.sz (.pr .str .str)) ≤ 140737488355328))
        (some (([] : List (Str × Str)) ++ x0))
        none))
    (br (decide ((([] : List (Str × Str)).length + x0.length) * (24 * Ty.sz (.pr .str .str)) ≤ 140737488355328))
      (some (([] : List (Str × Str)) ++ x0))
      none)
abbrev slices_Clone_api_Pair_sg (f : SV [.v (.sl (.pr .str .str))] → BV [] → Option (List (Str × Str))) : AF := { ps := [.v (.sl (.pr .str .str))], bs := [], rs := [.row 0], cs := [.row 60 (.pr .str .str) true], R := List (Str × Str), out := fun z => (((), ()), (z, ())), f := f }
abbrev slices_Clone_api_Pair_pk : SV [.row 0] → BV [.row 60 (.pr .str .str) true] → (List (Str × Str)) := fun _ y => y.1
def slices_Clone_api_Pair_fn (_N : Nat) : FuncId → Option Tmp → Option AF := fun f _ =>
  match f with
    | _ => none
theorem slices_Clone_api_Pair_fn_ok (N : Nat) : ∀ f q F, slices_Clone_api_Pair_fn N f q = some F → Sound Tryd.prog GW B0G f F := by
  intro f q F h
  unfold slices_Clone_api_Pair_fn at h
  split at h
  · cases h
def slices_Clone_api_Pair_h : Nat → Hint := fun i =>
  match i with
  | _ => ⟨[], [], [], [], []⟩
abbrev slices_Clone_api_Pair_E (N : Nat) : Env := mkE slices_Clone_api_Pair_h (slices_Clone_api_Pair_fn N) (fun i => match i with | 2 => true | 5 => true | _ => false) (fun _ => false)
noncomputable def slices_Clone_api_Pair_LP (N : Nat) : Nat → Code → St → (Ex → St → Option (List (Str × Str))) → Option (List (Str × Str)) := fun i c =>
  match i with
  | i => fun st k => iter (slices_Clone_api_Pair_h i) (exec (slices_Clone_api_Pair_E N) N c i) N st k
theorem slices_Clone_api_Pair_core (N : Nat) (x : SV [.v (.sl (.pr .str .str))]) (y : BV []) : runL (slices_Clone_api_Pair_E N) Tryd.f79 (slices_Clone_api_Pair_sg fun x _ => slices_Clone_api_Pair N x.1) slices_Clone_api_Pair_pk (slices_Clone_api_Pair_LP N) x y = slices_Clone_api_Pair N x.1 := by kernel_rfl
theorem slices_Clone_api_Pair_sound (N : Nat) : Sound Tryd.prog GW B0G 79 (slices_Clone_api_Pair_sg fun x _ => slices_Clone_api_Pair N x.1) :=
  runD_sound (mkE_ok slices_Clone_api_Pair_h (slices_Clone_api_Pair_fn N) _ _ (slices_Clone_api_Pair_fn_ok N)) Tryd.func79 rfl Tryd.call79 (slices_Clone_api_Pair_sg fun x _ => slices_Clone_api_Pair N x.1) slices_Clone_api_Pair_pk (fun _ _ => rfl) N (fun x y _ h => ((runL_eq (slices_Clone_api_Pair_E N) N Tryd.f79 (slices_Clone_api_Pair_sg fun x _ => slices_Clone_api_Pair N x.1) slices_Clone_api_Pair_pk (slices_Clone_api_Pair_LP N) (show LoopsOk (slices_Clone_api_Pair_LP N) (slices_Clone_api_Pair_E N) N (resD (slices_Clone_api_Pair_E N) Tryd.f79 (slices_Clone_api_Pair_sg fun x _ => slices_Clone_api_Pair N x.1) slices_Clone_api_Pair_pk) [] from trivial) x y).trans (slices_Clone_api_Pair_core N x y)).trans h)
def config_with_2 (_N : Nat) (x0 : Str × Str) (x1 : Str) : Option Int :=
  bnd (strings_Compare x0.1 x1) fun t8 =>
  some t8
abbrev config_with_2_sg (f : SV [.v (.pr .str .str), .v .str] → BV [] → Option (Int)) : AF := { ps := [.v (.pr .str .str), .v .str], bs := [], rs := [.v (.int .i64)], cs := [], R := Int, out := fun z => ((z, ()), ()), f := f }
abbrev config_with_2_pk : SV [.v (.int .i64)] → BV [] → Int := fun x _ => x.1
def config_with_2_fn (_N : Nat) : FuncId → Option Tmp → Option AF := fun f _ =>
  match f with
    | 109 => some (strings_Compare_sg fun x _ => strings_Compare x.1 x.2.1)
    | _ => none
theorem config_with_2_fn_ok (N : Nat) : ∀ f q F, config_with_2_fn N f q = some F → Sound Tryd.prog GW B0G f F := by
  intro f q F h
  unfold config_with_2_fn at h
  split at h
  · cases h; exact strings_Compare_sound
  · cases h
def config_with_2_h : Nat → Hint := fun i =>
  match i with
  | _ => ⟨[], [], [], [], []⟩
abbrev config_with_2_E (N : Nat) : Env := mkE config_with_2_h (config_with_2_fn N) (fun _ => false) (fun _ => false)
noncomputable def config_with_2_LP (N : Nat) : Nat → Code → St → (Ex → St → Option Int) → Option Int := fun i c =>
  match i with
  | i => fun st k => iter (config_with_2_h i) (exec (config_with_2_E N) N c i) N st k
theorem config_with_2_core (N : Nat) (x : SV [.v (.pr .str .str), .v .str]) (y : BV []) : runL (config_with_2_E N) Tryd.f108 (config_with_2_sg fun x _ => config_with_2 N x.1 x.2.1) config_with_2_pk (config_with_2_LP N) x y = config_with_2 N x.1 x.2.1 := by kernel_rfl
theorem config_with_2_sound (N : Nat) : Sound Tryd.prog GW B0G 108 (config_with_2_sg fun x _ => config_with_2 N x.1 x.2.1) :=
  runD_sound (mkE_ok config_with_2_h (config_with_2_fn N) _ _ (config_with_2_fn_ok N)) Tryd.func108 rfl Tryd.call108 (config_with_2_sg fun x _ => config_with_2 N x.1 x.2.1) config_with_2_pk (fun _ _ => rfl) N (fun x y _ h => ((runL_eq (config_with_2_E N) N Tryd.f108 (config_with_2_sg fun x _ => config_with_2 N x.1 x.2.1) config_with_2_pk (config_with_2_LP N) (show LoopsOk (config_with_2_LP N) (config_with_2_E N) N (resD (config_with_2_E N) Tryd.f108 (config_with_2_sg fun x _ => config_with_2 N x.1 x.2.1) config_with_2_pk) [] from trivial) x y).trans (config_with_2_core N x y)).trans h)
def config_with_1 (_N : Nat) (x0 : Str × Str) (x1 : Str) : Option Bool :=
  some (x0.1 == x1)
abbrev config_with_1_sg (f : SV [.v (.pr .str .str), .v (.ptr .str)] → BV [] → Option (Bool)) : AF := { ps := [.v (.pr .str .str), .v (.ptr .str)], bs := [], rs := [.v .bool], cs := [], R := Bool, out := fun z => ((z, ()), ()), f := f }
abbrev config_with_1_pk : SV [.v .bool] → BV [] → Bool := fun x _ => x.1
def config_with_1_fn (_N : Nat) : FuncId → Option Tmp → Option AF := fun f _ =>
  match f with
    | _ => none
theorem config_with_1_fn_ok (N : Nat) : ∀ f q F, config_with_1_fn N f q = some F → Sound Tryd.prog GW B0G f F := by
  intro f q F h
  unfold config_with_1_fn at h
  split at h
  · cases h
def config_with_1_h : Nat → Hint := fun i =>
  match i with
  | _ => ⟨[], [], [], [], []⟩
abbrev config_with_1_E (N : Nat) : Env := mkE config_with_1_h (config_with_1_fn N) (fun _ => false) (fun _ => false)
noncomputable def config_with_1_LP (N : Nat) : Nat → Code → St → (Ex → St → Option Bool) → Option Bool := fun i c =>
  match i with
  | i => fun st k => iter (config_with_1_h i) (exec (config_with_1_E N) N c i) N st k
theorem config_with_1_core (N : Nat) (x : SV [.v (.pr .str .str), .v (.ptr .str)]) (y : BV []) : runL (config_with_1_E N) Tryd.f106 (config_with_1_sg fun x _ => config_with_1 N x.1 x.2.1) config_with_1_pk (config_with_1_LP N) x y = config_with_1 N x.1 x.2.1 := by kernel_rfl
theorem config_with_1_sound (N : Nat) : Sound Tryd.prog GW B0G 106 (config_with_1_sg fun x _ => config_with_1 N x.1 x.2.1) :=
  runD_sound (mkE_ok config_with_1_h (config_with_1_fn N) _ _ (config_with_1_fn_ok N)) Tryd.func106 rfl Tryd.call106 (config_with_1_sg fun x _ => config_with_1 N x.1 x.2.1) config_with_1_pk (fun _ _ => rfl) N (fun x y _ h => ((runL_eq (config_with_1_E N) N Tryd.f106 (config_with_1_sg fun x _ => config_with_1 N x.1 x.2.1) config_with_1_pk (config_with_1_LP N) (show LoopsOk (config_with_1_LP N) (config_with_1_E N) N (resD (config_with_1_E N) Tryd.f106 (config_with_1_sg fun x _ => config_with_1 N x.1 x.2.1) config_with_1_pk) [] from trivial) x y).trans (config_with_1_core N x y)).trans h)
end
end Go.Proofs.YtbekhaioddmliaaDoor
