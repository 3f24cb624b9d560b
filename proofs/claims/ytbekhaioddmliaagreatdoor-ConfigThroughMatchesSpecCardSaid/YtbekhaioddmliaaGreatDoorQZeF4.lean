/- What functions of the program compute, as plain functions (printed). -/
import Derived.Test.YtbekhaioddmliaaGreatDoorQZeF3
namespace Go.Proofs.YtbekhaioddmliaaGreatDoor
open Go Go.RowKit
set_option maxRecDepth 100000
set_option linter.unusedVariables false
noncomputable section
def slices_Equal_string_string_L0T (_N : Nat) (x0 : List Str) (x1 : List Str) (c12 : Int) (k0 : Option Bool) (self : Int → Option Bool) (s13 : Int) : Option Bool :=
  br (decide (s13 < c12))
    (bnd (geti x0 s13) fun t18 =>
    bnd (geti x1 s13) fun t22 =>
    br (!(t18 == t22))
      (some false)
      (self (IntKind.i64.wrap (s13 + (1 : Int)))))
    (k0)
def slices_Equal_string_string_L0 (N : Nat) (x0 : List Str) (x1 : List Str) (c12 : Int) (k0 : Option Bool) : Nat → Int → Option Bool
  | 0, _ => none
  | n + 1, s13 => slices_Equal_string_string_L0T N x0 x1 c12 k0 (slices_Equal_string_string_L0 N x0 x1 c12 k0 n) s13
def slices_Equal_string_string (N : Nat) (x0 : List Str) (x1 : List Str) : Option Bool :=
  br ((x0.length : Int) != (x1.length : Int))
    (some false)
    (slices_Equal_string_string_L0 N x0 x1 (x0.length : Int) (some true) N (0 : Int))
abbrev slices_Equal_string_string_sg (f : SV [.v (.sl .str), .v (.sl .str)] → BV [] → Option (Bool)) : AF := { ps := [.v (.sl .str), .v (.sl .str)], bs := [], rs := [.v .bool], cs := [], R := Bool, out := fun z => ((z, ()), ()), f := f }
abbrev slices_Equal_string_string_pk : SV [.v .bool] → BV [] → Bool := fun x _ => x.1
def slices_Equal_string_string_fn (_N : Nat) : FuncId → Option Tmp → Option AF := fun f _ =>
  match f with
    | _ => none
theorem slices_Equal_string_string_fn_ok (N : Nat) : ∀ f q F, slices_Equal_string_string_fn N f q = some F → Sound Tryz.prog GW B0G f F := by
  intro f q F h
  unfold slices_Equal_string_string_fn at h
  split at h
  · cases h
def slices_Equal_string_string_h : Nat → Hint := fun i =>
  match i with
  | 0 => ⟨[], [0, 1, 12, 13], [], [], [], []⟩
  | _ => ⟨[], [], [], [], [], []⟩
abbrev slices_Equal_string_string_E (N : Nat) : Env := mkE slices_Equal_string_string_h (slices_Equal_string_string_fn N) (fun _ => false) (fun _ => false)
abbrev slices_Equal_string_string_L0_fs : List (Nat × Sl) := [(0, .v (.sl .str)), (1, .v (.sl .str)), (12, .v (.int .i64)), (13, .v (.int .i64))]
abbrev slices_Equal_string_string_L0_bs : List (Nat × Sb) := []
def slices_Equal_string_string_L0_hd (x0 : List Str) (x1 : List Str) (c12 : Int) (s13 : Int) : St := ⟨26, [(0, .v (.sl .str) x0), (1, .v (.sl .str) x1), (12, .v (.int .i64) c12), (13, .v (.int .i64) s13)], []⟩
def slices_Equal_string_string_L0_tl0 (_x0 : List Str) (_x1 : List Str) (_c12 : Int) : St := ⟨26, [], []⟩
def slices_Equal_string_string_L0_G (N : Nat) (x0 : List Str) (x1 : List Str) (c12 : Int) (s13 : Int) (k : Ex → St → Option Bool) : Option Bool :=
  slices_Equal_string_string_L0 N x0 x1 c12 (k (.exit 0) (slices_Equal_string_string_L0_tl0 x0 x1 c12)) N s13
abbrev slices_Equal_string_string_L0_F (N : Nat) : FV slices_Equal_string_string_L0_fs → HV slices_Equal_string_string_L0_bs → (Ex → St → Option Bool) → Option Bool := fun x _ k => slices_Equal_string_string_L0_G N x.1 x.2.1 x.2.2.1 x.2.2.2.1 k
noncomputable def slices_Equal_string_string_LP (N : Nat) : Nat → Code → St → (Ex → St → Option Bool) → Option Bool := fun i c =>
  match i with
  | 0 => (LPc 26 slices_Equal_string_string_L0_fs slices_Equal_string_string_L0_bs (slices_Equal_string_string_L0_F N) (fun st k => iter (slices_Equal_string_string_h 0) (exec (slices_Equal_string_string_E N) N c 0) N st k))
  | i => fun st k => iter (slices_Equal_string_string_h i) (exec (slices_Equal_string_string_E N) N c i) N st k
theorem slices_Equal_string_string_L0_step (N : Nat) (x0 : List Str) (x1 : List Str) (c12 : Int) (KX : Nat → St → Option Bool) (I : St → Option Bool) (s13 : Int) :
    execL (slices_Equal_string_string_LP N) (slices_Equal_string_string_E N) (cAt (bodyOf Tryz.f20) [true, true, false, true, false, false]) 0 (slices_Equal_string_string_L0_hd x0 x1 c12 s13) (roundK (slices_Equal_string_string_h 0) I KX (resD (slices_Equal_string_string_E N) Tryz.f20 (slices_Equal_string_string_sg fun x _ => slices_Equal_string_string N x.1 x.2.1) slices_Equal_string_string_pk)) = slices_Equal_string_string_L0T N x0 x1 c12 (KX 0 (slices_Equal_string_string_L0_tl0 x0 x1 c12)) (fun s13 => I (slices_Equal_string_string_L0_hd x0 x1 c12 s13)) s13 := by kernel_rfl
theorem slices_Equal_string_string_L0_ok (N : Nat) : ∀ x y k, (∀ st, k .ret st = (resD (slices_Equal_string_string_E N) Tryz.f20 (slices_Equal_string_string_sg fun x _ => slices_Equal_string_string N x.1 x.2.1) slices_Equal_string_string_pk) st) → iter (slices_Equal_string_string_h 0) (exec (slices_Equal_string_string_E N) N (cAt (bodyOf Tryz.f20) [true, true, false, true, false, false]) 0) N ⟨26, unF slices_Equal_string_string_L0_fs x, unH slices_Equal_string_string_L0_bs y⟩ k = slices_Equal_string_string_L0_F N x y k := fun x _ k hk =>
  iter_link (S := (Int) × Unit) (slices_Equal_string_string_h 0) _ (execL (slices_Equal_string_string_LP N) (slices_Equal_string_string_E N) (cAt (bodyOf Tryz.f20) [true, true, false, true, false, false]) 0) (resD (slices_Equal_string_string_E N) Tryz.f20 (slices_Equal_string_string_sg fun x _ => slices_Equal_string_string N x.1 x.2.1) slices_Equal_string_string_pk) (fun st k hk => execL_eq _ _ N _ (cAt (bodyOf Tryz.f20) [true, true, false, true, false, false]) 0 (show LoopsOk (slices_Equal_string_string_LP N) (slices_Equal_string_string_E N) N (resD (slices_Equal_string_string_E N) Tryz.f20 (slices_Equal_string_string_sg fun x _ => slices_Equal_string_string N x.1 x.2.1) slices_Equal_string_string_pk) [] from trivial) st k hk) (fun s => slices_Equal_string_string_L0_hd x.1 x.2.1 x.2.2.1 s.1) k hk
    (fun self s => slices_Equal_string_string_L0T N x.1 x.2.1 x.2.2.1 (k (.exit 0) (slices_Equal_string_string_L0_tl0 x.1 x.2.1 x.2.2.1)) (fun s13 => self (s13, ())) s.1) (fun n s => slices_Equal_string_string_L0 N x.1 x.2.1 x.2.2.1 (k (.exit 0) (slices_Equal_string_string_L0_tl0 x.1 x.2.1 x.2.2.1)) n s.1) (fun _ => rfl) (fun _ _ => rfl)
    (fun I s => slices_Equal_string_string_L0_step N x.1 x.2.1 x.2.2.1 (fun j => k (.exit j)) I s.1) N (x.2.2.2.1, ())
theorem slices_Equal_string_string_lp0 (N : Nat) : ∀ st k, (∀ st, k .ret st = (resD (slices_Equal_string_string_E N) Tryz.f20 (slices_Equal_string_string_sg fun x _ => slices_Equal_string_string N x.1 x.2.1) slices_Equal_string_string_pk) st) → slices_Equal_string_string_LP N 0 (cAt (bodyOf Tryz.f20) [true, true, false, true, false, false]) st k = iter (Env.hint (slices_Equal_string_string_E N) 0) (exec (slices_Equal_string_string_E N) N (cAt (bodyOf Tryz.f20) [true, true, false, true, false, false]) 0) N st k := fun st k hk => LPc_eq 26 slices_Equal_string_string_L0_fs slices_Equal_string_string_L0_bs _ _ (resD (slices_Equal_string_string_E N) Tryz.f20 (slices_Equal_string_string_sg fun x _ => slices_Equal_string_string N x.1 x.2.1) slices_Equal_string_string_pk) (slices_Equal_string_string_L0_ok N) _ st k hk (rfl)
theorem slices_Equal_string_string_core (N : Nat) (x : SV [.v (.sl .str), .v (.sl .str)]) (y : BV []) : runL (slices_Equal_string_string_E N) Tryz.f20 (slices_Equal_string_string_sg fun x _ => slices_Equal_string_string N x.1 x.2.1) slices_Equal_string_string_pk (slices_Equal_string_string_LP N) x y = slices_Equal_string_string N x.1 x.2.1 := by kernel_rfl
theorem slices_Equal_string_string_sound (N : Nat) : Sound Tryz.prog GW B0G 20 (slices_Equal_string_string_sg fun x _ => slices_Equal_string_string N x.1 x.2.1) :=
  runD_sound (mkE_ok slices_Equal_string_string_h (slices_Equal_string_string_fn N) _ _ (slices_Equal_string_string_fn_ok N)) Tryz.func20 rfl Tryz.call20 (slices_Equal_string_string_sg fun x _ => slices_Equal_string_string N x.1 x.2.1) slices_Equal_string_string_pk (fun _ _ => rfl) N (fun x y _ h => ((runL_eq (slices_Equal_string_string_E N) N Tryz.f20 (slices_Equal_string_string_sg fun x _ => slices_Equal_string_string N x.1 x.2.1) slices_Equal_string_string_pk (slices_Equal_string_string_LP N) (show LoopsOk (slices_Equal_string_string_LP N) (slices_Equal_string_string_E N) N (resD (slices_Equal_string_string_E N) Tryz.f20 (slices_Equal_string_string_sg fun x _ => slices_Equal_string_string N x.1 x.2.1) slices_Equal_string_string_pk) [(0, (cAt (bodyOf Tryz.f20) [true, true, false, true, false, false]))] from ⟨slices_Equal_string_string_lp0 N, trivial⟩) x y).trans (slices_Equal_string_string_core N x y)).trans h)
def slices_Clone_string_string (_N : Nat) (x0 : List Str) : Option (List Str) :=
  br ((x0).isEmpty)
    (both
      (some ([] : List Str))
      (br (decide ((([] : List Str).length + x0.length) * (24 * Ty.sz .str) ≤ 140737488355328))
        (some (([] : List Str) ++ x0))
        none))
    (br (decide ((([] : List Str).length + x0.length) * (24 * Ty.sz .str) ≤ 140737488355328))
      (some (([] : List Str) ++ x0))
      none)
abbrev slices_Clone_string_string_sg (f : SV [.v (.sl .str)] → BV [] → Option (List Str)) : AF := { ps := [.v (.sl .str)], bs := [], rs := [.row 0], cs := [.row 9 .str true], R := List Str, out := fun z => (((), ()), (z, ())), f := f }
abbrev slices_Clone_string_string_pk : SV [.row 0] → BV [.row 9 .str true] → (List Str) := fun _ y => y.1
def slices_Clone_string_string_fn (_N : Nat) : FuncId → Option Tmp → Option AF := fun f _ =>
  match f with
    | _ => none
theorem slices_Clone_string_string_fn_ok (N : Nat) : ∀ f q F, slices_Clone_string_string_fn N f q = some F → Sound Tryz.prog GW B0G f F := by
  intro f q F h
  unfold slices_Clone_string_string_fn at h
  split at h
  · cases h
def slices_Clone_string_string_h : Nat → Hint := fun i =>
  match i with
  | _ => ⟨[], [], [], [], [], []⟩
abbrev slices_Clone_string_string_E (N : Nat) : Env := mkE slices_Clone_string_string_h (slices_Clone_string_string_fn N) (fun i => match i with | 2 => true | 5 => true | _ => false) (fun _ => false)
noncomputable def slices_Clone_string_string_LP (N : Nat) : Nat → Code → St → (Ex → St → Option (List Str)) → Option (List Str) := fun i c =>
  match i with
  | i => fun st k => iter (slices_Clone_string_string_h i) (exec (slices_Clone_string_string_E N) N c i) N st k
theorem slices_Clone_string_string_core (N : Nat) (x : SV [.v (.sl .str)]) (y : BV []) : runL (slices_Clone_string_string_E N) Tryz.f55 (slices_Clone_string_string_sg fun x _ => slices_Clone_string_string N x.1) slices_Clone_string_string_pk (slices_Clone_string_string_LP N) x y = slices_Clone_string_string N x.1 := by kernel_rfl
theorem slices_Clone_string_string_sound (N : Nat) : Sound Tryz.prog GW B0G 55 (slices_Clone_string_string_sg fun x _ => slices_Clone_string_string N x.1) :=
  runD_sound (mkE_ok slices_Clone_string_string_h (slices_Clone_string_string_fn N) _ _ (slices_Clone_string_string_fn_ok N)) Tryz.func55 rfl Tryz.call55 (slices_Clone_string_string_sg fun x _ => slices_Clone_string_string N x.1) slices_Clone_string_string_pk (fun _ _ => rfl) N (fun x y _ h => ((runL_eq (slices_Clone_string_string_E N) N Tryz.f55 (slices_Clone_string_string_sg fun x _ => slices_Clone_string_string N x.1) slices_Clone_string_string_pk (slices_Clone_string_string_LP N) (show LoopsOk (slices_Clone_string_string_LP N) (slices_Clone_string_string_E N) N (resD (slices_Clone_string_string_E N) Tryz.f55 (slices_Clone_string_string_sg fun x _ => slices_Clone_string_string N x.1) slices_Clone_string_string_pk) [] from trivial) x y).trans (slices_Clone_string_string_core N x y)).trans h)
def slices_Equal_api_Pair_L0T (_N : Nat) (x0 : List (Str × Str)) (x1 : List (Str × Str)) (c12 : Int) (k0 : Option Bool) (self : Int → Option Bool) (s13 : Int) : Option Bool :=
  br (decide (s13 < c12))
    (bnd (geti x0 s13) fun t18 =>
    bnd (geti x1 s13) fun t22 =>
    br (!(eqb (.pr .str .str) t18 t22))
      (some false)
      (self (IntKind.i64.wrap (s13 + (1 : Int)))))
    (k0)
def slices_Equal_api_Pair_L0 (N : Nat) (x0 : List (Str × Str)) (x1 : List (Str × Str)) (c12 : Int) (k0 : Option Bool) : Nat → Int → Option Bool
  | 0, _ => none
  | n + 1, s13 => slices_Equal_api_Pair_L0T N x0 x1 c12 k0 (slices_Equal_api_Pair_L0 N x0 x1 c12 k0 n) s13
def slices_Equal_api_Pair (N : Nat) (x0 : List (Str × Str)) (x1 : List (Str × Str)) : Option Bool :=
  br ((x0.length : Int) != (x1.length : Int))
    (some false)
    (slices_Equal_api_Pair_L0 N x0 x1 (x0.length : Int) (some true) N (0 : Int))
abbrev slices_Equal_api_Pair_sg (f : SV [.v (.sl (.pr .str .str)), .v (.sl (.pr .str .str))] → BV [] → Option (Bool)) : AF := { ps := [.v (.sl (.pr .str .str)), .v (.sl (.pr .str .str))], bs := [], rs := [.v .bool], cs := [], R := Bool, out := fun z => ((z, ()), ()), f := f }
abbrev slices_Equal_api_Pair_pk : SV [.v .bool] → BV [] → Bool := fun x _ => x.1
def slices_Equal_api_Pair_fn (_N : Nat) : FuncId → Option Tmp → Option AF := fun f _ =>
  match f with
    | _ => none
theorem slices_Equal_api_Pair_fn_ok (N : Nat) : ∀ f q F, slices_Equal_api_Pair_fn N f q = some F → Sound Tryz.prog GW B0G f F := by
  intro f q F h
  unfold slices_Equal_api_Pair_fn at h
  split at h
  · cases h
def slices_Equal_api_Pair_h : Nat → Hint := fun i =>
  match i with
  | 0 => ⟨[], [0, 1, 12, 13], [], [], [], []⟩
  | _ => ⟨[], [], [], [], [], []⟩
abbrev slices_Equal_api_Pair_E (N : Nat) : Env := mkE slices_Equal_api_Pair_h (slices_Equal_api_Pair_fn N) (fun _ => false) (fun _ => false)
abbrev slices_Equal_api_Pair_L0_fs : List (Nat × Sl) := [(0, .v (.sl (.pr .str .str))), (1, .v (.sl (.pr .str .str))), (12, .v (.int .i64)), (13, .v (.int .i64))]
abbrev slices_Equal_api_Pair_L0_bs : List (Nat × Sb) := []
def slices_Equal_api_Pair_L0_hd (x0 : List (Str × Str)) (x1 : List (Str × Str)) (c12 : Int) (s13 : Int) : St := ⟨26, [(0, .v (.sl (.pr .str .str)) x0), (1, .v (.sl (.pr .str .str)) x1), (12, .v (.int .i64) c12), (13, .v (.int .i64) s13)], []⟩
def slices_Equal_api_Pair_L0_tl0 (_x0 : List (Str × Str)) (_x1 : List (Str × Str)) (_c12 : Int) : St := ⟨26, [], []⟩
def slices_Equal_api_Pair_L0_G (N : Nat) (x0 : List (Str × Str)) (x1 : List (Str × Str)) (c12 : Int) (s13 : Int) (k : Ex → St → Option Bool) : Option Bool :=
  slices_Equal_api_Pair_L0 N x0 x1 c12 (k (.exit 0) (slices_Equal_api_Pair_L0_tl0 x0 x1 c12)) N s13
abbrev slices_Equal_api_Pair_L0_F (N : Nat) : FV slices_Equal_api_Pair_L0_fs → HV slices_Equal_api_Pair_L0_bs → (Ex → St → Option Bool) → Option Bool := fun x _ k => slices_Equal_api_Pair_L0_G N x.1 x.2.1 x.2.2.1 x.2.2.2.1 k
noncomputable def slices_Equal_api_Pair_LP (N : Nat) : Nat → Code → St → (Ex → St → Option Bool) → Option Bool := fun i c =>
  match i with
  | 0 => (LPc 26 slices_Equal_api_Pair_L0_fs slices_Equal_api_Pair_L0_bs (slices_Equal_api_Pair_L0_F N) (fun st k => iter (slices_Equal_api_Pair_h 0) (exec (slices_Equal_api_Pair_E N) N c 0) N st k))
  | i => fun st k => iter (slices_Equal_api_Pair_h i) (exec (slices_Equal_api_Pair_E N) N c i) N st k
theorem slices_Equal_api_Pair_L0_step (N : Nat) (x0 : List (Str × Str)) (x1 : List (Str × Str)) (c12 : Int) (KX : Nat → St → Option Bool) (I : St → Option Bool) (s13 : Int) :
    execL (slices_Equal_api_Pair_LP N) (slices_Equal_api_Pair_E N) (cAt (bodyOf Tryz.f19) [true, true, false, true, false, false]) 0 (slices_Equal_api_Pair_L0_hd x0 x1 c12 s13) (roundK (slices_Equal_api_Pair_h 0) I KX (resD (slices_Equal_api_Pair_E N) Tryz.f19 (slices_Equal_api_Pair_sg fun x _ => slices_Equal_api_Pair N x.1 x.2.1) slices_Equal_api_Pair_pk)) = slices_Equal_api_Pair_L0T N x0 x1 c12 (KX 0 (slices_Equal_api_Pair_L0_tl0 x0 x1 c12)) (fun s13 => I (slices_Equal_api_Pair_L0_hd x0 x1 c12 s13)) s13 := by kernel_rfl
theorem slices_Equal_api_Pair_L0_ok (N : Nat) : ∀ x y k, (∀ st, k .ret st = (resD (slices_Equal_api_Pair_E N) Tryz.f19 (slices_Equal_api_Pair_sg fun x _ => slices_Equal_api_Pair N x.1 x.2.1) slices_Equal_api_Pair_pk) st) → iter (slices_Equal_api_Pair_h 0) (exec (slices_Equal_api_Pair_E N) N (cAt (bodyOf Tryz.f19) [true, true, false, true, false, false]) 0) N ⟨26, unF slices_Equal_api_Pair_L0_fs x, unH slices_Equal_api_Pair_L0_bs y⟩ k = slices_Equal_api_Pair_L0_F N x y k := fun x _ k hk =>
  iter_link (S := (Int) × Unit) (slices_Equal_api_Pair_h 0) _ (execL (slices_Equal_api_Pair_LP N) (slices_Equal_api_Pair_E N) (cAt (bodyOf Tryz.f19) [true, true, false, true, false, false]) 0) (resD (slices_Equal_api_Pair_E N) Tryz.f19 (slices_Equal_api_Pair_sg fun x _ => slices_Equal_api_Pair N x.1 x.2.1) slices_Equal_api_Pair_pk) (fun st k hk => execL_eq _ _ N _ (cAt (bodyOf Tryz.f19) [true, true, false, true, false, false]) 0 (show LoopsOk (slices_Equal_api_Pair_LP N) (slices_Equal_api_Pair_E N) N (resD (slices_Equal_api_Pair_E N) Tryz.f19 (slices_Equal_api_Pair_sg fun x _ => slices_Equal_api_Pair N x.1 x.2.1) slices_Equal_api_Pair_pk) [] from trivial) st k hk) (fun s => slices_Equal_api_Pair_L0_hd x.1 x.2.1 x.2.2.1 s.1) k hk
    (fun self s => slices_Equal_api_Pair_L0T N x.1 x.2.1 x.2.2.1 (k (.exit 0) (slices_Equal_api_Pair_L0_tl0 x.1 x.2.1 x.2.2.1)) (fun s13 => self (s13, ())) s.1) (fun n s => slices_Equal_api_Pair_L0 N x.1 x.2.1 x.2.2.1 (k (.exit 0) (slices_Equal_api_Pair_L0_tl0 x.1 x.2.1 x.2.2.1)) n s.1) (fun _ => rfl) (fun _ _ => rfl)
    (fun I s => slices_Equal_api_Pair_L0_step N x.1 x.2.1 x.2.2.1 (fun j => k (.exit j)) I s.1) N (x.2.2.2.1, ())
theorem slices_Equal_api_Pair_lp0 (N : Nat) : ∀ st k, (∀ st, k .ret st = (resD (slices_Equal_api_Pair_E N) Tryz.f19 (slices_Equal_api_Pair_sg fun x _ => slices_Equal_api_Pair N x.1 x.2.1) slices_Equal_api_Pair_pk) st) → slices_Equal_api_Pair_LP N 0 (cAt (bodyOf Tryz.f19) [true, true, false, true, false, false]) st k = iter (Env.hint (slices_Equal_api_Pair_E N) 0) (exec (slices_Equal_api_Pair_E N) N (cAt (bodyOf Tryz.f19) [true, true, false, true, false, false]) 0) N st k := fun st k hk => LPc_eq 26 slices_Equal_api_Pair_L0_fs slices_Equal_api_Pair_L0_bs _ _ (resD (slices_Equal_api_Pair_E N) Tryz.f19 (slices_Equal_api_Pair_sg fun x _ => slices_Equal_api_Pair N x.1 x.2.1) slices_Equal_api_Pair_pk) (slices_Equal_api_Pair_L0_ok N) _ st k hk (rfl)
theorem slices_Equal_api_Pair_core (N : Nat) (x : SV [.v (.sl (.pr .str .str)), .v (.sl (.pr .str .str))]) (y : BV []) : runL (slices_Equal_api_Pair_E N) Tryz.f19 (slices_Equal_api_Pair_sg fun x _ => slices_Equal_api_Pair N x.1 x.2.1) slices_Equal_api_Pair_pk (slices_Equal_api_Pair_LP N) x y = slices_Equal_api_Pair N x.1 x.2.1 := by kernel_rfl
theorem slices_Equal_api_Pair_sound (N : Nat) : Sound Tryz.prog GW B0G 19 (slices_Equal_api_Pair_sg fun x _ => slices_Equal_api_Pair N x.1 x.2.1) :=
  runD_sound (mkE_ok slices_Equal_api_Pair_h (slices_Equal_api_Pair_fn N) _ _ (slices_Equal_api_Pair_fn_ok N)) Tryz.func19 rfl Tryz.call19 (slices_Equal_api_Pair_sg fun x _ => slices_Equal_api_Pair N x.1 x.2.1) slices_Equal_api_Pair_pk (fun _ _ => rfl) N (fun x y _ h => ((runL_eq (slices_Equal_api_Pair_E N) N Tryz.f19 (slices_Equal_api_Pair_sg fun x _ => slices_Equal_api_Pair N x.1 x.2.1) slices_Equal_api_Pair_pk (slices_Equal_api_Pair_LP N) (show LoopsOk (slices_Equal_api_Pair_LP N) (slices_Equal_api_Pair_E N) N (resD (slices_Equal_api_Pair_E N) Tryz.f19 (slices_Equal_api_Pair_sg fun x _ => slices_Equal_api_Pair N x.1 x.2.1) slices_Equal_api_Pair_pk) [(0, (cAt (bodyOf Tryz.f19) [true, true, false, true, false, false]))] from ⟨slices_Equal_api_Pair_lp0 N, trivial⟩) x y).trans (slices_Equal_api_Pair_core N x y)).trans h)
def slices_Clone_api_Pair (_N : Nat) (x0 : List (Str × Str)) : Option (List (Str × Str)) :=
  br ((x0).isEmpty)
    (both
      (some ([] : List (Str × Str)))
      (br (decide ((([] : List (Str × Str)).length + x0.length) * (24 * Ty.sz (.pr .str .str)) ≤ 140737488355328))
        (some (([] : List (Str × Str)) ++ x0))
        none))
    (br (decide ((([] : List (Str × Str)).length + x0.length) * (24 * Ty.sz (.pr .str .str)) ≤ 140737488355328))
      (some (([] : List (Str × Str)) ++ x0))
      none)
abbrev slices_Clone_api_Pair_sg (f : SV [.v (.sl (.pr .str .str))] → BV [] → Option (List (Str × Str))) : AF := { ps := [.v (.sl (.pr .str .str))], bs := [], rs := [.row 0], cs := [.row 53 (.pr .str .str) true], R := List (Str × Str), out := fun z => (((), ()), (z, ())), f := f }
abbrev slices_Clone_api_Pair_pk : SV [.row 0] → BV [.row 53 (.pr .str .str) true] → (List (Str × Str)) := fun _ y => y.1
def slices_Clone_api_Pair_fn (_N : Nat) : FuncId → Option Tmp → Option AF := fun f _ =>
  match f with
    | _ => none
theorem slices_Clone_api_Pair_fn_ok (N : Nat) : ∀ f q F, slices_Clone_api_Pair_fn N f q = some F → Sound Tryz.prog GW B0G f F := by
  intro f q F h
  unfold slices_Clone_api_Pair_fn at h
  split at h
  · cases h
def slices_Clone_api_Pair_h : Nat → Hint := fun i =>
  match i with
  | _ => ⟨[], [], [], [], [], []⟩
abbrev slices_Clone_api_Pair_E (N : Nat) : Env := mkE slices_Clone_api_Pair_h (slices_Clone_api_Pair_fn N) (fun i => match i with | 2 => true | 5 => true | _ => false) (fun _ => false)
noncomputable def slices_Clone_api_Pair_LP (N : Nat) : Nat → Code → St → (Ex → St → Option (List (Str × Str))) → Option (List (Str × Str)) := fun i c =>
  match i with
  | i => fun st k => iter (slices_Clone_api_Pair_h i) (exec (slices_Clone_api_Pair_E N) N c i) N st k
theorem slices_Clone_api_Pair_core (N : Nat) (x : SV [.v (.sl (.pr .str .str))]) (y : BV []) : runL (slices_Clone_api_Pair_E N) Tryz.f54 (slices_Clone_api_Pair_sg fun x _ => slices_Clone_api_Pair N x.1) slices_Clone_api_Pair_pk (slices_Clone_api_Pair_LP N) x y = slices_Clone_api_Pair N x.1 := by kernel_rfl
theorem slices_Clone_api_Pair_sound (N : Nat) : Sound Tryz.prog GW B0G 54 (slices_Clone_api_Pair_sg fun x _ => slices_Clone_api_Pair N x.1) :=
  runD_sound (mkE_ok slices_Clone_api_Pair_h (slices_Clone_api_Pair_fn N) _ _ (slices_Clone_api_Pair_fn_ok N)) Tryz.func54 rfl Tryz.call54 (slices_Clone_api_Pair_sg fun x _ => slices_Clone_api_Pair N x.1) slices_Clone_api_Pair_pk (fun _ _ => rfl) N (fun x y _ h => ((runL_eq (slices_Clone_api_Pair_E N) N Tryz.f54 (slices_Clone_api_Pair_sg fun x _ => slices_Clone_api_Pair N x.1) slices_Clone_api_Pair_pk (slices_Clone_api_Pair_LP N) (show LoopsOk (slices_Clone_api_Pair_LP N) (slices_Clone_api_Pair_E N) N (resD (slices_Clone_api_Pair_E N) Tryz.f54 (slices_Clone_api_Pair_sg fun x _ => slices_Clone_api_Pair N x.1) slices_Clone_api_Pair_pk) [] from trivial) x y).trans (slices_Clone_api_Pair_core N x y)).trans h)
def config_with_2 (_N : Nat) (x0 : Str × Str) (x1 : Str) : Option Int :=
  bnd (strings_Compare x0.1 x1) fun t8 =>
  some t8
abbrev config_with_2_sg (f : SV [.v (.pr .str .str), .v .str] → BV [] → Option (Int)) : AF := { ps := [.v (.pr .str .str), .v .str], bs := [], rs := [.v (.int .i64)], cs := [], R := Int, out := fun z => ((z, ()), ()), f := f }
abbrev config_with_2_pk : SV [.v (.int .i64)] → BV [] → Int := fun x _ => x.1
def config_with_2_fn (_N : Nat) : FuncId → Option Tmp → Option AF := fun f _ =>
  match f with
    | 98 => some (strings_Compare_sg fun x _ => strings_Compare x.1 x.2.1)
    | _ => none
theorem config_with_2_fn_ok (N : Nat) : ∀ f q F, config_with_2_fn N f q = some F → Sound Tryz.prog GW B0G f F := by
  intro f q F h
  unfold config_with_2_fn at h
  split at h
  · cases h; exact strings_Compare_sound
  · cases h
def config_with_2_h : Nat → Hint := fun i =>
  match i with
  | _ => ⟨[], [], [], [], [], []⟩
abbrev config_with_2_E (N : Nat) : Env := mkE config_with_2_h (config_with_2_fn N) (fun _ => false) (fun _ => false)
noncomputable def config_with_2_LP (N : Nat) : Nat → Code → St → (Ex → St → Option Int) → Option Int := fun i c =>
  match i with
  | i => fun st k => iter (config_with_2_h i) (exec (config_with_2_E N) N c i) N st k
theorem config_with_2_core (N : Nat) (x : SV [.v (.pr .str .str), .v .str]) (y : BV []) : runL (config_with_2_E N) Tryz.f97 (config_with_2_sg fun x _ => config_with_2 N x.1 x.2.1) config_with_2_pk (config_with_2_LP N) x y = config_with_2 N x.1 x.2.1 := by kernel_rfl
theorem config_with_2_sound (N : Nat) : Sound Tryz.prog GW B0G 97 (config_with_2_sg fun x _ => config_with_2 N x.1 x.2.1) :=
  runD_sound (mkE_ok config_with_2_h (config_with_2_fn N) _ _ (config_with_2_fn_ok N)) Tryz.func97 rfl Tryz.call97 (config_with_2_sg fun x _ => config_with_2 N x.1 x.2.1) config_with_2_pk (fun _ _ => rfl) N (fun x y _ h => ((runL_eq (config_with_2_E N) N Tryz.f97 (config_with_2_sg fun x _ => config_with_2 N x.1 x.2.1) config_with_2_pk (config_with_2_LP N) (show LoopsOk (config_with_2_LP N) (config_with_2_E N) N (resD (config_with_2_E N) Tryz.f97 (config_with_2_sg fun x _ => config_with_2 N x.1 x.2.1) config_with_2_pk) [] from trivial) x y).trans (config_with_2_core N x y)).trans h)
def config_with_1 (_N : Nat) (x0 : Str × Str) (x1 : Str) : Option Bool :=
  some (x0.1 == x1)
abbrev config_with_1_sg (f : SV [.v (.pr .str .str), .v (.ptr .str)] → BV [] → Option (Bool)) : AF := { ps := [.v (.pr .str .str), .v (.ptr .str)], bs := [], rs := [.v .bool], cs := [], R := Bool, out := fun z => ((z, ()), ()), f := f }
abbrev config_with_1_pk : SV [.v .bool] → BV [] → Bool := fun x _ => x.1
def config_with_1_fn (_N : Nat) : FuncId → Option Tmp → Option AF := fun f _ =>
  match f with
    | _ => none
theorem config_with_1_fn_ok (N : Nat) : ∀ f q F, config_with_1_fn N f q = some F → Sound Tryz.prog GW B0G f F := by
  intro f q F h
  unfold config_with_1_fn at h
  split at h
  · cases h
def config_with_1_h : Nat → Hint := fun i =>
  match i with
  | _ => ⟨[], [], [], [], [], []⟩
abbrev config_with_1_E (N : Nat) : Env := mkE config_with_1_h (config_with_1_fn N) (fun _ => false) (fun _ => false)
noncomputable def config_with_1_LP (N : Nat) : Nat → Code → St → (Ex → St → Option Bool) → Option Bool := fun i c =>
  match i with
  | i => fun st k => iter (config_with_1_h i) (exec (config_with_1_E N) N c i) N st k
theorem config_with_1_core (N : Nat) (x : SV [.v (.pr .str .str), .v (.ptr .str)]) (y : BV []) : runL (config_with_1_E N) Tryz.f95 (config_with_1_sg fun x _ => config_with_1 N x.1 x.2.1) config_with_1_pk (config_with_1_LP N) x y = config_with_1 N x.1 x.2.1 := by kernel_rfl
theorem config_with_1_sound (N : Nat) : Sound Tryz.prog GW B0G 95 (config_with_1_sg fun x _ => config_with_1 N x.1 x.2.1) :=
  runD_sound (mkE_ok config_with_1_h (config_with_1_fn N) _ _ (config_with_1_fn_ok N)) Tryz.func95 rfl Tryz.call95 (config_with_1_sg fun x _ => config_with_1 N x.1 x.2.1) config_with_1_pk (fun _ _ => rfl) N (fun x y _ h => ((runL_eq (config_with_1_E N) N Tryz.f95 (config_with_1_sg fun x _ => config_with_1 N x.1 x.2.1) config_with_1_pk (config_with_1_LP N) (show LoopsOk (config_with_1_LP N) (config_with_1_E N) N (resD (config_with_1_E N) Tryz.f95 (config_with_1_sg fun x _ => config_with_1 N x.1 x.2.1) config_with_1_pk) [] from trivial) x y).trans (config_with_1_core N x y)).trans h)
def slices_IndexFunc_api_Pair_L0T (N : Nat) (x0 : List (Str × Str)) (x1 : Str × Unit) (c7 : Int) (k0 : Option Int) (self : Int → Option Int) (s8 : Int) : Option Int :=
  br (decide (s8 < c7))
    (bnd (geti x0 s8) fun t14 =>
    bnd (config_with_1 N t14 x1.1) fun t16 =>
    br (t16)
      (some s8)
      (self (IntKind.i64.wrap (s8 + (1 : Int)))))
    (k0)
def slices_IndexFunc_api_Pair_L0 (N : Nat) (x0 : List (Str × Str)) (x1 : Str × Unit) (c7 : Int) (k0 : Option Int) : Nat → Int → Option Int
  | 0, _ => none
  | n + 1, s8 => slices_IndexFunc_api_Pair_L0T N x0 x1 c7 k0 (slices_IndexFunc_api_Pair_L0 N x0 x1 c7 k0 n) s8
def slices_IndexFunc_api_Pair (N : Nat) (x0 : List (Str × Str)) (x1 : Str × Unit) : Option Int :=
  slices_IndexFunc_api_Pair_L0 N x0 x1 (x0.length : Int) (some (-1 : Int)) N (0 : Int)
abbrev slices_IndexFunc_api_Pair_sg (f : SV [.v (.sl (.pr .str .str)), .v (.clo 95 (.pr (.ptr .str) .un))] → BV [] → Option (Int)) : AF := { ps := [.v (.sl (.pr .str .str)), .v (.clo 95 (.pr (.ptr .str) .un))], bs := [], rs := [.v (.int .i64)], cs := [], R := Int, out := fun z => ((z, ()), ()), f := f }
abbrev slices_IndexFunc_api_Pair_pk : SV [.v (.int .i64)] → BV [] → Int := fun x _ => x.1
def slices_IndexFunc_api_Pair_fn (N : Nat) : FuncId → Option Tmp → Option AF := fun f _ =>
  match f with
    | 95 => some (config_with_1_sg fun x _ => config_with_1 N x.1 x.2.1)
    | _ => none
theorem slices_IndexFunc_api_Pair_fn_ok (N : Nat) : ∀ f q F, slices_IndexFunc_api_Pair_fn N f q = some F → Sound Tryz.prog GW B0G f F := by
  intro f q F h
  unfold slices_IndexFunc_api_Pair_fn at h
  split at h
  · cases h; exact config_with_1_sound N
  · cases h
def slices_IndexFunc_api_Pair_h : Nat → Hint := fun i =>
  match i with
  | 0 => ⟨[], [0, 1, 7, 8], [], [], [], []⟩
  | _ => ⟨[], [], [], [], [], []⟩
abbrev slices_IndexFunc_api_Pair_E (N : Nat) : Env := mkE slices_IndexFunc_api_Pair_h (slices_IndexFunc_api_Pair_fn N) (fun _ => false) (fun _ => false)
abbrev slices_IndexFunc_api_Pair_L0_fs : List (Nat × Sl) := [(0, .v (.sl (.pr .str .str))), (1, .v (.clo 95 (.pr (.ptr .str) .un))), (7, .v (.int .i64)), (8, .v (.int .i64))]
abbrev slices_IndexFunc_api_Pair_L0_bs : List (Nat × Sb) := []
def slices_IndexFunc_api_Pair_L0_hd (x0 : List (Str × Str)) (x1 : Str × Unit) (c7 : Int) (s8 : Int) : St := ⟨19, [(0, .v (.sl (.pr .str .str)) x0), (1, .v (.clo 95 (.pr (.ptr .str) .un)) x1), (7, .v (.int .i64) c7), (8, .v (.int .i64) s8)], []⟩
def slices_IndexFunc_api_Pair_L0_tl0 (_x0 : List (Str × Str)) (_x1 : Str × Unit) (_c7 : Int) : St := ⟨19, [], []⟩
def slices_IndexFunc_api_Pair_L0_G (N : Nat) (x0 : List (Str × Str)) (x1 : Str × Unit) (c7 : Int) (s8 : Int) (k : Ex → St → Option Int) : Option Int :=
  slices_IndexFunc_api_Pair_L0 N x0 x1 c7 (k (.exit 0) (slices_IndexFunc_api_Pair_L0_tl0 x0 x1 c7)) N s8
abbrev slices_IndexFunc_api_Pair_L0_F (N : Nat) : FV slices_IndexFunc_api_Pair_L0_fs → HV slices_IndexFunc_api_Pair_L0_bs → (Ex → St → Option Int) → Option Int := fun x _ k => slices_IndexFunc_api_Pair_L0_G N x.1 x.2.1 x.2.2.1 x.2.2.2.1 k
noncomputable def slices_IndexFunc_api_Pair_LP (N : Nat) : Nat → Code → St → (Ex → St → Option Int) → Option Int := fun i c =>
  match i with
  | 0 => (LPc 19 slices_IndexFunc_api_Pair_L0_fs slices_IndexFunc_api_Pair_L0_bs (slices_IndexFunc_api_Pair_L0_F N) (fun st k => iter (slices_IndexFunc_api_Pair_h 0) (exec (slices_IndexFunc_api_Pair_E N) N c 0) N st k))
  | i => fun st k => iter (slices_IndexFunc_api_Pair_h i) (exec (slices_IndexFunc_api_Pair_E N) N c i) N st k
theorem slices_IndexFunc_api_Pair_L0_step (N : Nat) (x0 : List (Str × Str)) (x1 : Str × Unit) (c7 : Int) (KX : Nat → St → Option Int) (I : St → Option Int) (s8 : Int) :
    execL (slices_IndexFunc_api_Pair_LP N) (slices_IndexFunc_api_Pair_E N) (cAt (bodyOf Tryz.f143) [true, false, true, false, false]) 0 (slices_IndexFunc_api_Pair_L0_hd x0 x1 c7 s8) (roundK (slices_IndexFunc_api_Pair_h 0) I KX (resD (slices_IndexFunc_api_Pair_E N) Tryz.f143 (slices_IndexFunc_api_Pair_sg fun x _ => slices_IndexFunc_api_Pair N x.1 x.2.1) slices_IndexFunc_api_Pair_pk)) = slices_IndexFunc_api_Pair_L0T N x0 x1 c7 (KX 0 (slices_IndexFunc_api_Pair_L0_tl0 x0 x1 c7)) (fun s8 => I (slices_IndexFunc_api_Pair_L0_hd x0 x1 c7 s8)) s8 := by kernel_rfl
theorem slices_IndexFunc_api_Pair_L0_ok (N : Nat) : ∀ x y k, (∀ st, k .ret st = (resD (slices_IndexFunc_api_Pair_E N) Tryz.f143 (slices_IndexFunc_api_Pair_sg fun x _ => slices_IndexFunc_api_Pair N x.1 x.2.1) slices_IndexFunc_api_Pair_pk) st) → iter (slices_IndexFunc_api_Pair_h 0) (exec (slices_IndexFunc_api_Pair_E N) N (cAt (bodyOf Tryz.f143) [true, false, true, false, false]) 0) N ⟨19, unF slices_IndexFunc_api_Pair_L0_fs x, unH slices_IndexFunc_api_Pair_L0_bs y⟩ k = slices_IndexFunc_api_Pair_L0_F N x y k := fun x _ k hk =>
  iter_link (S := (Int) × Unit) (slices_IndexFunc_api_Pair_h 0) _ (execL (slices_IndexFunc_api_Pair_LP N) (slices_IndexFunc_api_Pair_E N) (cAt (bodyOf Tryz.f143) [true, false, true, false, false]) 0) (resD (slices_IndexFunc_api_Pair_E N) Tryz.f143 (slices_IndexFunc_api_Pair_sg fun x _ => slices_IndexFunc_api_Pair N x.1 x.2.1) slices_IndexFunc_api_Pair_pk) (fun st k hk => execL_eq _ _ N _ (cAt (bodyOf Tryz.f143) [true, false, true, false, false]) 0 (show LoopsOk (slices_IndexFunc_api_Pair_LP N) (slices_IndexFunc_api_Pair_E N) N (resD (slices_IndexFunc_api_Pair_E N) Tryz.f143 (slices_IndexFunc_api_Pair_sg fun x _ => slices_IndexFunc_api_Pair N x.1 x.2.1) slices_IndexFunc_api_Pair_pk) [] from trivial) st k hk) (fun s => slices_IndexFunc_api_Pair_L0_hd x.1 x.2.1 x.2.2.1 s.1) k hk
    (fun self s => slices_IndexFunc_api_Pair_L0T N x.1 x.2.1 x.2.2.1 (k (.exit 0) (slices_IndexFunc_api_Pair_L0_tl0 x.1 x.2.1 x.2.2.1)) (fun s8 => self (s8, ())) s.1) (fun n s => slices_IndexFunc_api_Pair_L0 N x.1 x.2.1 x.2.2.1 (k (.exit 0) (slices_IndexFunc_api_Pair_L0_tl0 x.1 x.2.1 x.2.2.1)) n s.1) (fun _ => rfl) (fun _ _ => rfl)
    (fun I s => slices_IndexFunc_api_Pair_L0_step N x.1 x.2.1 x.2.2.1 (fun j => k (.exit j)) I s.1) N (x.2.2.2.1, ())
theorem slices_IndexFunc_api_Pair_lp0 (N : Nat) : ∀ st k, (∀ st, k .ret st = (resD (slices_IndexFunc_api_Pair_E N) Tryz.f143 (slices_IndexFunc_api_Pair_sg fun x _ => slices_IndexFunc_api_Pair N x.1 x.2.1) slices_IndexFunc_api_Pair_pk) st) → slices_IndexFunc_api_Pair_LP N 0 (cAt (bodyOf Tryz.f143) [true, false, true, false, false]) st k = iter (Env.hint (slices_IndexFunc_api_Pair_E N) 0) (exec (slices_IndexFunc_api_Pair_E N) N (cAt (bodyOf Tryz.f143) [true, false, true, false, false]) 0) N st k := fun st k hk => LPc_eq 19 slices_IndexFunc_api_Pair_L0_fs slices_IndexFunc_api_Pair_L0_bs _ _ (resD (slices_IndexFunc_api_Pair_E N) Tryz.f143 (slices_IndexFunc_api_Pair_sg fun x _ => slices_IndexFunc_api_Pair N x.1 x.2.1) slices_IndexFunc_api_Pair_pk) (slices_IndexFunc_api_Pair_L0_ok N) _ st k hk (rfl)
theorem slices_IndexFunc_api_Pair_core (N : Nat) (x : SV [.v (.sl (.pr .str .str)), .v (.clo 95 (.pr (.ptr .str) .un))]) (y : BV []) : runL (slices_IndexFunc_api_Pair_E N) Tryz.f143 (slices_IndexFunc_api_Pair_sg fun x _ => slices_IndexFunc_api_Pair N x.1 x.2.1) slices_IndexFunc_api_Pair_pk (slices_IndexFunc_api_Pair_LP N) x y = slices_IndexFunc_api_Pair N x.1 x.2.1 := by kernel_rfl
theorem slices_IndexFunc_api_Pair_sound (N : Nat) : Sound Tryz.prog GW B0G 143 (slices_IndexFunc_api_Pair_sg fun x _ => slices_IndexFunc_api_Pair N x.1 x.2.1) :=
  runD_sound (mkE_ok slices_IndexFunc_api_Pair_h (slices_IndexFunc_api_Pair_fn N) _ _ (slices_IndexFunc_api_Pair_fn_ok N)) Tryz.func143 rfl Tryz.call143 (slices_IndexFunc_api_Pair_sg fun x _ => slices_IndexFunc_api_Pair N x.1 x.2.1) slices_IndexFunc_api_Pair_pk (fun _ _ => rfl) N (fun x y _ h => ((runL_eq (slices_IndexFunc_api_Pair_E N) N Tryz.f143 (slices_IndexFunc_api_Pair_sg fun x _ => slices_IndexFunc_api_Pair N x.1 x.2.1) slices_IndexFunc_api_Pair_pk (slices_IndexFunc_api_Pair_LP N) (show LoopsOk (slices_IndexFunc_api_Pair_LP N) (slices_IndexFunc_api_Pair_E N) N (resD (slices_IndexFunc_api_Pair_E N) Tryz.f143 (slices_IndexFunc_api_Pair_sg fun x _ => slices_IndexFunc_api_Pair N x.1 x.2.1) slices_IndexFunc_api_Pair_pk) [(0, (cAt (bodyOf Tryz.f143) [true, false, true, false, false]))] from ⟨slices_IndexFunc_api_Pair_lp0 N, trivial⟩) x y).trans (slices_IndexFunc_api_Pair_core N x y)).trans h)
def slices_DeleteFunc_api_Pair_L0T (N : Nat) (x1 : Str × Unit) (k0 : Int → (List (Str × Str)) → Option (List (Str × Str))) (self : Int → Int → (List (Str × Str)) → Option (List (Str × Str))) (s5 : Int) (s6 : Int) (w0_1 : List (Str × Str)) : Option (List (Str × Str)) :=
  br (decide (s6 < (w0_1.length : Int)))
    (br (decide (0 ≤ s6 ∧ s6 < (w0_1.length : Int)))
      (bnd (geti w0_1 s6) fun t25 =>
      bnd (config_with_1 N t25 x1.1) fun t28 =>
      br (!t28)
        (br (decide (0 ≤ s5 ∧ s5 < (w0_1.length : Int)))
          (bnd (geti w0_1 s5) fun _ =>
          self (IntKind.i64.wrap (s5 + (1 : Int))) (IntKind.i64.wrap (s6 + (1 : Int))) (seti w0_1 s5 t25))
          none)
        (self s5 (IntKind.i64.wrap (s6 + (1 : Int))) w0_1))
      none)
    (k0 s5 w0_1)
def slices_DeleteFunc_api_Pair_L0 (N : Nat) (x1 : Str × Unit) (k0 : Int → (List (Str × Str)) → Option (List (Str × Str))) : Nat → Int → Int → (List (Str × Str)) → Option (List (Str × Str))
  | 0, _, _, _ => none
  | n + 1, s5, s6, w0_1 => slices_DeleteFunc_api_Pair_L0T N x1 k0 (slices_DeleteFunc_api_Pair_L0 N x1 k0 n) s5 s6 w0_1
def slices_DeleteFunc_api_Pair (N : Nat) (x1 : Str × Unit) (w0 : List (Str × Str)) : Option (List (Str × Str)) :=
  bnd (slices_IndexFunc_api_Pair N w0 x1) fun t10 =>
  br (t10 == (-1 : Int))
    (some w0)
    (slices_DeleteFunc_api_Pair_L0 N x1 (fun o0_5 o0_w0 =>
        br (decide (0 ≤ o0_5 ∧ o0_5 ≤ (o0_w0.length : Int) ∧ 0 < o0_w0.length))
          (br (decide (0 ≤ o0_5 ∧ o0_5 ≤ ((clr o0_w0 o0_5 (zero (.pr .str .str))).length : Int)))
            (some (cut (clr o0_w0 o0_5 (zero (.pr .str .str))) o0_5))
            none)
          none) N t10 (IntKind.i64.wrap (t10 + (1 : Int))) w0)
abbrev slices_DeleteFunc_api_Pair_sg (f : SV [.row 0, .v (.clo 95 (.pr (.ptr .str) .un))] → BV [.row 53 (.pr .str .str) true] → Option (List (Str × Str))) : AF := { ps := [.row 0, .v (.clo 95 (.pr (.ptr .str) .un))], bs := [.row 53 (.pr .str .str) true], rs := [.row 0], cs := [.row 53 (.pr .str .str) true], R := List (Str × Str), out := fun z => (((), ()), (z, ())), f := f }
abbrev slices_DeleteFunc_api_Pair_pk : SV [.row 0] → BV [.row 53 (.pr .str .str) true] → (List (Str × Str)) := fun _ y => y.1
def slices_DeleteFunc_api_Pair_fn (N : Nat) : FuncId → Option Tmp → Option AF := fun f _ =>
  match f with
    | 95 => some (config_with_1_sg fun x _ => config_with_1 N x.1 x.2.1)
    | 143 => some (slices_IndexFunc_api_Pair_sg fun x _ => slices_IndexFunc_api_Pair N x.1 x.2.1)
    | _ => none
theorem slices_DeleteFunc_api_Pair_fn_ok (N : Nat) : ∀ f q F, slices_DeleteFunc_api_Pair_fn N f q = some F → Sound Tryz.prog GW B0G f F := by
  intro f q F h
  unfold slices_DeleteFunc_api_Pair_fn at h
  split at h
  · cases h; exact config_with_1_sound N
  · cases h; exact slices_IndexFunc_api_Pair_sound N
  · cases h
def slices_DeleteFunc_api_Pair_h : Nat → Hint := fun i =>
  match i with
  | 0 => ⟨[], [0, 1, 5, 6], [0], [0, 5], [0], []⟩
  | _ => ⟨[], [], [], [], [], []⟩
abbrev slices_DeleteFunc_api_Pair_E (N : Nat) : Env := mkE slices_DeleteFunc_api_Pair_h (slices_DeleteFunc_api_Pair_fn N) (fun i => match i with | 4 => true | _ => false) (fun _ => false)
abbrev slices_DeleteFunc_api_Pair_L0_fs : List (Nat × Sl) := [(0, .row 0), (1, .v (.clo 95 (.pr (.ptr .str) .un))), (5, .v (.int .i64)), (6, .v (.int .i64))]
abbrev slices_DeleteFunc_api_Pair_L0_bs : List (Nat × Sb) := [(0, .row 53 (.pr .str .str) true)]
def slices_DeleteFunc_api_Pair_L0_hd (x1 : Str × Unit) (s5 : Int) (s6 : Int) (w0_1 : List (Str × Str)) : St := ⟨42, [(0, .row 0), (1, .v (.clo 95 (.pr (.ptr .str) .un)) x1), (5, .v (.int .i64) s5), (6, .v (.int .i64) s6)], [(0, .row 53 (.pr .str .str) true w0_1)]⟩
def slices_DeleteFunc_api_Pair_L0_tl0 (_x1 : Str × Unit) (o0_5 : Int) (o0_w0 : List (Str × Str)) : St := ⟨42, [(0, .row 0), (5, .v (.int .i64) o0_5)], [(0, .row 53 (.pr .str .str) true o0_w0)]⟩
def slices_DeleteFunc_api_Pair_L0_G (N : Nat) (x1 : Str × Unit) (s5 : Int) (s6 : Int) (w0_1 : List (Str × Str)) (k : Ex → St → Option (List (Str × Str))) : Option (List (Str × Str)) :=
  slices_DeleteFunc_api_Pair_L0 N x1 (fun o0_5 o0_w0 => k (.exit 0) (slices_DeleteFunc_api_Pair_L0_tl0 x1 o0_5 o0_w0)) N s5 s6 w0_1
abbrev slices_DeleteFunc_api_Pair_L0_F (N : Nat) : FV slices_DeleteFunc_api_Pair_L0_fs → HV slices_DeleteFunc_api_Pair_L0_bs → (Ex → St → Option (List (Str × Str))) → Option (List (Str × Str)) := fun x y k => slices_DeleteFunc_api_Pair_L0_G N x.2.1 x.2.2.1 x.2.2.2.1 y.1 k
noncomputable def slices_DeleteFunc_api_Pair_LP (N : Nat) : Nat → Code → St → (Ex → St → Option (List (Str × Str))) → Option (List (Str × Str)) := fun i c =>
  match i with
  | 0 => (LPc 42 slices_DeleteFunc_api_Pair_L0_fs slices_DeleteFunc_api_Pair_L0_bs (slices_DeleteFunc_api_Pair_L0_F N) (fun st k => iter (slices_DeleteFunc_api_Pair_h 0) (exec (slices_DeleteFunc_api_Pair_E N) N c 0) N st k))
  | i => fun st k => iter (slices_DeleteFunc_api_Pair_h i) (exec (slices_DeleteFunc_api_Pair_E N) N c i) N st k
theorem slices_DeleteFunc_api_Pair_L0_step (N : Nat) (x1 : Str × Unit) (KX : Nat → St → Option (List (Str × Str))) (I : St → Option (List (Str × Str))) (s5 : Int) (s6 : Int) (w0_1 : List (Str × Str)) :
    execL (slices_DeleteFunc_api_Pair_LP N) (slices_DeleteFunc_api_Pair_E N) (cAt (bodyOf Tryz.f94) [true, true, true, false, true, false, false]) 0 (slices_DeleteFunc_api_Pair_L0_hd x1 s5 s6 w0_1) (roundK (slices_DeleteFunc_api_Pair_h 0) I KX (resD (slices_DeleteFunc_api_Pair_E N) Tryz.f94 (slices_DeleteFunc_api_Pair_sg fun x y => slices_DeleteFunc_api_Pair N x.2.1 y.1) slices_DeleteFunc_api_Pair_pk)) = slices_DeleteFunc_api_Pair_L0T N x1 (fun o0_5 o0_w0 => KX 0 (slices_DeleteFunc_api_Pair_L0_tl0 x1 o0_5 o0_w0)) (fun s5 s6 w0_1 => I (slices_DeleteFunc_api_Pair_L0_hd x1 s5 s6 w0_1)) s5 s6 w0_1 := by kernel_rfl
theorem slices_DeleteFunc_api_Pair_L0_ok (N : Nat) : ∀ x y k, (∀ st, k .ret st = (resD (slices_DeleteFunc_api_Pair_E N) Tryz.f94 (slices_DeleteFunc_api_Pair_sg fun x y => slices_DeleteFunc_api_Pair N x.2.1 y.1) slices_DeleteFunc_api_Pair_pk) st) → iter (slices_DeleteFunc_api_Pair_h 0) (exec (slices_DeleteFunc_api_Pair_E N) N (cAt (bodyOf Tryz.f94) [true, true, true, false, true, false, false]) 0) N ⟨42, unF slices_DeleteFunc_api_Pair_L0_fs x, unH slices_DeleteFunc_api_Pair_L0_bs y⟩ k = slices_DeleteFunc_api_Pair_L0_F N x y k := fun x y k hk =>
  iter_link (S := (Int) × (Int) × (List (Str × Str)) × Unit) (slices_DeleteFunc_api_Pair_h 0) _ (execL (slices_DeleteFunc_api_Pair_LP N) (slices_DeleteFunc_api_Pair_E N) (cAt (bodyOf Tryz.f94) [true, true, true, false, true, false, false]) 0) (resD (slices_DeleteFunc_api_Pair_E N) Tryz.f94 (slices_DeleteFunc_api_Pair_sg fun x y => slices_DeleteFunc_api_Pair N x.2.1 y.1) slices_DeleteFunc_api_Pair_pk) (fun st k hk => execL_eq _ _ N _ (cAt (bodyOf Tryz.f94) [true, true, true, false, true, false, false]) 0 (show LoopsOk (slices_DeleteFunc_api_Pair_LP N) (slices_DeleteFunc_api_Pair_E N) N (resD (slices_DeleteFunc_api_Pair_E N) Tryz.f94 (slices_DeleteFunc_api_Pair_sg fun x y => slices_DeleteFunc_api_Pair N x.2.1 y.1) slices_DeleteFunc_api_Pair_pk) [] from trivial) st k hk) (fun s => slices_DeleteFunc_api_Pair_L0_hd x.2.1 s.1 s.2.1 s.2.2.1) k hk
    (fun self s => slices_DeleteFunc_api_Pair_L0T N x.2.1 (fun o0_5 o0_w0 => k (.exit 0) (slices_DeleteFunc_api_Pair_L0_tl0 x.2.1 o0_5 o0_w0)) (fun s5 s6 w0_1 => self (s5, s6, w0_1, ())) s.1 s.2.1 s.2.2.1) (fun n s => slices_DeleteFunc_api_Pair_L0 N x.2.1 (fun o0_5 o0_w0 => k (.exit 0) (slices_DeleteFunc_api_Pair_L0_tl0 x.2.1 o0_5 o0_w0)) n s.1 s.2.1 s.2.2.1) (fun _ => rfl) (fun _ _ => rfl)
    (fun I s => slices_DeleteFunc_api_Pair_L0_step N x.2.1 (fun j => k (.exit j)) I s.1 s.2.1 s.2.2.1) N (x.2.2.1, x.2.2.2.1, y.1, ())
theorem slices_DeleteFunc_api_Pair_lp0 (N : Nat) : ∀ st k, (∀ st, k .ret st = (resD (slices_DeleteFunc_api_Pair_E N) Tryz.f94 (slices_DeleteFunc_api_Pair_sg fun x y => slices_DeleteFunc_api_Pair N x.2.1 y.1) slices_DeleteFunc_api_Pair_pk) st) → slices_DeleteFunc_api_Pair_LP N 0 (cAt (bodyOf Tryz.f94) [true, true, true, false, true, false, false]) st k = iter (Env.hint (slices_DeleteFunc_api_Pair_E N) 0) (exec (slices_DeleteFunc_api_Pair_E N) N (cAt (bodyOf Tryz.f94) [true, true, true, false, true, false, false]) 0) N st k := fun st k hk => LPc_eq 42 slices_DeleteFunc_api_Pair_L0_fs slices_DeleteFunc_api_Pair_L0_bs _ _ (resD (slices_DeleteFunc_api_Pair_E N) Tryz.f94 (slices_DeleteFunc_api_Pair_sg fun x y => slices_DeleteFunc_api_Pair N x.2.1 y.1) slices_DeleteFunc_api_Pair_pk) (slices_DeleteFunc_api_Pair_L0_ok N) _ st k hk (rfl)
theorem slices_DeleteFunc_api_Pair_core (N : Nat) (x : SV [.row 0, .v (.clo 95 (.pr (.ptr .str) .un))]) (y : BV [.row 53 (.pr .str .str) true]) : runL (slices_DeleteFunc_api_Pair_E N) Tryz.f94 (slices_DeleteFunc_api_Pair_sg fun x y => slices_DeleteFunc_api_Pair N x.2.1 y.1) slices_DeleteFunc_api_Pair_pk (slices_DeleteFunc_api_Pair_LP N) x y = slices_DeleteFunc_api_Pair N x.2.1 y.1 := by kernel_rfl
theorem slices_DeleteFunc_api_Pair_sound (N : Nat) : Sound Tryz.prog GW B0G 94 (slices_DeleteFunc_api_Pair_sg fun x y => slices_DeleteFunc_api_Pair N x.2.1 y.1) :=
  runD_sound (mkE_ok slices_DeleteFunc_api_Pair_h (slices_DeleteFunc_api_Pair_fn N) _ _ (slices_DeleteFunc_api_Pair_fn_ok N)) Tryz.func94 rfl Tryz.call94 (slices_DeleteFunc_api_Pair_sg fun x y => slices_DeleteFunc_api_Pair N x.2.1 y.1) slices_DeleteFunc_api_Pair_pk (fun _ _ => rfl) N (fun x y _ h => ((runL_eq (slices_DeleteFunc_api_Pair_E N) N Tryz.f94 (slices_DeleteFunc_api_Pair_sg fun x y => slices_DeleteFunc_api_Pair N x.2.1 y.1) slices_DeleteFunc_api_Pair_pk (slices_DeleteFunc_api_Pair_LP N) (show LoopsOk (slices_DeleteFunc_api_Pair_LP N) (slices_DeleteFunc_api_Pair_E N) N (resD (slices_DeleteFunc_api_Pair_E N) Tryz.f94 (slices_DeleteFunc_api_Pair_sg fun x y => slices_DeleteFunc_api_Pair N x.2.1 y.1) slices_DeleteFunc_api_Pair_pk) [(0, (cAt (bodyOf Tryz.f94) [true, true, true, false, true, false, false]))] from ⟨slices_DeleteFunc_api_Pair_lp0 N, trivial⟩) x y).trans (slices_DeleteFunc_api_Pair_core N x y)).trans h)
end
end Go.Proofs.YtbekhaioddmliaaGreatDoor

