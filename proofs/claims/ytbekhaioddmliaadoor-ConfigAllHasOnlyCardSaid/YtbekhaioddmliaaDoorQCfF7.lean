/- What functions of the program compute, as plain functions (printed). -/
import Derived.Test.YtbekhaioddmliaaDoorQCfF6
namespace Go.Proofs.YtbekhaioddmliaaDoor
open Go Go.RowKit
set_option maxRecDepth 100000
set_option linter.unusedVariables false
noncomputable section
def slices_IndexFunc_api_Pair_L0T (N : Nat) (x0 : List (Str × Str)) (x1 : Str × Unit) (c7 : Int) (k0 : Option Int) (self : Int → Option Int) (s8 : Int) : Option Int :=
  br (decide (s8 < c7))
    (bnd (geti x0 s8) fun t14 =>
    bnd (config_with_1 N t14 x1.1) fun t16 =>
    br (t16)
      (some s8)
      (self (IntKind.i64.wrap (s8 + (1 : Int)))))
    (k0)
def slices_IndexFunc_api_Pair_L0 (N : Nat) (x0 : List (Str × Str)) (x1 : Str × Unit) (c7 : Int) (k0 : Option Int) : Nat → Int → Option Int
  | 0, _ => none
  | n + 1, s8 => slices_IndexFunc_api_Pair_L0T N x0 x1 c7 k0 (slices_IndexFunc_api_Pair_L0 N x0 x1 c7 k0 n) s8
def slices_IndexFunc_api_Pair (N : Nat) (x0 : List (Str × Str)) (x1 : Str × Unit) : Option Int :=
  slices_IndexFunc_api_Pair_L0 N x0 x1 (x0.length : Int) (some (-1 : Int)) N (0 : Int)
abbrev slices_IndexFunc_api_Pair_sg (f : SV [.v (.sl (.pr .str .str)), .v (.clo 106 (.pr (.ptr .str) .un))] → BV [] → Option (Int)) : AF := { ps := [.v (.sl (.pr .str .str)), .v (.clo 106 (.pr (.ptr .str) .un))], bs := [], rs := [.v (.int .i64)], cs := [], R := Int, out := fun z => ((z, ()), ()), f := f }
abbrev slices_IndexFunc_api_Pair_pk : SV [.v (.int .i64)] → BV [] → Int := fun x _ => x.1
def slices_IndexFunc_api_Pair_fn (N : Nat) : FuncId → Option Tmp → Option AF := fun f _ =>
  match f with
    | 106 => some (config_with_1_sg fun x _ => config_with_1 N x.1 x.2.1)
    | _ => none
theorem slices_IndexFunc_api_Pair_fn_ok (N : Nat) : ∀ f q F, slices_IndexFunc_api_Pair_fn N f q = some F → Sound Tryd.prog GW B0G f F := by
  intro f q F h
  unfold slices_IndexFunc_api_Pair_fn at h
  split at h
  · cases h; exact config_with_1_sound N
  · cases h
def slices_IndexFunc_api_Pair_h : Nat → Hint := fun i =>
  match i with
  | 0 => ⟨[], [0, 1, 7, 8], [], [], []⟩
  | _ => ⟨[], [], [], [], []⟩
abbrev slices_IndexFunc_api_Pair_E (N : Nat) : Env := mkE slices_IndexFunc_api_Pair_h (slices_IndexFunc_api_Pair_fn N) (fun _ => false) (fun _ => false)
abbrev slices_IndexFunc_api_Pair_L0_fs : List (Nat × Sl) := [(0, .v (.sl (.pr .str .str))), (1, .v (.clo 106 (.pr (.ptr .str) .un))), (7, .v (.int .i64)), (8, .v (.int .i64))]
abbrev slices_IndexFunc_api_Pair_L0_bs : List (Nat × Sb) := []
def slices_IndexFunc_api_Pair_L0_hd (x0 : List (Str × Str)) (x1 : Str × Unit) (c7 : Int) (s8 : Int) : St := ⟨19, [(0, .v (.sl (.pr .str .str)) x0), (1, .v (.clo 106 (.pr (.ptr .str) .un)) x1), (7, .v (.int .i64) c7), (8, .v (.int .i64) s8)], []⟩
def slices_IndexFunc_api_Pair_L0_tl0 (_x0 : List (Str × Str)) (_x1 : Str × Unit) (_c7 : Int) : St := ⟨19, [], []⟩
def slices_IndexFunc_api_Pair_L0_G (N : Nat) (x0 : List (Str × Str)) (x1 : Str × Unit) (c7 : Int) (s8 : Int) (k : Ex → St → Option Int) : Option Int :=
  slices_IndexFunc_api_Pair_L0 N x0 x1 c7 (k (.exit 0) (slices_IndexFunc_api_Pair_L0_tl0 x0 x1 c7)) N s8
abbrev slices_IndexFunc_api_Pair_L0_F (N : Nat) : FV slices_IndexFunc_api_Pair_L0_fs → HV slices_IndexFunc_api_Pair_L0_bs → (Ex → St → Option Int) → Option Int := fun x _ k => slices_IndexFunc_api_Pair_L0_G N x.1 x.2.1 x.2.2.1 x.2.2.2.1 k
noncomputable def slices_IndexFunc_api_Pair_LP (N : Nat) : Nat → Code → St → (Ex → St → Option Int) → Option Int := fun i c =>
  match i with
  | 0 => (LPc 19 slices_IndexFunc_api_Pair_L0_fs slices_IndexFunc_api_Pair_L0_bs (slices_IndexFunc_api_Pair_L0_F N) (fun st k => iter (slices_IndexFunc_api_Pair_h 0) (exec (slices_IndexFunc_api_Pair_E N) N c 0) N st k))
  | i => fun st k => iter (slices_IndexFunc_api_Pair_h i) (exec (slices_IndexFunc_api_Pair_E N) N c i) N st k
theorem slices_IndexFunc_api_Pair_L0_step (N : Nat) (x0 : List (Str × Str)) (x1 : Str × Unit) (c7 : Int) (KX : Nat → St → Option Int) (I : St → Option Int) (s8 : Int) :
    execL (slices_IndexFunc_api_Pair_LP N) (slices_IndexFunc_api_Pair_E N) (cAt (bodyOf Tryd.f111) [true, false, true, false, false]) 0 (slices_IndexFunc_api_Pair_L0_hd x0 x1 c7 s8) (roundK (slices_IndexFunc_api_Pair_h 0) I KX (resD (slices_IndexFunc_api_Pair_E N) Tryd.f111 (slices_IndexFunc_api_Pair_sg fun x _ => slices_IndexFunc_api_Pair N x.1 x.2.1) slices_IndexFunc_api_Pair_pk)) = slices_IndexFunc_api_Pair_L0T N x0 x1 c7 (KX 0 (slices_IndexFunc_api_Pair_L0_tl0 x0 x1 c7)) (fun s8 => I (slices_IndexFunc_api_Pair_L0_hd x0 x1 c7 s8)) s8 := by kernel_rfl
theorem slices_IndexFunc_api_Pair_L0_ok (N : Nat) : ∀ x y k, (∀ st, k .ret st = (resD (slices_IndexFunc_api_Pair_E N) Tryd.f111 (slices_IndexFunc_api_Pair_sg fun x _ => slices_IndexFunc_api_Pair N x.1 x.2.1) slices_IndexFunc_api_Pair_pk) st) → iter (slices_IndexFunc_api_Pair_h 0) (exec (slices_IndexFunc_api_Pair_E N) N (cAt (bodyOf Tryd.f111) [true, false, true, false, false]) 0) N ⟨19, unF slices_IndexFunc_api_Pair_L0_fs x, unH slices_IndexFunc_api_Pair_L0_bs y⟩ k = slices_IndexFunc_api_Pair_L0_F N x y k := fun x _ k hk =>
  iter_link (S := (Int) × Unit) (slices_IndexFunc_api_Pair_h 0) _ (execL (slices_IndexFunc_api_Pair_LP N) (slices_IndexFunc_api_Pair_E N) (cAt (bodyOf Tryd.f111) [true, false, true, false, false]) 0) (resD (slices_IndexFunc_api_Pair_E N) Tryd.f111 (slices_IndexFunc_api_Pair_sg fun x _ => slices_IndexFunc_api_Pair N x.1 x.2.1) slices_IndexFunc_api_Pair_pk) (fun st k hk => execL_eq _ _ N _ (cAt (bodyOf Tryd.f111) [true, false, true, false, false]) 0 (show LoopsOk (slices_IndexFunc_api_Pair_LP N) (slices_IndexFunc_api_Pair_E N) N (resD (slices_IndexFunc_api_Pair_E N) Tryd.f111 (slices_IndexFunc_api_Pair_sg fun x _ => slices_IndexFunc_api_Pair N x.1 x.2.1) slices_IndexFunc_api_Pair_pk) [] from trivial) st k hk) (fun s => slices_IndexFunc_api_Pair_L0_hd x.1 x.2.1 x.2.2.1 s.1) k hk
    (fun self s => slices_IndexFunc_api_Pair_L0T N x.1 x.2.1 x.2.2.1 (k (.exit 0) (slices_IndexFunc_api_Pair_L0_tl0 x.1 x.2.1 x.2.2.1)) (fun s8 => self (s8, ())) s.1) (fun n s => slices_IndexFunc_api_Pair_L0 N x.1 x.2.1 x.2.2.1 (k (.exit 0) (slices_IndexFunc_api_Pair_L0_tl0 x.1 x.2.1 x.2.2.1)) n s.1) (fun _ => rfl) (fun _ _ => rfl)
    (fun I s => slices_IndexFunc_api_Pair_L0_step N x.1 x.2.1 x.2.2.1 (fun j => k (.exit j)) I s.1) N (x.2.2.2.1, ())
theorem slices_IndexFunc_api_Pair_lp0 (N : Nat) : ∀ st k, (∀ st, k .ret st = (resD (slices_IndexFunc_api_Pair_E N) Tryd.f111 (slices_IndexFunc_api_Pair_sg fun x _ => slices_IndexFunc_api_Pair N x.1 x.2.1) slices_IndexFunc_api_Pair_pk) st) → slices_IndexFunc_api_Pair_LP N 0 (cAt (bodyOf Tryd.f111) [true, false, true, false, false]) st k = iter (Env.hint (slices_IndexFunc_api_Pair_E N) 0) (exec (slices_IndexFunc_api_Pair_E N) N (cAt (bodyOf Tryd.f111) [true, false, true, false, false]) 0) N st k := fun st k hk => LPc_eq 19 slices_IndexFunc_api_Pair_L0_fs slices_IndexFunc_api_Pair_L0_bs _ _ (resD (slices_IndexFunc_api_Pair_E N) Tryd.f111 (slices_IndexFunc_api_Pair_sg fun x _ => slices_IndexFunc_api_Pair N x.1 x.2.1) slices_IndexFunc_api_Pair_pk) (slices_IndexFunc_api_Pair_L0_ok N) _ st k hk (rfl)
theorem slices_IndexFunc_api_Pair_core (N : Nat) (x : SV [.v (.sl (.pr .str .str)), .v (.clo 106 (.pr (.ptr .str) .un))]) (y : BV []) : runL (slices_IndexFunc_api_Pair_E N) Tryd.f111 (slices_IndexFunc_api_Pair_sg fun x _ => slices_IndexFunc_api_Pair N x.1 x.2.1) slices_IndexFunc_api_Pair_pk (slices_IndexFunc_api_Pair_LP N) x y = slices_IndexFunc_api_Pair N x.1 x.2.1 := by kernel_rfl
theorem slices_IndexFunc_api_Pair_sound (N : Nat) : Sound Tryd.prog GW B0G 111 (slices_IndexFunc_api_Pair_sg fun x _ => slices_IndexFunc_api_Pair N x.1 x.2.1) :=
  runD_sound (mkE_ok slices_IndexFunc_api_Pair_h (slices_IndexFunc_api_Pair_fn N) _ _ (slices_IndexFunc_api_Pair_fn_ok N)) Tryd.func111 rfl Tryd.call111 (slices_IndexFunc_api_Pair_sg fun x _ => slices_IndexFunc_api_Pair N x.1 x.2.1) slices_IndexFunc_api_Pair_pk (fun _ _ => rfl) N (fun x y _ h => ((runL_eq (slices_IndexFunc_api_Pair_E N) N Tryd.f111 (slices_IndexFunc_api_Pair_sg fun x _ => slices_IndexFunc_api_Pair N x.1 x.2.1) slices_IndexFunc_api_Pair_pk (slices_IndexFunc_api_Pair_LP N) (show LoopsOk (slices_IndexFunc_api_Pair_LP N) (slices_IndexFunc_api_Pair_E N) N (resD (slices_IndexFunc_api_Pair_E N) Tryd.f111 (slices_IndexFunc_api_Pair_sg fun x _ => slices_IndexFunc_api_Pair N x.1 x.2.1) slices_IndexFunc_api_Pair_pk) [(0, (cAt (bodyOf Tryd.f111) [true, false, true, false, false]))] from ⟨slices_IndexFunc_api_Pair_lp0 N, trivial⟩) x y).trans (slices_IndexFunc_api_Pair_core N x y)).trans h)
def slices_DeleteFunc_api_Pair_L0T (N : Nat) (x1 : Str × Unit) (k0 : Int → (List (Str × Str)) → Option (List (Str × Str))) (self : Int → Int → (List (Str × Str)) → Option (List (Str × Str))) (s5 : Int) (s6 : Int) (w0_1 : List (Str × Str)) : Option (List (Str × Str)) :=
  br (decide (s6 < (w0_1.length : Int)))
    (br (decide (0 ≤ s6 ∧ s6 < (w0_1.length : Int)))
      (bnd (geti w0_1 s6) fun t25 =>
      bnd (config_with_1 N t25 x1.1) fun t28 =>
      br (!t28)
        (br (decide (0 ≤ s5 ∧ s5 < (w0_1.length : Int)))
          (bnd (geti w0_1 s5) fun _ =>
          self (IntKind.i64.wrap (s5 + (1 : Int))) (IntKind.i64.wrap (s6 + (1 : Int))) (seti w0_1 s5 t25))
          none)
        (self s5 (IntKind.i64.wrap (s6 + (1 : Int))) w0_1))
      none)
    (k0 s5 w0_1)
def slices_DeleteFunc_api_Pair_L0 (N : Nat) (x1 : Str × Unit) (k0 : Int → (List (Str × Str)) → Option (List (Str × Str))) : Nat → Int → Int → (List (Str × Str)) → Option (List (Str × Str))
  | 0, _, _, _ => none
  | n + 1, s5, s6, w0_1 => slices_DeleteFunc_api_Pair_L0T N x1 k0 (slices_DeleteFunc_api_Pair_L0 N x1 k0 n) s5 s6 w0_1
def slices_DeleteFunc_api_Pair (N : Nat) (x1 : Str × Unit) (w0 : List (Str × Str)) : Option (List (Str × Str)) :=
  bnd (slices_IndexFunc_api_Pair N w0 x1) fun t10 =>
  br (t10 == (-1 : Int))
    (some w0)
    (slices_DeleteFunc_api_Pair_L0 N x1 (fun o0_5 o0_w0 =>
        br (decide (0 ≤ o0_5 ∧ o0_5 ≤ (o0_w0.length : Int) ∧ 0 < o0_w0.length))
          (br (decide (0 ≤ o0_5 ∧ o0_5 ≤ ((clr o0_w0 o0_5 (zero (.pr .str .str))).length : Int)))
            (some (cut (clr o0_w0 o0_5 (zero (.pr .str .str))) o0_5))
            none)
          none) N t10 (IntKind.i64.wrap (t10 + (1 : Int))) w0)
abbrev slices_DeleteFunc_api_Pair_sg (f : SV [.row 0, .v (.clo 106 (.pr (.ptr .str) .un))] → BV [.row 60 (.pr .str .str) true] → Option (List (Str × Str))) : AF := { ps := [.row 0, .v (.clo 106 (.pr (.ptr .str) .un))], bs := [.row 60 (.pr .str .str) true], rs := [.row 0], cs := [.row 60 (.pr .str .str) true], R := List (Str × Str), out := fun z => (((), ()), (z, ())), f := f }
abbrev slices_DeleteFunc_api_Pair_pk : SV [.row 0] → BV [.row 60 (.pr .str .str) true] → (List (Str × Str)) := fun _ y => y.1
def slices_DeleteFunc_api_Pair_fn (N : Nat) : FuncId → Option Tmp → Option AF := fun f _ =>
  match f with
    | 106 => some (config_with_1_sg fun x _ => config_with_1 N x.1 x.2.1)
    | 111 => some (slices_IndexFunc_api_Pair_sg fun x _ => slices_IndexFunc_api_Pair N x.1 x.2.1)
    | _ => none
theorem slices_DeleteFunc_api_Pair_fn_ok (N : Nat) : ∀ f q F, slices_DeleteFunc_api_Pair_fn N f q = some F → Sound Tryd.prog GW B0G f F := by
  intro f q F h
  unfold slices_DeleteFunc_api_Pair_fn at h
  split at h
  · cases h; exact config_with_1_sound N
  · cases h; exact slices_IndexFunc_api_Pair_sound N
  · cases h
def slices_DeleteFunc_api_Pair_h : Nat → Hint := fun i =>
  match i with
  | 0 => ⟨[], [0, 1, 5, 6], [0], [0, 5], [0]⟩
  | _ => ⟨[], [], [], [], []⟩
abbrev slices_DeleteFunc_api_Pair_E (N : Nat) : Env := mkE slices_DeleteFunc_api_Pair_h (slices_DeleteFunc_api_Pair_fn N) (fun i => match i with | 4 => true | _ => false) (fun _ => false)
abbrev slices_DeleteFunc_api_Pair_L0_fs : List (Nat × Sl) := [(0, .row 0), (1, .v (.clo 106 (.pr (.ptr .str) .un))), (5, .v (.int .i64)), (6, .v (.int .i64))]
abbrev slices_DeleteFunc_api_Pair_L0_bs : List (Nat × Sb) := [(0, .row 60 (.pr .str .str) true)]
def slices_DeleteFunc_api_Pair_L0_hd (x1 : Str × Unit) (s5 : Int) (s6 : Int) (w0_1 : List (Str × Str)) : St := ⟨42, [(0, .row 0), (1, .v (.clo 106 (.pr (.ptr .str) .un)) x1), (5, .v (.int .i64) s5), (6, .v (.int .i64) s6)], [(0, .row 60 (.pr .str .str) true w0_1)]⟩
def slices_DeleteFunc_api_Pair_L0_tl0 (_x1 : Str × Unit) (o0_5 : Int) (o0_w0 : List (Str × Str)) : St := ⟨42, [(0, .row 0), (5, .v (.int .i64) o0_5)], [(0, .row 60 (.pr .str .str) true o0_w0)]⟩
def slices_DeleteFunc_api_Pair_L0_G (N : Nat) (x1 : Str × Unit) (s5 : Int) (s6 : Int) (w0_1 : List (Str × Str)) (k : Ex → St → Option (List (Str × Str))) : Option (List (Str × Str)) :=
  slices_DeleteFunc_api_Pair_L0 N x1 (fun o0_5 o0_w0 => k (.exit 0) (slices_DeleteFunc_api_Pair_L0_tl0 x1 o0_5 o0_w0)) N s5 s6 w0_1
abbrev slices_DeleteFunc_api_Pair_L0_F (N : Nat) : FV slices_DeleteFunc_api_Pair_L0_fs → HV slices_DeleteFunc_api_Pair_L0_bs → (Ex → St → Option (List (Str × Str))) → Option (List (Str × Str)) := fun x y k => slices_DeleteFunc_api_Pair_L0_G N x.2.1 x.2.2.1 x.2.2.2.1 y.1 k
noncomputable def slices_DeleteFunc_api_Pair_LP (N : Nat) : Nat → Code → St → (Ex → St → Option (List (Str × Str))) → Option (List (Str × Str)) := fun i c =>
  match i with
  | 0 => (LPc 42 slices_DeleteFunc_api_Pair_L0_fs slices_DeleteFunc_api_Pair_L0_bs (slices_DeleteFunc_api_Pair_L0_F N) (fun st k => iter (slices_DeleteFunc_api_Pair_h 0) (exec (slices_DeleteFunc_api_Pair_E N) N c 0) N st k))
  | i => fun st k => iter (slices_DeleteFunc_api_Pair_h i) (exec (slices_DeleteFunc_api_Pair_E N) N c i) N st k
theorem slices_DeleteFunc_api_Pair_L0_step (N : Nat) (x1 : Str × Unit) (KX : Nat → St → Option (List (Str × Str))) (I : St → Option (List (Str × Str))) (s5 : Int) (s6 : Int) (w0_1 : List (Str × Str)) :
    execL (slices_DeleteFunc_api_Pair_LP N) (slices_DeleteFunc_api_Pair_E N) (cAt (bodyOf Tryd.f78) [true, true, true, false, true, false, false]) 0 (slices_DeleteFunc_api_Pair_L0_hd x1 s5 s6 w0_1) (roundK (slices_DeleteFunc_api_Pair_h 0) I KX (resD (slices_DeleteFunc_api_Pair_E N) Tryd.f78 (slices_DeleteFunc_api_Pair_sg fun x y => slices_DeleteFunc_api_Pair N x.2.1 y.1) slices_DeleteFunc_api_Pair_pk)) = slices_DeleteFunc_api_Pair_L0T N x1 (fun o0_5 o0_w0 => KX 0 (slices_DeleteFunc_api_Pair_L0_tl0 x1 o0_5 o0_w0)) (fun s5 s6 w0_1 => I (slices_DeleteFunc_api_Pair_L0_hd x1 s5 s6 w0_1)) s5 s6 w0_1 := by kernel_rfl
theorem slices_DeleteFunc_api_Pair_L0_ok (N : Nat) : ∀ x y k, (∀ st, k .ret st = (resD (slices_DeleteFunc_api_Pair_E N) Tryd.f78 (slices_DeleteFunc_api_Pair_sg fun x y => slices_DeleteFunc_api_Pair N x.2.1 y.1) slices_DeleteFunc_api_Pair_pk) st) → iter (slices_DeleteFunc_api_Pair_h 0) (exec (slices_DeleteFunc_api_Pair_E N) N (cAt (bodyOf Tryd.f78) [true, true, true, false, true, false, false]) 0) N ⟨42, unF slices_DeleteFunc_api_Pair_L0_fs x, unH slices_DeleteFunc_api_Pair_L0_bs y⟩ k = slices_DeleteFunc_api_Pair_L0_F N x y k := fun x y k hk =>
  iter_link (S := (Int) × (Int) × (List (Str × Str)) × Unit) (slices_DeleteFunc_api_Pair_h 0) _ (execL (slices_DeleteFunc_api_Pair_LP N) (slices_DeleteFunc_api_Pair_E N) (cAt (bodyOf Tryd.f78) [true, true, true, false, true, false, false]) 0) (resD (slices_DeleteFunc_api_Pair_E N) Tryd.f78 (slices_DeleteFunc_api_Pair_sg fun x y => slices_DeleteFunc_api_Pair N x.2.1 y.1) slices_DeleteFunc_api_Pair_pk) (fun st k hk => execL_eq _ _ N _ (cAt (bodyOf Tryd.f78) [true, true, true, false, true, false, false]) 0 (show LoopsOk (slices_DeleteFunc_api_Pair_LP N) (slices_DeleteFunc_api_Pair_E N) N (resD (slices_DeleteFunc_api_Pair_E N) Tryd.f78 (slices_DeleteFunc_api_Pair_sg fun x y => slices_DeleteFunc_api_Pair N x.2.1 y.1) slices_DeleteFunc_api_Pair_pk) [] from trivial) st k hk) (fun s => slices_DeleteFunc_api_Pair_L0_hd x.2.1 s.1 s.2.1 s.2.2.1) k hk
    (fun self s => slices_DeleteFunc_api_Pair_L0T N x.2.1 (fun o0_5 o0_w0 => k (.exit 0) (slices_DeleteFunc_api_Pair_L0_tl0 x.2.1 o0_5 o0_w0)) (fun s5 s6 w0_1 => self (s5, s6, w0_1, ())) s.1 s.2.1 s.2.2.1) (fun n s => slices_DeleteFunc_api_Pair_L0 N x.2.1 (fun o0_5 o0_w0 => k (.exit 0) (slices_DeleteFunc_api_Pair_L0_tl0 x.2.1 o0_5 o0_w0)) n s.1 s.2.1 s.2.2.1) (fun _ => rfl) (fun _ _ => rfl)
    (fun I s => slices_DeleteFunc_api_Pair_L0_step N x.2.1 (fun j => k (.exit j)) I s.1 s.2.1 s.2.2.1) N (x.2.2.1, x.2.2.2.1, y.1, ())
theorem slices_DeleteFunc_api_Pair_lp0 (N : Nat) : ∀ st k, (∀ st, k .ret st = (resD (slices_DeleteFunc_api_Pair_E N) Tryd.f78 (slices_DeleteFunc_api_Pair_sg fun x y => slices_DeleteFunc_api_Pair N x.2.1 y.1) slices_DeleteFunc_api_Pair_pk) st) → slices_DeleteFunc_api_Pair_LP N 0 (cAt (bodyOf Tryd.f78) [true, true, true, false, true, false, false]) st k = iter (Env.hint (slices_DeleteFunc_api_Pair_E N) 0) (exec (slices_DeleteFunc_api_Pair_E N) N (cAt (bodyOf Tryd.f78) [true, true, true, false, true, false, false]) 0) N st k := fun st k hk => LPc_eq 42 slices_DeleteFunc_api_Pair_L0_fs slices_DeleteFunc_api_Pair_L0_bs _ _ (resD (slices_DeleteFunc_api_Pair_E N) Tryd.f78 (slices_DeleteFunc_api_Pair_sg fun x y => slices_DeleteFunc_api_Pair N x.2.1 y.1) slices_DeleteFunc_api_Pair_pk) (slices_DeleteFunc_api_Pair_L0_ok N) _ st k hk (rfl)
theorem slices_DeleteFunc_api_Pair_core (N : Nat) (x : SV [.row 0, .v (.clo 106 (.pr (.ptr .str) .un))]) (y : BV [.row 60 (.pr .str .str) true]) : runL (slices_DeleteFunc_api_Pair_E N) Tryd.f78 (slices_DeleteFunc_api_Pair_sg fun x y => slices_DeleteFunc_api_Pair N x.2.1 y.1) slices_DeleteFunc_api_Pair_pk (slices_DeleteFunc_api_Pair_LP N) x y = slices_DeleteFunc_api_Pair N x.2.1 y.1 := by kernel_rfl
theorem slices_DeleteFunc_api_Pair_sound (N : Nat) : Sound Tryd.prog GW B0G 78 (slices_DeleteFunc_api_Pair_sg fun x y => slices_DeleteFunc_api_Pair N x.2.1 y.1) :=
  runD_sound (mkE_ok slices_DeleteFunc_api_Pair_h (slices_DeleteFunc_api_Pair_fn N) _ _ (slices_DeleteFunc_api_Pair_fn_ok N)) Tryd.func78 rfl Tryd.call78 (slices_DeleteFunc_api_Pair_sg fun x y => slices_DeleteFunc_api_Pair N x.2.1 y.1) slices_DeleteFunc_api_Pair_pk (fun _ _ => rfl) N (fun x y _ h => ((runL_eq (slices_DeleteFunc_api_Pair_E N) N Tryd.f78 (slices_DeleteFunc_api_Pair_sg fun x y => slices_DeleteFunc_api_Pair N x.2.1 y.1) slices_DeleteFunc_api_Pair_pk (slices_DeleteFunc_api_Pair_LP N) (show LoopsOk (slices_DeleteFunc_api_Pair_LP N) (slices_DeleteFunc_api_Pair_E N) N (resD (slices_DeleteFunc_api_Pair_E N) Tryd.f78 (slices_DeleteFunc_api_Pair_sg fun x y => slices_DeleteFunc_api_Pair N x.2.1 y.1) slices_DeleteFunc_api_Pair_pk) [(0, (cAt (bodyOf Tryd.f78) [true, true, true, false, true, false, false]))] from ⟨slices_DeleteFunc_api_Pair_lp0 N, trivial⟩) x y).trans (slices_DeleteFunc_api_Pair_core N x y)).trans h)
def slices_BinarySearchFunc_api_Pair_string_L0T (N : Nat) (x0 : List (Str × Str)) (x1 : Str) (k0 : Int → Option (Int × Bool)) (self : Int → Int → Option (Int × Bool)) (s9 : Int) (s10 : Int) : Option (Int × Bool) :=
  br (decide (s9 < s10))
    (br (decide (0 ≤ (1 : Int)))
      (bnd (geti x0 (IntKind.i64.wrap (shrI .u64 (IntKind.u64.wrap (IntKind.i64.wrap (s9 + s10))) (1 : Int)))) fun t27 =>
      bnd (config_with_2 N t27 x1) fun t30 =>
      br (decide (t30 < (0 : Int)))
        (self (IntKind.i64.wrap ((IntKind.i64.wrap (shrI .u64 (IntKind.u64.wrap (IntKind.i64.wrap (s9 + s10))) (1 : Int))) + (1 : Int))) s10)
        (self s9 (IntKind.i64.wrap (shrI .u64 (IntKind.u64.wrap (IntKind.i64.wrap (s9 + s10))) (1 : Int)))))
      none)
    (k0 s9)
def slices_BinarySearchFunc_api_Pair_string_L0 (N : Nat) (x0 : List (Str × Str)) (x1 : Str) (k0 : Int → Option (Int × Bool)) : Nat → Int → Int → Option (Int × Bool)
  | 0, _, _ => none
  | n + 1, s9, s10 => slices_BinarySearchFunc_api_Pair_string_L0T N x0 x1 k0 (slices_BinarySearchFunc_api_Pair_string_L0 N x0 x1 k0 n) s9 s10
def slices_BinarySearchFunc_api_Pair_string (N : Nat) (x0 : List (Str × Str)) (x1 : Str) (_x2 : Unit) : Option (Int × Bool) :=
  slices_BinarySearchFunc_api_Pair_string_L0 N x0 x1 (fun o0_9 =>
      br (decide (o0_9 < (x0.length : Int)))
        (bnd (geti x0 o0_9) fun t43 =>
        bnd (config_with_2 N t43 x1) fun t46 =>
        some (o0_9, t46 == (0 : Int)))
        (some (o0_9, false))) N (0 : Int) (x0.length : Int)
abbrev slices_BinarySearchFunc_api_Pair_string_sg (f : SV [.v (.sl (.pr .str .str)), .v .str, .v (.clo 108 .un)] → BV [] → Option (Int × Bool)) : AF := { ps := [.v (.sl (.pr .str .str)), .v .str, .v (.clo 108 .un)], bs := [], rs := [.v (.int .i64), .v .bool], cs := [], R := Int × Bool, out := fun z => ((z.1, z.2, ()), ()), f := f }
abbrev slices_BinarySearchFunc_api_Pair_string_pk : SV [.v (.int .i64), .v .bool] → BV [] → (Int × Bool) := fun x _ => (x.1, x.2.1)
def slices_BinarySearchFunc_api_Pair_string_fn (N : Nat) : FuncId → Option Tmp → Option AF := fun f _ =>
  match f with
    | 108 => some (config_with_2_sg fun x _ => config_with_2 N x.1 x.2.1)
    | _ => none
theorem slices_BinarySearchFunc_api_Pair_string_fn_ok (N : Nat) : ∀ f q F, slices_BinarySearchFunc_api_Pair_string_fn N f q = some F → Sound Tryd.prog GW B0G f F := by
  intro f q F h
  unfold slices_BinarySearchFunc_api_Pair_string_fn at h
  split at h
  · cases h; exact config_with_2_sound N
  · cases h
def slices_BinarySearchFunc_api_Pair_string_h : Nat → Hint := fun i =>
  match i with
  | 0 => ⟨[], [0, 1, 2, 8, 9, 10], [], [0, 1, 2, 8, 9], []⟩
  | _ => ⟨[], [], [], [], []⟩
abbrev slices_BinarySearchFunc_api_Pair_string_E (N : Nat) : Env := mkE slices_BinarySearchFunc_api_Pair_string_h (slices_BinarySearchFunc_api_Pair_string_fn N) (fun _ => false) (fun _ => false)
abbrev slices_BinarySearchFunc_api_Pair_string_L0_fs : List (Nat × Sl) := [(0, .v (.sl (.pr .str .str))), (1, .v .str), (2, .v (.clo 108 .un)), (8, .v (.int .i64)), (9, .v (.int .i64)), (10, .v (.int .i64))]
abbrev slices_BinarySearchFunc_api_Pair_string_L0_bs : List (Nat × Sb) := []
def slices_BinarySearchFunc_api_Pair_string_L0_hd (x0 : List (Str × Str)) (x1 : Str) (x2 : Unit) (c8 : Int) (s9 : Int) (s10 : Int) : St := ⟨49, [(0, .v (.sl (.pr .str .str)) x0), (1, .v .str x1), (2, .v (.clo 108 .un) x2), (8, .v (.int .i64) c8), (9, .v (.int .i64) s9), (10, .v (.int .i64) s10)], []⟩
def slices_BinarySearchFunc_api_Pair_string_L0_tl0 (x0 : List (Str × Str)) (x1 : Str) (x2 : Unit) (c8 : Int) (o0_9 : Int) : St := ⟨49, [(0, .v (.sl (.pr .str .str)) x0), (1, .v .str x1), (2, .v (.clo 108 .un) x2), (8, .v (.int .i64) c8), (9, .v (.int .i64) o0_9)], []⟩
def slices_BinarySearchFunc_api_Pair_string_L0_G (N : Nat) (x0 : List (Str × Str)) (x1 : Str) (x2 : Unit) (c8 : Int) (s9 : Int) (s10 : Int) (k : Ex → St → Option (Int × Bool)) : Option (Int × Bool) :=
  slices_BinarySearchFunc_api_Pair_string_L0 N x0 x1 (fun o0_9 => k (.exit 0) (slices_BinarySearchFunc_api_Pair_string_L0_tl0 x0 x1 x2 c8 o0_9)) N s9 s10
abbrev slices_BinarySearchFunc_api_Pair_string_L0_F (N : Nat) : FV slices_BinarySearchFunc_api_Pair_string_L0_fs → HV slices_BinarySearchFunc_api_Pair_string_L0_bs → (Ex → St → Option (Int × Bool)) → Option (Int × Bool) := fun x _ k => slices_BinarySearchFunc_api_Pair_string_L0_G N x.1 x.2.1 x.2.2.1 x.2.2.2.1 x.2.2.2.2.1 x.2.2.2.2.2.1 k
noncomputable def slices_BinarySearchFunc_api_Pair_string_LP (N : Nat) : Nat → Code → St → (Ex → St → Option (Int × Bool)) → Option (Int × Bool) := fun i c =>
  match i with
  | 0 => (LPc 49 slices_BinarySearchFunc_api_Pair_string_L0_fs slices_BinarySearchFunc_api_Pair_string_L0_bs (slices_BinarySearchFunc_api_Pair_string_L0_F N) (fun st k => iter (slices_BinarySearchFunc_api_Pair_string_h 0) (exec (slices_BinarySearchFunc_api_Pair_string_E N) N c 0) N st k))
  | i => fun st k => iter (slices_BinarySearchFunc_api_Pair_string_h i) (exec (slices_BinarySearchFunc_api_Pair_string_E N) N c i) N st k
theorem slices_BinarySearchFunc_api_Pair_string_L0_step (N : Nat) (x0 : List (Str × Str)) (x1 : Str) (x2 : Unit) (c8 : Int) (KX : Nat → St → Option (Int × Bool)) (I : St → Option (Int × Bool)) (s9 : Int) (s10 : Int) :
    execL (slices_BinarySearchFunc_api_Pair_string_LP N) (slices_BinarySearchFunc_api_Pair_string_E N) (cAt (bodyOf Tryd.f107) [true, true, true, false, false, false]) 0 (slices_BinarySearchFunc_api_Pair_string_L0_hd x0 x1 x2 c8 s9 s10) (roundK (slices_BinarySearchFunc_api_Pair_string_h 0) I KX (resD (slices_BinarySearchFunc_api_Pair_string_E N) Tryd.f107 (slices_BinarySearchFunc_api_Pair_string_sg fun x _ => slices_BinarySearchFunc_api_Pair_string N x.1 x.2.1 x.2.2.1) slices_BinarySearchFunc_api_Pair_string_pk)) = slices_BinarySearchFunc_api_Pair_string_L0T N x0 x1 (fun o0_9 => KX 0 (slices_BinarySearchFunc_api_Pair_string_L0_tl0 x0 x1 x2 c8 o0_9)) (fun s9 s10 => I (slices_BinarySearchFunc_api_Pair_string_L0_hd x0 x1 x2 c8 s9 s10)) s9 s10 := by kernel_rfl
theorem slices_BinarySearchFunc_api_Pair_string_L0_ok (N : Nat) : ∀ x y k, (∀ st, k .ret st = (resD (slices_BinarySearchFunc_api_Pair_string_E N) Tryd.f107 (slices_BinarySearchFunc_api_Pair_string_sg fun x _ => slices_BinarySearchFunc_api_Pair_string N x.1 x.2.1 x.2.2.1) slices_BinarySearchFunc_api_Pair_string_pk) st) → iter (slices_BinarySearchFunc_api_Pair_string_h 0) (exec (slices_BinarySearchFunc_api_Pair_string_E N) N (cAt (bodyOf Tryd.f107) [true, true, true, false, false, false]) 0) N ⟨49, unF slices_BinarySearchFunc_api_Pair_string_L0_fs x, unH slices_BinarySearchFunc_api_Pair_string_L0_bs y⟩ k = slices_BinarySearchFunc_api_Pair_string_L0_F N x y k := fun x _ k hk =>
  iter_link (S := (Int) × (Int) × Unit) (slices_BinarySearchFunc_api_Pair_string_h 0) _ (execL (slices_BinarySearchFunc_api_Pair_string_LP N) (slices_BinarySearchFunc_api_Pair_string_E N) (cAt (bodyOf Tryd.f107) [true, true, true, false, false, false]) 0) (resD (slices_BinarySearchFunc_api_Pair_string_E N) Tryd.f107 (slices_BinarySearchFunc_api_Pair_string_sg fun x _ => slices_BinarySearchFunc_api_Pair_string N x.1 x.2.1 x.2.2.1) slices_BinarySearchFunc_api_Pair_string_pk) (fun st k hk => execL_eq _ _ N _ (cAt (bodyOf Tryd.f107) [true, true, true, false, false, false]) 0 (show LoopsOk (slices_BinarySearchFunc_api_Pair_string_LP N) (slices_BinarySearchFunc_api_Pair_string_E N) N (resD (slices_BinarySearchFunc_api_Pair_string_E N) Tryd.f107 (slices_BinarySearchFunc_api_Pair_string_sg fun x _ => slices_BinarySearchFunc_api_Pair_string N x.1 x.2.1 x.2.2.1) slices_BinarySearchFunc_api_Pair_string_pk) [] from trivial) st k hk) (fun s => slices_BinarySearchFunc_api_Pair_string_L0_hd x.1 x.2.1 x.2.2.1 x.2.2.2.1 s.1 s.2.1) k hk
    (fun self s => slices_BinarySearchFunc_api_Pair_string_L0T N x.1 x.2.1 (fun o0_9 => k (.exit 0) (slices_BinarySearchFunc_api_Pair_string_L0_tl0 x.1 x.2.1 x.2.2.1 x.2.2.2.1 o0_9)) (fun s9 s10 => self (s9, s10, ())) s.1 s.2.1) (fun n s => slices_BinarySearchFunc_api_Pair_string_L0 N x.1 x.2.1 (fun o0_9 => k (.exit 0) (slices_BinarySearchFunc_api_Pair_string_L0_tl0 x.1 x.2.1 x.2.2.1 x.2.2.2.1 o0_9)) n s.1 s.2.1) (fun _ => rfl) (fun _ _ => rfl)
    (fun I s => slices_BinarySearchFunc_api_Pair_string_L0_step N x.1 x.2.1 x.2.2.1 x.2.2.2.1 (fun j => k (.exit j)) I s.1 s.2.1) N (x.2.2.2.2.1, x.2.2.2.2.2.1, ())
theorem slices_BinarySearchFunc_api_Pair_string_lp0 (N : Nat) : ∀ st k, (∀ st, k .ret st = (resD (slices_BinarySearchFunc_api_Pair_string_E N) Tryd.f107 (slices_BinarySearchFunc_api_Pair_string_sg fun x _ => slices_BinarySearchFunc_api_Pair_string N x.1 x.2.1 x.2.2.1) slices_BinarySearchFunc_api_Pair_string_pk) st) → slices_BinarySearchFunc_api_Pair_string_LP N 0 (cAt (bodyOf Tryd.f107) [true, true, true, false, false, false]) st k = iter (Env.hint (slices_BinarySearchFunc_api_Pair_string_E N) 0) (exec (slices_BinarySearchFunc_api_Pair_string_E N) N (cAt (bodyOf Tryd.f107) [true, true, true, false, false, false]) 0) N st k := fun st k hk => LPc_eq 49 slices_BinarySearchFunc_api_Pair_string_L0_fs slices_BinarySearchFunc_api_Pair_string_L0_bs _ _ (resD (slices_BinarySearchFunc_api_Pair_string_E N) Tryd.f107 (slices_BinarySearchFunc_api_Pair_string_sg fun x _ => slices_BinarySearchFunc_api_Pair_string N x.1 x.2.1 x.2.2.1) slices_BinarySearchFunc_api_Pair_string_pk) (slices_BinarySearchFunc_api_Pair_string_L0_ok N) _ st k hk (rfl)
theorem slices_BinarySearchFunc_api_Pair_string_core (N : Nat) (x : SV [.v (.sl (.pr .str .str)), .v .str, .v (.clo 108 .un)]) (y : BV []) : runL (slices_BinarySearchFunc_api_Pair_string_E N) Tryd.f107 (slices_BinarySearchFunc_api_Pair_string_sg fun x _ => slices_BinarySearchFunc_api_Pair_string N x.1 x.2.1 x.2.2.1) slices_BinarySearchFunc_api_Pair_string_pk (slices_BinarySearchFunc_api_Pair_string_LP N) x y = slices_BinarySearchFunc_api_Pair_string N x.1 x.2.1 x.2.2.1 := by kernel_rfl
theorem slices_BinarySearchFunc_api_Pair_string_sound (N : Nat) : Sound Tryd.prog GW B0G 107 (slices_BinarySearchFunc_api_Pair_string_sg fun x _ => slices_BinarySearchFunc_api_Pair_string N x.1 x.2.1 x.2.2.1) :=
  runD_sound (mkE_ok slices_BinarySearchFunc_api_Pair_string_h (slices_BinarySearchFunc_api_Pair_string_fn N) _ _ (slices_BinarySearchFunc_api_Pair_string_fn_ok N)) Tryd.func107 rfl Tryd.call107 (slices_BinarySearchFunc_api_Pair_string_sg fun x _ => slices_BinarySearchFunc_api_Pair_string N x.1 x.2.1 x.2.2.1) slices_BinarySearchFunc_api_Pair_string_pk (fun _ _ => rfl) N (fun x y _ h => ((runL_eq (slices_BinarySearchFunc_api_Pair_string_E N) N Tryd.f107 (slices_BinarySearchFunc_api_Pair_string_sg fun x _ => slices_BinarySearchFunc_api_Pair_string N x.1 x.2.1 x.2.2.1) slices_BinarySearchFunc_api_Pair_string_pk (slices_BinarySearchFunc_api_Pair_string_LP N) (show LoopsOk (slices_BinarySearchFunc_api_Pair_string_LP N) (slices_BinarySearchFunc_api_Pair_string_E N) N (resD (slices_BinarySearchFunc_api_Pair_string_E N) Tryd.f107 (slices_BinarySearchFunc_api_Pair_string_sg fun x _ => slices_BinarySearchFunc_api_Pair_string N x.1 x.2.1 x.2.2.1) slices_BinarySearchFunc_api_Pair_string_pk) [(0, (cAt (bodyOf Tryd.f107) [true, true, true, false, false, false]))] from ⟨slices_BinarySearchFunc_api_Pair_string_lp0 N, trivial⟩) x y).trans (slices_BinarySearchFunc_api_Pair_string_core N x y)).trans h)
def config_with (N : Nat) (x0 : List (Str × List Str)) (x1 : List (Str × Str)) (x2 : Str) (x3 : Str) : Option (List (Str × Str)) :=
  bnd (slices_Clone_api_Pair N x1) fun t13 =>
  bnd (slices_DeleteFunc_api_Pair N (x2, ()) t13) fun t15 =>
  bnd (config_find N x0 x2) fun t20 =>
  bnd (geti x0 t20) fun t21 =>
  bnd (geti t21.2 (0 : Int)) fun t24 =>
  br (x3 == t24)
    (some t15)
    (bnd (slices_BinarySearchFunc_api_Pair_string N t15 x2 ()) fun t31 =>
    bnd (slices_Insert_pair t31.1 t15 [(x2, x3)]) fun t40 =>
    some t40)
abbrev config_with_sg (f : SV [.v (.sl (.pr .str (.sl .str))), .v (.sl (.pr .str .str)), .v .str, .v .str] → BV [] → Option (List (Str × Str))) : AF := { ps := [.v (.sl (.pr .str (.sl .str))), .v (.sl (.pr .str .str)), .v .str, .v .str], bs := [], rs := [.row 0], cs := [.row 60 (.pr .str .str) true], R := List (Str × Str), out := fun z => (((), ()), (z, ())), f := f }
abbrev config_with_pk : SV [.row 0] → BV [.row 60 (.pr .str .str) true] → (List (Str × Str)) := fun _ y => y.1
def config_with_fn (N : Nat) : FuncId → Option Tmp → Option AF := fun f _ =>
  match f with
    | 49 => some (config_find_sg fun x _ => config_find N x.1 x.2.1)
    | 78 => some (slices_DeleteFunc_api_Pair_sg fun x y => slices_DeleteFunc_api_Pair N x.2.1 y.1)
    | 79 => some (slices_Clone_api_Pair_sg fun x _ => slices_Clone_api_Pair N x.1)
    | 107 => some (slices_BinarySearchFunc_api_Pair_string_sg fun x _ => slices_BinarySearchFunc_api_Pair_string N x.1 x.2.1 x.2.2.1)
    | 110 => some (slices_Insert_pair_sg fun x y => slices_Insert_pair x.2.1 y.1 y.2.1)
    | 106 => some (noneAF [.v (.ptr .str)])
    | _ => none
theorem config_with_fn_ok (N : Nat) : ∀ f q F, config_with_fn N f q = some F → Sound Tryd.prog GW B0G f F := by
  intro f q F h
  unfold config_with_fn at h
  split at h
  · cases h; exact config_find_sound N
  · cases h; exact slices_DeleteFunc_api_Pair_sound N
  · cases h; exact slices_Clone_api_Pair_sound N
  · cases h; exact slices_BinarySearchFunc_api_Pair_string_sound N
  · cases h; exact slices_Insert_pair_sound
  · cases h; exact noneAF_sound Tryd.call106 _
  · cases h
def config_with_h : Nat → Hint := fun i =>
  match i with
  | _ => ⟨[], [], [], [], []⟩
abbrev config_with_E (N : Nat) : Env := mkE config_with_h (config_with_fn N) (fun _ => false) (fun _ => false)
noncomputable def config_with_LP (N : Nat) : Nat → Code → St → (Ex → St → Option (List (Str × Str))) → Option (List (Str × Str)) := fun i c =>
  match i with
  | i => fun st k => iter (config_with_h i) (exec (config_with_E N) N c i) N st k
theorem config_with_core (N : Nat) (x : SV [.v (.sl (.pr .str (.sl .str))), .v (.sl (.pr .str .str)), .v .str, .v .str]) (y : BV []) : runL (config_with_E N) Tryd.f75 (config_with_sg fun x _ => config_with N x.1 x.2.1 x.2.2.1 x.2.2.2.1) config_with_pk (config_with_LP N) x y = config_with N x.1 x.2.1 x.2.2.1 x.2.2.2.1 := by kernel_rfl
theorem config_with_sound (N : Nat) : Sound Tryd.prog GW B0G 75 (config_with_sg fun x _ => config_with N x.1 x.2.1 x.2.2.1 x.2.2.2.1) :=
  runD_sound (mkE_ok config_with_h (config_with_fn N) _ _ (config_with_fn_ok N)) Tryd.func75 rfl Tryd.call75 (config_with_sg fun x _ => config_with N x.1 x.2.1 x.2.2.1 x.2.2.2.1) config_with_pk (fun _ _ => rfl) N (fun x y _ h => ((runL_eq (config_with_E N) N Tryd.f75 (config_with_sg fun x _ => config_with N x.1 x.2.1 x.2.2.1 x.2.2.2.1) config_with_pk (config_with_LP N) (show LoopsOk (config_with_LP N) (config_with_E N) N (resD (config_with_E N) Tryd.f75 (config_with_sg fun x _ => config_with N x.1 x.2.1 x.2.2.1 x.2.2.2.1) config_with_pk) [] from trivial) x y).trans (config_with_core N x y)).trans h)
def config_checkNames_L0T (N : Nat) (x0 : List (Str × List Str)) (x1 : List Str) (c7 : List Str) (c8 : Int) (k0 : Option Int) (self : Int → Option Int) (s9 : Int) : Option Int :=
  br (decide (s9 < c8))
    (bnd (geti c7 s9) fun t12 =>
    bnd (config_find N x0 t12) fun t16 =>
    br (decide (t16 < (0 : Int)))
      (some (5 : Int))
      (br (decide (s9 > (0 : Int)))
        (bnd (geti x1 (IntKind.i64.wrap (s9 - (1 : Int)))) fun t25 =>
        br (Op.bytesLess t12 t25 || t12 == t25)
          (some (8 : Int))
          (self (IntKind.i64.wrap (s9 + (1 : Int)))))
        (self (IntKind.i64.wrap (s9 + (1 : Int))))))
    (k0)
def config_checkNames_L0 (N : Nat) (x0 : List (Str × List Str)) (x1 : List Str) (c7 : List Str) (c8 : Int) (k0 : Option Int) : Nat → Int → Option Int
  | 0, _ => none
  | n + 1, s9 => config_checkNames_L0T N x0 x1 c7 c8 k0 (config_checkNames_L0 N x0 x1 c7 c8 k0 n) s9
def config_checkNames (N : Nat) (x0 : List (Str × List Str)) (x1 : List Str) : Option Int :=
  config_checkNames_L0 N x0 x1 x1 (x1.length : Int) (some (0 : Int)) N (0 : Int)
abbrev config_checkNames_sg (f : SV [.v (.sl (.pr .str (.sl .str))), .v (.sl .str)] → BV [] → Option (Int)) : AF := { ps := [.v (.sl (.pr .str (.sl .str))), .v (.sl .str)], bs := [], rs := [.v (.int .i64)], cs := [], R := Int, out := fun z => ((z, ()), ()), f := f }
abbrev config_checkNames_pk : SV [.v (.int .i64)] → BV [] → Int := fun x _ => x.1
def config_checkNames_fn (N : Nat) : FuncId → Option Tmp → Option AF := fun f _ =>
  match f with
    | 49 => some (config_find_sg fun x _ => config_find N x.1 x.2.1)
    | _ => none
theorem config_checkNames_fn_ok (N : Nat) : ∀ f q F, config_checkNames_fn N f q = some F → Sound Tryd.prog GW B0G f F := by
  intro f q F h
  unfold config_checkNames_fn at h
  split at h
  · cases h; exact config_find_sound N
  · cases h
def config_checkNames_h : Nat → Hint := fun i =>
  match i with
  | 0 => ⟨[], [0, 1, 7, 8, 9], [], [], []⟩
  | _ => ⟨[], [], [], [], []⟩
abbrev config_checkNames_E (N : Nat) : Env := mkE config_checkNames_h (config_checkNames_fn N) (fun _ => false) (fun _ => false)
abbrev config_checkNames_L0_fs : List (Nat × Sl) := [(0, .v (.sl (.pr .str (.sl .str)))), (1, .v (.sl .str)), (7, .v (.sl .str)), (8, .v (.int .i64)), (9, .v (.int .i64))]
abbrev config_checkNames_L0_bs : List (Nat × Sb) := []
def config_checkNames_L0_hd (x0 : List (Str × List Str)) (x1 : List Str) (c7 : List Str) (c8 : Int) (s9 : Int) : St := ⟨30, [(0, .v (.sl (.pr .str (.sl .str))) x0), (1, .v (.sl .str) x1), (7, .v (.sl .str) c7), (8, .v (.int .i64) c8), (9, .v (.int .i64) s9)], []⟩
def config_checkNames_L0_tl0 (_x0 : List (Str × List Str)) (_x1 : List Str) (_c7 : List Str) (_c8 : Int) : St := ⟨30, [], []⟩
def config_checkNames_L0_G (N : Nat) (x0 : List (Str × List Str)) (x1 : List Str) (c7 : List Str) (c8 : Int) (s9 : Int) (k : Ex → St → Option Int) : Option Int :=
  config_checkNames_L0 N x0 x1 c7 c8 (k (.exit 0) (config_checkNames_L0_tl0 x0 x1 c7 c8)) N s9
abbrev config_checkNames_L0_F (N : Nat) : FV config_checkNames_L0_fs → HV config_checkNames_L0_bs → (Ex → St → Option Int) → Option Int := fun x _ k => config_checkNames_L0_G N x.1 x.2.1 x.2.2.1 x.2.2.2.1 x.2.2.2.2.1 k
noncomputable def config_checkNames_LP (N : Nat) : Nat → Code → St → (Ex → St → Option Int) → Option Int := fun i c =>
  match i with
  | 0 => (LPc 30 config_checkNames_L0_fs config_checkNames_L0_bs (config_checkNames_L0_F N) (fun st k => iter (config_checkNames_h 0) (exec (config_checkNames_E N) N c 0) N st k))
  | i => fun st k => iter (config_checkNames_h i) (exec (config_checkNames_E N) N c i) N st k
theorem config_checkNames_L0_step (N : Nat) (x0 : List (Str × List Str)) (x1 : List Str) (c7 : List Str) (c8 : Int) (KX : Nat → St → Option Int) (I : St → Option Int) (s9 : Int) :
    execL (config_checkNames_LP N) (config_checkNames_E N) (cAt (bodyOf Tryd.f77) [true, false, true, false, false]) 0 (config_checkNames_L0_hd x0 x1 c7 c8 s9) (roundK (config_checkNames_h 0) I KX (resD (config_checkNames_E N) Tryd.f77 (config_checkNames_sg fun x _ => config_checkNames N x.1 x.2.1) config_checkNames_pk)) = config_checkNames_L0T N x0 x1 c7 c8 (KX 0 (config_checkNames_L0_tl0 x0 x1 c7 c8)) (fun s9 => I (config_checkNames_L0_hd x0 x1 c7 c8 s9)) s9 := by kernel_rfl
theorem config_checkNames_L0_ok (N : Nat) : ∀ x y k, (∀ st, k .ret st = (resD (config_checkNames_E N) Tryd.f77 (config_checkNames_sg fun x _ => config_checkNames N x.1 x.2.1) config_checkNames_pk) st) → iter (config_checkNames_h 0) (exec (config_checkNames_E N) N (cAt (bodyOf Tryd.f77) [true, false, true, false, false]) 0) N ⟨30, unF config_checkNames_L0_fs x, unH config_checkNames_L0_bs y⟩ k = config_checkNames_L0_F N x y k := fun x _ k hk =>
  iter_link (S := (Int) × Unit) (config_checkNames_h 0) _ (execL (config_checkNames_LP N) (config_checkNames_E N) (cAt (bodyOf Tryd.f77) [true, false, true, false, false]) 0) (resD (config_checkNames_E N) Tryd.f77 (config_checkNames_sg fun x _ => config_checkNames N x.1 x.2.1) config_checkNames_pk) (fun st k hk => execL_eq _ _ N _ (cAt (bodyOf Tryd.f77) [true, false, true, false, false]) 0 (show LoopsOk (config_checkNames_LP N) (config_checkNames_E N) N (resD (config_checkNames_E N) Tryd.f77 (config_checkNames_sg fun x _ => config_checkNames N x.1 x.2.1) config_checkNames_pk) [] from trivial) st k hk) (fun s => config_checkNames_L0_hd x.1 x.2.1 x.2.2.1 x.2.2.2.1 s.1) k hk
    (fun self s => config_checkNames_L0T N x.1 x.2.1 x.2.2.1 x.2.2.2.1 (k (.exit 0) (config_checkNames_L0_tl0 x.1 x.2.1 x.2.2.1 x.2.2.2.1)) (fun s9 => self (s9, ())) s.1) (fun n s => config_checkNames_L0 N x.1 x.2.1 x.2.2.1 x.2.2.2.1 (k (.exit 0) (config_checkNames_L0_tl0 x.1 x.2.1 x.2.2.1 x.2.2.2.1)) n s.1) (fun _ => rfl) (fun _ _ => rfl)
    (fun I s => config_checkNames_L0_step N x.1 x.2.1 x.2.2.1 x.2.2.2.1 (fun j => k (.exit j)) I s.1) N (x.2.2.2.2.1, ())
theorem config_checkNames_lp0 (N : Nat) : ∀ st k, (∀ st, k .ret st = (resD (config_checkNames_E N) Tryd.f77 (config_checkNames_sg fun x _ => config_checkNames N x.1 x.2.1) config_checkNames_pk) st) → config_checkNames_LP N 0 (cAt (bodyOf Tryd.f77) [true, false, true, false, false]) st k = iter (Env.hint (config_checkNames_E N) 0) (exec (config_checkNames_E N) N (cAt (bodyOf Tryd.f77) [true, false, true, false, false]) 0) N st k := fun st k hk => LPc_eq 30 config_checkNames_L0_fs config_checkNames_L0_bs _ _ (resD (config_checkNames_E N) Tryd.f77 (config_checkNames_sg fun x _ => config_checkNames N x.1 x.2.1) config_checkNames_pk) (config_checkNames_L0_ok N) _ st k hk (rfl)
theorem config_checkNames_core (N : Nat) (x : SV [.v (.sl (.pr .str (.sl .str))), .v (.sl .str)]) (y : BV []) : runL (config_checkNames_E N) Tryd.f77 (config_checkNames_sg fun x _ => config_checkNames N x.1 x.2.1) config_checkNames_pk (config_checkNames_LP N) x y = config_checkNames N x.1 x.2.1 := by kernel_rfl
theorem config_checkNames_sound (N : Nat) : Sound Tryd.prog GW B0G 77 (config_checkNames_sg fun x _ => config_checkNames N x.1 x.2.1) :=
  runD_sound (mkE_ok config_checkNames_h (config_checkNames_fn N) _ _ (config_checkNames_fn_ok N)) Tryd.func77 rfl Tryd.call77 (config_checkNames_sg fun x _ => config_checkNames N x.1 x.2.1) config_checkNames_pk (fun _ _ => rfl) N (fun x y _ h => ((runL_eq (config_checkNames_E N) N Tryd.f77 (config_checkNames_sg fun x _ => config_checkNames N x.1 x.2.1) config_checkNames_pk (config_checkNames_LP N) (show LoopsOk (config_checkNames_LP N) (config_checkNames_E N) N (resD (config_checkNames_E N) Tryd.f77 (config_checkNames_sg fun x _ => config_checkNames N x.1 x.2.1) config_checkNames_pk) [(0, (cAt (bodyOf Tryd.f77) [true, false, true, false, false]))] from ⟨config_checkNames_lp0 N, trivial⟩) x y).trans (config_checkNames_core N x y)).trans h)
def config_Only_1 (N : Nat) (x0 : Str × Str) (x1 : List Str) : Option Bool :=
  bnd (slices_Contains_string_string N x1 x0.1) fun t7 =>
  some (!t7)
abbrev config_Only_1_sg (f : SV [.v (.pr .str .str), .v (.ptr (.sl .str))] → BV [] → Option (Bool)) : AF := { ps := [.v (.pr .str .str), .v (.ptr (.sl .str))], bs := [], rs := [.v .bool], cs := [], R := Bool, out := fun z => ((z, ()), ()), f := f }
abbrev config_Only_1_pk : SV [.v .bool] → BV [] → Bool := fun x _ => x.1
def config_Only_1_fn (N : Nat) : FuncId → Option Tmp → Option AF := fun f _ =>
  match f with
    | 54 => some (slices_Contains_string_string_sg fun x _ => slices_Contains_string_string N x.1 x.2.1)
    | _ => none
theorem config_Only_1_fn_ok (N : Nat) : ∀ f q F, config_Only_1_fn N f q = some F → Sound Tryd.prog GW B0G f F := by
  intro f q F h
  unfold config_Only_1_fn at h
  split at h
  · cases h; exact slices_Contains_string_string_sound N
  · cases h
def config_Only_1_h : Nat → Hint := fun i =>
  match i with
  | _ => ⟨[], [], [], [], []⟩
abbrev config_Only_1_E (N : Nat) : Env := mkE config_Only_1_h (config_Only_1_fn N) (fun _ => false) (fun _ => false)
noncomputable def config_Only_1_LP (N : Nat) : Nat → Code → St → (Ex → St → Option Bool) → Option Bool := fun i c =>
  match i with
  | i => fun st k => iter (config_Only_1_h i) (exec (config_Only_1_E N) N c i) N st k
theorem config_Only_1_core (N : Nat) (x : SV [.v (.pr .str .str), .v (.ptr (.sl .str))]) (y : BV []) : runL (config_Only_1_E N) Tryd.f80 (config_Only_1_sg fun x _ => config_Only_1 N x.1 x.2.1) config_Only_1_pk (config_Only_1_LP N) x y = config_Only_1 N x.1 x.2.1 := by kernel_rfl
theorem config_Only_1_sound (N : Nat) : Sound Tryd.prog GW B0G 80 (config_Only_1_sg fun x _ => config_Only_1 N x.1 x.2.1) :=
  runD_sound (mkE_ok config_Only_1_h (config_Only_1_fn N) _ _ (config_Only_1_fn_ok N)) Tryd.func80 rfl Tryd.call80 (config_Only_1_sg fun x _ => config_Only_1 N x.1 x.2.1) config_Only_1_pk (fun _ _ => rfl) N (fun x y _ h => ((runL_eq (config_Only_1_E N) N Tryd.f80 (config_Only_1_sg fun x _ => config_Only_1 N x.1 x.2.1) config_Only_1_pk (config_Only_1_LP N) (show LoopsOk (config_Only_1_LP N) (config_Only_1_E N) N (resD (config_Only_1_E N) Tryd.f80 (config_Only_1_sg fun x _ => config_Only_1 N x.1 x.2.1) config_Only_1_pk) [] from trivial) x y).trans (config_Only_1_core N x y)).trans h)
def slices_IndexFunc_api_Pair_2_L0T (N : Nat) (x0 : List (Str × Str)) (x1 : List Str × Unit) (c7 : Int) (k0 : Option Int) (self : Int → Option Int) (s8 : Int) : Option Int :=
  br (decide (s8 < c7))
    (bnd (geti x0 s8) fun t14 =>
    bnd (config_Only_1 N t14 x1.1) fun t16 =>
    br (t16)
      (some s8)
      (self (IntKind.i64.wrap (s8 + (1 : Int)))))
    (k0)
def slices_IndexFunc_api_Pair_2_L0 (N : Nat) (x0 : List (Str × Str)) (x1 : List Str × Unit) (c7 : Int) (k0 : Option Int) : Nat → Int → Option Int
  | 0, _ => none
  | n + 1, s8 => slices_IndexFunc_api_Pair_2_L0T N x0 x1 c7 k0 (slices_IndexFunc_api_Pair_2_L0 N x0 x1 c7 k0 n) s8
def slices_IndexFunc_api_Pair_2 (N : Nat) (x0 : List (Str × Str)) (x1 : List Str × Unit) : Option Int :=
  slices_IndexFunc_api_Pair_2_L0 N x0 x1 (x0.length : Int) (some (-1 : Int)) N (0 : Int)
abbrev slices_IndexFunc_api_Pair_2_sg (f : SV [.v (.sl (.pr .str .str)), .v (.clo 80 (.pr (.ptr (.sl .str)) .un))] → BV [] → Option (Int)) : AF := { ps := [.v (.sl (.pr .str .str)), .v (.clo 80 (.pr (.ptr (.sl .str)) .un))], bs := [], rs := [.v (.int .i64)], cs := [], R := Int, out := fun z => ((z, ()), ()), f := f }
abbrev slices_IndexFunc_api_Pair_2_pk : SV [.v (.int .i64)] → BV [] → Int := fun x _ => x.1
def slices_IndexFunc_api_Pair_2_fn (N : Nat) : FuncId → Option Tmp → Option AF := fun f _ =>
  match f with
    | 80 => some (config_Only_1_sg fun x _ => config_Only_1 N x.1 x.2.1)
    | _ => none
theorem slices_IndexFunc_api_Pair_2_fn_ok (N : Nat) : ∀ f q F, slices_IndexFunc_api_Pair_2_fn N f q = some F → Sound Tryd.prog GW B0G f F := by
  intro f q F h
  unfold slices_IndexFunc_api_Pair_2_fn at h
  split at h
  · cases h; exact config_Only_1_sound N
  · cases h
def slices_IndexFunc_api_Pair_2_h : Nat → Hint := fun i =>
  match i with
  | 0 => ⟨[], [0, 1, 7, 8], [], [], []⟩
  | _ => ⟨[], [], [], [], []⟩
abbrev slices_IndexFunc_api_Pair_2_E (N : Nat) : Env := mkE slices_IndexFunc_api_Pair_2_h (slices_IndexFunc_api_Pair_2_fn N) (fun _ => false) (fun _ => false)
abbrev slices_IndexFunc_api_Pair_2_L0_fs : List (Nat × Sl) := [(0, .v (.sl (.pr .str .str))), (1, .v (.clo 80 (.pr (.ptr (.sl .str)) .un))), (7, .v (.int .i64)), (8, .v (.int .i64))]
abbrev slices_IndexFunc_api_Pair_2_L0_bs : List (Nat × Sb) := []
def slices_IndexFunc_api_Pair_2_L0_hd (x0 : List (Str × Str)) (x1 : List Str × Unit) (c7 : Int) (s8 : Int) : St := ⟨19, [(0, .v (.sl (.pr .str .str)) x0), (1, .v (.clo 80 (.pr (.ptr (.sl .str)) .un)) x1), (7, .v (.int .i64) c7), (8, .v (.int .i64) s8)], []⟩
def slices_IndexFunc_api_Pair_2_L0_tl0 (_x0 : List (Str × Str)) (_x1 : List Str × Unit) (_c7 : Int) : St := ⟨19, [], []⟩
def slices_IndexFunc_api_Pair_2_L0_G (N : Nat) (x0 : List (Str × Str)) (x1 : List Str × Unit) (c7 : Int) (s8 : Int) (k : Ex → St → Option Int) : Option Int :=
  slices_IndexFunc_api_Pair_2_L0 N x0 x1 c7 (k (.exit 0) (slices_IndexFunc_api_Pair_2_L0_tl0 x0 x1 c7)) N s8
abbrev slices_IndexFunc_api_Pair_2_L0_F (N : Nat) : FV slices_IndexFunc_api_Pair_2_L0_fs → HV slices_IndexFunc_api_Pair_2_L0_bs → (Ex → St → Option Int) → Option Int := fun x _ k => slices_IndexFunc_api_Pair_2_L0_G N x.1 x.2.1 x.2.2.1 x.2.2.2.1 k
noncomputable def slices_IndexFunc_api_Pair_2_LP (N : Nat) : Nat → Code → St → (Ex → St → Option Int) → Option Int := fun i c =>
  match i with
  | 0 => (LPc 19 slices_IndexFunc_api_Pair_2_L0_fs slices_IndexFunc_api_Pair_2_L0_bs (slices_IndexFunc_api_Pair_2_L0_F N) (fun st k => iter (slices_IndexFunc_api_Pair_2_h 0) (exec (slices_IndexFunc_api_Pair_2_E N) N c 0) N st k))
  | i => fun st k => iter (slices_IndexFunc_api_Pair_2_h i) (exec (slices_IndexFunc_api_Pair_2_E N) N c i) N st k
theorem slices_IndexFunc_api_Pair_2_L0_step (N : Nat) (x0 : List (Str × Str)) (x1 : List Str × Unit) (c7 : Int) (KX : Nat → St → Option Int) (I : St → Option Int) (s8 : Int) :
    execL (slices_IndexFunc_api_Pair_2_LP N) (slices_IndexFunc_api_Pair_2_E N) (cAt (bodyOf Tryd.f111) [true, false, true, false, false]) 0 (slices_IndexFunc_api_Pair_2_L0_hd x0 x1 c7 s8) (roundK (slices_IndexFunc_api_Pair_2_h 0) I KX (resD (slices_IndexFunc_api_Pair_2_E N) Tryd.f111 (slices_IndexFunc_api_Pair_2_sg fun x _ => slices_IndexFunc_api_Pair_2 N x.1 x.2.1) slices_IndexFunc_api_Pair_2_pk)) = slices_IndexFunc_api_Pair_2_L0T N x0 x1 c7 (KX 0 (slices_IndexFunc_api_Pair_2_L0_tl0 x0 x1 c7)) (fun s8 => I (slices_IndexFunc_api_Pair_2_L0_hd x0 x1 c7 s8)) s8 := by kernel_rfl
theorem slices_IndexFunc_api_Pair_2_L0_ok (N : Nat) : ∀ x y k, (∀ st, k .ret st = (resD (slices_IndexFunc_api_Pair_2_E N) Tryd.f111 (slices_IndexFunc_api_Pair_2_sg fun x _ => slices_IndexFunc_api_Pair_2 N x.1 x.2.1) slices_IndexFunc_api_Pair_2_pk) st) → iter (slices_IndexFunc_api_Pair_2_h 0) (exec (slices_IndexFunc_api_Pair_2_E N) N (cAt (bodyOf Tryd.f111) [true, false, true, false, false]) 0) N ⟨19, unF slices_IndexFunc_api_Pair_2_L0_fs x, unH slices_IndexFunc_api_Pair_2_L0_bs y⟩ k = slices_IndexFunc_api_Pair_2_L0_F N x y k := fun x _ k hk =>
  iter_link (S := (Int) × Unit) (slices_IndexFunc_api_Pair_2_h 0) _ (execL (slices_IndexFunc_api_Pair_2_LP N) (slices_IndexFunc_api_Pair_2_E N) (cAt (bodyOf Tryd.f111) [true, false, true, false, false]) 0) (resD (slices_IndexFunc_api_Pair_2_E N) Tryd.f111 (slices_IndexFunc_api_Pair_2_sg fun x _ => slices_IndexFunc_api_Pair_2 N x.1 x.2.1) slices_IndexFunc_api_Pair_2_pk) (fun st k hk => execL_eq _ _ N _ (cAt (bodyOf Tryd.f111) [true, false, true, false, false]) 0 (show LoopsOk (slices_IndexFunc_api_Pair_2_LP N) (slices_IndexFunc_api_Pair_2_E N) N (resD (slices_IndexFunc_api_Pair_2_E N) Tryd.f111 (slices_IndexFunc_api_Pair_2_sg fun x _ => slices_IndexFunc_api_Pair_2 N x.1 x.2.1) slices_IndexFunc_api_Pair_2_pk) [] from trivial) st k hk) (fun s => slices_IndexFunc_api_Pair_2_L0_hd x.1 x.2.1 x.2.2.1 s.1) k hk
    (fun self s => slices_IndexFunc_api_Pair_2_L0T N x.1 x.2.1 x.2.2.1 (k (.exit 0) (slices_IndexFunc_api_Pair_2_L0_tl0 x.1 x.2.1 x.2.2.1)) (fun s8 => self (s8, ())) s.1) (fun n s => slices_IndexFunc_api_Pair_2_L0 N x.1 x.2.1 x.2.2.1 (k (.exit 0) (slices_IndexFunc_api_Pair_2_L0_tl0 x.1 x.2.1 x.2.2.1)) n s.1) (fun _ => rfl) (fun _ _ => rfl)
    (fun I s => slices_IndexFunc_api_Pair_2_L0_step N x.1 x.2.1 x.2.2.1 (fun j => k (.exit j)) I s.1) N (x.2.2.2.1, ())
theorem slices_IndexFunc_api_Pair_2_lp0 (N : Nat) : ∀ st k, (∀ st, k .ret st = (resD (slices_IndexFunc_api_Pair_2_E N) Tryd.f111 (slices_IndexFunc_api_Pair_2_sg fun x _ => slices_IndexFunc_api_Pair_2 N x.1 x.2.1) slices_IndexFunc_api_Pair_2_pk) st) → slices_IndexFunc_api_Pair_2_LP N 0 (cAt (bodyOf Tryd.f111) [true, false, true, false, false]) st k = iter (Env.hint (slices_IndexFunc_api_Pair_2_E N) 0) (exec (slices_IndexFunc_api_Pair_2_E N) N (cAt (bodyOf Tryd.f111) [true, false, true, false, false]) 0) N st k := fun st k hk => LPc_eq 19 slices_IndexFunc_api_Pair_2_L0_fs slices_IndexFunc_api_Pair_2_L0_bs _ _ (resD (slices_IndexFunc_api_Pair_2_E N) Tryd.f111 (slices_IndexFunc_api_Pair_2_sg fun x _ => slices_IndexFunc_api_Pair_2 N x.1 x.2.1) slices_IndexFunc_api_Pair_2_pk) (slices_IndexFunc_api_Pair_2_L0_ok N) _ st k hk (rfl)
theorem slices_IndexFunc_api_Pair_2_core (N : Nat) (x : SV [.v (.sl (.pr .str .str)), .v (.clo 80 (.pr (.ptr (.sl .str)) .un))]) (y : BV []) : runL (slices_IndexFunc_api_Pair_2_E N) Tryd.f111 (slices_IndexFunc_api_Pair_2_sg fun x _ => slices_IndexFunc_api_Pair_2 N x.1 x.2.1) slices_IndexFunc_api_Pair_2_pk (slices_IndexFunc_api_Pair_2_LP N) x y = slices_IndexFunc_api_Pair_2 N x.1 x.2.1 := by kernel_rfl
theorem slices_IndexFunc_api_Pair_2_sound (N : Nat) : Sound Tryd.prog GW B0G 111 (slices_IndexFunc_api_Pair_2_sg fun x _ => slices_IndexFunc_api_Pair_2 N x.1 x.2.1) :=
  runD_sound (mkE_ok slices_IndexFunc_api_Pair_2_h (slices_IndexFunc_api_Pair_2_fn N) _ _ (slices_IndexFunc_api_Pair_2_fn_ok N)) Tryd.func111 rfl Tryd.call111 (slices_IndexFunc_api_Pair_2_sg fun x _ => slices_IndexFunc_api_Pair_2 N x.1 x.2.1) slices_IndexFunc_api_Pair_2_pk (fun _ _ => rfl) N (fun x y _ h => ((runL_eq (slices_IndexFunc_api_Pair_2_E N) N Tryd.f111 (slices_IndexFunc_api_Pair_2_sg fun x _ => slices_IndexFunc_api_Pair_2 N x.1 x.2.1) slices_IndexFunc_api_Pair_2_pk (slices_IndexFunc_api_Pair_2_LP N) (show LoopsOk (slices_IndexFunc_api_Pair_2_LP N) (slices_IndexFunc_api_Pair_2_E N) N (resD (slices_IndexFunc_api_Pair_2_E N) Tryd.f111 (slices_IndexFunc_api_Pair_2_sg fun x _ => slices_IndexFunc_api_Pair_2 N x.1 x.2.1) slices_IndexFunc_api_Pair_2_pk) [(0, (cAt (bodyOf Tryd.f111) [true, false, true, false, false]))] from ⟨slices_IndexFunc_api_Pair_2_lp0 N, trivial⟩) x y).trans (slices_IndexFunc_api_Pair_2_core N x y)).trans h)
end
end Go.Proofs.YtbekhaioddmliaaDoor
