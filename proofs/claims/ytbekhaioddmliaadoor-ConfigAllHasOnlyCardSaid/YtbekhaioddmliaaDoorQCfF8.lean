/- What functions of the program compute, as plain functions (printed). -/
import Derived.Test.YtbekhaioddmliaaDoorQCfF7
namespace Go.Proofs.YtbekhaioddmliaaDoor
open Go Go.RowKit
set_option maxRecDepth 100000
set_option linter.unusedVariables false
noncomputable section
def slices_DeleteFunc_api_Pair_2_L0T (N : Nat) (x1 : List Str × Unit) (k0 : Int → (List (Str × Str)) → Option (List (Str × Str))) (self : Int → Int → (List (Str × Str)) → Option (List (Str × Str))) (s5 : Int) (s6 : Int) (w0_1 : List (Str × Str)) : Option (List (Str × Str)) :=
  br (decide (s6 < (w0_1.length : Int)))
    (br (decide (0 ≤ s6 ∧ s6 < (w0_1.length : Int)))
      (bnd (geti w0_1 s6) fun t25 =>
      bnd (config_Only_1 N t25 x1.1) fun t28 =>
      br (!t28)
        (br (decide (0 ≤ s5 ∧ s5 < (w0_1.length : Int)))
          (bnd (geti w0_1 s5) fun _ =>
          self (IntKind.i64.wrap (s5 + (1 : Int))) (IntKind.i64.wrap (s6 + (1 : Int))) (seti w0_1 s5 t25))
          none)
        (self s5 (IntKind.i64.wrap (s6 + (1 : Int))) w0_1))
      none)
    (k0 s5 w0_1)
def slices_DeleteFunc_api_Pair_2_L0 (N : Nat) (x1 : List Str × Unit) (k0 : Int → (List (Str × Str)) → Option (List (Str × Str))) : Nat → Int → Int → (List (Str × Str)) → Option (List (Str × Str))
  | 0, _, _, _ => none
  | n + 1, s5, s6, w0_1 => slices_DeleteFunc_api_Pair_2_L0T N x1 k0 (slices_DeleteFunc_api_Pair_2_L0 N x1 k0 n) s5 s6 w0_1
def slices_DeleteFunc_api_Pair_2 (N : Nat) (x1 : List Str × Unit) (w0 : List (Str × Str)) : Option (List (Str × Str)) :=
  bnd (slices_IndexFunc_api_Pair_2 N w0 x1) fun t10 =>
  br (t10 == (-1 : Int))
    (some w0)
    (slices_DeleteFunc_api_Pair_2_L0 N x1 (fun o0_5 o0_w0 =>
        br (decide (0 ≤ o0_5 ∧ o0_5 ≤ (o0_w0.length : Int) ∧ 0 < o0_w0.length))
          (br (decide (0 ≤ o0_5 ∧ o0_5 ≤ ((clr o0_w0 o0_5 (zero (.pr .str .str))).length : Int)))
            (some (cut (clr o0_w0 o0_5 (zero (.pr .str .str))) o0_5))
            none)
          none) N t10 (IntKind.i64.wrap (t10 + (1 : Int))) w0)
abbrev slices_DeleteFunc_api_Pair_2_sg (f : SV [.row 0, .v (.clo 80 (.pr (.ptr (.sl .str)) .un))] → BV [.row 60 (.pr .str .str) true] → Option (List (Str × Str))) : AF := { ps := [.row 0, .v (.clo 80 (.pr (.ptr (.sl .str)) .un))], bs := [.row 60 (.pr .str .str) true], rs := [.row 0], cs := [.row 60 (.pr .str .str) true], R := List (Str × Str), out := fun z => (((), ()), (z, ())), f := f }
abbrev slices_DeleteFunc_api_Pair_2_pk : SV [.row 0] → BV [.row 60 (.pr .str .str) true] → (List (Str × Str)) := fun _ y => y.1
def slices_DeleteFunc_api_Pair_2_fn (N : Nat) : FuncId → Option Tmp → Option AF := fun f _ =>
  match f with
    | 80 => some (config_Only_1_sg fun x _ => config_Only_1 N x.1 x.2.1)
    | 111 => some (slices_IndexFunc_api_Pair_2_sg fun x _ => slices_IndexFunc_api_Pair_2 N x.1 x.2.1)
    | _ => none
theorem slices_DeleteFunc_api_Pair_2_fn_ok (N : Nat) : ∀ f q F, slices_DeleteFunc_api_Pair_2_fn N f q = some F → Sound Tryd.prog GW B0G f F := by
  intro f q F h
  unfold slices_DeleteFunc_api_Pair_2_fn at h
  split at h
  · cases h; exact config_Only_1_sound N
  · cases h; exact slices_IndexFunc_api_Pair_2_sound N
  · cases h
def slices_DeleteFunc_api_Pair_2_h : Nat → Hint := fun i =>
  match i with
  | 0 => ⟨[], [0, 1, 5, 6], [0], [0, 5], [0]⟩
  | _ => ⟨[], [], [], [], []⟩
abbrev slices_DeleteFunc_api_Pair_2_E (N : Nat) : Env := mkE slices_DeleteFunc_api_Pair_2_h (slices_DeleteFunc_api_Pair_2_fn N) (fun i => match i with | 4 => true | _ => false) (fun _ => false)
abbrev slices_DeleteFunc_api_Pair_2_L0_fs : List (Nat × Sl) := [(0, .row 0), (1, .v (.clo 80 (.pr (.ptr (.sl .str)) .un))), (5, .v (.int .i64)), (6, .v (.int .i64))]
abbrev slices_DeleteFunc_api_Pair_2_L0_bs : List (Nat × Sb) := [(0, .row 60 (.pr .str .str) true)]
def slices_DeleteFunc_api_Pair_2_L0_hd (x1 : List Str × Unit) (s5 : Int) (s6 : Int) (w0_1 : List (Str × Str)) : St := ⟨42, [(0, .row 0), (1, .v (.clo 80 (.pr (.ptr (.sl .str)) .un)) x1), (5, .v (.int .i64) s5), (6, .v (.int .i64) s6)], [(0, .row 60 (.pr .str .str) true w0_1)]⟩
def slices_DeleteFunc_api_Pair_2_L0_tl0 (_x1 : List Str × Unit) (o0_5 : Int) (o0_w0 : List (Str × Str)) : St := ⟨42, [(0, .row 0), (5, .v (.int .i64) o0_5)], [(0, .row 60 (.pr .str .str) true o0_w0)]⟩
def slices_DeleteFunc_api_Pair_2_L0_G (N : Nat) (x1 : List Str × Unit) (s5 : Int) (s6 : Int) (w0_1 : List (Str × Str)) (k : Ex → St → Option (List (Str × Str))) : Option (List (Str × Str)) :=
  slices_DeleteFunc_api_Pair_2_L0 N x1 (fun o0_5 o0_w0 => k (.exit 0) (slices_DeleteFunc_api_Pair_2_L0_tl0 x1 o0_5 o0_w0)) N s5 s6 w0_1
abbrev slices_DeleteFunc_api_Pair_2_L0_F (N : Nat) : FV slices_DeleteFunc_api_Pair_2_L0_fs → HV slices_DeleteFunc_api_Pair_2_L0_bs → (Ex → St → Option (List (Str × Str))) → Option (List (Str × Str)) := fun x y k => slices_DeleteFunc_api_Pair_2_L0_G N x.2.1 x.2.2.1 x.2.2.2.1 y.1 k
noncomputable def slices_DeleteFunc_api_Pair_2_LP (N : Nat) : Nat → Code → St → (Ex → St → Option (List (Str × Str))) → Option (List (Str × Str)) := fun i c =>
  match i with
  | 0 => (LPc 42 slices_DeleteFunc_api_Pair_2_L0_fs slices_DeleteFunc_api_Pair_2_L0_bs (slices_DeleteFunc_api_Pair_2_L0_F N) (fun st k => iter (slices_DeleteFunc_api_Pair_2_h 0) (exec (slices_DeleteFunc_api_Pair_2_E N) N c 0) N st k))
  | i => fun st k => iter (slices_DeleteFunc_api_Pair_2_h i) (exec (slices_DeleteFunc_api_Pair_2_E N) N c i) N st k
theorem slices_DeleteFunc_api_Pair_2_L0_step (N : Nat) (x1 : List Str × Unit) (KX : Nat → St → Option (List (Str × Str))) (I : St → Option (List (Str × Str))) (s5 : Int) (s6 : Int) (w0_1 : List (Str × Str)) :
    execL (slices_DeleteFunc_api_Pair_2_LP N) (slices_DeleteFunc_api_Pair_2_E N) (cAt (bodyOf Tryd.f78) [true, true, true, false, true, false, false]) 0 (slices_DeleteFunc_api_Pair_2_L0_hd x1 s5 s6 w0_1) (roundK (slices_DeleteFunc_api_Pair_2_h 0) I KX (resD (slices_DeleteFunc_api_Pair_2_E N) Tryd.f78 (slices_DeleteFunc_api_Pair_2_sg fun x y => slices_DeleteFunc_api_Pair_2 N x.2.1 y.1) slices_DeleteFunc_api_Pair_2_pk)) = slices_DeleteFunc_api_Pair_2_L0T N x1 (fun o0_5 o0_w0 => KX 0 (slices_DeleteFunc_api_Pair_2_L0_tl0 x1 o0_5 o0_w0)) (fun s5 s6 w0_1 => I (slices_DeleteFunc_api_Pair_2_L0_hd x1 s5 s6 w0_1)) s5 s6 w0_1 := by kernel_rfl
theorem slices_DeleteFunc_api_Pair_2_L0_ok (N : Nat) : ∀ x y k, (∀ st, k .ret st = (resD (slices_DeleteFunc_api_Pair_2_E N) Tryd.f78 (slices_DeleteFunc_api_Pair_2_sg fun x y => slices_DeleteFunc_api_Pair_2 N x.2.1 y.1) slices_DeleteFunc_api_Pair_2_pk) st) → iter (slices_DeleteFunc_api_Pair_2_h 0) (exec (slices_DeleteFunc_api_Pair_2_E N) N (cAt (bodyOf Tryd.f78) [true, true, true, false, true, false, false]) 0) N ⟨42, unF slices_DeleteFunc_api_Pair_2_L0_fs x, unH slices_DeleteFunc_api_Pair_2_L0_bs y⟩ k = slices_DeleteFunc_api_Pair_2_L0_F N x y k := fun x y k hk =>
  iter_link (S := (Int) × (Int) × (List (Str × Str)) × Unit) (slices_DeleteFunc_api_Pair_2_h 0) _ (execL (slices_DeleteFunc_api_Pair_2_LP N) (slices_DeleteFunc_api_Pair_2_E N) (cAt (bodyOf Tryd.f78) [true, true, true, false, true, false, false]) 0) (resD (slices_DeleteFunc_api_Pair_2_E N) Tryd.f78 (slices_DeleteFunc_api_Pair_2_sg fun x y => slices_DeleteFunc_api_Pair_2 N x.2.1 y.1) slices_DeleteFunc_api_Pair_2_pk) (fun st k hk => execL_eq _ _ N _ (cAt (bodyOf Tryd.f78) [true, true, true, false, true, false, false]) 0 (show LoopsOk (slices_DeleteFunc_api_Pair_2_LP N) (slices_DeleteFunc_api_Pair_2_E N) N (resD (slices_DeleteFunc_api_Pair_2_E N) Tryd.f78 (slices_DeleteFunc_api_Pair_2_sg fun x y => slices_DeleteFunc_api_Pair_2 N x.2.1 y.1) slices_DeleteFunc_api_Pair_2_pk) [] from trivial) st k hk) (fun s => slices_DeleteFunc_api_Pair_2_L0_hd x.2.1 s.1 s.2.1 s.2.2.1) k hk
    (fun self s => slices_DeleteFunc_api_Pair_2_L0T N x.2.1 (fun o0_5 o0_w0 => k (.exit 0) (slices_DeleteFunc_api_Pair_2_L0_tl0 x.2.1 o0_5 o0_w0)) (fun s5 s6 w0_1 => self (s5, s6, w0_1, ())) s.1 s.2.1 s.2.2.1) (fun n s => slices_DeleteFunc_api_Pair_2_L0 N x.2.1 (fun o0_5 o0_w0 => k (.exit 0) (slices_DeleteFunc_api_Pair_2_L0_tl0 x.2.1 o0_5 o0_w0)) n s.1 s.2.1 s.2.2.1) (fun _ => rfl) (fun _ _ => rfl)
    (fun I s => slices_DeleteFunc_api_Pair_2_L0_step N x.2.1 (fun j => k (.exit j)) I s.1 s.2.1 s.2.2.1) N (x.2.2.1, x.2.2.2.1, y.1, ())
theorem slices_DeleteFunc_api_Pair_2_lp0 (N : Nat) : ∀ st k, (∀ st, k .ret st = (resD (slices_DeleteFunc_api_Pair_2_E N) Tryd.f78 (slices_DeleteFunc_api_Pair_2_sg fun x y => slices_DeleteFunc_api_Pair_2 N x.2.1 y.1) slices_DeleteFunc_api_Pair_2_pk) st) → slices_DeleteFunc_api_Pair_2_LP N 0 (cAt (bodyOf Tryd.f78) [true, true, true, false, true, false, false]) st k = iter (Env.hint (slices_DeleteFunc_api_Pair_2_E N) 0) (exec (slices_DeleteFunc_api_Pair_2_E N) N (cAt (bodyOf Tryd.f78) [true, true, true, false, true, false, false]) 0) N st k := fun st k hk => LPc_eq 42 slices_DeleteFunc_api_Pair_2_L0_fs slices_DeleteFunc_api_Pair_2_L0_bs _ _ (resD (slices_DeleteFunc_api_Pair_2_E N) Tryd.f78 (slices_DeleteFunc_api_Pair_2_sg fun x y => slices_DeleteFunc_api_Pair_2 N x.2.1 y.1) slices_DeleteFunc_api_Pair_2_pk) (slices_DeleteFunc_api_Pair_2_L0_ok N) _ st k hk (rfl)
theorem slices_DeleteFunc_api_Pair_2_core (N : Nat) (x : SV [.row 0, .v (.clo 80 (.pr (.ptr (.sl .str)) .un))]) (y : BV [.row 60 (.pr .str .str) true]) : runL (slices_DeleteFunc_api_Pair_2_E N) Tryd.f78 (slices_DeleteFunc_api_Pair_2_sg fun x y => slices_DeleteFunc_api_Pair_2 N x.2.1 y.1) slices_DeleteFunc_api_Pair_2_pk (slices_DeleteFunc_api_Pair_2_LP N) x y = slices_DeleteFunc_api_Pair_2 N x.2.1 y.1 := by kernel_rfl
theorem slices_DeleteFunc_api_Pair_2_sound (N : Nat) : Sound Tryd.prog GW B0G 78 (slices_DeleteFunc_api_Pair_2_sg fun x y => slices_DeleteFunc_api_Pair_2 N x.2.1 y.1) :=
  runD_sound (mkE_ok slices_DeleteFunc_api_Pair_2_h (slices_DeleteFunc_api_Pair_2_fn N) _ _ (slices_DeleteFunc_api_Pair_2_fn_ok N)) Tryd.func78 rfl Tryd.call78 (slices_DeleteFunc_api_Pair_2_sg fun x y => slices_DeleteFunc_api_Pair_2 N x.2.1 y.1) slices_DeleteFunc_api_Pair_2_pk (fun _ _ => rfl) N (fun x y _ h => ((runL_eq (slices_DeleteFunc_api_Pair_2_E N) N Tryd.f78 (slices_DeleteFunc_api_Pair_2_sg fun x y => slices_DeleteFunc_api_Pair_2 N x.2.1 y.1) slices_DeleteFunc_api_Pair_2_pk (slices_DeleteFunc_api_Pair_2_LP N) (show LoopsOk (slices_DeleteFunc_api_Pair_2_LP N) (slices_DeleteFunc_api_Pair_2_E N) N (resD (slices_DeleteFunc_api_Pair_2_E N) Tryd.f78 (slices_DeleteFunc_api_Pair_2_sg fun x y => slices_DeleteFunc_api_Pair_2 N x.2.1 y.1) slices_DeleteFunc_api_Pair_2_pk) [(0, (cAt (bodyOf Tryd.f78) [true, true, true, false, true, false, false]))] from ⟨slices_DeleteFunc_api_Pair_2_lp0 N, trivial⟩) x y).trans (slices_DeleteFunc_api_Pair_2_core N x y)).trans h)
def config_Only (N : Nat) (x0 : List (Str × List Str)) (x1 : List (Str × Str)) (x2 : List Str) : Option (List (Str × Str) × Int) :=
  bnd (config_CheckConfig N x0 x1) fun t12 =>
  br (t12 != (0 : Int))
    (some (([] : List (Str × Str)), t12))
    (bnd (config_checkNames N x0 x2) fun t18 =>
    br (t18 != (0 : Int))
      (some (([] : List (Str × Str)), t18))
      (bnd (slices_Clone_api_Pair N x1) fun t23 =>
      bnd (slices_DeleteFunc_api_Pair_2 N (x2, ()) t23) fun t25 =>
      some (t25, (0 : Int))))
abbrev config_Only_sg (f : SV [.v (.sl (.pr .str (.sl .str))), .v (.sl (.pr .str .str)), .v (.sl .str)] → BV [] → Option (List (Str × Str) × Int)) : AF := { ps := [.v (.sl (.pr .str (.sl .str))), .v (.sl (.pr .str .str)), .v (.sl .str)], bs := [], rs := [.v (.sl (.pr .str .str)), .v (.int .i64)], cs := [], R := List (Str × Str) × Int, out := fun z => ((z.1, z.2, ()), ()), f := f }
abbrev config_Only_pk : SV [.v (.sl (.pr .str .str)), .v (.int .i64)] → BV [] → (List (Str × Str) × Int) := fun x _ => (x.1, x.2.1)
def config_Only_fn (N : Nat) : FuncId → Option Tmp → Option AF := fun f _ =>
  match f with
    | 18 => some (config_CheckConfig_sg fun x _ => config_CheckConfig N x.1 x.2.1)
    | 77 => some (config_checkNames_sg fun x _ => config_checkNames N x.1 x.2.1)
    | 78 => some (slices_DeleteFunc_api_Pair_2_sg fun x y => slices_DeleteFunc_api_Pair_2 N x.2.1 y.1)
    | 79 => some (slices_Clone_api_Pair_sg fun x _ => slices_Clone_api_Pair N x.1)
    | 80 => some (noneAF [.v (.ptr (.sl .str))])
    | _ => none
theorem config_Only_fn_ok (N : Nat) : ∀ f q F, config_Only_fn N f q = some F → Sound Tryd.prog GW B0G f F := by
  intro f q F h
  unfold config_Only_fn at h
  split at h
  · cases h; exact config_CheckConfig_sound N
  · cases h; exact config_checkNames_sound N
  · cases h; exact slices_DeleteFunc_api_Pair_2_sound N
  · cases h; exact slices_Clone_api_Pair_sound N
  · cases h; exact noneAF_sound Tryd.call80 _
  · cases h
def config_Only_h : Nat → Hint := fun i =>
  match i with
  | _ => ⟨[], [], [], [], []⟩
abbrev config_Only_E (N : Nat) : Env := mkE config_Only_h (config_Only_fn N) (fun _ => false) (fun _ => false)
noncomputable def config_Only_LP (N : Nat) : Nat → Code → St → (Ex → St → Option (List (Str × Str) × Int)) → Option (List (Str × Str) × Int) := fun i c =>
  match i with
  | i => fun st k => iter (config_Only_h i) (exec (config_Only_E N) N c i) N st k
theorem config_Only_core (N : Nat) (x : SV [.v (.sl (.pr .str (.sl .str))), .v (.sl (.pr .str .str)), .v (.sl .str)]) (y : BV []) : runL (config_Only_E N) Tryd.f41 (config_Only_sg fun x _ => config_Only N x.1 x.2.1 x.2.2.1) config_Only_pk (config_Only_LP N) x y = config_Only N x.1 x.2.1 x.2.2.1 := by kernel_rfl
theorem config_Only_sound (N : Nat) : Sound Tryd.prog GW B0G 41 (config_Only_sg fun x _ => config_Only N x.1 x.2.1 x.2.2.1) :=
  runD_sound (mkE_ok config_Only_h (config_Only_fn N) _ _ (config_Only_fn_ok N)) Tryd.func41 rfl Tryd.call41 (config_Only_sg fun x _ => config_Only N x.1 x.2.1 x.2.2.1) config_Only_pk (fun _ _ => rfl) N (fun x y _ h => ((runL_eq (config_Only_E N) N Tryd.f41 (config_Only_sg fun x _ => config_Only N x.1 x.2.1 x.2.2.1) config_Only_pk (config_Only_LP N) (show LoopsOk (config_Only_LP N) (config_Only_E N) N (resD (config_Only_E N) Tryd.f41 (config_Only_sg fun x _ => config_Only N x.1 x.2.1 x.2.2.1) config_Only_pk) [] from trivial) x y).trans (config_Only_core N x y)).trans h)
def config_spread_L2T (N : Nat) (x0 : List (Str × List Str)) (t23 : Str) (t29 : List (Str × Str)) (c37 : List Str) (c38 : Int) (k4 : (List (List (Str × Str))) → Option (List (List (Str × Str)) × Bool)) (self : Int → (List (List (Str × Str))) → Option (List (List (Str × Str)) × Bool)) (s39 : Int) (w1011_1 : List (List (Str × Str))) : Option (List (List (Str × Str)) × Bool) :=
  br (decide (s39 < c38))
    (bnd (geti c37 s39) fun t41 =>
    bnd (config_with N x0 t29 t23 t41) fun t48 =>
    br (decide ((w1011_1.length + [t48].length) * (24 * Ty.sz (.sl (.pr .str .str))) ≤ 140737488355328))
      (self (IntKind.i64.wrap (s39 + (1 : Int))) (w1011_1 ++ [t48]))
      none)
    (k4 w1011_1)
def config_spread_L2 (N : Nat) (x0 : List (Str × List Str)) (t23 : Str) (t29 : List (Str × Str)) (c37 : List Str) (c38 : Int) (k4 : (List (List (Str × Str))) → Option (List (List (Str × Str)) × Bool)) : Nat → Int → (List (List (Str × Str))) → Option (List (List (Str × Str)) × Bool)
  | 0, _, _ => none
  | n + 1, s39, w1011_1 => config_spread_L2T N x0 t23 t29 c37 c38 k4 (config_spread_L2 N x0 t23 t29 c37 c38 k4 n) s39 w1011_1
def config_spread_L1T (N : Nat) (x0 : List (Str × List Str)) (t23 : Str) (s8 : List (List (Str × Str))) (c26 : Int) (k2 : (List (List (Str × Str))) → Option (List (List (Str × Str)) × Bool)) (self : Int → (List (List (Str × Str))) → Option (List (List (Str × Str)) × Bool)) (s27 : Int) (w1011 : List (List (Str × Str))) : Option (List (List (Str × Str)) × Bool) :=
  br (decide (s27 < c26))
    (bnd (geti s8 s27) fun t29 =>
    bnd (config_find N x0 t23) fun t34 =>
    bnd (geti x0 t34) fun t35 =>
    config_spread_L2 N x0 t23 t29 t35.2 (t35.2.length : Int) (fun o2_w1011 =>
        self (IntKind.i64.wrap (s27 + (1 : Int))) o2_w1011) N (0 : Int) w1011)
    (k2 w1011)
def config_spread_L1 (N : Nat) (x0 : List (Str × List Str)) (t23 : Str) (s8 : List (List (Str × Str))) (c26 : Int) (k2 : (List (List (Str × Str))) → Option (List (List (Str × Str)) × Bool)) : Nat → Int → (List (List (Str × Str))) → Option (List (List (Str × Str)) × Bool)
  | 0, _, _ => none
  | n + 1, s27, w1011 => config_spread_L1T N x0 t23 s8 c26 k2 (config_spread_L1 N x0 t23 s8 c26 k2 n) s27 w1011
def config_spread_L0T (N : Nat) (x0 : List (Str × List Str)) (x2 : List Str) (c20 : Int) (k0 : (List (List (Str × Str))) → Option (List (List (Str × Str)) × Bool)) (self : (List (List (Str × Str))) → Int → Option (List (List (Str × Str)) × Bool)) (s8 : List (List (Str × Str))) (s21 : Int) : Option (List (List (Str × Str)) × Bool) :=
  br (decide (s21 < c20))
    (bnd (geti x2 s21) fun t23 =>
    config_spread_L1 N x0 t23 s8 (s8.length : Int) (fun o1_w1011 =>
        br (decide ((o1_w1011.length : Int) > (1000 : Int)))
          (some (([] : List (List (Str × Str))), false))
          (self o1_w1011 (IntKind.i64.wrap (s21 + (1 : Int))))) N (0 : Int) ([] : List (List (Str × Str))))
    (k0 s8)
def config_spread_L0 (N : Nat) (x0 : List (Str × List Str)) (x2 : List Str) (c20 : Int) (k0 : (List (List (Str × Str))) → Option (List (List (Str × Str)) × Bool)) : Nat → (List (List (Str × Str))) → Int → Option (List (List (Str × Str)) × Bool)
  | 0, _, _ => none
  | n + 1, s8, s21 => config_spread_L0T N x0 x2 c20 k0 (config_spread_L0 N x0 x2 c20 k0 n) s8 s21
def config_spread (N : Nat) (x0 : List (Str × List Str)) (x1 : List (Str × Str)) (x2 : List Str) : Option (List (List (Str × Str)) × Bool) :=
  bnd (slices_Clone_api_Pair N x1) fun t17 =>
  config_spread_L0 N x0 x2 (x2.length : Int) (fun o0_8 =>
      some (o0_8, true)) N [t17] (0 : Int)
abbrev config_spread_sg (f : SV [.v (.sl (.pr .str (.sl .str))), .v (.sl (.pr .str .str)), .v (.sl .str)] → BV [] → Option (List (List (Str × Str)) × Bool)) : AF := { ps := [.v (.sl (.pr .str (.sl .str))), .v (.sl (.pr .str .str)), .v (.sl .str)], bs := [], rs := [.v (.sl (.sl (.pr .str .str))), .v .bool], cs := [], R := List (List (Str × Str)) × Bool, out := fun z => ((z.1, z.2, ()), ()), f := f }
abbrev config_spread_pk : SV [.v (.sl (.sl (.pr .str .str))), .v .bool] → BV [] → (List (List (Str × Str)) × Bool) := fun x _ => (x.1, x.2.1)
def config_spread_fn (N : Nat) : FuncId → Option Tmp → Option AF := fun f _ =>
  match f with
    | 49 => some (config_find_sg fun x _ => config_find N x.1 x.2.1)
    | 75 => some (config_with_sg fun x _ => config_with N x.1 x.2.1 x.2.2.1 x.2.2.2.1)
    | 79 => some (slices_Clone_api_Pair_sg fun x _ => slices_Clone_api_Pair N x.1)
    | _ => none
theorem config_spread_fn_ok (N : Nat) : ∀ f q F, config_spread_fn N f q = some F → Sound Tryd.prog GW B0G f F := by
  intro f q F h
  unfold config_spread_fn at h
  split at h
  · cases h; exact config_find_sound N
  · cases h; exact config_with_sound N
  · cases h; exact slices_Clone_api_Pair_sound N
  · cases h
def config_spread_h : Nat → Hint := fun i =>
  match i with
  | 0 => ⟨[8], [0, 8, 19, 20, 21], [], [8], []⟩
  | 2 => ⟨[], [0, 10, 11, 19, 20, 21, 25, 26, 27], [1011], [0, 11, 19, 20, 21], [1011]⟩
  | 4 => ⟨[], [0, 10, 11, 13, 19, 20, 21, 25, 26, 27, 37, 38, 39], [1011], [0, 10, 11, 19, 20, 21, 25, 26, 27], [1011]⟩
  | _ => ⟨[], [], [], [], []⟩
abbrev config_spread_E (N : Nat) : Env := mkE config_spread_h (config_spread_fn N) (fun _ => false) (fun _ => false)
abbrev config_spread_L2_fs : List (Nat × Sl) := [(0, .v (.sl (.pr .str (.sl .str)))), (10, .v .str), (11, .row 1011), (13, .v (.sl (.pr .str .str))), (19, .v (.sl .str)), (20, .v (.int .i64)), (21, .v (.int .i64)), (25, .v (.sl (.sl (.pr .str .str)))), (26, .v (.int .i64)), (27, .v (.int .i64)), (37, .v (.sl .str)), (38, .v (.int .i64)), (39, .v (.int .i64))]
abbrev config_spread_L2_bs : List (Nat × Sb) := [(1011, .row 23 (.sl (.pr .str .str)) false)]
def config_spread_L2_hd (x0 : List (Str × List Str)) (t23 : Str) (t29 : List (Str × Str)) (x2 : List Str) (c20 : Int) (s21 : Int) (s8 : List (List (Str × Str))) (c26 : Int) (s27 : Int) (c37 : List Str) (c38 : Int) (s39 : Int) (w1011_1 : List (List (Str × Str))) : St := ⟨59, [(0, .v (.sl (.pr .str (.sl .str))) x0), (10, .v .str t23), (11, .row 1011), (13, .v (.sl (.pr .str .str)) t29), (19, .v (.sl .str) x2), (20, .v (.int .i64) c20), (21, .v (.int .i64) s21), (25, .v (.sl (.sl (.pr .str .str))) s8), (26, .v (.int .i64) c26), (27, .v (.int .i64) s27), (37, .v (.sl .str) c37), (38, .v (.int .i64) c38), (39, .v (.int .i64) s39)], [(1011, .row 23 (.sl (.pr .str .str)) false w1011_1)]⟩
def config_spread_L2_tl4 (x0 : List (Str × List Str)) (t23 : Str) (_t29 : List (Str × Str)) (x2 : List Str) (c20 : Int) (s21 : Int) (s8 : List (List (Str × Str))) (c26 : Int) (s27 : Int) (_c37 : List Str) (_c38 : Int) (o2_w1011 : List (List (Str × Str))) : St := ⟨59, [(0, .v (.sl (.pr .str (.sl .str))) x0), (10, .v .str t23), (11, .row 1011), (19, .v (.sl .str) x2), (20, .v (.int .i64) c20), (21, .v (.int .i64) s21), (25, .v (.sl (.sl (.pr .str .str))) s8), (26, .v (.int .i64) c26), (27, .v (.int .i64) s27)], [(1011, .row 23 (.sl (.pr .str .str)) false o2_w1011)]⟩
def config_spread_L2_G (N : Nat) (x0 : List (Str × List Str)) (t23 : Str) (t29 : List (Str × Str)) (x2 : List Str) (c20 : Int) (s21 : Int) (s8 : List (List (Str × Str))) (c26 : Int) (s27 : Int) (c37 : List Str) (c38 : Int) (s39 : Int) (w1011_1 : List (List (Str × Str))) (k : Ex → St → Option (List (List (Str × Str)) × Bool)) : Option (List (List (Str × Str)) × Bool) :=
  config_spread_L2 N x0 t23 t29 c37 c38 (fun o2_w1011 => k (.exit 4) (config_spread_L2_tl4 x0 t23 t29 x2 c20 s21 s8 c26 s27 c37 c38 o2_w1011)) N s39 w1011_1
abbrev config_spread_L2_F (N : Nat) : FV config_spread_L2_fs → HV config_spread_L2_bs → (Ex → St → Option (List (List (Str × Str)) × Bool)) → Option (List (List (Str × Str)) × Bool) := fun x y k => config_spread_L2_G N x.1 x.2.1 x.2.2.2.1 x.2.2.2.2.1 x.2.2.2.2.2.1 x.2.2.2.2.2.2.1 x.2.2.2.2.2.2.2.1 x.2.2.2.2.2.2.2.2.1 x.2.2.2.2.2.2.2.2.2.1 x.2.2.2.2.2.2.2.2.2.2.1 x.2.2.2.2.2.2.2.2.2.2.2.1 x.2.2.2.2.2.2.2.2.2.2.2.2.1 y.1 k
abbrev config_spread_L1_fs : List (Nat × Sl) := [(0, .v (.sl (.pr .str (.sl .str)))), (10, .v .str), (11, .row 1011), (19, .v (.sl .str)), (20, .v (.int .i64)), (21, .v (.int .i64)), (25, .v (.sl (.sl (.pr .str .str)))), (26, .v (.int .i64)), (27, .v (.int .i64))]
abbrev config_spread_L1_bs : List (Nat × Sb) := [(1011, .row 23 (.sl (.pr .str .str)) false)]
def config_spread_L1_hd (x0 : List (Str × List Str)) (t23 : Str) (x2 : List Str) (c20 : Int) (s21 : Int) (s8 : List (List (Str × Str))) (c26 : Int) (s27 : Int) (w1011 : List (List (Str × Str))) : St := ⟨59, [(0, .v (.sl (.pr .str (.sl .str))) x0), (10, .v .str t23), (11, .row 1011), (19, .v (.sl .str) x2), (20, .v (.int .i64) c20), (21, .v (.int .i64) s21), (25, .v (.sl (.sl (.pr .str .str))) s8), (26, .v (.int .i64) c26), (27, .v (.int .i64) s27)], [(1011, .row 23 (.sl (.pr .str .str)) false w1011)]⟩
def config_spread_L1_tl2 (x0 : List (Str × List Str)) (_t23 : Str) (x2 : List Str) (c20 : Int) (s21 : Int) (_s8 : List (List (Str × Str))) (_c26 : Int) (o1_w1011 : List (List (Str × Str))) : St := ⟨59, [(0, .v (.sl (.pr .str (.sl .str))) x0), (11, .row 1011), (19, .v (.sl .str) x2), (20, .v (.int .i64) c20), (21, .v (.int .i64) s21)], [(1011, .row 23 (.sl (.pr .str .str)) false o1_w1011)]⟩
def config_spread_L1_G (N : Nat) (x0 : List (Str × List Str)) (t23 : Str) (x2 : List Str) (c20 : Int) (s21 : Int) (s8 : List (List (Str × Str))) (c26 : Int) (s27 : Int) (w1011 : List (List (Str × Str))) (k : Ex → St → Option (List (List (Str × Str)) × Bool)) : Option (List (List (Str × Str)) × Bool) :=
  config_spread_L1 N x0 t23 s8 c26 (fun o1_w1011 => k (.exit 2) (config_spread_L1_tl2 x0 t23 x2 c20 s21 s8 c26 o1_w1011)) N s27 w1011
abbrev config_spread_L1_F (N : Nat) : FV config_spread_L1_fs → HV config_spread_L1_bs → (Ex → St → Option (List (List (Str × Str)) × Bool)) → Option (List (List (Str × Str)) × Bool) := fun x y k => config_spread_L1_G N x.1 x.2.1 x.2.2.2.1 x.2.2.2.2.1 x.2.2.2.2.2.1 x.2.2.2.2.2.2.1 x.2.2.2.2.2.2.2.1 x.2.2.2.2.2.2.2.2.1 y.1 k
abbrev config_spread_L0_fs : List (Nat × Sl) := [(0, .v (.sl (.pr .str (.sl .str)))), (8, .v (.sl (.sl (.pr .str .str)))), (19, .v (.sl .str)), (20, .v (.int .i64)), (21, .v (.int .i64))]
abbrev config_spread_L0_bs : List (Nat × Sb) := []
def config_spread_L0_hd (x0 : List (Str × List Str)) (x2 : List Str) (c20 : Int) (s8 : List (List (Str × Str))) (s21 : Int) : St := ⟨59, [(0, .v (.sl (.pr .str (.sl .str))) x0), (8, .v (.sl (.sl (.pr .str .str))) s8), (19, .v (.sl .str) x2), (20, .v (.int .i64) c20), (21, .v (.int .i64) s21)], []⟩
def config_spread_L0_tl0 (_x0 : List (Str × List Str)) (_x2 : List Str) (_c20 : Int) (o0_8 : List (List (Str × Str))) : St := ⟨59, [(8, .v (.sl (.sl (.pr .str .str))) o0_8)], []⟩
def config_spread_L0_G (N : Nat) (x0 : List (Str × List Str)) (x2 : List Str) (c20 : Int) (s8 : List (List (Str × Str))) (s21 : Int) (k : Ex → St → Option (List (List (Str × Str)) × Bool)) : Option (List (List (Str × Str)) × Bool) :=
  config_spread_L0 N x0 x2 c20 (fun o0_8 => k (.exit 0) (config_spread_L0_tl0 x0 x2 c20 o0_8)) N s8 s21
abbrev config_spread_L0_F (N : Nat) : FV config_spread_L0_fs → HV config_spread_L0_bs → (Ex → St → Option (List (List (Str × Str)) × Bool)) → Option (List (List (Str × Str)) × Bool) := fun x _ k => config_spread_L0_G N x.1 x.2.2.1 x.2.2.2.1 x.2.1 x.2.2.2.2.1 k
noncomputable def config_spread_LP (N : Nat) : Nat → Code → St → (Ex → St → Option (List (List (Str × Str)) × Bool)) → Option (List (List (Str × Str)) × Bool) := fun i c =>
  match i with
  | 0 => (LPc 59 config_spread_L0_fs config_spread_L0_bs (config_spread_L0_F N) (fun st k => iter (config_spread_h 0) (exec (config_spread_E N) N c 0) N st k))
  | 2 => (LPc 59 config_spread_L1_fs config_spread_L1_bs (config_spread_L1_F N) (fun st k => iter (config_spread_h 2) (exec (config_spread_E N) N c 2) N st k))
  | 4 => (LPc 59 config_spread_L2_fs config_spread_L2_bs (config_spread_L2_F N) (fun st k => iter (config_spread_h 4) (exec (config_spread_E N) N c 4) N st k))
  | i => fun st k => iter (config_spread_h i) (exec (config_spread_E N) N c i) N st k
theorem config_spread_L2_step (N : Nat) (x0 : List (Str × List Str)) (t23 : Str) (t29 : List (Str × Str)) (x2 : List Str) (c20 : Int) (s21 : Int) (s8 : List (List (Str × Str))) (c26 : Int) (s27 : Int) (c37 : List Str) (c38 : Int) (KX : Nat → St → Option (List (List (Str × Str)) × Bool)) (I : St → Option (List (List (Str × Str)) × Bool)) (s39 : Int) (w1011_1 : List (List (Str × Str))) :
    execL (config_spread_LP N) (config_spread_E N) (cAt (bodyOf Tryd.f82) [true, true, false, true, false, false, true, true, false, false, true, true, false, true, false, false, true, true, false, false, true, true, false, false]) 4 (config_spread_L2_hd x0 t23 t29 x2 c20 s21 s8 c26 s27 c37 c38 s39 w1011_1) (roundK (config_spread_h 4) I KX (resD (config_spread_E N) Tryd.f82 (config_spread_sg fun x _ => config_spread N x.1 x.2.1 x.2.2.1) config_spread_pk)) = config_spread_L2T N x0 t23 t29 c37 c38 (fun o2_w1011 => KX 4 (config_spread_L2_tl4 x0 t23 t29 x2 c20 s21 s8 c26 s27 c37 c38 o2_w1011)) (fun s39 w1011_1 => I (config_spread_L2_hd x0 t23 t29 x2 c20 s21 s8 c26 s27 c37 c38 s39 w1011_1)) s39 w1011_1 := by kernel_rfl
theorem config_spread_L2_ok (N : Nat) : ∀ x y k, (∀ st, k .ret st = (resD (config_spread_E N) Tryd.f82 (config_spread_sg fun x _ => config_spread N x.1 x.2.1 x.2.2.1) config_spread_pk) st) → iter (config_spread_h 4) (exec (config_spread_E N) N (cAt (bodyOf Tryd.f82) [true, true, false, true, false, false, true, true, false, false, true, true, false, true, false, false, true, true, false, false, true, true, false, false]) 4) N ⟨59, unF config_spread_L2_fs x, unH config_spread_L2_bs y⟩ k = config_spread_L2_F N x y k := fun x y k hk =>
  iter_link (S := (Int) × (List (List (Str × Str))) × Unit) (config_spread_h 4) _ (execL (config_spread_LP N) (config_spread_E N) (cAt (bodyOf Tryd.f82) [true, true, false, true, false, false, true, true, false, false, true, true, false, true, false, false, true, true, false, false, true, true, false, false]) 4) (resD (config_spread_E N) Tryd.f82 (config_spread_sg fun x _ => config_spread N x.1 x.2.1 x.2.2.1) config_spread_pk) (fun st k hk => execL_eq _ _ N _ (cAt (bodyOf Tryd.f82) [true, true, false, true, false, false, true, true, false, false, true, true, false, true, false, false, true, true, false, false, true, true, false, false]) 4 (show LoopsOk (config_spread_LP N) (config_spread_E N) N (resD (config_spread_E N) Tryd.f82 (config_spread_sg fun x _ => config_spread N x.1 x.2.1 x.2.2.1) config_spread_pk) [] from trivial) st k hk) (fun s => config_spread_L2_hd x.1 x.2.1 x.2.2.2.1 x.2.2.2.2.1 x.2.2.2.2.2.1 x.2.2.2.2.2.2.1 x.2.2.2.2.2.2.2.1 x.2.2.2.2.2.2.2.2.1 x.2.2.2.2.2.2.2.2.2.1 x.2.2.2.2.2.2.2.2.2.2.1 x.2.2.2.2.2.2.2.2.2.2.2.1 s.1 s.2.1) k hk
    (fun self s => config_spread_L2T N x.1 x.2.1 x.2.2.2.1 x.2.2.2.2.2.2.2.2.2.2.1 x.2.2.2.2.2.2.2.2.2.2.2.1 (fun o2_w1011 => k (.exit 4) (config_spread_L2_tl4 x.1 x.2.1 x.2.2.2.1 x.2.2.2.2.1 x.2.2.2.2.2.1 x.2.2.2.2.2.2.1 x.2.2.2.2.2.2.2.1 x.2.2.2.2.2.2.2.2.1 x.2.2.2.2.2.2.2.2.2.1 x.2.2.2.2.2.2.2.2.2.2.1 x.2.2.2.2.2.2.2.2.2.2.2.1 o2_w1011)) (fun s39 w1011_1 => self (s39, w1011_1, ())) s.1 s.2.1) (fun n s => config_spread_L2 N x.1 x.2.1 x.2.2.2.1 x.2.2.2.2.2.2.2.2.2.2.1 x.2.2.2.2.2.2.2.2.2.2.2.1 (fun o2_w1011 => k (.exit 4) (config_spread_L2_tl4 x.1 x.2.1 x.2.2.2.1 x.2.2.2.2.1 x.2.2.2.2.2.1 x.2.2.2.2.2.2.1 x.2.2.2.2.2.2.2.1 x.2.2.2.2.2.2.2.2.1 x.2.2.2.2.2.2.2.2.2.1 x.2.2.2.2.2.2.2.2.2.2.1 x.2.2.2.2.2.2.2.2.2.2.2.1 o2_w1011)) n s.1 s.2.1) (fun _ => rfl) (fun _ _ => rfl)
    (fun I s => config_spread_L2_step N x.1 x.2.1 x.2.2.2.1 x.2.2.2.2.1 x.2.2.2.2.2.1 x.2.2.2.2.2.2.1 x.2.2.2.2.2.2.2.1 x.2.2.2.2.2.2.2.2.1 x.2.2.2.2.2.2.2.2.2.1 x.2.2.2.2.2.2.2.2.2.2.1 x.2.2.2.2.2.2.2.2.2.2.2.1 (fun j => k (.exit j)) I s.1 s.2.1) N (x.2.2.2.2.2.2.2.2.2.2.2.2.1, y.1, ())
theorem config_spread_lp4 (N : Nat) : ∀ st k, (∀ st, k .ret st = (resD (config_spread_E N) Tryd.f82 (config_spread_sg fun x _ => config_spread N x.1 x.2.1 x.2.2.1) config_spread_pk) st) → config_spread_LP N 4 (cAt (bodyOf Tryd.f82) [true, true, false, true, false, false, true, true, false, false, true, true, false, true, false, false, true, true, false, false, true, true, false, false]) st k = iter (Env.hint (config_spread_E N) 4) (exec (config_spread_E N) N (cAt (bodyOf Tryd.f82) [true, true, false, true, false, false, true, true, false, false, true, true, false, true, false, false, true, true, false, false, true, true, false, false]) 4) N st k := fun st k hk => LPc_eq 59 config_spread_L2_fs config_spread_L2_bs _ _ (resD (config_spread_E N) Tryd.f82 (config_spread_sg fun x _ => config_spread N x.1 x.2.1 x.2.2.1) config_spread_pk) (config_spread_L2_ok N) _ st k hk (rfl)
theorem config_spread_L1_step (N : Nat) (x0 : List (Str × List Str)) (t23 : Str) (x2 : List Str) (c20 : Int) (s21 : Int) (s8 : List (List (Str × Str))) (c26 : Int) (KX : Nat → St → Option (List (List (Str × Str)) × Bool)) (I : St → Option (List (List (Str × Str)) × Bool)) (s27 : Int) (w1011 : List (List (Str × Str))) :
    execL (config_spread_LP N) (config_spread_E N) (cAt (bodyOf Tryd.f82) [true, true, false, true, false, false, true, true, false, false, true, true, false, true, false, false]) 2 (config_spread_L1_hd x0 t23 x2 c20 s21 s8 c26 s27 w1011) (roundK (config_spread_h 2) I KX (resD (config_spread_E N) Tryd.f82 (config_spread_sg fun x _ => config_spread N x.1 x.2.1 x.2.2.1) config_spread_pk)) = config_spread_L1T N x0 t23 s8 c26 (fun o1_w1011 => KX 2 (config_spread_L1_tl2 x0 t23 x2 c20 s21 s8 c26 o1_w1011)) (fun s27 w1011 => I (config_spread_L1_hd x0 t23 x2 c20 s21 s8 c26 s27 w1011)) s27 w1011 := by kernel_rfl
theorem config_spread_L1_ok (N : Nat) : ∀ x y k, (∀ st, k .ret st = (resD (config_spread_E N) Tryd.f82 (config_spread_sg fun x _ => config_spread N x.1 x.2.1 x.2.2.1) config_spread_pk) st) → iter (config_spread_h 2) (exec (config_spread_E N) N (cAt (bodyOf Tryd.f82) [true, true, false, true, false, false, true, true, false, false, true, true, false, true, false, false]) 2) N ⟨59, unF config_spread_L1_fs x, unH config_spread_L1_bs y⟩ k = config_spread_L1_F N x y k := fun x y k hk =>
  iter_link (S := (Int) × (List (List (Str × Str))) × Unit) (config_spread_h 2) _ (execL (config_spread_LP N) (config_spread_E N) (cAt (bodyOf Tryd.f82) [true, true, false, true, false, false, true, true, false, false, true, true, false, true, false, false]) 2) (resD (config_spread_E N) Tryd.f82 (config_spread_sg fun x _ => config_spread N x.1 x.2.1 x.2.2.1) config_spread_pk) (fun st k hk => execL_eq _ _ N _ (cAt (bodyOf Tryd.f82) [true, true, false, true, false, false, true, true, false, false, true, true, false, true, false, false]) 2 (show LoopsOk (config_spread_LP N) (config_spread_E N) N (resD (config_spread_E N) Tryd.f82 (config_spread_sg fun x _ => config_spread N x.1 x.2.1 x.2.2.1) config_spread_pk) [(4, (cAt (bodyOf Tryd.f82) [true, true, false, true, false, false, true, true, false, false, true, true, false, true, false, false, true, true, false, false, true, true, false, false]))] from ⟨config_spread_lp4 N, trivial⟩) st k hk) (fun s => config_spread_L1_hd x.1 x.2.1 x.2.2.2.1 x.2.2.2.2.1 x.2.2.2.2.2.1 x.2.2.2.2.2.2.1 x.2.2.2.2.2.2.2.1 s.1 s.2.1) k hk
    (fun self s => config_spread_L1T N x.1 x.2.1 x.2.2.2.2.2.2.1 x.2.2.2.2.2.2.2.1 (fun o1_w1011 => k (.exit 2) (config_spread_L1_tl2 x.1 x.2.1 x.2.2.2.1 x.2.2.2.2.1 x.2.2.2.2.2.1 x.2.2.2.2.2.2.1 x.2.2.2.2.2.2.2.1 o1_w1011)) (fun s27 w1011 => self (s27, w1011, ())) s.1 s.2.1) (fun n s => config_spread_L1 N x.1 x.2.1 x.2.2.2.2.2.2.1 x.2.2.2.2.2.2.2.1 (fun o1_w1011 => k (.exit 2) (config_spread_L1_tl2 x.1 x.2.1 x.2.2.2.1 x.2.2.2.2.1 x.2.2.2.2.2.1 x.2.2.2.2.2.2.1 x.2.2.2.2.2.2.2.1 o1_w1011)) n s.1 s.2.1) (fun _ => rfl) (fun _ _ => rfl)
    (fun I s => config_spread_L1_step N x.1 x.2.1 x.2.2.2.1 x.2.2.2.2.1 x.2.2.2.2.2.1 x.2.2.2.2.2.2.1 x.2.2.2.2.2.2.2.1 (fun j => k (.exit j)) I s.1 s.2.1) N (x.2.2.2.2.2.2.2.2.1, y.1, ())
theorem config_spread_lp2 (N : Nat) : ∀ st k, (∀ st, k .ret st = (resD (config_spread_E N) Tryd.f82 (config_spread_sg fun x _ => config_spread N x.1 x.2.1 x.2.2.1) config_spread_pk) st) → config_spread_LP N 2 (cAt (bodyOf Tryd.f82) [true, true, false, true, false, false, true, true, false, false, true, true, false, true, false, false]) st k = iter (Env.hint (config_spread_E N) 2) (exec (config_spread_E N) N (cAt (bodyOf Tryd.f82) [true, true, false, true, false, false, true, true, false, false, true, true, false, true, false, false]) 2) N st k := fun st k hk => LPc_eq 59 config_spread_L1_fs config_spread_L1_bs _ _ (resD (config_spread_E N) Tryd.f82 (config_spread_sg fun x _ => config_spread N x.1 x.2.1 x.2.2.1) config_spread_pk) (config_spread_L1_ok N) _ st k hk (rfl)
theorem config_spread_L0_step (N : Nat) (x0 : List (Str × List Str)) (x2 : List Str) (c20 : Int) (KX : Nat → St → Option (List (List (Str × Str)) × Bool)) (I : St → Option (List (List (Str × Str)) × Bool)) (s8 : List (List (Str × Str))) (s21 : Int) :
    execL (config_spread_LP N) (config_spread_E N) (cAt (bodyOf Tryd.f82) [true, true, false, true, false, false]) 0 (config_spread_L0_hd x0 x2 c20 s8 s21) (roundK (config_spread_h 0) I KX (resD (config_spread_E N) Tryd.f82 (config_spread_sg fun x _ => config_spread N x.1 x.2.1 x.2.2.1) config_spread_pk)) = config_spread_L0T N x0 x2 c20 (fun o0_8 => KX 0 (config_spread_L0_tl0 x0 x2 c20 o0_8)) (fun s8 s21 => I (config_spread_L0_hd x0 x2 c20 s8 s21)) s8 s21 := by kernel_rfl
theorem config_spread_L0_ok (N : Nat) : ∀ x y k, (∀ st, k .ret st = (resD (config_spread_E N) Tryd.f82 (config_spread_sg fun x _ => config_spread N x.1 x.2.1 x.2.2.1) config_spread_pk) st) → iter (config_spread_h 0) (exec (config_spread_E N) N (cAt (bodyOf Tryd.f82) [true, true, false, true, false, false]) 0) N ⟨59, unF config_spread_L0_fs x, unH config_spread_L0_bs y⟩ k = config_spread_L0_F N x y k := fun x _ k hk =>
  iter_link (S := (List (List (Str × Str))) × (Int) × Unit) (config_spread_h 0) _ (execL (config_spread_LP N) (config_spread_E N) (cAt (bodyOf Tryd.f82) [true, true, false, true, false, false]) 0) (resD (config_spread_E N) Tryd.f82 (config_spread_sg fun x _ => config_spread N x.1 x.2.1 x.2.2.1) config_spread_pk) (fun st k hk => execL_eq _ _ N _ (cAt (bodyOf Tryd.f82) [true, true, false, true, false, false]) 0 (show LoopsOk (config_spread_LP N) (config_spread_E N) N (resD (config_spread_E N) Tryd.f82 (config_spread_sg fun x _ => config_spread N x.1 x.2.1 x.2.2.1) config_spread_pk) [(2, (cAt (bodyOf Tryd.f82) [true, true, false, true, false, false, true, true, false, false, true, true, false, true, false, false])), (4, (cAt (bodyOf Tryd.f82) [true, true, false, true, false, false, true, true, false, false, true, true, false, true, false, false, true, true, false, false, true, true, false, false]))] from ⟨config_spread_lp2 N, config_spread_lp4 N, trivial⟩) st k hk) (fun s => config_spread_L0_hd x.1 x.2.2.1 x.2.2.2.1 s.1 s.2.1) k hk
    (fun self s => config_spread_L0T N x.1 x.2.2.1 x.2.2.2.1 (fun o0_8 => k (.exit 0) (config_spread_L0_tl0 x.1 x.2.2.1 x.2.2.2.1 o0_8)) (fun s8 s21 => self (s8, s21, ())) s.1 s.2.1) (fun n s => config_spread_L0 N x.1 x.2.2.1 x.2.2.2.1 (fun o0_8 => k (.exit 0) (config_spread_L0_tl0 x.1 x.2.2.1 x.2.2.2.1 o0_8)) n s.1 s.2.1) (fun _ => rfl) (fun _ _ => rfl)
    (fun I s => config_spread_L0_step N x.1 x.2.2.1 x.2.2.2.1 (fun j => k (.exit j)) I s.1 s.2.1) N (x.2.1, x.2.2.2.2.1, ())
theorem config_spread_lp0 (N : Nat) : ∀ st k, (∀ st, k .ret st = (resD (config_spread_E N) Tryd.f82 (config_spread_sg fun x _ => config_spread N x.1 x.2.1 x.2.2.1) config_spread_pk) st) → config_spread_LP N 0 (cAt (bodyOf Tryd.f82) [true, true, false, true, false, false]) st k = iter (Env.hint (config_spread_E N) 0) (exec (config_spread_E N) N (cAt (bodyOf Tryd.f82) [true, true, false, true, false, false]) 0) N st k := fun st k hk => LPc_eq 59 config_spread_L0_fs config_spread_L0_bs _ _ (resD (config_spread_E N) Tryd.f82 (config_spread_sg fun x _ => config_spread N x.1 x.2.1 x.2.2.1) config_spread_pk) (config_spread_L0_ok N) _ st k hk (rfl)
theorem config_spread_core (N : Nat) (x : SV [.v (.sl (.pr .str (.sl .str))), .v (.sl (.pr .str .str)), .v (.sl .str)]) (y : BV []) : runL (config_spread_E N) Tryd.f82 (config_spread_sg fun x _ => config_spread N x.1 x.2.1 x.2.2.1) config_spread_pk (config_spread_LP N) x y = config_spread N x.1 x.2.1 x.2.2.1 := by kernel_rfl
theorem config_spread_sound (N : Nat) : Sound Tryd.prog GW B0G 82 (config_spread_sg fun x _ => config_spread N x.1 x.2.1 x.2.2.1) :=
  runD_sound (mkE_ok config_spread_h (config_spread_fn N) _ _ (config_spread_fn_ok N)) Tryd.func82 rfl Tryd.call82 (config_spread_sg fun x _ => config_spread N x.1 x.2.1 x.2.2.1) config_spread_pk (fun _ _ => rfl) N (fun x y _ h => ((runL_eq (config_spread_E N) N Tryd.f82 (config_spread_sg fun x _ => config_spread N x.1 x.2.1 x.2.2.1) config_spread_pk (config_spread_LP N) (show LoopsOk (config_spread_LP N) (config_spread_E N) N (resD (config_spread_E N) Tryd.f82 (config_spread_sg fun x _ => config_spread N x.1 x.2.1 x.2.2.1) config_spread_pk) [(0, (cAt (bodyOf Tryd.f82) [true, true, false, true, false, false])), (2, (cAt (bodyOf Tryd.f82) [true, true, false, true, false, false, true, true, false, false, true, true, false, true, false, false])), (4, (cAt (bodyOf Tryd.f82) [true, true, false, true, false, false, true, true, false, false, true, true, false, true, false, false, true, true, false, false, true, true, false, false]))] from ⟨config_spread_lp0 N, config_spread_lp2 N, config_spread_lp4 N, trivial⟩) x y).trans (config_spread_core N x y)).trans h)
def config_All (N : Nat) (x0 : List (Str × List Str)) (x1 : List Str) : Option (List (List (Str × Str)) × Int) :=
  bnd (config_CheckSettings N x0) fun t11 =>
  br (t11 != (0 : Int))
    (some (([] : List (List (Str × Str))), t11))
    (bnd (config_checkNames N x0 x1) fun t17 =>
    br (t17 != (0 : Int))
      (some (([] : List (List (Str × Str))), t17))
      (bnd (config_spread N x0 ([] : List (Str × Str)) x1) fun t24 =>
      br (!t24.2)
        (some (([] : List (List (Str × Str))), (2 : Int)))
        (some (t24.1, (0 : Int)))))
abbrev config_All_sg (f : SV [.v (.sl (.pr .str (.sl .str))), .v (.sl .str)] → BV [] → Option (List (List (Str × Str)) × Int)) : AF := { ps := [.v (.sl (.pr .str (.sl .str))), .v (.sl .str)], bs := [], rs := [.v (.sl (.sl (.pr .str .str))), .v (.int .i64)], cs := [], R := List (List (Str × Str)) × Int, out := fun z => ((z.1, z.2, ()), ()), f := f }
abbrev config_All_pk : SV [.v (.sl (.sl (.pr .str .str))), .v (.int .i64)] → BV [] → (List (List (Str × Str)) × Int) := fun x _ => (x.1, x.2.1)
def config_All_fn (N : Nat) : FuncId → Option Tmp → Option AF := fun f _ =>
  match f with
    | 16 => some (config_CheckSettings_sg fun x _ => config_CheckSettings N x.1)
    | 77 => some (config_checkNames_sg fun x _ => config_checkNames N x.1 x.2.1)
    | 82 => some (config_spread_sg fun x _ => config_spread N x.1 x.2.1 x.2.2.1)
    | _ => none
theorem config_All_fn_ok (N : Nat) : ∀ f q F, config_All_fn N f q = some F → Sound Tryd.prog GW B0G f F := by
  intro f q F h
  unfold config_All_fn at h
  split at h
  · cases h; exact config_CheckSettings_sound N
  · cases h; exact config_checkNames_sound N
  · cases h; exact config_spread_sound N
  · cases h
def config_All_h : Nat → Hint := fun i =>
  match i with
  | _ => ⟨[], [], [], [], []⟩
abbrev config_All_E (N : Nat) : Env := mkE config_All_h (config_All_fn N) (fun _ => false) (fun _ => false)
noncomputable def config_All_LP (N : Nat) : Nat → Code → St → (Ex → St → Option (List (List (Str × Str)) × Int)) → Option (List (List (Str × Str)) × Int) := fun i c =>
  match i with
  | i => fun st k => iter (config_All_h i) (exec (config_All_E N) N c i) N st k
theorem config_All_core (N : Nat) (x : SV [.v (.sl (.pr .str (.sl .str))), .v (.sl .str)]) (y : BV []) : runL (config_All_E N) Tryd.f43 (config_All_sg fun x _ => config_All N x.1 x.2.1) config_All_pk (config_All_LP N) x y = config_All N x.1 x.2.1 := by kernel_rfl
theorem config_All_sound (N : Nat) : Sound Tryd.prog GW B0G 43 (config_All_sg fun x _ => config_All N x.1 x.2.1) :=
  runD_sound (mkE_ok config_All_h (config_All_fn N) _ _ (config_All_fn_ok N)) Tryd.func43 rfl Tryd.call43 (config_All_sg fun x _ => config_All N x.1 x.2.1) config_All_pk (fun _ _ => rfl) N (fun x y _ h => ((runL_eq (config_All_E N) N Tryd.f43 (config_All_sg fun x _ => config_All N x.1 x.2.1) config_All_pk (config_All_LP N) (show LoopsOk (config_All_LP N) (config_All_E N) N (resD (config_All_E N) Tryd.f43 (config_All_sg fun x _ => config_All N x.1 x.2.1) config_All_pk) [] from trivial) x y).trans (config_All_core N x y)).trans h)
end
end Go.Proofs.YtbekhaioddmliaaDoor
