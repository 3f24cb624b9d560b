/- What functions of the program compute, as plain functions (printed). -/
import Derived.Test.YtbekhaioddmliaaDoorQCfF13
import Derived.Test.YtbekhaioddmliaaDoorQCfF9
import Derived.Test.YtbekhaioddmliaaDoorQFor2
namespace Go.Proofs.YtbekhaioddmliaaDoor
open Go Go.RowKit
set_option maxRecDepth 100000
set_option linter.unusedVariables false
noncomputable section
def script_kindOf (_N : Nat) (x0 : GValue) : Option Int :=
  br (x0.kind == (4 : Int))
    (bnd (geti x0.cases (0 : Int)) fun t8 =>
    some t8.2.kind)
    (some x0.kind)
abbrev script_kindOf_sg (f : SV [.v (.rc .value)] → BV [] → Option (Int)) : AF := { ps := [.v (.rc .value)], bs := [], rs := [.v (.int .i64)], cs := [], R := Int, out := fun z => ((z, ()), ()), f := f }
abbrev script_kindOf_pk : SV [.v (.int .i64)] → BV [] → Int := fun x _ => x.1
def script_kindOf_fn (_N : Nat) : FuncId → Option Tmp → Option AF := fun f _ =>
  match f with
    | _ => none
theorem script_kindOf_fn_ok (N : Nat) : ∀ f q F, script_kindOf_fn N f q = some F → Sound Tryd.prog GW B0G f F := by
  intro f q F h
  unfold script_kindOf_fn at h
  split at h
  · cases h
def script_kindOf_h : Nat → Hint := fun i =>
  match i with
  | _ => ⟨[], [], [], [], [], []⟩
abbrev script_kindOf_E (N : Nat) : Env := mkE script_kindOf_h (script_kindOf_fn N) (fun _ => false) (fun _ => false)
noncomputable def script_kindOf_LP (N : Nat) : Nat → Code → St → (Ex → St → Option Int) → Option Int := fun i c =>
  match i with
  | i => fun st k => iter (script_kindOf_h i) (exec (script_kindOf_E N) N c i) N st k
theorem script_kindOf_core (N : Nat) (x : SV [.v (.rc .value)]) (y : BV []) : runL (script_kindOf_E N) Tryd.f124 (script_kindOf_sg fun x _ => script_kindOf N x.1) script_kindOf_pk (script_kindOf_LP N) x y = script_kindOf N x.1 := by kernel_rfl
theorem script_kindOf_sound (N : Nat) : Sound Tryd.prog GW B0G 124 (script_kindOf_sg fun x _ => script_kindOf N x.1) :=
  runD_sound (mkE_ok script_kindOf_h (script_kindOf_fn N) _ _ (script_kindOf_fn_ok N)) Tryd.func124 rfl Tryd.call124 (script_kindOf_sg fun x _ => script_kindOf N x.1) script_kindOf_pk (fun _ _ => rfl) N (fun x y _ h => ((runL_eq (script_kindOf_E N) N Tryd.f124 (script_kindOf_sg fun x _ => script_kindOf N x.1) script_kindOf_pk (script_kindOf_LP N) (show LoopsOk (script_kindOf_LP N) (script_kindOf_E N) N (resD (script_kindOf_E N) Tryd.f124 (script_kindOf_sg fun x _ => script_kindOf N x.1) script_kindOf_pk) [] from trivial) x y).trans (script_kindOf_core N x y)).trans h)
def slices_Concat_string_string_L0T (_N : Nat) (c9 : List (List Str)) (c10 : Int) (k0 : Int → Option (List Str)) (self : Int → Int → Option (List Str)) (s3 : Int) (s11 : Int) : Option (List Str) :=
  br (decide (s11 < c10))
    (bnd (geti c9 s11) fun t13 =>
    br (decide ((IntKind.i64.wrap (s3 + (t13.length : Int))) < (0 : Int)))
      none
      (self (IntKind.i64.wrap (s3 + (t13.length : Int))) (IntKind.i64.wrap (s11 + (1 : Int)))))
    (k0 s3)
def slices_Concat_string_string_L0 (N : Nat) (c9 : List (List Str)) (c10 : Int) (k0 : Int → Option (List Str)) : Nat → Int → Int → Option (List Str)
  | 0, _, _ => none
  | n + 1, s3, s11 => slices_Concat_string_string_L0T N c9 c10 k0 (slices_Concat_string_string_L0 N c9 c10 k0 n) s3 s11
def slices_Concat_string_string_L1T (_N : Nat) (x0 : List (List Str)) (c26 : Int) (k2 : (List Str) → Option (List Str)) (self : Int → (List Str) → Option (List Str)) (s27 : Int) (w102400 : List Str) : Option (List Str) :=
  br (decide (s27 < c26))
    (bnd (geti x0 s27) fun t29 =>
    br (decide ((w102400.length + t29.length) * (24 * Ty.sz .str) ≤ 140737488355328))
      (self (IntKind.i64.wrap (s27 + (1 : Int))) (w102400 ++ t29))
      none)
    (k2 w102400)
def slices_Concat_string_string_L1 (N : Nat) (x0 : List (List Str)) (c26 : Int) (k2 : (List Str) → Option (List Str)) : Nat → Int → (List Str) → Option (List Str)
  | 0, _, _ => none
  | n + 1, s27, w102400 => slices_Concat_string_string_L1T N x0 c26 k2 (slices_Concat_string_string_L1 N x0 c26 k2 n) s27 w102400
def slices_Concat_string_string (N : Nat) (x0 : List (List Str)) : Option (List Str) :=
  slices_Concat_string_string_L0 N x0 (x0.length : Int) (fun o0_3 =>
      bnd (slices_Grow_string o0_3) fun t24 =>
      slices_Concat_string_string_L1 N x0 (x0.length : Int) (fun o1_w102400 =>
          some o1_w102400) N (0 : Int) t24) N (0 : Int) (0 : Int)
abbrev slices_Concat_string_string_sg (f : SV [.v (.sl (.sl .str))] → BV [] → Option (List Str)) : AF := { ps := [.v (.sl (.sl .str))], bs := [], rs := [.row 0], cs := [.row 9 .str false], R := List Str, out := fun z => (((), ()), (z, ())), f := f }
abbrev slices_Concat_string_string_pk : SV [.row 0] → BV [.row 9 .str false] → (List Str) := fun _ y => y.1
def slices_Concat_string_string_fn (_N : Nat) : FuncId → Option Tmp → Option AF := fun f _ =>
  match f with
    | 169 => some (slices_Grow_string_sg fun x _ => slices_Grow_string x.2.1)
    | _ => none
theorem slices_Concat_string_string_fn_ok (N : Nat) : ∀ f q F, slices_Concat_string_string_fn N f q = some F → Sound Tryd.prog GW B0G f F := by
  intro f q F h
  unfold slices_Concat_string_string_fn at h
  split at h
  · cases h; exact slices_Grow_string_sound
  · cases h
def slices_Concat_string_string_h : Nat → Hint := fun i =>
  match i with
  | 0 => ⟨[], [0, 3, 9, 10, 11], [], [0, 3], [], []⟩
  | 2 => ⟨[], [6, 25, 26, 27], [102400], [6], [102400], []⟩
  | _ => ⟨[], [], [], [], [], []⟩
abbrev slices_Concat_string_string_E (N : Nat) : Env := mkE slices_Concat_string_string_h (slices_Concat_string_string_fn N) (fun _ => false) (fun _ => false)
abbrev slices_Concat_string_string_L0_fs : List (Nat × Sl) := [(0, .v (.sl (.sl .str))), (3, .v (.int .i64)), (9, .v (.sl (.sl .str))), (10, .v (.int .i64)), (11, .v (.int .i64))]
abbrev slices_Concat_string_string_L0_bs : List (Nat × Sb) := []
def slices_Concat_string_string_L0_hd (x0 : List (List Str)) (c9 : List (List Str)) (c10 : Int) (s3 : Int) (s11 : Int) : St := ⟨36, [(0, .v (.sl (.sl .str)) x0), (3, .v (.int .i64) s3), (9, .v (.sl (.sl .str)) c9), (10, .v (.int .i64) c10), (11, .v (.int .i64) s11)], []⟩
def slices_Concat_string_string_L0_tl0 (x0 : List (List Str)) (_c9 : List (List Str)) (_c10 : Int) (o0_3 : Int) : St := ⟨36, [(0, .v (.sl (.sl .str)) x0), (3, .v (.int .i64) o0_3)], []⟩
def slices_Concat_string_string_L0_G (N : Nat) (x0 : List (List Str)) (c9 : List (List Str)) (c10 : Int) (s3 : Int) (s11 : Int) (k : Ex → St → Option (List Str)) : Option (List Str) :=
  slices_Concat_string_string_L0 N c9 c10 (fun o0_3 => k (.exit 0) (slices_Concat_string_string_L0_tl0 x0 c9 c10 o0_3)) N s3 s11
abbrev slices_Concat_string_string_L0_F (N : Nat) : FV slices_Concat_string_string_L0_fs → HV slices_Concat_string_string_L0_bs → (Ex → St → Option (List Str)) → Option (List Str) := fun x _ k => slices_Concat_string_string_L0_G N x.1 x.2.2.1 x.2.2.2.1 x.2.1 x.2.2.2.2.1 k
abbrev slices_Concat_string_string_L1_fs : List (Nat × Sl) := [(6, .row 102400), (25, .v (.sl (.sl .str))), (26, .v (.int .i64)), (27, .v (.int .i64))]
abbrev slices_Concat_string_string_L1_bs : List (Nat × Sb) := [(102400, .row 9 .str false)]
def slices_Concat_string_string_L1_hd (x0 : List (List Str)) (c26 : Int) (s27 : Int) (w102400 : List Str) : St := ⟨36, [(6, .row 102400), (25, .v (.sl (.sl .str)) x0), (26, .v (.int .i64) c26), (27, .v (.int .i64) s27)], [(102400, .row 9 .str false w102400)]⟩
def slices_Concat_string_string_L1_tl2 (_x0 : List (List Str)) (_c26 : Int) (o1_w102400 : List Str) : St := ⟨36, [(6, .row 102400)], [(102400, .row 9 .str false o1_w102400)]⟩
def slices_Concat_string_string_L1_G (N : Nat) (x0 : List (List Str)) (c26 : Int) (s27 : Int) (w102400 : List Str) (k : Ex → St → Option (List Str)) : Option (List Str) :=
  slices_Concat_string_string_L1 N x0 c26 (fun o1_w102400 => k (.exit 2) (slices_Concat_string_string_L1_tl2 x0 c26 o1_w102400)) N s27 w102400
abbrev slices_Concat_string_string_L1_F (N : Nat) : FV slices_Concat_string_string_L1_fs → HV slices_Concat_string_string_L1_bs → (Ex → St → Option (List Str)) → Option (List Str) := fun x y k => slices_Concat_string_string_L1_G N x.2.1 x.2.2.1 x.2.2.2.1 y.1 k
noncomputable def slices_Concat_string_string_LP (N : Nat) : Nat → Code → St → (Ex → St → Option (List Str)) → Option (List Str) := fun i c =>
  match i with
  | 0 => (LPc 36 slices_Concat_string_string_L0_fs slices_Concat_string_string_L0_bs (slices_Concat_string_string_L0_F N) (fun st k => iter (slices_Concat_string_string_h 0) (exec (slices_Concat_string_string_E N) N c 0) N st k))
  | 2 => (LPc 36 slices_Concat_string_string_L1_fs slices_Concat_string_string_L1_bs (slices_Concat_string_string_L1_F N) (fun st k => iter (slices_Concat_string_string_h 2) (exec (slices_Concat_string_string_E N) N c 2) N st k))
  | i => fun st k => iter (slices_Concat_string_string_h i) (exec (slices_Concat_string_string_E N) N c i) N st k
theorem slices_Concat_string_string_L1_step (N : Nat) (x0 : List (List Str)) (c26 : Int) (KX : Nat → St → Option (List Str)) (I : St → Option (List Str)) (s27 : Int) (w102400 : List Str) :
    execL (slices_Concat_string_string_LP N) (slices_Concat_string_string_E N) (cAt (bodyOf Tryd.f153) [true, true, true, true, false, true, false, false]) 2 (slices_Concat_string_string_L1_hd x0 c26 s27 w102400) (roundK (slices_Concat_string_string_h 2) I KX (resD (slices_Concat_string_string_E N) Tryd.f153 (slices_Concat_string_string_sg fun x _ => slices_Concat_string_string N x.1) slices_Concat_string_string_pk)) = slices_Concat_string_string_L1T N x0 c26 (fun o1_w102400 => KX 2 (slices_Concat_string_string_L1_tl2 x0 c26 o1_w102400)) (fun s27 w102400 => I (slices_Concat_string_string_L1_hd x0 c26 s27 w102400)) s27 w102400 := by kernel_rfl
theorem slices_Concat_string_string_L1_ok (N : Nat) : ∀ x y k, (∀ st, k .ret st = (resD (slices_Concat_string_string_E N) Tryd.f153 (slices_Concat_string_string_sg fun x _ => slices_Concat_string_string N x.1) slices_Concat_string_string_pk) st) → iter (slices_Concat_string_string_h 2) (exec (slices_Concat_string_string_E N) N (cAt (bodyOf Tryd.f153) [true, true, true, true, false, true, false, false]) 2) N ⟨36, unF slices_Concat_string_string_L1_fs x, unH slices_Concat_string_string_L1_bs y⟩ k = slices_Concat_string_string_L1_F N x y k := fun x y k hk =>
  iter_link (S := (Int) × (List Str) × Unit) (slices_Concat_string_string_h 2) _ (execL (slices_Concat_string_string_LP N) (slices_Concat_string_string_E N) (cAt (bodyOf Tryd.f153) [true, true, true, true, false, true, false, false]) 2) (resD (slices_Concat_string_string_E N) Tryd.f153 (slices_Concat_string_string_sg fun x _ => slices_Concat_string_string N x.1) slices_Concat_string_string_pk) (fun st k hk => execL_eq _ _ N _ (cAt (bodyOf Tryd.f153) [true, true, true, true, false, true, false, false]) 2 (show LoopsOk (slices_Concat_string_string_LP N) (slices_Concat_string_string_E N) N (resD (slices_Concat_string_string_E N) Tryd.f153 (slices_Concat_string_string_sg fun x _ => slices_Concat_string_string N x.1) slices_Concat_string_string_pk) [] from trivial) st k hk) (fun s => slices_Concat_string_string_L1_hd x.2.1 x.2.2.1 s.1 s.2.1) k hk
    (fun self s => slices_Concat_string_string_L1T N x.2.1 x.2.2.1 (fun o1_w102400 => k (.exit 2) (slices_Concat_string_string_L1_tl2 x.2.1 x.2.2.1 o1_w102400)) (fun s27 w102400 => self (s27, w102400, ())) s.1 s.2.1) (fun n s => slices_Concat_string_string_L1 N x.2.1 x.2.2.1 (fun o1_w102400 => k (.exit 2) (slices_Concat_string_string_L1_tl2 x.2.1 x.2.2.1 o1_w102400)) n s.1 s.2.1) (fun _ => rfl) (fun _ _ => rfl)
    (fun I s => slices_Concat_string_string_L1_step N x.2.1 x.2.2.1 (fun j => k (.exit j)) I s.1 s.2.1) N (x.2.2.2.1, y.1, ())
theorem slices_Concat_string_string_lp2 (N : Nat) : ∀ st k, (∀ st, k .ret st = (resD (slices_Concat_string_string_E N) Tryd.f153 (slices_Concat_string_string_sg fun x _ => slices_Concat_string_string N x.1) slices_Concat_string_string_pk) st) → slices_Concat_string_string_LP N 2 (cAt (bodyOf Tryd.f153) [true, true, true, true, false, true, false, false]) st k = iter (Env.hint (slices_Concat_string_string_E N) 2) (exec (slices_Concat_string_string_E N) N (cAt (bodyOf Tryd.f153) [true, true, true, true, false, true, false, false]) 2) N st k := fun st k hk => LPc_eq 36 slices_Concat_string_string_L1_fs slices_Concat_string_string_L1_bs _ _ (resD (slices_Concat_string_string_E N) Tryd.f153 (slices_Concat_string_string_sg fun x _ => slices_Concat_string_string N x.1) slices_Concat_string_string_pk) (slices_Concat_string_string_L1_ok N) _ st k hk (rfl)
theorem slices_Concat_string_string_L0_step (N : Nat) (x0 : List (List Str)) (c9 : List (List Str)) (c10 : Int) (KX : Nat → St → Option (List Str)) (I : St → Option (List Str)) (s3 : Int) (s11 : Int) :
    execL (slices_Concat_string_string_LP N) (slices_Concat_string_string_E N) (cAt (bodyOf Tryd.f153) [true, true, false, true, false, false]) 0 (slices_Concat_string_string_L0_hd x0 c9 c10 s3 s11) (roundK (slices_Concat_string_string_h 0) I KX (resD (slices_Concat_string_string_E N) Tryd.f153 (slices_Concat_string_string_sg fun x _ => slices_Concat_string_string N x.1) slices_Concat_string_string_pk)) = slices_Concat_string_string_L0T N c9 c10 (fun o0_3 => KX 0 (slices_Concat_string_string_L0_tl0 x0 c9 c10 o0_3)) (fun s3 s11 => I (slices_Concat_string_string_L0_hd x0 c9 c10 s3 s11)) s3 s11 := by kernel_rfl
theorem slices_Concat_string_string_L0_ok (N : Nat) : ∀ x y k, (∀ st, k .ret st = (resD (slices_Concat_string_string_E N) Tryd.f153 (slices_Concat_string_string_sg fun x _ => slices_Concat_string_string N x.1) slices_Concat_string_string_pk) st) → iter (slices_Concat_string_string_h 0) (exec (slices_Concat_string_string_E N) N (cAt (bodyOf Tryd.f153) [true, true, false, true, false, false]) 0) N ⟨36, unF slices_Concat_string_string_L0_fs x, unH slices_Concat_string_string_L0_bs y⟩ k = slices_Concat_string_string_L0_F N x y k := fun x _ k hk =>
  iter_link (S := (Int) × (Int) × Unit) (slices_Concat_string_string_h 0) _ (execL (slices_Concat_string_string_LP N) (slices_Concat_string_string_E N) (cAt (bodyOf Tryd.f153) [true, true, false, true, false, false]) 0) (resD (slices_Concat_string_string_E N) Tryd.f153 (slices_Concat_string_string_sg fun x _ => slices_Concat_string_string N x.1) slices_Concat_string_string_pk) (fun st k hk => execL_eq _ _ N _ (cAt (bodyOf Tryd.f153) [true, true, false, true, false, false]) 0 (show LoopsOk (slices_Concat_string_string_LP N) (slices_Concat_string_string_E N) N (resD (slices_Concat_string_string_E N) Tryd.f153 (slices_Concat_string_string_sg fun x _ => slices_Concat_string_string N x.1) slices_Concat_string_string_pk) [] from trivial) st k hk) (fun s => slices_Concat_string_string_L0_hd x.1 x.2.2.1 x.2.2.2.1 s.1 s.2.1) k hk
    (fun self s => slices_Concat_string_string_L0T N x.2.2.1 x.2.2.2.1 (fun o0_3 => k (.exit 0) (slices_Concat_string_string_L0_tl0 x.1 x.2.2.1 x.2.2.2.1 o0_3)) (fun s3 s11 => self (s3, s11, ())) s.1 s.2.1) (fun n s => slices_Concat_string_string_L0 N x.2.2.1 x.2.2.2.1 (fun o0_3 => k (.exit 0) (slices_Concat_string_string_L0_tl0 x.1 x.2.2.1 x.2.2.2.1 o0_3)) n s.1 s.2.1) (fun _ => rfl) (fun _ _ => rfl)
    (fun I s => slices_Concat_string_string_L0_step N x.1 x.2.2.1 x.2.2.2.1 (fun j => k (.exit j)) I s.1 s.2.1) N (x.2.1, x.2.2.2.2.1, ())
theorem slices_Concat_string_string_lp0 (N : Nat) : ∀ st k, (∀ st, k .ret st = (resD (slices_Concat_string_string_E N) Tryd.f153 (slices_Concat_string_string_sg fun x _ => slices_Concat_string_string N x.1) slices_Concat_string_string_pk) st) → slices_Concat_string_string_LP N 0 (cAt (bodyOf Tryd.f153) [true, true, false, true, false, false]) st k = iter (Env.hint (slices_Concat_string_string_E N) 0) (exec (slices_Concat_string_string_E N) N (cAt (bodyOf Tryd.f153) [true, true, false, true, false, false]) 0) N st k := fun st k hk => LPc_eq 36 slices_Concat_string_string_L0_fs slices_Concat_string_string_L0_bs _ _ (resD (slices_Concat_string_string_E N) Tryd.f153 (slices_Concat_string_string_sg fun x _ => slices_Concat_string_string N x.1) slices_Concat_string_string_pk) (slices_Concat_string_string_L0_ok N) _ st k hk (rfl)
theorem slices_Concat_string_string_core (N : Nat) (x : SV [.v (.sl (.sl .str))]) (y : BV []) : runL (slices_Concat_string_string_E N) Tryd.f153 (slices_Concat_string_string_sg fun x _ => slices_Concat_string_string N x.1) slices_Concat_string_string_pk (slices_Concat_string_string_LP N) x y = slices_Concat_string_string N x.1 := by kernel_rfl
theorem slices_Concat_string_string_sound (N : Nat) : Sound Tryd.prog GW B0G 153 (slices_Concat_string_string_sg fun x _ => slices_Concat_string_string N x.1) :=
  runD_sound (mkE_ok slices_Concat_string_string_h (slices_Concat_string_string_fn N) _ _ (slices_Concat_string_string_fn_ok N)) Tryd.func153 rfl Tryd.call153 (slices_Concat_string_string_sg fun x _ => slices_Concat_string_string N x.1) slices_Concat_string_string_pk (fun _ _ => rfl) N (fun x y _ h => ((runL_eq (slices_Concat_string_string_E N) N Tryd.f153 (slices_Concat_string_string_sg fun x _ => slices_Concat_string_string N x.1) slices_Concat_string_string_pk (slices_Concat_string_string_LP N) (show LoopsOk (slices_Concat_string_string_LP N) (slices_Concat_string_string_E N) N (resD (slices_Concat_string_string_E N) Tryd.f153 (slices_Concat_string_string_sg fun x _ => slices_Concat_string_string N x.1) slices_Concat_string_string_pk) [(0, (cAt (bodyOf Tryd.f153) [true, true, false, true, false, false])), (2, (cAt (bodyOf Tryd.f153) [true, true, true, true, false, true, false, false]))] from ⟨slices_Concat_string_string_lp0 N, slices_Concat_string_string_lp2 N, trivial⟩) x y).trans (slices_Concat_string_string_core N x y)).trans h)
def script_plainSum (N : Nat) (x0 : GValue) (x1 : GValue) : Option GValue :=
  br (decide (x0.text.length + x1.text.length ≤ 9223372036854775807))
    (bnd (slices_Concat_string_string N [x0.list, x1.list]) fun t22 =>
    some (GValue.mk x0.kind (x0.text ++ x1.text) (IntKind.i64.wrap (x0.number + x1.number)) t22 ([] : List (Str × GValue))))
    none
abbrev script_plainSum_sg (f : SV [.v (.rc .value), .v (.rc .value)] → BV [] → Option (GValue)) : AF := { ps := [.v (.rc .value), .v (.rc .value)], bs := [], rs := [.v (.rc .value)], cs := [], R := GValue, out := fun z => ((z, ()), ()), f := f }
abbrev script_plainSum_pk : SV [.v (.rc .value)] → BV [] → GValue := fun x _ => x.1
def script_plainSum_fn (N : Nat) : FuncId → Option Tmp → Option AF := fun f _ =>
  match f with
    | 153 => some (slices_Concat_string_string_sg fun x _ => slices_Concat_string_string N x.1)
    | _ => none
theorem script_plainSum_fn_ok (N : Nat) : ∀ f q F, script_plainSum_fn N f q = some F → Sound Tryd.prog GW B0G f F := by
  intro f q F h
  unfold script_plainSum_fn at h
  split at h
  · cases h; exact slices_Concat_string_string_sound N
  · cases h
def script_plainSum_h : Nat → Hint := fun i =>
  match i with
  | 100001 => ⟨[1002, 1003], [], [], [], [], []⟩
  | _ => ⟨[], [], [], [], [], []⟩
abbrev script_plainSum_E (N : Nat) : Env := mkE script_plainSum_h (script_plainSum_fn N) (fun _ => false) (fun _ => false)
noncomputable def script_plainSum_LP (N : Nat) : Nat → Code → St → (Ex → St → Option GValue) → Option GValue := fun i c =>
  match i with
  | i => fun st k => iter (script_plainSum_h i) (exec (script_plainSum_E N) N c i) N st k
theorem script_plainSum_core (N : Nat) (x : SV [.v (.rc .value), .v (.rc .value)]) (y : BV []) : runL (script_plainSum_E N) Tryd.f125 (script_plainSum_sg fun x _ => script_plainSum N x.1 x.2.1) script_plainSum_pk (script_plainSum_LP N) x y = script_plainSum N x.1 x.2.1 := by kernel_rfl
theorem script_plainSum_sound (N : Nat) : Sound Tryd.prog GW B0G 125 (script_plainSum_sg fun x _ => script_plainSum N x.1 x.2.1) :=
  runD_sound (mkE_ok script_plainSum_h (script_plainSum_fn N) _ _ (script_plainSum_fn_ok N)) Tryd.func125 rfl Tryd.call125 (script_plainSum_sg fun x _ => script_plainSum N x.1 x.2.1) script_plainSum_pk (fun _ _ => rfl) N (fun x y _ h => ((runL_eq (script_plainSum_E N) N Tryd.f125 (script_plainSum_sg fun x _ => script_plainSum N x.1 x.2.1) script_plainSum_pk (script_plainSum_LP N) (show LoopsOk (script_plainSum_LP N) (script_plainSum_E N) N (resD (script_plainSum_E N) Tryd.f125 (script_plainSum_sg fun x _ => script_plainSum N x.1 x.2.1) script_plainSum_pk) [] from trivial) x y).trans (script_plainSum_core N x y)).trans h)
def script_add_L0T (N : Nat) (c37 : List (Str × GValue)) (c38 : Int) (c1003_0 : Int) (c1003_1 : Str) (c1003_2 : Int) (c1003_3 : List Str) (c1003_4 : List (Str × GValue)) (k1 : (List (Str × GValue)) → Option (GValue × Int)) (self : Int → (List (Str × GValue)) → Option (GValue × Int)) (s39 : Int) (w900001 : List (Str × GValue)) : Option (GValue × Int) :=
  br (decide (s39 < c38))
    (bnd (geti c37 s39) fun t41 =>
    bnd (script_plainSum N (GValue.mk t41.2.kind t41.2.text t41.2.number t41.2.list t41.2.cases) (GValue.mk c1003_0 c1003_1 c1003_2 c1003_3 c1003_4)) fun t50 =>
    br (decide ((w900001.length + [(t41.1, GValue.mk t50.kind t50.text t50.number t50.list t50.cases)].length) * (24 * Ty.sz (.pr .str (.rc .value))) ≤ 140737488355328))
      (self (IntKind.i64.wrap (s39 + (1 : Int))) (w900001 ++ [(t41.1, GValue.mk t50.kind t50.text t50.number t50.list t50.cases)]))
      none)
    (k1 w900001)
def script_add_L0 (N : Nat) (c37 : List (Str × GValue)) (c38 : Int) (c1003_0 : Int) (c1003_1 : Str) (c1003_2 : Int) (c1003_3 : List Str) (c1003_4 : List (Str × GValue)) (k1 : (List (Str × GValue)) → Option (GValue × Int)) : Nat → Int → (List (Str × GValue)) → Option (GValue × Int)
  | 0, _, _ => none
  | n + 1, s39, w900001 => script_add_L0T N c37 c38 c1003_0 c1003_1 c1003_2 c1003_3 c1003_4 k1 (script_add_L0 N c37 c38 c1003_0 c1003_1 c1003_2 c1003_3 c1003_4 k1 n) s39 w900001
def script_add_L1T (N : Nat) (c61 : List (Str × GValue)) (c62 : Int) (c1002_0 : Int) (c1002_1 : Str) (c1002_2 : Int) (c1002_3 : List Str) (c1002_4 : List (Str × GValue)) (k3 : (List (Str × GValue)) → Option (GValue × Int)) (self : Int → (List (Str × GValue)) → Option (GValue × Int)) (s63 : Int) (w900002 : List (Str × GValue)) : Option (GValue × Int) :=
  br (decide (s63 < c62))
    (bnd (geti c61 s63) fun t65 =>
    bnd (script_plainSum N (GValue.mk c1002_0 c1002_1 c1002_2 c1002_3 c1002_4) (GValue.mk t65.2.kind t65.2.text t65.2.number t65.2.list t65.2.cases)) fun t74 =>
    br (decide ((w900002.length + [(t65.1, GValue.mk t74.kind t74.text t74.number t74.list t74.cases)].length) * (24 * Ty.sz (.pr .str (.rc .value))) ≤ 140737488355328))
      (self (IntKind.i64.wrap (s63 + (1 : Int))) (w900002 ++ [(t65.1, GValue.mk t74.kind t74.text t74.number t74.list t74.cases)]))
      none)
    (k3 w900002)
def script_add_L1 (N : Nat) (c61 : List (Str × GValue)) (c62 : Int) (c1002_0 : Int) (c1002_1 : Str) (c1002_2 : Int) (c1002_3 : List Str) (c1002_4 : List (Str × GValue)) (k3 : (List (Str × GValue)) → Option (GValue × Int)) : Nat → Int → (List (Str × GValue)) → Option (GValue × Int)
  | 0, _, _ => none
  | n + 1, s63, w900002 => script_add_L1T N c61 c62 c1002_0 c1002_1 c1002_2 c1002_3 c1002_4 k3 (script_add_L1 N c61 c62 c1002_0 c1002_1 c1002_2 c1002_3 c1002_4 k3 n) s63 w900002
def script_add (N : Nat) (x0 : GValue) (x1 : GValue) : Option (GValue × Int) :=
  bnd (script_kindOf N (GValue.mk x0.kind x0.text x0.number x0.list x0.cases)) fun t13 =>
  bnd (script_kindOf N (GValue.mk x1.kind x1.text x1.number x1.list x1.cases)) fun t15 =>
  br (t13 != t15)
    (some (GValue.mk (0 : Int) ([] : Str) (0 : Int) ([] : List Str) ([] : List (Str × GValue)), (6 : Int)))
    (br (x0.kind == (4 : Int))
      (br (x1.kind == (4 : Int))
        (some (GValue.mk (0 : Int) ([] : Str) (0 : Int) ([] : List Str) ([] : List (Str × GValue)), (6 : Int)))
        (br (x0.kind == (4 : Int))
          (script_add_L0 N x0.cases (x0.cases.length : Int) x1.kind x1.text x1.number x1.list x1.cases (fun o0_w900001 =>
              bnd (script_CheckValue N (script_checkCases N N) (GValue.mk (4 : Int) ([] : Str) (0 : Int) ([] : List Str) o0_w900001)) fun t81 =>
              br (t81 != (0 : Int))
                (some (GValue.mk (0 : Int) ([] : Str) (0 : Int) ([] : List Str) ([] : List (Str × GValue)), t81))
                (some (GValue.mk (4 : Int) ([] : Str) (0 : Int) ([] : List Str) o0_w900001, (0 : Int)))) N (0 : Int) ([] : List (Str × GValue)))
          (br (x1.kind == (4 : Int))
            (script_add_L1 N x1.cases (x1.cases.length : Int) x0.kind x0.text x0.number x0.list x0.cases (fun o1_w900002 =>
                bnd (script_CheckValue N (script_checkCases N N) (GValue.mk (4 : Int) ([] : Str) (0 : Int) ([] : List Str) o1_w900002)) fun t81_7 =>
                br (t81_7 != (0 : Int))
                  (some (GValue.mk (0 : Int) ([] : Str) (0 : Int) ([] : List Str) ([] : List (Str × GValue)), t81_7))
                  (some (GValue.mk (4 : Int) ([] : Str) (0 : Int) ([] : List Str) o1_w900002, (0 : Int)))) N (0 : Int) ([] : List (Str × GValue)))
            (bnd (script_plainSum N (GValue.mk x0.kind x0.text x0.number x0.list x0.cases) (GValue.mk x1.kind x1.text x1.number x1.list x1.cases)) fun t31 =>
            bnd (script_CheckValue N (script_checkCases N N) (GValue.mk t31.kind t31.text t31.number t31.list t31.cases)) fun t81_8 =>
            br (t81_8 != (0 : Int))
              (some (GValue.mk (0 : Int) ([] : Str) (0 : Int) ([] : List Str) ([] : List (Str × GValue)), t81_8))
              (some (GValue.mk t31.kind t31.text t31.number t31.list t31.cases, (0 : Int)))))))
      (br (x0.kind == (4 : Int))
        (script_add_L0 N x0.cases (x0.cases.length : Int) x1.kind x1.text x1.number x1.list x1.cases (fun o0_w900001 =>
            bnd (script_CheckValue N (script_checkCases N N) (GValue.mk (4 : Int) ([] : Str) (0 : Int) ([] : List Str) o0_w900001)) fun t81_9 =>
            br (t81_9 != (0 : Int))
              (some (GValue.mk (0 : Int) ([] : Str) (0 : Int) ([] : List Str) ([] : List (Str × GValue)), t81_9))
              (some (GValue.mk (4 : Int) ([] : Str) (0 : Int) ([] : List Str) o0_w900001, (0 : Int)))) N (0 : Int) ([] : List (Str × GValue)))
        (br (x1.kind == (4 : Int))
          (script_add_L1 N x1.cases (x1.cases.length : Int) x0.kind x0.text x0.number x0.list x0.cases (fun o1_w900002 =>
              bnd (script_CheckValue N (script_checkCases N N) (GValue.mk (4 : Int) ([] : Str) (0 : Int) ([] : List Str) o1_w900002)) fun t81_10 =>
              br (t81_10 != (0 : Int))
                (some (GValue.mk (0 : Int) ([] : Str) (0 : Int) ([] : List Str) ([] : List (Str × GValue)), t81_10))
                (some (GValue.mk (4 : Int) ([] : Str) (0 : Int) ([] : List Str) o1_w900002, (0 : Int)))) N (0 : Int) ([] : List (Str × GValue)))
          (bnd (script_plainSum N (GValue.mk x0.kind x0.text x0.number x0.list x0.cases) (GValue.mk x1.kind x1.text x1.number x1.list x1.cases)) fun t31_11 =>
          bnd (script_CheckValue N (script_checkCases N N) (GValue.mk t31_11.kind t31_11.text t31_11.number t31_11.list t31_11.cases)) fun t81_12 =>
          br (t81_12 != (0 : Int))
            (some (GValue.mk (0 : Int) ([] : Str) (0 : Int) ([] : List Str) ([] : List (Str × GValue)), t81_12))
            (some (GValue.mk t31_11.kind t31_11.text t31_11.number t31_11.list t31_11.cases, (0 : Int)))))))
abbrev script_add_sg (f : SV [.v (.rc .value), .v (.rc .value)] → BV [] → Option (GValue × Int)) : AF := { ps := [.v (.rc .value), .v (.rc .value)], bs := [], rs := [.v (.rc .value), .v (.int .i64)], cs := [], R := GValue × Int, out := fun z => ((z.1, z.2, ()), ()), f := f }
abbrev script_add_pk : SV [.v (.rc .value), .v (.int .i64)] → BV [] → (GValue × Int) := fun x _ => (x.1, x.2.1)
def script_add_fn (N : Nat) : FuncId → Option Tmp → Option AF := fun f _ =>
  match f with
    | 85 => some (script_CheckValue_sg fun x _ => script_CheckValue N (script_checkCases N N) x.1)
    | 124 => some (script_kindOf_sg fun x _ => script_kindOf N x.1)
    | 125 => some (script_plainSum_sg fun x _ => script_plainSum N x.1 x.2.1)
    | _ => none
theorem script_add_fn_ok (N : Nat) : ∀ f q F, script_add_fn N f q = some F → Sound Tryd.prog GW B0G f F := by
  intro f q F h
  unfold script_add_fn at h
  split at h
  · cases h; exact script_CheckValue_sound N (script_checkCases N N) (script_checkCases_sound N N)
  · cases h; exact script_kindOf_sound N
  · cases h; exact script_plainSum_sound N
  · cases h
def script_add_h : Nat → Hint := fun i =>
  match i with
  | 1 => ⟨[], [3, 4, 6, 37, 38, 39], [1003, 1004, 1006, 900001], [4, 6], [1004, 1006, 900001], [(1006, 4, 900001, 81, (.pr .str (.rc .value)))]⟩
  | 3 => ⟨[], [2, 4, 6, 61, 62, 63], [1002, 1004, 1006, 900002], [4, 6], [1004, 1006, 900002], [(1006, 4, 900002, 81, (.pr .str (.rc .value)))]⟩
  | 100009 => ⟨[1003, 1006, 1008, 900001], [], [], [], [], []⟩
  | 100015 => ⟨[1002, 1006, 1010, 900002], [], [], [], [], []⟩
  | _ => ⟨[], [], [], [], [], []⟩
abbrev script_add_E (N : Nat) : Env := mkE script_add_h (script_add_fn N) (fun _ => false) (fun _ => false)
abbrev script_add_L0_fs : List (Nat × Sl) := [(3, .box 1003 0), (4, .box 1004 0), (6, .box 1006 0), (37, .v (.sl (.pr .str (.rc .value)))), (38, .v (.int .i64)), (39, .v (.int .i64))]
abbrev script_add_L0_bs : List (Nat × Sb) := [(1003, .cells [.v (.int .i64), .v .str, .v (.int .i64), .v (.sl .str), .v (.sl (.pr .str (.rc .value)))]), (1004, .cells [.v (.int .i64), .v .str, .v (.int .i64), .nilS, .nilS]), (1006, .cells [.v (.int .i64), .v .str, .v (.int .i64), .nilS, .row 900001]), (900001, .row 81 (.pr .str (.rc .value)) false)]
def script_add_L0_hd (c37 : List (Str × GValue)) (c38 : Int) (c1003_0 : Int) (c1003_1 : Str) (c1003_2 : Int) (c1003_3 : List Str) (c1003_4 : List (Str × GValue)) (c1004_0 : Int) (c1004_1 : Str) (c1004_2 : Int) (c1006_0 : Int) (c1006_1 : Str) (c1006_2 : Int) (s39 : Int) (w900001 : List (Str × GValue)) : St := ⟨87, [(3, .box 1003 0), (4, .box 1004 0), (6, .box 1006 0), (37, .v (.sl (.pr .str (.rc .value))) c37), (38, .v (.int .i64) c38), (39, .v (.int .i64) s39)], [(1003, .cells [.v (.int .i64) c1003_0, .v .str c1003_1, .v (.int .i64) c1003_2, .v (.sl .str) c1003_3, .v (.sl (.pr .str (.rc .value))) c1003_4]), (1004, .cells [.v (.int .i64) c1004_0, .v .str c1004_1, .v (.int .i64) c1004_2, .nilS, .nilS]), (1006, .cells [.v (.int .i64) c1006_0, .v .str c1006_1, .v (.int .i64) c1006_2, .nilS, .row 900001]), (900001, .row 81 (.pr .str (.rc .value)) false w900001)]⟩
def script_add_L0_tl1 (_c37 : List (Str × GValue)) (_c38 : Int) (_c1003_0 : Int) (_c1003_1 : Str) (_c1003_2 : Int) (_c1003_3 : List Str) (_c1003_4 : List (Str × GValue)) (c1004_0 : Int) (c1004_1 : Str) (c1004_2 : Int) (c1006_0 : Int) (c1006_1 : Str) (c1006_2 : Int) (o0_w900001 : List (Str × GValue)) : St := ⟨87, [(4, .box 1004 0), (6, .box 1006 0)], [(1004, .cells [.v (.int .i64) c1004_0, .v .str c1004_1, .v (.int .i64) c1004_2, .nilS, .nilS]), (1006, .cells [.v (.int .i64) c1006_0, .v .str c1006_1, .v (.int .i64) c1006_2, .nilS, .row 900001]), (900001, .row 81 (.pr .str (.rc .value)) false o0_w900001)]⟩
def script_add_L0_G (N : Nat) (c37 : List (Str × GValue)) (c38 : Int) (c1003_0 : Int) (c1003_1 : Str) (c1003_2 : Int) (c1003_3 : List Str) (c1003_4 : List (Str × GValue)) (c1004_0 : Int) (c1004_1 : Str) (c1004_2 : Int) (c1006_0 : Int) (c1006_1 : Str) (c1006_2 : Int) (s39 : Int) (w900001 : List (Str × GValue)) (k : Ex → St → Option (GValue × Int)) : Option (GValue × Int) :=
  script_add_L0 N c37 c38 c1003_0 c1003_1 c1003_2 c1003_3 c1003_4 (fun o0_w900001 => k (.exit 1) (script_add_L0_tl1 c37 c38 c1003_0 c1003_1 c1003_2 c1003_3 c1003_4 c1004_0 c1004_1 c1004_2 c1006_0 c1006_1 c1006_2 o0_w900001)) N s39 w900001
abbrev script_add_L0_F (N : Nat) : FV script_add_L0_fs → HV script_add_L0_bs → (Ex → St → Option (GValue × Int)) → Option (GValue × Int) := fun x y k => script_add_L0_G N x.2.2.2.1 x.2.2.2.2.1 y.1.1 y.1.2.1 y.1.2.2.1 y.1.2.2.2.1 y.1.2.2.2.2.1 y.2.1.1 y.2.1.2.1 y.2.1.2.2.1 y.2.2.1.1 y.2.2.1.2.1 y.2.2.1.2.2.1 x.2.2.2.2.2.1 y.2.2.2.1 k
abbrev script_add_L1_fs : List (Nat × Sl) := [(2, .box 1002 0), (4, .box 1004 0), (6, .box 1006 0), (61, .v (.sl (.pr .str (.rc .value)))), (62, .v (.int .i64)), (63, .v (.int .i64))]
abbrev script_add_L1_bs : List (Nat × Sb) := [(1002, .cells [.v (.int .i64), .v .str, .v (.int .i64), .v (.sl .str), .v (.sl (.pr .str (.rc .value)))]), (1004, .cells [.v (.int .i64), .v .str, .v (.int .i64), .nilS, .nilS]), (1006, .cells [.v (.int .i64), .v .str, .v (.int .i64), .nilS, .row 900002]), (900002, .row 81 (.pr .str (.rc .value)) false)]
def script_add_L1_hd (c61 : List (Str × GValue)) (c62 : Int) (c1002_0 : Int) (c1002_1 : Str) (c1002_2 : Int) (c1002_3 : List Str) (c1002_4 : List (Str × GValue)) (c1004_0_1 : Int) (c1004_1_2 : Str) (c1004_2_3 : Int) (c1006_0_4 : Int) (c1006_1_5 : Str) (c1006_2_6 : Int) (s63 : Int) (w900002 : List (Str × GValue)) : St := ⟨87, [(2, .box 1002 0), (4, .box 1004 0), (6, .box 1006 0), (61, .v (.sl (.pr .str (.rc .value))) c61), (62, .v (.int .i64) c62), (63, .v (.int .i64) s63)], [(1002, .cells [.v (.int .i64) c1002_0, .v .str c1002_1, .v (.int .i64) c1002_2, .v (.sl .str) c1002_3, .v (.sl (.pr .str (.rc .value))) c1002_4]), (1004, .cells [.v (.int .i64) c1004_0_1, .v .str c1004_1_2, .v (.int .i64) c1004_2_3, .nilS, .nilS]), (1006, .cells [.v (.int .i64) c1006_0_4, .v .str c1006_1_5, .v (.int .i64) c1006_2_6, .nilS, .row 900002]), (900002, .row 81 (.pr .str (.rc .value)) false w900002)]⟩
def script_add_L1_tl3 (_c61 : List (Str × GValue)) (_c62 : Int) (_c1002_0 : Int) (_c1002_1 : Str) (_c1002_2 : Int) (_c1002_3 : List Str) (_c1002_4 : List (Str × GValue)) (c1004_0_1 : Int) (c1004_1_2 : Str) (c1004_2_3 : Int) (c1006_0_4 : Int) (c1006_1_5 : Str) (c1006_2_6 : Int) (o1_w900002 : List (Str × GValue)) : St := ⟨87, [(4, .box 1004 0), (6, .box 1006 0)], [(1004, .cells [.v (.int .i64) c1004_0_1, .v .str c1004_1_2, .v (.int .i64) c1004_2_3, .nilS, .nilS]), (1006, .cells [.v (.int .i64) c1006_0_4, .v .str c1006_1_5, .v (.int .i64) c1006_2_6, .nilS, .row 900002]), (900002, .row 81 (.pr .str (.rc .value)) false o1_w900002)]⟩
def script_add_L1_G (N : Nat) (c61 : List (Str × GValue)) (c62 : Int) (c1002_0 : Int) (c1002_1 : Str) (c1002_2 : Int) (c1002_3 : List Str) (c1002_4 : List (Str × GValue)) (c1004_0_1 : Int) (c1004_1_2 : Str) (c1004_2_3 : Int) (c1006_0_4 : Int) (c1006_1_5 : Str) (c1006_2_6 : Int) (s63 : Int) (w900002 : List (Str × GValue)) (k : Ex → St → Option (GValue × Int)) : Option (GValue × Int) :=
  script_add_L1 N c61 c62 c1002_0 c1002_1 c1002_2 c1002_3 c1002_4 (fun o1_w900002 => k (.exit 3) (script_add_L1_tl3 c61 c62 c1002_0 c1002_1 c1002_2 c1002_3 c1002_4 c1004_0_1 c1004_1_2 c1004_2_3 c1006_0_4 c1006_1_5 c1006_2_6 o1_w900002)) N s63 w900002
abbrev script_add_L1_F (N : Nat) : FV script_add_L1_fs → HV script_add_L1_bs → (Ex → St → Option (GValue × Int)) → Option (GValue × Int) := fun x y k => script_add_L1_G N x.2.2.2.1 x.2.2.2.2.1 y.1.1 y.1.2.1 y.1.2.2.1 y.1.2.2.2.1 y.1.2.2.2.2.1 y.2.1.1 y.2.1.2.1 y.2.1.2.2.1 y.2.2.1.1 y.2.2.1.2.1 y.2.2.1.2.2.1 x.2.2.2.2.2.1 y.2.2.2.1 k
noncomputable def script_add_LP (N : Nat) : Nat → Code → St → (Ex → St → Option (GValue × Int)) → Option (GValue × Int) := fun i c =>
  match i with
  | 1 => (LPc 87 script_add_L0_fs script_add_L0_bs (script_add_L0_F N) (fun st k => iter (script_add_h 1) (exec (script_add_E N) N c 1) N st k))
  | 3 => (LPc 87 script_add_L1_fs script_add_L1_bs (script_add_L1_F N) (fun st k => iter (script_add_h 3) (exec (script_add_E N) N c 3) N st k))
  | i => fun st k => iter (script_add_h i) (exec (script_add_E N) N c i) N st k
theorem script_add_L1_step (N : Nat) (c61 : List (Str × GValue)) (c62 : Int) (c1002_0 : Int) (c1002_1 : Str) (c1002_2 : Int) (c1002_3 : List Str) (c1002_4 : List (Str × GValue)) (c1004_0_1 : Int) (c1004_1_2 : Str) (c1004_2_3 : Int) (c1006_0_4 : Int) (c1006_1_5 : Str) (c1006_2_6 : Int) (KX : Nat → St → Option (GValue × Int)) (I : St → Option (GValue × Int)) (s63 : Int) (w900002 : List (Str × GValue)) :
    execL (script_add_LP N) (script_add_E N) (cAt (bodyOf Tryd.f88) [true, true, true, false, false, true, true, true, false, true, false, false]) 3 (script_add_L1_hd c61 c62 c1002_0 c1002_1 c1002_2 c1002_3 c1002_4 c1004_0_1 c1004_1_2 c1004_2_3 c1006_0_4 c1006_1_5 c1006_2_6 s63 w900002) (roundK (script_add_h 3) I KX (resD (script_add_E N) Tryd.f88 (script_add_sg fun x _ => script_add N x.1 x.2.1) script_add_pk)) = script_add_L1T N c61 c62 c1002_0 c1002_1 c1002_2 c1002_3 c1002_4 (fun o1_w900002 => KX 3 (script_add_L1_tl3 c61 c62 c1002_0 c1002_1 c1002_2 c1002_3 c1002_4 c1004_0_1 c1004_1_2 c1004_2_3 c1006_0_4 c1006_1_5 c1006_2_6 o1_w900002)) (fun s63 w900002 => I (script_add_L1_hd c61 c62 c1002_0 c1002_1 c1002_2 c1002_3 c1002_4 c1004_0_1 c1004_1_2 c1004_2_3 c1006_0_4 c1006_1_5 c1006_2_6 s63 w900002)) s63 w900002 := by kernel_rfl
theorem script_add_L1_ok (N : Nat) : ∀ x y k, (∀ st, k .ret st = (resD (script_add_E N) Tryd.f88 (script_add_sg fun x _ => script_add N x.1 x.2.1) script_add_pk) st) → iter (script_add_h 3) (exec (script_add_E N) N (cAt (bodyOf Tryd.f88) [true, true, true, false, false, true, true, true, false, true, false, false]) 3) N ⟨87, unF script_add_L1_fs x, unH script_add_L1_bs y⟩ k = script_add_L1_F N x y k := fun x y k hk =>
  iter_link (S := (Int) × (List (Str × GValue)) × Unit) (script_add_h 3) _ (execL (script_add_LP N) (script_add_E N) (cAt (bodyOf Tryd.f88) [true, true, true, false, false, true, true, true, false, true, false, false]) 3) (resD (script_add_E N) Tryd.f88 (script_add_sg fun x _ => script_add N x.1 x.2.1) script_add_pk) (fun st k hk => execL_eq _ _ N _ (cAt (bodyOf Tryd.f88) [true, true, true, false, false, true, true, true, false, true, false, false]) 3 (show LoopsOk (script_add_LP N) (script_add_E N) N (resD (script_add_E N) Tryd.f88 (script_add_sg fun x _ => script_add N x.1 x.2.1) script_add_pk) [] from trivial) st k hk) (fun s => script_add_L1_hd x.2.2.2.1 x.2.2.2.2.1 y.1.1 y.1.2.1 y.1.2.2.1 y.1.2.2.2.1 y.1.2.2.2.2.1 y.2.1.1 y.2.1.2.1 y.2.1.2.2.1 y.2.2.1.1 y.2.2.1.2.1 y.2.2.1.2.2.1 s.1 s.2.1) k hk
    (fun self s => script_add_L1T N x.2.2.2.1 x.2.2.2.2.1 y.1.1 y.1.2.1 y.1.2.2.1 y.1.2.2.2.1 y.1.2.2.2.2.1 (fun o1_w900002 => k (.exit 3) (script_add_L1_tl3 x.2.2.2.1 x.2.2.2.2.1 y.1.1 y.1.2.1 y.1.2.2.1 y.1.2.2.2.1 y.1.2.2.2.2.1 y.2.1.1 y.2.1.2.1 y.2.1.2.2.1 y.2.2.1.1 y.2.2.1.2.1 y.2.2.1.2.2.1 o1_w900002)) (fun s63 w900002 => self (s63, w900002, ())) s.1 s.2.1) (fun n s => script_add_L1 N x.2.2.2.1 x.2.2.2.2.1 y.1.1 y.1.2.1 y.1.2.2.1 y.1.2.2.2.1 y.1.2.2.2.2.1 (fun o1_w900002 => k (.exit 3) (script_add_L1_tl3 x.2.2.2.1 x.2.2.2.2.1 y.1.1 y.1.2.1 y.1.2.2.1 y.1.2.2.2.1 y.1.2.2.2.2.1 y.2.1.1 y.2.1.2.1 y.2.1.2.2.1 y.2.2.1.1 y.2.2.1.2.1 y.2.2.1.2.2.1 o1_w900002)) n s.1 s.2.1) (fun _ => rfl) (fun _ _ => rfl)
    (fun I s => script_add_L1_step N x.2.2.2.1 x.2.2.2.2.1 y.1.1 y.1.2.1 y.1.2.2.1 y.1.2.2.2.1 y.1.2.2.2.2.1 y.2.1.1 y.2.1.2.1 y.2.1.2.2.1 y.2.2.1.1 y.2.2.1.2.1 y.2.2.1.2.2.1 (fun j => k (.exit j)) I s.1 s.2.1) N (x.2.2.2.2.2.1, y.2.2.2.1, ())
theorem script_add_lp3 (N : Nat) : ∀ st k, (∀ st, k .ret st = (resD (script_add_E N) Tryd.f88 (script_add_sg fun x _ => script_add N x.1 x.2.1) script_add_pk) st) → script_add_LP N 3 (cAt (bodyOf Tryd.f88) [true, true, true, false, false, true, true, true, false, true, false, false]) st k = iter (Env.hint (script_add_E N) 3) (exec (script_add_E N) N (cAt (bodyOf Tryd.f88) [true, true, true, false, false, true, true, true, false, true, false, false]) 3) N st k := fun st k hk => LPc_eq 87 script_add_L1_fs script_add_L1_bs _ _ (resD (script_add_E N) Tryd.f88 (script_add_sg fun x _ => script_add N x.1 x.2.1) script_add_pk) (script_add_L1_ok N) _ st k hk (rfl)
theorem script_add_L0_step (N : Nat) (c37 : List (Str × GValue)) (c38 : Int) (c1003_0 : Int) (c1003_1 : Str) (c1003_2 : Int) (c1003_3 : List Str) (c1003_4 : List (Str × GValue)) (c1004_0 : Int) (c1004_1 : Str) (c1004_2 : Int) (c1006_0 : Int) (c1006_1 : Str) (c1006_2 : Int) (KX : Nat → St → Option (GValue × Int)) (I : St → Option (GValue × Int)) (s39 : Int) (w900001 : List (Str × GValue)) :
    execL (script_add_LP N) (script_add_E N) (cAt (bodyOf Tryd.f88) [true, true, true, false, false, true, false, true, false, false]) 1 (script_add_L0_hd c37 c38 c1003_0 c1003_1 c1003_2 c1003_3 c1003_4 c1004_0 c1004_1 c1004_2 c1006_0 c1006_1 c1006_2 s39 w900001) (roundK (script_add_h 1) I KX (resD (script_add_E N) Tryd.f88 (script_add_sg fun x _ => script_add N x.1 x.2.1) script_add_pk)) = script_add_L0T N c37 c38 c1003_0 c1003_1 c1003_2 c1003_3 c1003_4 (fun o0_w900001 => KX 1 (script_add_L0_tl1 c37 c38 c1003_0 c1003_1 c1003_2 c1003_3 c1003_4 c1004_0 c1004_1 c1004_2 c1006_0 c1006_1 c1006_2 o0_w900001)) (fun s39 w900001 => I (script_add_L0_hd c37 c38 c1003_0 c1003_1 c1003_2 c1003_3 c1003_4 c1004_0 c1004_1 c1004_2 c1006_0 c1006_1 c1006_2 s39 w900001)) s39 w900001 := by kernel_rfl
theorem script_add_L0_ok (N : Nat) : ∀ x y k, (∀ st, k .ret st = (resD (script_add_E N) Tryd.f88 (script_add_sg fun x _ => script_add N x.1 x.2.1) script_add_pk) st) → iter (script_add_h 1) (exec (script_add_E N) N (cAt (bodyOf Tryd.f88) [true, true, true, false, false, true, false, true, false, false]) 1) N ⟨87, unF script_add_L0_fs x, unH script_add_L0_bs y⟩ k = script_add_L0_F N x y k := fun x y k hk =>
  iter_link (S := (Int) × (List (Str × GValue)) × Unit) (script_add_h 1) _ (execL (script_add_LP N) (script_add_E N) (cAt (bodyOf Tryd.f88) [true, true, true, false, false, true, false, true, false, false]) 1) (resD (script_add_E N) Tryd.f88 (script_add_sg fun x _ => script_add N x.1 x.2.1) script_add_pk) (fun st k hk => execL_eq _ _ N _ (cAt (bodyOf Tryd.f88) [true, true, true, false, false, true, false, true, false, false]) 1 (show LoopsOk (script_add_LP N) (script_add_E N) N (resD (script_add_E N) Tryd.f88 (script_add_sg fun x _ => script_add N x.1 x.2.1) script_add_pk) [] from trivial) st k hk) (fun s => script_add_L0_hd x.2.2.2.1 x.2.2.2.2.1 y.1.1 y.1.2.1 y.1.2.2.1 y.1.2.2.2.1 y.1.2.2.2.2.1 y.2.1.1 y.2.1.2.1 y.2.1.2.2.1 y.2.2.1.1 y.2.2.1.2.1 y.2.2.1.2.2.1 s.1 s.2.1) k hk
    (fun self s => script_add_L0T N x.2.2.2.1 x.2.2.2.2.1 y.1.1 y.1.2.1 y.1.2.2.1 y.1.2.2.2.1 y.1.2.2.2.2.1 (fun o0_w900001 => k (.exit 1) (script_add_L0_tl1 x.2.2.2.1 x.2.2.2.2.1 y.1.1 y.1.2.1 y.1.2.2.1 y.1.2.2.2.1 y.1.2.2.2.2.1 y.2.1.1 y.2.1.2.1 y.2.1.2.2.1 y.2.2.1.1 y.2.2.1.2.1 y.2.2.1.2.2.1 o0_w900001)) (fun s39 w900001 => self (s39, w900001, ())) s.1 s.2.1) (fun n s => script_add_L0 N x.2.2.2.1 x.2.2.2.2.1 y.1.1 y.1.2.1 y.1.2.2.1 y.1.2.2.2.1 y.1.2.2.2.2.1 (fun o0_w900001 => k (.exit 1) (script_add_L0_tl1 x.2.2.2.1 x.2.2.2.2.1 y.1.1 y.1.2.1 y.1.2.2.1 y.1.2.2.2.1 y.1.2.2.2.2.1 y.2.1.1 y.2.1.2.1 y.2.1.2.2.1 y.2.2.1.1 y.2.2.1.2.1 y.2.2.1.2.2.1 o0_w900001)) n s.1 s.2.1) (fun _ => rfl) (fun _ _ => rfl)
    (fun I s => script_add_L0_step N x.2.2.2.1 x.2.2.2.2.1 y.1.1 y.1.2.1 y.1.2.2.1 y.1.2.2.2.1 y.1.2.2.2.2.1 y.2.1.1 y.2.1.2.1 y.2.1.2.2.1 y.2.2.1.1 y.2.2.1.2.1 y.2.2.1.2.2.1 (fun j => k (.exit j)) I s.1 s.2.1) N (x.2.2.2.2.2.1, y.2.2.2.1, ())
theorem script_add_lp1 (N : Nat) : ∀ st k, (∀ st, k .ret st = (resD (script_add_E N) Tryd.f88 (script_add_sg fun x _ => script_add N x.1 x.2.1) script_add_pk) st) → script_add_LP N 1 (cAt (bodyOf Tryd.f88) [true, true, true, false, false, true, false, true, false, false]) st k = iter (Env.hint (script_add_E N) 1) (exec (script_add_E N) N (cAt (bodyOf Tryd.f88) [true, true, true, false, false, true, false, true, false, false]) 1) N st k := fun st k hk => LPc_eq 87 script_add_L0_fs script_add_L0_bs _ _ (resD (script_add_E N) Tryd.f88 (script_add_sg fun x _ => script_add N x.1 x.2.1) script_add_pk) (script_add_L0_ok N) _ st k hk (rfl)
theorem script_add_core (N : Nat) (x : SV [.v (.rc .value), .v (.rc .value)]) (y : BV []) : runL (script_add_E N) Tryd.f88 (script_add_sg fun x _ => script_add N x.1 x.2.1) script_add_pk (script_add_LP N) x y = script_add N x.1 x.2.1 := by kernel_rfl
theorem script_add_sound (N : Nat) : Sound Tryd.prog GW B0G 88 (script_add_sg fun x _ => script_add N x.1 x.2.1) :=
  runD_sound (mkE_ok script_add_h (script_add_fn N) _ _ (script_add_fn_ok N)) Tryd.func88 rfl Tryd.call88 (script_add_sg fun x _ => script_add N x.1 x.2.1) script_add_pk (fun _ _ => rfl) N (fun x y _ h => ((runL_eq (script_add_E N) N Tryd.f88 (script_add_sg fun x _ => script_add N x.1 x.2.1) script_add_pk (script_add_LP N) (show LoopsOk (script_add_LP N) (script_add_E N) N (resD (script_add_E N) Tryd.f88 (script_add_sg fun x _ => script_add N x.1 x.2.1) script_add_pk) [(1, (cAt (bodyOf Tryd.f88) [true, true, true, false, false, true, false, true, false, false])), (3, (cAt (bodyOf Tryd.f88) [true, true, true, false, false, true, true, true, false, true, false, false]))] from ⟨script_add_lp1 N, script_add_lp3 N, trivial⟩) x y).trans (script_add_core N x y)).trans h)
def script_Add (N : Nat) (x0 : GValue) (x1 : GValue) : Option (GValue × Int) :=
  bnd (script_checkTwo N (GValue.mk x0.kind x0.text x0.number x0.list x0.cases) (GValue.mk x1.kind x1.text x1.number x1.list x1.cases)) fun t9 =>
  br (t9 != (0 : Int))
    (some (GValue.mk (0 : Int) ([] : Str) (0 : Int) ([] : List Str) ([] : List (Str × GValue)), t9))
    (bnd (script_add N (GValue.mk x0.kind x0.text x0.number x0.list x0.cases) (GValue.mk x1.kind x1.text x1.number x1.list x1.cases)) fun t16 =>
    some (GValue.mk t16.1.kind t16.1.text t16.1.number t16.1.list t16.1.cases, t16.2))
abbrev script_Add_sg (f : SV [.v (.rc .value), .v (.rc .value)] → BV [] → Option (GValue × Int)) : AF := { ps := [.v (.rc .value), .v (.rc .value)], bs := [], rs := [.v (.rc .value), .v (.int .i64)], cs := [], R := GValue × Int, out := fun z => ((z.1, z.2, ()), ()), f := f }
abbrev script_Add_pk : SV [.v (.rc .value), .v (.int .i64)] → BV [] → (GValue × Int) := fun x _ => (x.1, x.2.1)
def script_Add_fn (N : Nat) : FuncId → Option Tmp → Option AF := fun f _ =>
  match f with
    | 87 => some (script_checkTwo_sg fun x _ => script_checkTwo N x.1 x.2.1)
    | 88 => some (script_add_sg fun x _ => script_add N x.1 x.2.1)
    | _ => none
theorem script_Add_fn_ok (N : Nat) : ∀ f q F, script_Add_fn N f q = some F → Sound Tryd.prog GW B0G f F := by
  intro f q F h
  unfold script_Add_fn at h
  split at h
  · cases h; exact script_checkTwo_sound N
  · cases h; exact script_add_sound N
  · cases h
def script_Add_h : Nat → Hint := fun i =>
  match i with
  | _ => ⟨[], [], [], [], [], []⟩
abbrev script_Add_E (N : Nat) : Env := mkE script_Add_h (script_Add_fn N) (fun _ => false) (fun _ => false)
noncomputable def script_Add_LP (N : Nat) : Nat → Code → St → (Ex → St → Option (GValue × Int)) → Option (GValue × Int) := fun i c =>
  match i with
  | i => fun st k => iter (script_Add_h i) (exec (script_Add_E N) N c i) N st k
theorem script_Add_core (N : Nat) (x : SV [.v (.rc .value), .v (.rc .value)]) (y : BV []) : runL (script_Add_E N) Tryd.f48 (script_Add_sg fun x _ => script_Add N x.1 x.2.1) script_Add_pk (script_Add_LP N) x y = script_Add N x.1 x.2.1 := by kernel_rfl
theorem script_Add_sound (N : Nat) : Sound Tryd.prog GW B0G 48 (script_Add_sg fun x _ => script_Add N x.1 x.2.1) :=
  runD_sound (mkE_ok script_Add_h (script_Add_fn N) _ _ (script_Add_fn_ok N)) Tryd.func48 rfl Tryd.call48 (script_Add_sg fun x _ => script_Add N x.1 x.2.1) script_Add_pk (fun _ _ => rfl) N (fun x y _ h => ((runL_eq (script_Add_E N) N Tryd.f48 (script_Add_sg fun x _ => script_Add N x.1 x.2.1) script_Add_pk (script_Add_LP N) (show LoopsOk (script_Add_LP N) (script_Add_E N) N (resD (script_Add_E N) Tryd.f48 (script_Add_sg fun x _ => script_Add N x.1 x.2.1) script_Add_pk) [] from trivial) x y).trans (script_Add_core N x y)).trans h)
def law3_ConfigChosenThenAdd (N : Nat) (x0 : List (Str × List Str) × List (Str × List (Str × Str) × List (Str × Str)) × List (Str × List (Str × Str)) × List (Str × Str × List (Str × Str) × List (Str × Str)) × List (Str × List (Str × Str) × List Str)) (x1 : GValue) (x2 : GValue) (x3 : List (Str × Str)) (x4 : Str × List (Str × Str)) : Option Bool :=
  br (x2.kind == (4 : Int))
    (bnd (law3_awake N) fun t20 =>
    some t20)
    (bnd (script_Add N (GValue.mk x1.kind x1.text x1.number x1.list x1.cases) (GValue.mk x2.kind x2.text x2.number x2.list x2.cases)) fun t24 =>
    bnd (config_Chosen N x0 (GValue.mk x1.kind x1.text x1.number x1.list x1.cases) x3 x4) fun t32 =>
    br (t24.2 != (0 : Int))
      (bnd (law3_awake N) fun t41 =>
      some t41)
      (br (t32.2 != (0 : Int))
        (bnd (law3_awake N) fun t41_1 =>
        some t41_1)
        (bnd (config_Chosen N x0 (GValue.mk t24.1.kind t24.1.text t24.1.number t24.1.list t24.1.cases) x3 x4) fun t47 =>
        bnd (script_Add N (GValue.mk t32.1.kind t32.1.text t32.1.number t32.1.list t32.1.cases) (GValue.mk x2.kind x2.text x2.number x2.list x2.cases)) fun t53 =>
        br (t47.2 == (0 : Int))
          (br (t53.2 == (0 : Int))
            (bnd (ref2_SameValue N N (GValue.mk t47.1.kind t47.1.text t47.1.number t47.1.list t47.1.cases) (GValue.mk t53.1.kind t53.1.text t53.1.number t53.1.list t53.1.cases)) fun t65 =>
            br (t65)
              (bnd (law3_awake N) fun t68 =>
              some t68)
              (some false))
            (some false))
          (some false))))
abbrev law3_ConfigChosenThenAdd_sg (f : SV [.v (.pr (.sl (.pr .str (.sl .str))) (.pr (.sl (.pr .str (.pr (.sl (.pr .str .str)) (.sl (.pr .str .str))))) (.pr (.sl (.pr .str (.sl (.pr .str .str)))) (.pr (.sl (.pr .str (.pr .str (.pr (.sl (.pr .str .str)) (.sl (.pr .str .str)))))) (.sl (.pr .str (.pr (.sl (.pr .str .str)) (.sl .str)))))))), .v (.rc .value), .v (.rc .value), .v (.sl (.pr .str .str)), .v (.pr .str (.sl (.pr .str .str)))] → BV [] → Option (Bool)) : AF := { ps := [.v (.pr (.sl (.pr .str (.sl .str))) (.pr (.sl (.pr .str (.pr (.sl (.pr .str .str)) (.sl (.pr .str .str))))) (.pr (.sl (.pr .str (.sl (.pr .str .str)))) (.pr (.sl (.pr .str (.pr .str (.pr (.sl (.pr .str .str)) (.sl (.pr .str .str)))))) (.sl (.pr .str (.pr (.sl (.pr .str .str)) (.sl .str)))))))), .v (.rc .value), .v (.rc .value), .v (.sl (.pr .str .str)), .v (.pr .str (.sl (.pr .str .str)))], bs := [], rs := [.v .bool], cs := [], R := Bool, out := fun z => ((z, ()), ()), f := f }
abbrev law3_ConfigChosenThenAdd_pk : SV [.v .bool] → BV [] → Bool := fun x _ => x.1
def law3_ConfigChosenThenAdd_fn (N : Nat) : FuncId → Option Tmp → Option AF := fun f _ =>
  match f with
    | 20 => some (law3_awake_sg fun _ _ => law3_awake N)
    | 46 => some (config_Chosen_sg fun x _ => config_Chosen N x.1 x.2.1 x.2.2.1 x.2.2.2.1)
    | 47 => some (ref2_SameValue_sg fun x _ => ref2_SameValue N N x.1 x.2.1)
    | 48 => some (script_Add_sg fun x _ => script_Add N x.1 x.2.1)
    | _ => none
theorem law3_ConfigChosenThenAdd_fn_ok (N : Nat) : ∀ f q F, law3_ConfigChosenThenAdd_fn N f q = some F → Sound Tryd.prog GW B0G f F := by
  intro f q F h
  unfold law3_ConfigChosenThenAdd_fn at h
  split at h
  · cases h; exact law3_awake_sound N
  · cases h; exact config_Chosen_sound N
  · cases h; exact ref2_SameValue_sound N N
  · cases h; exact script_Add_sound N
  · cases h
def law3_ConfigChosenThenAdd_h : Nat → Hint := fun i =>
  match i with
  | _ => ⟨[], [], [], [], [], []⟩
abbrev law3_ConfigChosenThenAdd_E (N : Nat) : Env := mkE law3_ConfigChosenThenAdd_h (law3_ConfigChosenThenAdd_fn N) (fun _ => false) (fun _ => false)
noncomputable def law3_ConfigChosenThenAdd_LP (N : Nat) : Nat → Code → St → (Ex → St → Option Bool) → Option Bool := fun i c =>
  match i with
  | i => fun st k => iter (law3_ConfigChosenThenAdd_h i) (exec (law3_ConfigChosenThenAdd_E N) N c i) N st k
theorem law3_ConfigChosenThenAdd_core (N : Nat) (x : SV [.v (.pr (.sl (.pr .str (.sl .str))) (.pr (.sl (.pr .str (.pr (.sl (.pr .str .str)) (.sl (.pr .str .str))))) (.pr (.sl (.pr .str (.sl (.pr .str .str)))) (.pr (.sl (.pr .str (.pr .str (.pr (.sl (.pr .str .str)) (.sl (.pr .str .str)))))) (.sl (.pr .str (.pr (.sl (.pr .str .str)) (.sl .str)))))))), .v (.rc .value), .v (.rc .value), .v (.sl (.pr .str .str)), .v (.pr .str (.sl (.pr .str .str)))]) (y : BV []) : runL (law3_ConfigChosenThenAdd_E N) Tryd.f13 (law3_ConfigChosenThenAdd_sg fun x _ => law3_ConfigChosenThenAdd N x.1 x.2.1 x.2.2.1 x.2.2.2.1 x.2.2.2.2.1) law3_ConfigChosenThenAdd_pk (law3_ConfigChosenThenAdd_LP N) x y = law3_ConfigChosenThenAdd N x.1 x.2.1 x.2.2.1 x.2.2.2.1 x.2.2.2.2.1 := by kernel_rfl
theorem law3_ConfigChosenThenAdd_sound (N : Nat) : Sound Tryd.prog GW B0G 13 (law3_ConfigChosenThenAdd_sg fun x _ => law3_ConfigChosenThenAdd N x.1 x.2.1 x.2.2.1 x.2.2.2.1 x.2.2.2.2.1) :=
  runD_sound (mkE_ok law3_ConfigChosenThenAdd_h (law3_ConfigChosenThenAdd_fn N) _ _ (law3_ConfigChosenThenAdd_fn_ok N)) Tryd.func13 rfl Tryd.call13 (law3_ConfigChosenThenAdd_sg fun x _ => law3_ConfigChosenThenAdd N x.1 x.2.1 x.2.2.1 x.2.2.2.1 x.2.2.2.2.1) law3_ConfigChosenThenAdd_pk (fun _ _ => rfl) N (fun x y _ h => ((runL_eq (law3_ConfigChosenThenAdd_E N) N Tryd.f13 (law3_ConfigChosenThenAdd_sg fun x _ => law3_ConfigChosenThenAdd N x.1 x.2.1 x.2.2.1 x.2.2.2.1 x.2.2.2.2.1) law3_ConfigChosenThenAdd_pk (law3_ConfigChosenThenAdd_LP N) (show LoopsOk (law3_ConfigChosenThenAdd_LP N) (law3_ConfigChosenThenAdd_E N) N (resD (law3_ConfigChosenThenAdd_E N) Tryd.f13 (law3_ConfigChosenThenAdd_sg fun x _ => law3_ConfigChosenThenAdd N x.1 x.2.1 x.2.2.1 x.2.2.2.1 x.2.2.2.2.1) law3_ConfigChosenThenAdd_pk) [] from trivial) x y).trans (law3_ConfigChosenThenAdd_core N x y)).trans h)
end
end Go.Proofs.YtbekhaioddmliaaDoor


/- Values: when they are right, when they are the same, their copies. No program in sight. -/
namespace Go.Proofs.YtbekhaioddmliaaDoor
set_option linter.unusedVariables false
set_option linter.unusedSimpArgs false
open Go Go.RowKit
variable {N : Nat}
theorem GValue.eta (v : GValue) : GValue.mk v.kind v.text v.number v.list v.cases = v := by cases v; rfl
abbrev Case : Type := Str × GValue
abbrev caseTy : Ty := .pr .str (.rc .value)
/-- A byte of a text. -/
def textB (b : UInt8) : Bool := b == 10 || (!decide (b < 32) && !decide (b > 126))
theorem isText_eq (hN : big ≤ N) (s : Str) (hs : s.length ≤ maxLen) : script_isText N s = some (s.all textB) := by
  unfold script_isText
  rw [show s.all textB = (s.all textB && true) by simp, ← forT_every textB true s 0]
  refine loop_for (fun _ _ => rfl) s hs (fun self i h r hr => ?_) (fun self => ?_) hN
  · simp only [script_isText_L0T, geti_lt s h, wrap_succ hs h, hr, bnd_some]
    rw [lt_tt h, br_true]
    unfold textB
    cases h1 : (s[i] == (10 : UInt8)) <;> cases h2 : decide (s[i] < (32 : UInt8)) <;> cases h3 : decide (s[i] > (126 : UInt8)) <;> simp [h1, bne]
  · simp only [script_isText_L0T, lt_ff, br_false]
def textE (s : Str) : Int := if decide ((s.length : Int) > 1000) then 2 else if s.all textB then 0 else 3
theorem checkText_eq (hN : big ≤ N) (s : Str) (hs : s.length ≤ maxLen) : script_checkText N s = some (textE s) := by
  unfold script_checkText textE
  rw [isText_eq hN s hs, bnd_some]
  cases decide ((s.length : Int) > 1000) <;> cases s.all textB <;> simp
theorem idx_any {α : Type} (p : α → Bool) (xs : List α) : decide (idxP p xs ≥ (0 : Int)) = xs.any p := idxP_nonneg p xs
theorem Contains_long (hN : big ≤ N) (l : List Str) (hl : l.length ≤ maxLen) : slices_ContainsFunc_string_string N l () = some (l.any fun s => decide ((s.length : Int) > 1000)) := by
  unfold slices_ContainsFunc_string_string
  have : slices_IndexFunc_string_string N l () = some (idxP (fun s => decide ((s.length : Int) > 1000)) l) := by
    unfold slices_IndexFunc_string_string
    refine loop_for (fun _ _ => rfl) l hl (fun self i h r hr => ?_) (fun self => ?_) hN
    · simp only [slices_IndexFunc_string_string_L0T, geti_lt l h, wrap_succ hl h, hr, bnd_some, script_CheckValue_1]
      rw [lt_tt h, br_true, br_ite]
    · simp only [slices_IndexFunc_string_string_L0T, lt_ff, br_false]
  rw [this, bnd_some, idx_any]
theorem Contains_odd (hN : big ≤ N) (l : List Str) (hl : Fit (.sl .str) l) : slices_ContainsFunc_string_string_2 N l () = some (l.any fun s => !s.all textB) := by
  unfold slices_ContainsFunc_string_string_2
  have : slices_IndexFunc_string_string_2 N l () = some (idxP (fun s => !s.all textB) l) := by
    unfold slices_IndexFunc_string_string_2
    refine loop_for (fun _ _ => rfl) l hl.1 (fun self i h r hr => ?_) (fun self => ?_) hN
    · simp only [slices_IndexFunc_string_string_2_L0T, geti_lt l h, wrap_succ hl.1 h, hr, bnd_some, script_CheckValue_2, isText_eq hN _ (hl.2 _ (List.getElem_mem h))]
      rw [lt_tt h, br_true, br_ite]
    · simp only [slices_IndexFunc_string_string_2_L0T, lt_ff, br_false]
  rw [this, bnd_some, idx_any]
/-- The error of a value; cc: that of its cases. -/
def tailV (cc : Int) (v : GValue) : Int :=
  if decide ((v.text.length : Int) > 1000) then 2 else if decide ((v.list.length : Int) > 1000) then 2 else if v.list.any (fun s => decide ((s.length : Int) > 1000)) then 2 else if decide ((v.cases.length : Int) > 50) then 2 else
    if !v.text.all textB then 3 else if v.list.any (fun s => !s.all textB) then 3 else if decide (v.number < 0) then 1 else if decide (v.number > 999999999) then 1 else if v.kind == 4 then cc else 0
def formV (v : GValue) : Bool := (!(v.text == []) && v.kind != 1) || (v.number != 0 && v.kind != 2) || (decide ((v.list.length : Int) > 0) && v.kind != 3) || (decide ((v.cases.length : Int) > 0) && v.kind != 4)
def valS (cc : Int) (v : GValue) : Int :=
  if decide (v.kind < 1) then 4 else if decide (v.kind > 4) then 4 else if formV v then 3 else tailV cc v
theorem valFit {v : GValue} (h : Fit (.rc .value) v) : (Lit.int .i64 v.kind).wf = true ∧ v.text.length ≤ maxLen ∧ (Lit.int .i64 v.number).wf = true ∧ Fit (.sl .str) v.list ∧ Fit (.sl caseTy) v.cases := FitR.elim h
theorem CheckValue_eq (hN : big ≤ N) {r : List Case → Option Int} {cc : Int} (v : GValue) (hv : Fit (.rc .value) v) (hr : v.kind = 4 → r v.cases = some cc) : script_CheckValue N r v = some (valS cc v) := by
  obtain ⟨_, ht, _, hl, hc⟩ := valFit hv
  have hT : (br (decide ((v.text.length : Int) > (1000 : Int))) (some (2 : Int)) (br (decide ((v.list.length : Int) > (1000 : Int))) (some (2 : Int)) (bnd (slices_ContainsFunc_string_string N v.list ()) fun t61 => br (t61) (some (2 : Int)) (br (decide ((v.cases.length : Int) > (50 : Int))) (some (2 : Int)) (bnd (script_isText N v.text) fun t72 => br (!t72) (some (3 : Int)) (bnd (slices_ContainsFunc_string_string_2 N v.list ()) fun t77 => br (t77) (some (3 : Int)) (br (decide (v.number < (0 : Int))) (some (1 : Int)) (br (decide (v.number > (999999999 : Int))) (some (1 : Int)) (br (v.kind == (4 : Int)) (bnd (r v.cases) fun t94 => some t94) (some (0 : Int)))))))))))= some (tailV cc v) := by
    simp only [Contains_long hN _ hl.1, Contains_odd hN _ hl, isText_eq hN _ ht, bnd_some]
    have hk : (br (v.kind == (4 : Int)) (bnd (r v.cases) fun t94 => some t94) (some (0 : Int))) = some (if v.kind == 4 then cc else 0) := by
      by_cases h4 : v.kind = 4
      · rw [hr h4]; simp [h4]
      · rw [show (v.kind == (4 : Int)) = false from beq_false_of_ne h4]; simp
    rw [hk]
    simp only [br_ite]
    rfl
  unfold script_CheckValue
  simp only [hT]
  unfold valS formV
  generalize tailV cc v = t
  generalize decide (v.kind < 1) = b1
  generalize decide (v.kind > 4) = b2
  generalize (v.text == ([] : Str)) = b3
  generalize (v.kind != (1 : Int)) = b4
  generalize (v.number != (0 : Int)) = b5
  generalize (v.kind != (2 : Int)) = b6
  generalize decide ((v.list.length : Int) > 0) = b7
  generalize (v.kind != (3 : Int)) = b8
  generalize decide ((v.cases.length : Int) > 0) = b9
  generalize (v.kind != (4 : Int)) = b10
  cases b1
  · cases b2
    · cases b3 <;> cases b5 <;> cases b7 <;> cases b9 <;> simp only [br_true, br_false, Bool.not_true, Bool.not_false] <;> cases b4 <;> cases b6 <;> cases b8 <;> cases b10 <;> simp
    · simp
  · simp
/-- The error of the cases of a choice. -/
def caseB (l : List Case) (i : Nat) (c : Case) (r : Int) : Int :=
  if textE c.1 ≠ 0 then textE c.1 else if (l.take i).any (fun d => d.1 == c.1) then 7 else if c.2.kind == 4 then 4 else if valS 0 c.2 ≠ 0 then valS 0 c.2 else
    if c.2.kind != (match l[0]? with | some d => d.2.kind | none => 0) then 6 else r
def casesS (l : List Case) : Int := if l.length = 0 then 9 else forT (caseB l) 0 l 0
def valueE (v : GValue) : Int := valS (casesS v.cases) v
theorem valS_plain {v : GValue} (h : v.kind ≠ 4) (a b : Int) : valS a v = valS b v := by
  unfold valS tailV
  simp [h]
theorem IndexFunc_case (hN : big ≤ N) (xs : List Case) (hx : xs.length ≤ maxLen) (q : Case) : slices_IndexFunc_api_Case N xs (q, ()) = some (idxP (fun x => x.1 == q.1) xs) := by
  unfold slices_IndexFunc_api_Case
  refine loop_for (fun _ _ => rfl) xs hx (fun self i h r hr => ?_) (fun self => ?_) hN
  · simp only [slices_IndexFunc_api_Case_L0T, geti_lt xs h, wrap_succ hx h, hr, bnd_some, script_checkCases_1]
    rw [lt_tt h, br_true, br_ite]
  · simp only [slices_IndexFunc_api_Case_L0T, lt_ff, br_false]
theorem checkCases_eq (hN : big ≤ N) (r : List Case → Option Int) (l : List Case) (hl : Fit (.sl caseTy) l) : script_checkCases_b N r l = some (casesS l) := by
  unfold script_checkCases_b casesS
  by_cases h0 : l.length = 0
  · simp [h0]
  · rw [if_neg h0, show ((l.length : Int) == (0 : Int)) = false from beq_false_of_ne (by omega), br_false]
    refine loop_for (fun _ _ => rfl) l hl.1 (fun self i h r' hr => ?_) (fun self => ?_) hN
    · have hx := hl.2 _ (List.getElem_mem h)
      have ht : (l.take i).length ≤ maxLen := by have := hl.1; rw [List.length_take]; omega
      have h00 : 0 < l.length := by omega
      simp only [script_checkCases_b_L0T, geti_lt l h, wrap_succ hl.1 h, hr, bnd_some, checkText_eq hN _ hx.1, slc_take l (Nat.le_of_lt h), slices_ContainsFunc_api_Case, IndexFunc_case hN _ ht, idxP_nonneg, GValue.eta, geti_zero, List.getElem?_eq_getElem h00]
      rw [lt_tt h, br_true]
      unfold caseB
      rw [List.getElem?_eq_getElem h00]
      by_cases h4 : l[i].2.kind = 4
      · simp only [h4, beq_self_eq_true, br_true, br_ite, br_ne, if_true]
        by_cases h1 : textE l[i].1 = 0 <;> simp [h1]
      · rw [CheckValue_eq hN (cc := 0) _ hx.2 (fun h => absurd h h4), bnd_some]
        have e4 : (l[i].2.kind == (4 : Int)) = false := beq_false_of_ne h4
        simp only [e4, br_false, br_ite, br_ne, Bool.false_eq_true, if_false]
        by_cases h1 : textE l[i].1 = 0 <;> by_cases h2 : valS 0 l[i].2 = 0 <;> simp [h1, h2]
        all_goals (try (split <;> (try split) <;> simp_all))
    · simp only [script_checkCases_b_L0T, lt_ff, br_false]
theorem CheckValue_all (hN : big ≤ N) (v : GValue) (hv : Fit (.rc .value) v) : script_CheckValue N (script_checkCases N N) v = some (valueE v) := by
  obtain ⟨_, _, _, _, hc⟩ := valFit hv
  refine CheckValue_eq hN v hv fun _ => ?_
  obtain ⟨d, rfl⟩ : ∃ d, N = d + 1 := ⟨N - 1, by unfold big at hN; omega⟩
  exact checkCases_eq hN _ _ hc
/-- A value that is no choice. -/
structure PlainV (v : GValue) : Prop where
  kind : v.kind ≠ 4
  cases : v.cases = []
  list : v.list.length ≤ 1000
theorem plain_of {v : GValue} {cc : Int} (h : valS cc v = 0) (h4 : v.kind ≠ 4) : PlainV v := by
  unfold valS at h
  split at h
  · cases h
  · split at h
    · cases h
    · split at h
      · cases h
      · rename_i hf
        unfold formV at hf
        unfold tailV at h
        refine ⟨h4, ?_, ?_⟩
        · simp only [Bool.or_eq_true, Bool.and_eq_true, not_or, not_and, bne_iff_ne, ne_eq] at hf
          have := hf.2
          have h5 : ¬ ((v.cases.length : Int) > 0) := fun h6 => this (decide_eq_true h6) h4
          exact List.eq_nil_of_length_eq_zero (by omega)
        · split at h
          · cases h
          · split at h
            · cases h
            · rename_i h6
              have : ¬ ((v.list.length : Int) > 1000) := fun h7 => h6 (decide_eq_true h7)
              omega
structure CasesOk (l : List Case) : Prop where
  some : l ≠ []
  plain : ∀ c ∈ l, PlainV c.2
  right : ∀ c ∈ l, valS 0 c.2 = 0
  once : ∀ i (hi : i < l.length) (j : Nat) (hj : j < i), l[j].1 ≠ l[i].1
theorem cases_ok {l : List Case} (h : casesS l = 0) : CasesOk l := by
  unfold casesS at h
  split at h
  · cases h
  · rename_i h0
    have := (forT_zero (q := fun i c => textE c.1 = 0 ∧ (l.take i).any (fun d => d.1 == c.1) = false ∧ c.2.kind ≠ 4 ∧ valS 0 c.2 = 0 ∧ c.2.kind = (match l[0]? with | some d => d.2.kind | none => 0)) (body := caseB l) (fun i c r => by
      unfold caseB
      by_cases h1 : textE c.1 = 0 <;> by_cases h2 : (l.take i).any (fun d => d.1 == c.1) = true <;> by_cases h3 : c.2.kind = 4 <;> by_cases h4 : valS 0 c.2 = 0 <;> simp [h1, h2, h3, h4]
      all_goals (first | (split <;> (first | (split <;> simp_all) | simp_all)) | skip)) l 0).1 h
    refine ⟨fun e => h0 (by rw [e]; rfl), fun c hc => ?_, fun c hc => ?_, fun i hi j hj he => ?_⟩
    · obtain ⟨i, hi, rfl⟩ := List.mem_iff_getElem.1 hc
      have := this i hi
      exact plain_of this.2.2.2.1 this.2.2.1
    · obtain ⟨i, hi, rfl⟩ := List.mem_iff_getElem.1 hc
      exact (this i hi).2.2.2.1
    · have := (this i hi).2.1
      rw [Nat.zero_add, List.any_eq_false] at this
      have hm : l[j] ∈ l.take i := List.mem_take_iff_getElem.2 ⟨j, by omega, rfl⟩
      have := this _ hm
      simp [he] at this
theorem value_ok {v : GValue} (h : valueE v = 0) : (v.kind ≠ 4 ∧ PlainV v) ∨ (v.kind = 4 ∧ CasesOk v.cases ∧ v.cases.length ≤ 50) := by
  by_cases h4 : v.kind = 4
  · refine .inr ⟨h4, ?_⟩
    unfold valueE valS at h
    split at h
    · cases h
    · split at h
      · cases h
      · split at h
        · cases h
        · unfold tailV at h
          split at h
          · cases h
          · split at h
            · cases h
            · split at h
              · cases h
              · split at h
                · cases h
                · rename_i h5
                  have h5' : ¬ ((v.cases.length : Int) > 50) := fun h7 => h5 (decide_eq_true h7)
                  split at h
                  · cases h
                  · split at h
                    · cases h
                    · split at h
                      · cases h
                      · split at h
                        · cases h
                        · rw [h4] at h
                          exact ⟨cases_ok h, by omega⟩
  · exact .inl ⟨h4, plain_of h h4⟩
/-- slices.Equal of strings. -/
theorem Equal_str_from (a b : List Str) (ha : a.length ≤ maxLen) (he : a.length = b.length) : ∀ (m n i : Nat), i + m = a.length → m < n → slices_Equal_string_string_L0 N a b (a.length : Int) (some true) n (i : Int) = some (decide (a.drop i = b.drop i))
  | 0, n, i, hi, hn => by
    obtain ⟨n, rfl⟩ : ∃ j, n = j + 1 := ⟨n - 1, by omega⟩
    have : i = a.length := by omega
    subst this
    show slices_Equal_string_string_L0T _ _ _ _ _ _ _ = _
    simp only [slices_Equal_string_string_L0T, lt_ff, br_false, List.drop_length]
    rw [he, List.drop_length]; simp
  | m + 1, n, i, hi, hn => by
    obtain ⟨n, rfl⟩ : ∃ j, n = j + 1 := ⟨n - 1, by omega⟩
    have h : i < a.length := by omega
    have hb : i < b.length := by omega
    have ih := Equal_str_from a b ha he m n (i + 1) (by omega) (by omega)
    show slices_Equal_string_string_L0T _ _ _ _ _ _ _ = _
    simp only [slices_Equal_string_string_L0T, geti_lt a h, geti_lt b hb, wrap_succ ha h, ih, bnd_some]
    rw [lt_tt h, br_true, List.drop_eq_getElem_cons h, List.drop_eq_getElem_cons hb]
    by_cases hq : a[i] = b[i]
    · rw [show (a[i] == b[i]) = true from beq_iff_eq.2 hq]
      simp only [List.cons.injEq, hq, true_and, Bool.not_true, br_false]
    · rw [show (a[i] == b[i]) = false from beq_false_of_ne hq]
      simp only [List.cons.injEq, hq, false_and, Bool.not_false, br_true, decide_false]
theorem Equal_str (hN : big ≤ N) (a b : List Str) (ha : a.length ≤ maxLen) (hb : b.length ≤ maxLen) : slices_Equal_string_string N a b = some (decide (a = b)) := by
  unfold slices_Equal_string_string
  by_cases he : a.length = b.length
  · have := Equal_str_from (N := N) a b ha he a.length N 0 (by omega) (by unfold maxLen at ha; unfold big at hN; omega)
    rw [show ((0 : Nat) : Int) = 0 from rfl, List.drop_zero, List.drop_zero] at this
    rw [this]; simp [he]
  · have hne : a ≠ b := fun e => he (by rw [e])
    simp only [decide_eq_false hne]
    have : ((a.length : Int) != (b.length : Int)) = true := by simp; omega
    simp [this]
/-- Whether two values are the same, of which the first one has no cases. -/
def sameP (a b : GValue) : Bool := a.kind == b.kind && (a.text == b.text && (a.number == b.number && (decide (a.list = b.list) && b.cases.isEmpty)))
theorem sameP_self {a : GValue} (h : a.cases = []) : sameP a a = true := by simp [sameP, h]
theorem SameValue_eq (hN : big ≤ N) (d : Nat) (a b : GValue) (ha : a.cases = []) (hla : a.list.length ≤ maxLen) (hlb : b.list.length ≤ maxLen) : ref2_SameValue N (d + 1) a b = some (sameP a b) := by
  show ref2_SameValue_b N _ a b = _
  unfold ref2_SameValue_b sameP
  rw [Equal_str hN _ _ hla hlb, bnd_some, ha]
  have hL : ∀ r c k, ref2_SameValue_b_L0 N r ((([] : List Case).length : Nat) : Int) [] c k N 0 = k := fun r c k => by
    obtain ⟨n, rfl⟩ : ∃ n, N = n + 1 := ⟨N - 1, by unfold big at hN; omega⟩
    show ref2_SameValue_b_L0T _ _ _ _ _ _ _ _ = _
    simp [ref2_SameValue_b_L0T]
  rw [hL]
  have hk : (a.kind != b.kind) = !(a.kind == b.kind) := rfl
  have hn : (a.number != b.number) = !(a.number == b.number) := rfl
  have hcs : (((([] : List Case).length : Nat) : Int) != (b.cases.length : Int)) = !b.cases.isEmpty := by
    cases hb : b.cases with
    | nil => rfl
    | cons => simp; omega
  rw [hk, hn, hcs]
  cases a.kind == b.kind <;> cases a.text == b.text <;> cases a.number == b.number <;> cases decide (a.list = b.list) <;> cases b.cases.isEmpty <;> simp
theorem Clone_case (l : List Case) (h : l.length ≤ 1000) : slices_Clone_api_Case N l = some l := by
  unfold slices_Clone_api_Case
  have e : decide ((([] : List Case).length + l.length) * (24 * Ty.sz (.pr .str (.rc .value))) ≤ 140737488355328) = true := decide_eq_true (by show (0 + l.length) * (24 * 6) ≤ _; omega)
  rw [e, br_true]
  cases l with
  | nil => simp
  | cons a l => simp
theorem Clone_strs (l : List Str) (h : l.length ≤ 1000000) : slices_Clone_string_string N l = some l := by
  unfold slices_Clone_string_string
  have e : decide ((([] : List Str).length + l.length) * (24 * Ty.sz .str) ≤ 140737488355328) = true := decide_eq_true (by show (0 + l.length) * (24 * 1) ≤ _; omega)
  rw [e, br_true]
  cases l with
  | nil => simp
  | cons a l => simp
theorem Own_eq (hN : big ≤ N) (d : Nat) (v : GValue) (h : v.cases = []) (hl : v.list.length ≤ 1000000) : script_Own N (d + 1) v = some v := by
  show script_Own_b N _ v = _
  unfold script_Own_b
  rw [Clone_strs _ hl, bnd_some, h, Clone_case [] (by simp), bnd_some]
  obtain ⟨n, rfl⟩ : ∃ n, N = n + 1 := ⟨N - 1, by unfold big at hN; omega⟩
  show script_Own_b_L0T _ _ _ _ _ _ _ = _
  simp only [script_Own_b_L0T]
  rw [show decide ((0 : Int) < (([] : List Case).length : Int)) = false by simp, br_false, ← h, GValue.eta]
end Go.Proofs.YtbekhaioddmliaaDoor

