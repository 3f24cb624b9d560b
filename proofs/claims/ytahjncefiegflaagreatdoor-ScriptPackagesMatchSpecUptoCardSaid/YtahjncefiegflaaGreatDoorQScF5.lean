/- What functions of the program compute, as plain functions (printed). -/
import Derived.Test.YtahjncefiegflaaGreatDoorQScF3
namespace Go.Proofs.YtahjncefiegflaaGreatDoor
open Go Go.RowKit
set_option maxRecDepth 100000
set_option linter.unusedVariables false
noncomputable section
def slices_Equal_string_string_L0T (_N : Nat) (x0 : List Str) (x1 : List Str) (c12 : Int) (k0 : Option Bool) (self : Int → Option Bool) (s13 : Int) : Option Bool :=
  br (decide (s13 < c12))
    (bnd (geti x0 s13) fun t18 =>
    bnd (geti x1 s13) fun t22 =>
    br (!(t18 == t22))
      (some false)
      (self (IntKind.i64.wrap (s13 + (1 : Int)))))
    (k0)
def slices_Equal_string_string_L0 (N : Nat) (x0 : List Str) (x1 : List Str) (c12 : Int) (k0 : Option Bool) : Nat → Int → Option Bool
  | 0, _ => none
  | n + 1, s13 => slices_Equal_string_string_L0T N x0 x1 c12 k0 (slices_Equal_string_string_L0 N x0 x1 c12 k0 n) s13
def slices_Equal_string_string (N : Nat) (x0 : List Str) (x1 : List Str) : Option Bool :=
  br ((x0.length : Int) != (x1.length : Int))
    (some false)
    (slices_Equal_string_string_L0 N x0 x1 (x0.length : Int) (some true) N (0 : Int))
abbrev slices_Equal_string_string_sg (f : SV [.v (.sl .str), .v (.sl .str)] → BV [] → Option (Bool)) : AF := { ps := [.v (.sl .str), .v (.sl .str)], bs := [], rs := [.v .bool], cs := [], R := Bool, out := fun z => ((z, ()), ()), f := f }
abbrev slices_Equal_string_string_pk : SV [.v .bool] → BV [] → Bool := fun x _ => x.1
def slices_Equal_string_string_fn (_N : Nat) : FuncId → Option Tmp → Option AF := fun f _ =>
  match f with
    | _ => none
theorem slices_Equal_string_string_fn_ok (N : Nat) : ∀ f q F, slices_Equal_string_string_fn N f q = some F → Sound Tryz.prog GW B0G f F := by
  intro f q F h
  unfold slices_Equal_string_string_fn at h
  split at h
  · cases h
def slices_Equal_string_string_h : Nat → Hint := fun i =>
  match i with
  | 0 => ⟨[], [0, 1, 12, 13], [], [], [], []⟩
  | _ => ⟨[], [], [], [], [], []⟩
abbrev slices_Equal_string_string_E (N : Nat) : Env := mkE slices_Equal_string_string_h (slices_Equal_string_string_fn N) (fun _ => false) (fun _ => false)
abbrev slices_Equal_string_string_L0_fs : List (Nat × Sl) := [(0, .v (.sl .str)), (1, .v (.sl .str)), (12, .v (.int .i64)), (13, .v (.int .i64))]
abbrev slices_Equal_string_string_L0_bs : List (Nat × Sb) := []
def slices_Equal_string_string_L0_hd (x0 : List Str) (x1 : List Str) (c12 : Int) (s13 : Int) : St := ⟨26, [(0, .v (.sl .str) x0), (1, .v (.sl .str) x1), (12, .v (.int .i64) c12), (13, .v (.int .i64) s13)], []⟩
def slices_Equal_string_string_L0_tl0 (_x0 : List Str) (_x1 : List Str) (_c12 : Int) : St := ⟨26, [], []⟩
def slices_Equal_string_string_L0_G (N : Nat) (x0 : List Str) (x1 : List Str) (c12 : Int) (s13 : Int) (k : Ex → St → Option Bool) : Option Bool :=
  slices_Equal_string_string_L0 N x0 x1 c12 (k (.exit 0) (slices_Equal_string_string_L0_tl0 x0 x1 c12)) N s13
abbrev slices_Equal_string_string_L0_F (N : Nat) : FV slices_Equal_string_string_L0_fs → HV slices_Equal_string_string_L0_bs → (Ex → St → Option Bool) → Option Bool := fun x _ k => slices_Equal_string_string_L0_G N x.1 x.2.1 x.2.2.1 x.2.2.2.1 k
noncomputable def slices_Equal_string_string_LP (N : Nat) : Nat → Code → St → (Ex → St → Option Bool) → Option Bool := fun i c =>
  match i with
  | 0 => (LPc 26 slices_Equal_string_string_L0_fs slices_Equal_string_string_L0_bs (slices_Equal_string_string_L0_F N) (fun st k => iter (slices_Equal_string_string_h 0) (exec (slices_Equal_string_string_E N) N c 0) N st k))
  | i => fun st k => iter (slices_Equal_string_string_h i) (exec (slices_Equal_string_string_E N) N c i) N st k
theorem slices_Equal_string_string_L0_step (N : Nat) (x0 : List Str) (x1 : List Str) (c12 : Int) (KX : Nat → St → Option Bool) (I : St → Option Bool) (s13 : Int) :
    execL (slices_Equal_string_string_LP N) (slices_Equal_string_string_E N) (cAt (bodyOf Tryz.f37) [true, true, false, true, false, false]) 0 (slices_Equal_string_string_L0_hd x0 x1 c12 s13) (roundK (slices_Equal_string_string_h 0) I KX (resD (slices_Equal_string_string_E N) Tryz.f37 (slices_Equal_string_string_sg fun x _ => slices_Equal_string_string N x.1 x.2.1) slices_Equal_string_string_pk)) = slices_Equal_string_string_L0T N x0 x1 c12 (KX 0 (slices_Equal_string_string_L0_tl0 x0 x1 c12)) (fun s13 => I (slices_Equal_string_string_L0_hd x0 x1 c12 s13)) s13 := by kernel_rfl
theorem slices_Equal_string_string_L0_ok (N : Nat) : ∀ x y k, (∀ st, k .ret st = (resD (slices_Equal_string_string_E N) Tryz.f37 (slices_Equal_string_string_sg fun x _ => slices_Equal_string_string N x.1 x.2.1) slices_Equal_string_string_pk) st) → iter (slices_Equal_string_string_h 0) (exec (slices_Equal_string_string_E N) N (cAt (bodyOf Tryz.f37) [true, true, false, true, false, false]) 0) N ⟨26, unF slices_Equal_string_string_L0_fs x, unH slices_Equal_string_string_L0_bs y⟩ k = slices_Equal_string_string_L0_F N x y k := fun x _ k hk =>
  iter_link (S := (Int) × Unit) (slices_Equal_string_string_h 0) _ (execL (slices_Equal_string_string_LP N) (slices_Equal_string_string_E N) (cAt (bodyOf Tryz.f37) [true, true, false, true, false, false]) 0) (resD (slices_Equal_string_string_E N) Tryz.f37 (slices_Equal_string_string_sg fun x _ => slices_Equal_string_string N x.1 x.2.1) slices_Equal_string_string_pk) (fun st k hk => execL_eq _ _ N _ (cAt (bodyOf Tryz.f37) [true, true, false, true, false, false]) 0 (show LoopsOk (slices_Equal_string_string_LP N) (slices_Equal_string_string_E N) N (resD (slices_Equal_string_string_E N) Tryz.f37 (slices_Equal_string_string_sg fun x _ => slices_Equal_string_string N x.1 x.2.1) slices_Equal_string_string_pk) [] from trivial) st k hk) (fun s => slices_Equal_string_string_L0_hd x.1 x.2.1 x.2.2.1 s.1) k hk
    (fun self s => slices_Equal_string_string_L0T N x.1 x.2.1 x.2.2.1 (k (.exit 0) (slices_Equal_string_string_L0_tl0 x.1 x.2.1 x.2.2.1)) (fun s13 => self (s13, ())) s.1) (fun n s => slices_Equal_string_string_L0 N x.1 x.2.1 x.2.2.1 (k (.exit 0) (slices_Equal_string_string_L0_tl0 x.1 x.2.1 x.2.2.1)) n s.1) (fun _ => rfl) (fun _ _ => rfl)
    (fun I s => slices_Equal_string_string_L0_step N x.1 x.2.1 x.2.2.1 (fun j => k (.exit j)) I s.1) N (x.2.2.2.1, ())
theorem slices_Equal_string_string_lp0 (N : Nat) : ∀ st k, (∀ st, k .ret st = (resD (slices_Equal_string_string_E N) Tryz.f37 (slices_Equal_string_string_sg fun x _ => slices_Equal_string_string N x.1 x.2.1) slices_Equal_string_string_pk) st) → slices_Equal_string_string_LP N 0 (cAt (bodyOf Tryz.f37) [true, true, false, true, false, false]) st k = iter (Env.hint (slices_Equal_string_string_E N) 0) (exec (slices_Equal_string_string_E N) N (cAt (bodyOf Tryz.f37) [true, true, false, true, false, false]) 0) N st k := fun st k hk => LPc_eq 26 slices_Equal_string_string_L0_fs slices_Equal_string_string_L0_bs _ _ (resD (slices_Equal_string_string_E N) Tryz.f37 (slices_Equal_string_string_sg fun x _ => slices_Equal_string_string N x.1 x.2.1) slices_Equal_string_string_pk) (slices_Equal_string_string_L0_ok N) _ st k hk (rfl)
theorem slices_Equal_string_string_core (N : Nat) (x : SV [.v (.sl .str), .v (.sl .str)]) (y : BV []) : runL (slices_Equal_string_string_E N) Tryz.f37 (slices_Equal_string_string_sg fun x _ => slices_Equal_string_string N x.1 x.2.1) slices_Equal_string_string_pk (slices_Equal_string_string_LP N) x y = slices_Equal_string_string N x.1 x.2.1 := by kernel_rfl
theorem slices_Equal_string_string_sound (N : Nat) : Sound Tryz.prog GW B0G 37 (slices_Equal_string_string_sg fun x _ => slices_Equal_string_string N x.1 x.2.1) :=
  runD_sound (mkE_ok slices_Equal_string_string_h (slices_Equal_string_string_fn N) _ _ (slices_Equal_string_string_fn_ok N)) Tryz.func37 rfl Tryz.call37 (slices_Equal_string_string_sg fun x _ => slices_Equal_string_string N x.1 x.2.1) slices_Equal_string_string_pk (fun _ _ => rfl) N (fun x y _ h => ((runL_eq (slices_Equal_string_string_E N) N Tryz.f37 (slices_Equal_string_string_sg fun x _ => slices_Equal_string_string N x.1 x.2.1) slices_Equal_string_string_pk (slices_Equal_string_string_LP N) (show LoopsOk (slices_Equal_string_string_LP N) (slices_Equal_string_string_E N) N (resD (slices_Equal_string_string_E N) Tryz.f37 (slices_Equal_string_string_sg fun x _ => slices_Equal_string_string N x.1 x.2.1) slices_Equal_string_string_pk) [(0, (cAt (bodyOf Tryz.f37) [true, true, false, true, false, false]))] from ⟨slices_Equal_string_string_lp0 N, trivial⟩) x y).trans (slices_Equal_string_string_core N x y)).trans h)
abbrev ref2_SameValue_sg (f : SV [.v (.rc .value), .v (.rc .value)] → BV [] → Option (Bool)) : AF := { ps := [.v (.rc .value), .v (.rc .value)], bs := [], rs := [.v .bool], cs := [], R := Bool, out := fun z => ((z, ()), ()), f := f }
def ref2_SameValue_b_L0T (_N : Nat) (r_ref2_SameValue : GValue → GValue → Option (Bool)) (c44 : Int) (c1002_4 : List (Str × GValue)) (c1003_4 : List (Str × GValue)) (k0 : Option Bool) (self : Int → Option Bool) (s45 : Int) : Option Bool :=
  br (decide (s45 < c44))
    (bnd (geti c1002_4 s45) fun t51 =>
    bnd (geti c1003_4 s45) fun t57 =>
    br (!(t51.1 == t57.1))
      (some false)
      (bnd (geti c1002_4 s45) fun t65 =>
      bnd (geti c1003_4 s45) fun t71 =>
      bnd (r_ref2_SameValue t65.2 t71.2) fun t74 =>
      br (!t74)
        (some false)
        (self (IntKind.i64.wrap (s45 + (1 : Int))))))
    (k0)
def ref2_SameValue_b_L0 (N : Nat) (r_ref2_SameValue : GValue → GValue → Option (Bool)) (c44 : Int) (c1002_4 : List (Str × GValue)) (c1003_4 : List (Str × GValue)) (k0 : Option Bool) : Nat → Int → Option Bool
  | 0, _ => none
  | n + 1, s45 => ref2_SameValue_b_L0T N r_ref2_SameValue c44 c1002_4 c1003_4 k0 (ref2_SameValue_b_L0 N r_ref2_SameValue c44 c1002_4 c1003_4 k0 n) s45
def ref2_SameValue_b (N : Nat) (r_ref2_SameValue : GValue → GValue → Option (Bool)) (x0 : GValue) (x1 : GValue) : Option Bool :=
  br (x0.kind != x1.kind)
    (some false)
    (br (!(x0.text == x1.text))
      (some false)
      (br (x0.number != x1.number)
        (some false)
        (bnd (slices_Equal_string_string N x0.list x1.list) fun t30 =>
        br (!t30)
          (some false)
          (br ((x0.cases.length : Int) != (x1.cases.length : Int))
            (some false)
            (ref2_SameValue_b_L0 N r_ref2_SameValue (x0.cases.length : Int) x0.cases x1.cases (some true) N (0 : Int))))))
abbrev ref2_SameValue_b_sg (f : SV [.v (.rc .value), .v (.rc .value)] → BV [] → Option (Bool)) : AF := { ps := [.v (.rc .value), .v (.rc .value)], bs := [], rs := [.v .bool], cs := [], R := Bool, out := fun z => ((z, ()), ()), f := f }
abbrev ref2_SameValue_b_pk : SV [.v .bool] → BV [] → Bool := fun x _ => x.1
def ref2_SameValue_b_fn (N : Nat) (r_ref2_SameValue : GValue → GValue → Option (Bool)) : FuncId → Option Tmp → Option AF := fun f _ =>
  match f with
    | 12 => some (ref2_SameValue_sg fun x _ => r_ref2_SameValue x.1 x.2.1)
    | 37 => some (slices_Equal_string_string_sg fun x _ => slices_Equal_string_string N x.1 x.2.1)
    | _ => none
theorem ref2_SameValue_b_fn_ok (N : Nat) (r_ref2_SameValue : GValue → GValue → Option (Bool)) (h_ref2_SameValue : Sound Tryz.prog GW B0G 12 (ref2_SameValue_sg fun x y => r_ref2_SameValue x.1 x.2.1)) : ∀ f q F, ref2_SameValue_b_fn N r_ref2_SameValue f q = some F → Sound Tryz.prog GW B0G f F := by
  intro f q F h
  unfold ref2_SameValue_b_fn at h
  split at h
  · cases h; exact h_ref2_SameValue
  · cases h; exact slices_Equal_string_string_sound N
  · cases h
def ref2_SameValue_b_h : Nat → Hint := fun i =>
  match i with
  | 0 => ⟨[], [2, 3, 44, 45], [1002, 1003], [], [], []⟩
  | _ => ⟨[], [], [], [], [], []⟩
abbrev ref2_SameValue_b_E (N : Nat) (r_ref2_SameValue : GValue → GValue → Option (Bool)) : Env := mkE ref2_SameValue_b_h (ref2_SameValue_b_fn N r_ref2_SameValue) (fun _ => false) (fun _ => false)
abbrev ref2_SameValue_b_L0_fs : List (Nat × Sl) := [(2, .box 1002 0), (3, .box 1003 0), (44, .v (.int .i64)), (45, .v (.int .i64))]
abbrev ref2_SameValue_b_L0_bs : List (Nat × Sb) := [(1002, .cells [.v (.int .i64), .v .str, .v (.int .i64), .v (.sl .str), .v (.sl (.pr .str (.rc .value)))]), (1003, .cells [.v (.int .i64), .v .str, .v (.int .i64), .v (.sl .str), .v (.sl (.pr .str (.rc .value)))])]
def ref2_SameValue_b_L0_hd (c44 : Int) (c1002_0 : Int) (c1002_1 : Str) (c1002_2 : Int) (c1002_3 : List Str) (c1002_4 : List (Str × GValue)) (c1003_0 : Int) (c1003_1 : Str) (c1003_2 : Int) (c1003_3 : List Str) (c1003_4 : List (Str × GValue)) (s45 : Int) : St := ⟨78, [(2, .box 1002 0), (3, .box 1003 0), (44, .v (.int .i64) c44), (45, .v (.int .i64) s45)], [(1002, .cells [.v (.int .i64) c1002_0, .v .str c1002_1, .v (.int .i64) c1002_2, .v (.sl .str) c1002_3, .v (.sl (.pr .str (.rc .value))) c1002_4]), (1003, .cells [.v (.int .i64) c1003_0, .v .str c1003_1, .v (.int .i64) c1003_2, .v (.sl .str) c1003_3, .v (.sl (.pr .str (.rc .value))) c1003_4])]⟩
def ref2_SameValue_b_L0_tl0 (_c44 : Int) (_c1002_0 : Int) (_c1002_1 : Str) (_c1002_2 : Int) (_c1002_3 : List Str) (_c1002_4 : List (Str × GValue)) (_c1003_0 : Int) (_c1003_1 : Str) (_c1003_2 : Int) (_c1003_3 : List Str) (_c1003_4 : List (Str × GValue)) : St := ⟨78, [], []⟩
def ref2_SameValue_b_L0_G (N : Nat) (r_ref2_SameValue : GValue → GValue → Option (Bool)) (c44 : Int) (c1002_0 : Int) (c1002_1 : Str) (c1002_2 : Int) (c1002_3 : List Str) (c1002_4 : List (Str × GValue)) (c1003_0 : Int) (c1003_1 : Str) (c1003_2 : Int) (c1003_3 : List Str) (c1003_4 : List (Str × GValue)) (s45 : Int) (k : Ex → St → Option Bool) : Option Bool :=
  ref2_SameValue_b_L0 N r_ref2_SameValue c44 c1002_4 c1003_4 (k (.exit 0) (ref2_SameValue_b_L0_tl0 c44 c1002_0 c1002_1 c1002_2 c1002_3 c1002_4 c1003_0 c1003_1 c1003_2 c1003_3 c1003_4)) N s45
abbrev ref2_SameValue_b_L0_F (N : Nat) (r_ref2_SameValue : GValue → GValue → Option (Bool)) : FV ref2_SameValue_b_L0_fs → HV ref2_SameValue_b_L0_bs → (Ex → St → Option Bool) → Option Bool := fun x y k => ref2_SameValue_b_L0_G N r_ref2_SameValue x.2.2.1 y.1.1 y.1.2.1 y.1.2.2.1 y.1.2.2.2.1 y.1.2.2.2.2.1 y.2.1.1 y.2.1.2.1 y.2.1.2.2.1 y.2.1.2.2.2.1 y.2.1.2.2.2.2.1 x.2.2.2.1 k
noncomputable def ref2_SameValue_b_LP (N : Nat) (r_ref2_SameValue : GValue → GValue → Option (Bool)) : Nat → Code → St → (Ex → St → Option Bool) → Option Bool := fun i c =>
  match i with
  | 0 => (LPc 78 ref2_SameValue_b_L0_fs ref2_SameValue_b_L0_bs (ref2_SameValue_b_L0_F N r_ref2_SameValue) (fun st k => iter (ref2_SameValue_b_h 0) (exec (ref2_SameValue_b_E N r_ref2_SameValue) N c 0) N st k))
  | i => fun st k => iter (ref2_SameValue_b_h i) (exec (ref2_SameValue_b_E N r_ref2_SameValue) N c i) N st k
theorem ref2_SameValue_b_L0_step (N : Nat) (r_ref2_SameValue : GValue → GValue → Option (Bool)) (c44 : Int) (c1002_0 : Int) (c1002_1 : Str) (c1002_2 : Int) (c1002_3 : List Str) (c1002_4 : List (Str × GValue)) (c1003_0 : Int) (c1003_1 : Str) (c1003_2 : Int) (c1003_3 : List Str) (c1003_4 : List (Str × GValue)) (KX : Nat → St → Option Bool) (I : St → Option Bool) (s45 : Int) :
    execL (ref2_SameValue_b_LP N r_ref2_SameValue) (ref2_SameValue_b_E N r_ref2_SameValue) (cAt (bodyOf Tryz.f12) [true, true, false, true, false, false]) 0 (ref2_SameValue_b_L0_hd c44 c1002_0 c1002_1 c1002_2 c1002_3 c1002_4 c1003_0 c1003_1 c1003_2 c1003_3 c1003_4 s45) (roundK (ref2_SameValue_b_h 0) I KX (resD (ref2_SameValue_b_E N r_ref2_SameValue) Tryz.f12 (ref2_SameValue_b_sg fun x _ => ref2_SameValue_b N r_ref2_SameValue x.1 x.2.1) ref2_SameValue_b_pk)) = ref2_SameValue_b_L0T N r_ref2_SameValue c44 c1002_4 c1003_4 (KX 0 (ref2_SameValue_b_L0_tl0 c44 c1002_0 c1002_1 c1002_2 c1002_3 c1002_4 c1003_0 c1003_1 c1003_2 c1003_3 c1003_4)) (fun s45 => I (ref2_SameValue_b_L0_hd c44 c1002_0 c1002_1 c1002_2 c1002_3 c1002_4 c1003_0 c1003_1 c1003_2 c1003_3 c1003_4 s45)) s45 := by kernel_rfl
theorem ref2_SameValue_b_L0_ok (N : Nat) (r_ref2_SameValue : GValue → GValue → Option (Bool)) : ∀ x y k, (∀ st, k .ret st = (resD (ref2_SameValue_b_E N r_ref2_SameValue) Tryz.f12 (ref2_SameValue_b_sg fun x _ => ref2_SameValue_b N r_ref2_SameValue x.1 x.2.1) ref2_SameValue_b_pk) st) → iter (ref2_SameValue_b_h 0) (exec (ref2_SameValue_b_E N r_ref2_SameValue) N (cAt (bodyOf Tryz.f12) [true, true, false, true, false, false]) 0) N ⟨78, unF ref2_SameValue_b_L0_fs x, unH ref2_SameValue_b_L0_bs y⟩ k = ref2_SameValue_b_L0_F N r_ref2_SameValue x y k := fun x y k hk =>
  iter_link (S := (Int) × Unit) (ref2_SameValue_b_h 0) _ (execL (ref2_SameValue_b_LP N r_ref2_SameValue) (ref2_SameValue_b_E N r_ref2_SameValue) (cAt (bodyOf Tryz.f12) [true, true, false, true, false, false]) 0) (resD (ref2_SameValue_b_E N r_ref2_SameValue) Tryz.f12 (ref2_SameValue_b_sg fun x _ => ref2_SameValue_b N r_ref2_SameValue x.1 x.2.1) ref2_SameValue_b_pk) (fun st k hk => execL_eq _ _ N _ (cAt (bodyOf Tryz.f12) [true, true, false, true, false, false]) 0 (show LoopsOk (ref2_SameValue_b_LP N r_ref2_SameValue) (ref2_SameValue_b_E N r_ref2_SameValue) N (resD (ref2_SameValue_b_E N r_ref2_SameValue) Tryz.f12 (ref2_SameValue_b_sg fun x _ => ref2_SameValue_b N r_ref2_SameValue x.1 x.2.1) ref2_SameValue_b_pk) [] from trivial) st k hk) (fun s => ref2_SameValue_b_L0_hd x.2.2.1 y.1.1 y.1.2.1 y.1.2.2.1 y.1.2.2.2.1 y.1.2.2.2.2.1 y.2.1.1 y.2.1.2.1 y.2.1.2.2.1 y.2.1.2.2.2.1 y.2.1.2.2.2.2.1 s.1) k hk
    (fun self s => ref2_SameValue_b_L0T N r_ref2_SameValue x.2.2.1 y.1.2.2.2.2.1 y.2.1.2.2.2.2.1 (k (.exit 0) (ref2_SameValue_b_L0_tl0 x.2.2.1 y.1.1 y.1.2.1 y.1.2.2.1 y.1.2.2.2.1 y.1.2.2.2.2.1 y.2.1.1 y.2.1.2.1 y.2.1.2.2.1 y.2.1.2.2.2.1 y.2.1.2.2.2.2.1)) (fun s45 => self (s45, ())) s.1) (fun n s => ref2_SameValue_b_L0 N r_ref2_SameValue x.2.2.1 y.1.2.2.2.2.1 y.2.1.2.2.2.2.1 (k (.exit 0) (ref2_SameValue_b_L0_tl0 x.2.2.1 y.1.1 y.1.2.1 y.1.2.2.1 y.1.2.2.2.1 y.1.2.2.2.2.1 y.2.1.1 y.2.1.2.1 y.2.1.2.2.1 y.2.1.2.2.2.1 y.2.1.2.2.2.2.1)) n s.1) (fun _ => rfl) (fun _ _ => rfl)
    (fun I s => ref2_SameValue_b_L0_step N r_ref2_SameValue x.2.2.1 y.1.1 y.1.2.1 y.1.2.2.1 y.1.2.2.2.1 y.1.2.2.2.2.1 y.2.1.1 y.2.1.2.1 y.2.1.2.2.1 y.2.1.2.2.2.1 y.2.1.2.2.2.2.1 (fun j => k (.exit j)) I s.1) N (x.2.2.2.1, ())
theorem ref2_SameValue_b_lp0 (N : Nat) (r_ref2_SameValue : GValue → GValue → Option (Bool)) : ∀ st k, (∀ st, k .ret st = (resD (ref2_SameValue_b_E N r_ref2_SameValue) Tryz.f12 (ref2_SameValue_b_sg fun x _ => ref2_SameValue_b N r_ref2_SameValue x.1 x.2.1) ref2_SameValue_b_pk) st) → ref2_SameValue_b_LP N r_ref2_SameValue 0 (cAt (bodyOf Tryz.f12) [true, true, false, true, false, false]) st k = iter (Env.hint (ref2_SameValue_b_E N r_ref2_SameValue) 0) (exec (ref2_SameValue_b_E N r_ref2_SameValue) N (cAt (bodyOf Tryz.f12) [true, true, false, true, false, false]) 0) N st k := fun st k hk => LPc_eq 78 ref2_SameValue_b_L0_fs ref2_SameValue_b_L0_bs _ _ (resD (ref2_SameValue_b_E N r_ref2_SameValue) Tryz.f12 (ref2_SameValue_b_sg fun x _ => ref2_SameValue_b N r_ref2_SameValue x.1 x.2.1) ref2_SameValue_b_pk) (ref2_SameValue_b_L0_ok N r_ref2_SameValue) _ st k hk (rfl)
theorem ref2_SameValue_b_core (N : Nat) (r_ref2_SameValue : GValue → GValue → Option (Bool)) (x : SV [.v (.rc .value), .v (.rc .value)]) (y : BV []) : runL (ref2_SameValue_b_E N r_ref2_SameValue) Tryz.f12 (ref2_SameValue_b_sg fun x _ => ref2_SameValue_b N r_ref2_SameValue x.1 x.2.1) ref2_SameValue_b_pk (ref2_SameValue_b_LP N r_ref2_SameValue) x y = ref2_SameValue_b N r_ref2_SameValue x.1 x.2.1 := by kernel_rfl
theorem ref2_SameValue_b_sound (N : Nat) (r_ref2_SameValue : GValue → GValue → Option (Bool)) (h_ref2_SameValue : Sound Tryz.prog GW B0G 12 (ref2_SameValue_sg fun x y => r_ref2_SameValue x.1 x.2.1)) : Sound Tryz.prog GW B0G 12 (ref2_SameValue_b_sg fun x _ => ref2_SameValue_b N r_ref2_SameValue x.1 x.2.1) :=
  runD_sound (mkE_ok ref2_SameValue_b_h (ref2_SameValue_b_fn N r_ref2_SameValue) _ _ (ref2_SameValue_b_fn_ok N r_ref2_SameValue h_ref2_SameValue)) Tryz.func12 rfl Tryz.call12 (ref2_SameValue_b_sg fun x _ => ref2_SameValue_b N r_ref2_SameValue x.1 x.2.1) ref2_SameValue_b_pk (fun _ _ => rfl) N (fun x y _ h => ((runL_eq (ref2_SameValue_b_E N r_ref2_SameValue) N Tryz.f12 (ref2_SameValue_b_sg fun x _ => ref2_SameValue_b N r_ref2_SameValue x.1 x.2.1) ref2_SameValue_b_pk (ref2_SameValue_b_LP N r_ref2_SameValue) (show LoopsOk (ref2_SameValue_b_LP N r_ref2_SameValue) (ref2_SameValue_b_E N r_ref2_SameValue) N (resD (ref2_SameValue_b_E N r_ref2_SameValue) Tryz.f12 (ref2_SameValue_b_sg fun x _ => ref2_SameValue_b N r_ref2_SameValue x.1 x.2.1) ref2_SameValue_b_pk) [(0, (cAt (bodyOf Tryz.f12) [true, true, false, true, false, false]))] from ⟨ref2_SameValue_b_lp0 N r_ref2_SameValue, trivial⟩) x y).trans (ref2_SameValue_b_core N r_ref2_SameValue x y)).trans h)
def ref2_SameValue (N : Nat) : Nat → GValue → GValue → Option (Bool)
  | 0 => fun _ _ => none
  | d + 1 => ref2_SameValue_b N (ref2_SameValue N d)
theorem ref2_SameValue_sound (N : Nat) : ∀ d, Sound Tryz.prog GW B0G 12 (ref2_SameValue_sg fun x y => ref2_SameValue N d x.1 x.2.1)
  | 0 => Sound.never Tryz.call12 (fun _ _ => rfl)
  | d + 1 => ref2_SameValue_b_sound N (ref2_SameValue N d) (ref2_SameValue_sound N d)
def ref2_isPlain (_N : Nat) (x0 : GValue) : Option Bool :=
  br (x0.text == ([] : Str))
    (br (x0.number == (0 : Int))
      (br ((x0.list.length : Int) == (0 : Int))
        (br ((x0.cases.length : Int) == (0 : Int))
          (some true)
          (some (x0.kind == (4 : Int))))
        (br (x0.kind == (3 : Int))
          (br ((x0.cases.length : Int) == (0 : Int))
            (some true)
            (some (x0.kind == (4 : Int))))
          (some false)))
      (br (x0.kind == (2 : Int))
        (br ((x0.list.length : Int) == (0 : Int))
          (br ((x0.cases.length : Int) == (0 : Int))
            (some true)
            (some (x0.kind == (4 : Int))))
          (br (x0.kind == (3 : Int))
            (br ((x0.cases.length : Int) == (0 : Int))
              (some true)
              (some (x0.kind == (4 : Int))))
            (some false)))
        (some false)))
    (br (x0.kind == (1 : Int))
      (br (x0.number == (0 : Int))
        (br ((x0.list.length : Int) == (0 : Int))
          (br ((x0.cases.length : Int) == (0 : Int))
            (some true)
            (some (x0.kind == (4 : Int))))
          (br (x0.kind == (3 : Int))
            (br ((x0.cases.length : Int) == (0 : Int))
              (some true)
              (some (x0.kind == (4 : Int))))
            (some false)))
        (br (x0.kind == (2 : Int))
          (br ((x0.list.length : Int) == (0 : Int))
            (br ((x0.cases.length : Int) == (0 : Int))
              (some true)
              (some (x0.kind == (4 : Int))))
            (br (x0.kind == (3 : Int))
              (br ((x0.cases.length : Int) == (0 : Int))
                (some true)
                (some (x0.kind == (4 : Int))))
              (some false)))
          (some false)))
      (some false))
abbrev ref2_isPlain_sg (f : SV [.v (.rc .value)] → BV [] → Option (Bool)) : AF := { ps := [.v (.rc .value)], bs := [], rs := [.v .bool], cs := [], R := Bool, out := fun z => ((z, ()), ()), f := f }
abbrev ref2_isPlain_pk : SV [.v .bool] → BV [] → Bool := fun x _ => x.1
def ref2_isPlain_fn (_N : Nat) : FuncId → Option Tmp → Option AF := fun f _ =>
  match f with
    | _ => none
theorem ref2_isPlain_fn_ok (N : Nat) : ∀ f q F, ref2_isPlain_fn N f q = some F → Sound Tryz.prog GW B0G f F := by
  intro f q F h
  unfold ref2_isPlain_fn at h
  split at h
  · cases h
def ref2_isPlain_h : Nat → Hint := fun i =>
  match i with
  | _ => ⟨[], [], [], [], [], []⟩
abbrev ref2_isPlain_E (N : Nat) : Env := mkE ref2_isPlain_h (ref2_isPlain_fn N) (fun _ => false) (fun _ => false)
noncomputable def ref2_isPlain_LP (N : Nat) : Nat → Code → St → (Ex → St → Option Bool) → Option Bool := fun i c =>
  match i with
  | i => fun st k => iter (ref2_isPlain_h i) (exec (ref2_isPlain_E N) N c i) N st k
theorem ref2_isPlain_core (N : Nat) (x : SV [.v (.rc .value)]) (y : BV []) : runL (ref2_isPlain_E N) Tryz.f45 (ref2_isPlain_sg fun x _ => ref2_isPlain N x.1) ref2_isPlain_pk (ref2_isPlain_LP N) x y = ref2_isPlain N x.1 := by kernel_rfl
theorem ref2_isPlain_sound (N : Nat) : Sound Tryz.prog GW B0G 45 (ref2_isPlain_sg fun x _ => ref2_isPlain N x.1) :=
  runD_sound (mkE_ok ref2_isPlain_h (ref2_isPlain_fn N) _ _ (ref2_isPlain_fn_ok N)) Tryz.func45 rfl Tryz.call45 (ref2_isPlain_sg fun x _ => ref2_isPlain N x.1) ref2_isPlain_pk (fun _ _ => rfl) N (fun x y _ h => ((runL_eq (ref2_isPlain_E N) N Tryz.f45 (ref2_isPlain_sg fun x _ => ref2_isPlain N x.1) ref2_isPlain_pk (ref2_isPlain_LP N) (show LoopsOk (ref2_isPlain_LP N) (ref2_isPlain_E N) N (resD (ref2_isPlain_E N) Tryz.f45 (ref2_isPlain_sg fun x _ => ref2_isPlain N x.1) ref2_isPlain_pk) [] from trivial) x y).trans (ref2_isPlain_core N x y)).trans h)
def ref2_isText_L0T (_N : Nat) (x0 : Str) (c5 : Int) (k0 : Option Bool) (self : Int → Option Bool) (s6 : Int) : Option Bool :=
  br (decide (s6 < c5))
    (bnd (geti x0 s6) fun t11 =>
    br (t11 != (10 : UInt8))
      (bnd (geti x0 s6) fun t16 =>
      br (decide (t16 < (32 : UInt8)))
        (some false)
        (bnd (geti x0 s6) fun t21 =>
        br (decide (t21 > (126 : UInt8)))
          (some false)
          (self (IntKind.i64.wrap (s6 + (1 : Int))))))
      (self (IntKind.i64.wrap (s6 + (1 : Int)))))
    (k0)
def ref2_isText_L0 (N : Nat) (x0 : Str) (c5 : Int) (k0 : Option Bool) : Nat → Int → Option Bool
  | 0, _ => none
  | n + 1, s6 => ref2_isText_L0T N x0 c5 k0 (ref2_isText_L0 N x0 c5 k0 n) s6
def ref2_isText (N : Nat) (x0 : Str) : Option Bool :=
  ref2_isText_L0 N x0 (x0.length : Int) (some true) N (0 : Int)
abbrev ref2_isText_sg (f : SV [.v .str] → BV [] → Option (Bool)) : AF := { ps := [.v .str], bs := [], rs := [.v .bool], cs := [], R := Bool, out := fun z => ((z, ()), ()), f := f }
abbrev ref2_isText_pk : SV [.v .bool] → BV [] → Bool := fun x _ => x.1
def ref2_isText_fn (_N : Nat) : FuncId → Option Tmp → Option AF := fun f _ =>
  match f with
    | _ => none
theorem ref2_isText_fn_ok (N : Nat) : ∀ f q F, ref2_isText_fn N f q = some F → Sound Tryz.prog GW B0G f F := by
  intro f q F h
  unfold ref2_isText_fn at h
  split at h
  · cases h
def ref2_isText_h : Nat → Hint := fun i =>
  match i with
  | 0 => ⟨[], [0, 5, 6], [], [], [], []⟩
  | _ => ⟨[], [], [], [], [], []⟩
abbrev ref2_isText_E (N : Nat) : Env := mkE ref2_isText_h (ref2_isText_fn N) (fun _ => false) (fun _ => false)
abbrev ref2_isText_L0_fs : List (Nat × Sl) := [(0, .v .str), (5, .v (.int .i64)), (6, .v (.int .i64))]
abbrev ref2_isText_L0_bs : List (Nat × Sb) := []
def ref2_isText_L0_hd (x0 : Str) (c5 : Int) (s6 : Int) : St := ⟨26, [(0, .v .str x0), (5, .v (.int .i64) c5), (6, .v (.int .i64) s6)], []⟩
def ref2_isText_L0_tl0 (_x0 : Str) (_c5 : Int) : St := ⟨26, [], []⟩
def ref2_isText_L0_G (N : Nat) (x0 : Str) (c5 : Int) (s6 : Int) (k : Ex → St → Option Bool) : Option Bool :=
  ref2_isText_L0 N x0 c5 (k (.exit 0) (ref2_isText_L0_tl0 x0 c5)) N s6
abbrev ref2_isText_L0_F (N : Nat) : FV ref2_isText_L0_fs → HV ref2_isText_L0_bs → (Ex → St → Option Bool) → Option Bool := fun x _ k => ref2_isText_L0_G N x.1 x.2.1 x.2.2.1 k
noncomputable def ref2_isText_LP (N : Nat) : Nat → Code → St → (Ex → St → Option Bool) → Option Bool := fun i c =>
  match i with
  | 0 => (LPc 26 ref2_isText_L0_fs ref2_isText_L0_bs (ref2_isText_L0_F N) (fun st k => iter (ref2_isText_h 0) (exec (ref2_isText_E N) N c 0) N st k))
  | i => fun st k => iter (ref2_isText_h i) (exec (ref2_isText_E N) N c i) N st k
theorem ref2_isText_L0_step (N : Nat) (x0 : Str) (c5 : Int) (KX : Nat → St → Option Bool) (I : St → Option Bool) (s6 : Int) :
    execL (ref2_isText_LP N) (ref2_isText_E N) (cAt (bodyOf Tryz.f46) [true, false, true, false, false]) 0 (ref2_isText_L0_hd x0 c5 s6) (roundK (ref2_isText_h 0) I KX (resD (ref2_isText_E N) Tryz.f46 (ref2_isText_sg fun x _ => ref2_isText N x.1) ref2_isText_pk)) = ref2_isText_L0T N x0 c5 (KX 0 (ref2_isText_L0_tl0 x0 c5)) (fun s6 => I (ref2_isText_L0_hd x0 c5 s6)) s6 := by kernel_rfl
theorem ref2_isText_L0_ok (N : Nat) : ∀ x y k, (∀ st, k .ret st = (resD (ref2_isText_E N) Tryz.f46 (ref2_isText_sg fun x _ => ref2_isText N x.1) ref2_isText_pk) st) → iter (ref2_isText_h 0) (exec (ref2_isText_E N) N (cAt (bodyOf Tryz.f46) [true, false, true, false, false]) 0) N ⟨26, unF ref2_isText_L0_fs x, unH ref2_isText_L0_bs y⟩ k = ref2_isText_L0_F N x y k := fun x _ k hk =>
  iter_link (S := (Int) × Unit) (ref2_isText_h 0) _ (execL (ref2_isText_LP N) (ref2_isText_E N) (cAt (bodyOf Tryz.f46) [true, false, true, false, false]) 0) (resD (ref2_isText_E N) Tryz.f46 (ref2_isText_sg fun x _ => ref2_isText N x.1) ref2_isText_pk) (fun st k hk => execL_eq _ _ N _ (cAt (bodyOf Tryz.f46) [true, false, true, false, false]) 0 (show LoopsOk (ref2_isText_LP N) (ref2_isText_E N) N (resD (ref2_isText_E N) Tryz.f46 (ref2_isText_sg fun x _ => ref2_isText N x.1) ref2_isText_pk) [] from trivial) st k hk) (fun s => ref2_isText_L0_hd x.1 x.2.1 s.1) k hk
    (fun self s => ref2_isText_L0T N x.1 x.2.1 (k (.exit 0) (ref2_isText_L0_tl0 x.1 x.2.1)) (fun s6 => self (s6, ())) s.1) (fun n s => ref2_isText_L0 N x.1 x.2.1 (k (.exit 0) (ref2_isText_L0_tl0 x.1 x.2.1)) n s.1) (fun _ => rfl) (fun _ _ => rfl)
    (fun I s => ref2_isText_L0_step N x.1 x.2.1 (fun j => k (.exit j)) I s.1) N (x.2.2.1, ())
theorem ref2_isText_lp0 (N : Nat) : ∀ st k, (∀ st, k .ret st = (resD (ref2_isText_E N) Tryz.f46 (ref2_isText_sg fun x _ => ref2_isText N x.1) ref2_isText_pk) st) → ref2_isText_LP N 0 (cAt (bodyOf Tryz.f46) [true, false, true, false, false]) st k = iter (Env.hint (ref2_isText_E N) 0) (exec (ref2_isText_E N) N (cAt (bodyOf Tryz.f46) [true, false, true, false, false]) 0) N st k := fun st k hk => LPc_eq 26 ref2_isText_L0_fs ref2_isText_L0_bs _ _ (resD (ref2_isText_E N) Tryz.f46 (ref2_isText_sg fun x _ => ref2_isText N x.1) ref2_isText_pk) (ref2_isText_L0_ok N) _ st k hk (rfl)
theorem ref2_isText_core (N : Nat) (x : SV [.v .str]) (y : BV []) : runL (ref2_isText_E N) Tryz.f46 (ref2_isText_sg fun x _ => ref2_isText N x.1) ref2_isText_pk (ref2_isText_LP N) x y = ref2_isText N x.1 := by kernel_rfl
theorem ref2_isText_sound (N : Nat) : Sound Tryz.prog GW B0G 46 (ref2_isText_sg fun x _ => ref2_isText N x.1) :=
  runD_sound (mkE_ok ref2_isText_h (ref2_isText_fn N) _ _ (ref2_isText_fn_ok N)) Tryz.func46 rfl Tryz.call46 (ref2_isText_sg fun x _ => ref2_isText N x.1) ref2_isText_pk (fun _ _ => rfl) N (fun x y _ h => ((runL_eq (ref2_isText_E N) N Tryz.f46 (ref2_isText_sg fun x _ => ref2_isText N x.1) ref2_isText_pk (ref2_isText_LP N) (show LoopsOk (ref2_isText_LP N) (ref2_isText_E N) N (resD (ref2_isText_E N) Tryz.f46 (ref2_isText_sg fun x _ => ref2_isText N x.1) ref2_isText_pk) [(0, (cAt (bodyOf Tryz.f46) [true, false, true, false, false]))] from ⟨ref2_isText_lp0 N, trivial⟩) x y).trans (ref2_isText_core N x y)).trans h)
def ref2_checkText (N : Nat) (x0 : Str) : Option Int :=
  br (decide ((x0.length : Int) > (1000 : Int)))
    (some (2 : Int))
    (bnd (ref2_isText N x0) fun t7 =>
    br (!t7)
      (some (3 : Int))
      (some (0 : Int)))
abbrev ref2_checkText_sg (f : SV [.v .str] → BV [] → Option (Int)) : AF := { ps := [.v .str], bs := [], rs := [.v (.int .i64)], cs := [], R := Int, out := fun z => ((z, ()), ()), f := f }
abbrev ref2_checkText_pk : SV [.v (.int .i64)] → BV [] → Int := fun x _ => x.1
def ref2_checkText_fn (N : Nat) : FuncId → Option Tmp → Option AF := fun f _ =>
  match f with
    | 46 => some (ref2_isText_sg fun x _ => ref2_isText N x.1)
    | _ => none
theorem ref2_checkText_fn_ok (N : Nat) : ∀ f q F, ref2_checkText_fn N f q = some F → Sound Tryz.prog GW B0G f F := by
  intro f q F h
  unfold ref2_checkText_fn at h
  split at h
  · cases h; exact ref2_isText_sound N
  · cases h
def ref2_checkText_h : Nat → Hint := fun i =>
  match i with
  | _ => ⟨[], [], [], [], [], []⟩
abbrev ref2_checkText_E (N : Nat) : Env := mkE ref2_checkText_h (ref2_checkText_fn N) (fun _ => false) (fun _ => false)
noncomputable def ref2_checkText_LP (N : Nat) : Nat → Code → St → (Ex → St → Option Int) → Option Int := fun i c =>
  match i with
  | i => fun st k => iter (ref2_checkText_h i) (exec (ref2_checkText_E N) N c i) N st k
theorem ref2_checkText_core (N : Nat) (x : SV [.v .str]) (y : BV []) : runL (ref2_checkText_E N) Tryz.f91 (ref2_checkText_sg fun x _ => ref2_checkText N x.1) ref2_checkText_pk (ref2_checkText_LP N) x y = ref2_checkText N x.1 := by kernel_rfl
theorem ref2_checkText_sound (N : Nat) : Sound Tryz.prog GW B0G 91 (ref2_checkText_sg fun x _ => ref2_checkText N x.1) :=
  runD_sound (mkE_ok ref2_checkText_h (ref2_checkText_fn N) _ _ (ref2_checkText_fn_ok N)) Tryz.func91 rfl Tryz.call91 (ref2_checkText_sg fun x _ => ref2_checkText N x.1) ref2_checkText_pk (fun _ _ => rfl) N (fun x y _ h => ((runL_eq (ref2_checkText_E N) N Tryz.f91 (ref2_checkText_sg fun x _ => ref2_checkText N x.1) ref2_checkText_pk (ref2_checkText_LP N) (show LoopsOk (ref2_checkText_LP N) (ref2_checkText_E N) N (resD (ref2_checkText_E N) Tryz.f91 (ref2_checkText_sg fun x _ => ref2_checkText N x.1) ref2_checkText_pk) [] from trivial) x y).trans (ref2_checkText_core N x y)).trans h)
abbrev ref2_checkCases_sg (f : SV [.v (.sl (.pr .str (.rc .value)))] → BV [] → Option (Int)) : AF := { ps := [.v (.sl (.pr .str (.rc .value)))], bs := [], rs := [.v (.int .i64)], cs := [], R := Int, out := fun z => ((z, ()), ()), f := f }
def ref2_CheckValue_L0T (_N : Nat) (r_ref2_checkCases : (List (Str × GValue)) → Option (Int)) (c35 : List Str) (c36 : Int) (k0 : Option Int) (self : Int → Option Int) (s37 : Int) : Option Int :=
  br (decide (s37 < c36))
    (bnd (geti c35 s37) fun t39 =>
    br (decide ((t39.length : Int) > (1000 : Int)))
      (some (2 : Int))
      (self (IntKind.i64.wrap (s37 + (1 : Int)))))
    (k0)
def ref2_CheckValue_L0 (N : Nat) (r_ref2_checkCases : (List (Str × GValue)) → Option (Int)) (c35 : List Str) (c36 : Int) (k0 : Option Int) : Nat → Int → Option Int
  | 0, _ => none
  | n + 1, s37 => ref2_CheckValue_L0T N r_ref2_checkCases c35 c36 k0 (ref2_CheckValue_L0 N r_ref2_checkCases c35 c36 k0 n) s37
def ref2_CheckValue_L1T (N : Nat) (r_ref2_checkCases : (List (Str × GValue)) → Option (Int)) (c50 : List Str) (c51 : Int) (k2 : Option Int) (self : Int → Option Int) (s52 : Int) : Option Int :=
  br (decide (s52 < c51))
    (bnd (geti c50 s52) fun t54 =>
    bnd (ref2_isText N t54) fun t57 =>
    br (!t57)
      (some (3 : Int))
      (self (IntKind.i64.wrap (s52 + (1 : Int)))))
    (k2)
def ref2_CheckValue_L1 (N : Nat) (r_ref2_checkCases : (List (Str × GValue)) → Option (Int)) (c50 : List Str) (c51 : Int) (k2 : Option Int) : Nat → Int → Option Int
  | 0, _ => none
  | n + 1, s52 => ref2_CheckValue_L1T N r_ref2_checkCases c50 c51 k2 (ref2_CheckValue_L1 N r_ref2_checkCases c50 c51 k2 n) s52
def ref2_CheckValue (N : Nat) (r_ref2_checkCases : (List (Str × GValue)) → Option (Int)) (x0 : GValue) : Option Int :=
  br (decide (x0.kind < (1 : Int)))
    (some (4 : Int))
    (br (decide (x0.kind > (4 : Int)))
      (some (4 : Int))
      (bnd (ref2_isPlain N (GValue.mk x0.kind x0.text x0.number x0.list x0.cases)) fun t16 =>
      br (!t16)
        (some (3 : Int))
        (br (decide ((x0.text.length : Int) > (1000 : Int)))
          (some (2 : Int))
          (br (decide ((x0.list.length : Int) > (1000 : Int)))
            (some (2 : Int))
            (br (decide ((x0.cases.length : Int) > (50 : Int)))
              (some (2 : Int))
              (ref2_CheckValue_L0 N r_ref2_checkCases x0.list (x0.list.length : Int) (bnd (ref2_isText N x0.text) fun t47 =>
                  br (!t47)
                    (some (3 : Int))
                    (ref2_CheckValue_L1 N r_ref2_checkCases x0.list (x0.list.length : Int) (bnd (ref2_within N x0.number (0 : Int) (999999999 : Int)) fun t62 =>
                        br (!t62)
                          (some (1 : Int))
                          (br (x0.kind == (4 : Int))
                            (bnd (r_ref2_checkCases x0.cases) fun t69 =>
                            some t69)
                            (some (0 : Int)))) N (0 : Int))) N (0 : Int)))))))
abbrev ref2_CheckValue_sg (f : SV [.v (.rc .value)] → BV [] → Option (Int)) : AF := { ps := [.v (.rc .value)], bs := [], rs := [.v (.int .i64)], cs := [], R := Int, out := fun z => ((z, ()), ()), f := f }
abbrev ref2_CheckValue_pk : SV [.v (.int .i64)] → BV [] → Int := fun x _ => x.1
def ref2_CheckValue_fn (N : Nat) (r_ref2_checkCases : (List (Str × GValue)) → Option (Int)) : FuncId → Option Tmp → Option AF := fun f _ =>
  match f with
    | 45 => some (ref2_isPlain_sg fun x _ => ref2_isPlain N x.1)
    | 46 => some (ref2_isText_sg fun x _ => ref2_isText N x.1)
    | 47 => some (ref2_within_sg fun x _ => ref2_within N x.1 x.2.1 x.2.2.1)
    | 48 => some (ref2_checkCases_sg fun x _ => r_ref2_checkCases x.1)
    | _ => none
theorem ref2_CheckValue_fn_ok (N : Nat) (r_ref2_checkCases : (List (Str × GValue)) → Option (Int)) (h_ref2_checkCases : Sound Tryz.prog GW B0G 48 (ref2_checkCases_sg fun x y => r_ref2_checkCases x.1)) : ∀ f q F, ref2_CheckValue_fn N r_ref2_checkCases f q = some F → Sound Tryz.prog GW B0G f F := by
  intro f q F h
  unfold ref2_CheckValue_fn at h
  split at h
  · cases h; exact ref2_isPlain_sound N
  · cases h; exact ref2_isText_sound N
  · cases h; exact ref2_within_sound N
  · cases h; exact h_ref2_checkCases
  · cases h
def ref2_CheckValue_h : Nat → Hint := fun i =>
  match i with
  | 0 => ⟨[], [1, 35, 36, 37], [1001], [1], [1001], []⟩
  | 2 => ⟨[], [1, 50, 51, 52], [1001], [1], [1001], []⟩
  | _ => ⟨[], [], [], [], [], []⟩
abbrev ref2_CheckValue_E (N : Nat) (r_ref2_checkCases : (List (Str × GValue)) → Option (Int)) : Env := mkE ref2_CheckValue_h (ref2_CheckValue_fn N r_ref2_checkCases) (fun _ => false) (fun _ => false)
abbrev ref2_CheckValue_L0_fs : List (Nat × Sl) := [(1, .box 1001 0), (35, .v (.sl .str)), (36, .v (.int .i64)), (37, .v (.int .i64))]
abbrev ref2_CheckValue_L0_bs : List (Nat × Sb) := [(1001, .cells [.v (.int .i64), .v .str, .v (.int .i64), .v (.sl .str), .v (.sl (.pr .str (.rc .value)))])]
def ref2_CheckValue_L0_hd (c35 : List Str) (c36 : Int) (c1001_0 : Int) (c1001_1 : Str) (c1001_2 : Int) (c1001_3 : List Str) (c1001_4 : List (Str × GValue)) (s37 : Int) : St := ⟨70, [(1, .box 1001 0), (35, .v (.sl .str) c35), (36, .v (.int .i64) c36), (37, .v (.int .i64) s37)], [(1001, .cells [.v (.int .i64) c1001_0, .v .str c1001_1, .v (.int .i64) c1001_2, .v (.sl .str) c1001_3, .v (.sl (.pr .str (.rc .value))) c1001_4])]⟩
def ref2_CheckValue_L0_tl0 (_c35 : List Str) (_c36 : Int) (c1001_0 : Int) (c1001_1 : Str) (c1001_2 : Int) (c1001_3 : List Str) (c1001_4 : List (Str × GValue)) : St := ⟨70, [(1, .box 1001 0)], [(1001, .cells [.v (.int .i64) c1001_0, .v .str c1001_1, .v (.int .i64) c1001_2, .v (.sl .str) c1001_3, .v (.sl (.pr .str (.rc .value))) c1001_4])]⟩
def ref2_CheckValue_L0_G (N : Nat) (r_ref2_checkCases : (List (Str × GValue)) → Option (Int)) (c35 : List Str) (c36 : Int) (c1001_0 : Int) (c1001_1 : Str) (c1001_2 : Int) (c1001_3 : List Str) (c1001_4 : List (Str × GValue)) (s37 : Int) (k : Ex → St → Option Int) : Option Int :=
  ref2_CheckValue_L0 N r_ref2_checkCases c35 c36 (k (.exit 0) (ref2_CheckValue_L0_tl0 c35 c36 c1001_0 c1001_1 c1001_2 c1001_3 c1001_4)) N s37
abbrev ref2_CheckValue_L0_F (N : Nat) (r_ref2_checkCases : (List (Str × GValue)) → Option (Int)) : FV ref2_CheckValue_L0_fs → HV ref2_CheckValue_L0_bs → (Ex → St → Option Int) → Option Int := fun x y k => ref2_CheckValue_L0_G N r_ref2_checkCases x.2.1 x.2.2.1 y.1.1 y.1.2.1 y.1.2.2.1 y.1.2.2.2.1 y.1.2.2.2.2.1 x.2.2.2.1 k
abbrev ref2_CheckValue_L1_fs : List (Nat × Sl) := [(1, .box 1001 0), (50, .v (.sl .str)), (51, .v (.int .i64)), (52, .v (.int .i64))]
abbrev ref2_CheckValue_L1_bs : List (Nat × Sb) := [(1001, .cells [.v (.int .i64), .v .str, .v (.int .i64), .v (.sl .str), .v (.sl (.pr .str (.rc .value)))])]
def ref2_CheckValue_L1_hd (c50 : List Str) (c51 : Int) (c1001_0_1 : Int) (c1001_1_2 : Str) (c1001_2_3 : Int) (c1001_3_4 : List Str) (c1001_4_5 : List (Str × GValue)) (s52 : Int) : St := ⟨70, [(1, .box 1001 0), (50, .v (.sl .str) c50), (51, .v (.int .i64) c51), (52, .v (.int .i64) s52)], [(1001, .cells [.v (.int .i64) c1001_0_1, .v .str c1001_1_2, .v (.int .i64) c1001_2_3, .v (.sl .str) c1001_3_4, .v (.sl (.pr .str (.rc .value))) c1001_4_5])]⟩
def ref2_CheckValue_L1_tl2 (_c50 : List Str) (_c51 : Int) (c1001_0_1 : Int) (c1001_1_2 : Str) (c1001_2_3 : Int) (c1001_3_4 : List Str) (c1001_4_5 : List (Str × GValue)) : St := ⟨70, [(1, .box 1001 0)], [(1001, .cells [.v (.int .i64) c1001_0_1, .v .str c1001_1_2, .v (.int .i64) c1001_2_3, .v (.sl .str) c1001_3_4, .v (.sl (.pr .str (.rc .value))) c1001_4_5])]⟩
def ref2_CheckValue_L1_G (N : Nat) (r_ref2_checkCases : (List (Str × GValue)) → Option (Int)) (c50 : List Str) (c51 : Int) (c1001_0_1 : Int) (c1001_1_2 : Str) (c1001_2_3 : Int) (c1001_3_4 : List Str) (c1001_4_5 : List (Str × GValue)) (s52 : Int) (k : Ex → St → Option Int) : Option Int :=
  ref2_CheckValue_L1 N r_ref2_checkCases c50 c51 (k (.exit 2) (ref2_CheckValue_L1_tl2 c50 c51 c1001_0_1 c1001_1_2 c1001_2_3 c1001_3_4 c1001_4_5)) N s52
abbrev ref2_CheckValue_L1_F (N : Nat) (r_ref2_checkCases : (List (Str × GValue)) → Option (Int)) : FV ref2_CheckValue_L1_fs → HV ref2_CheckValue_L1_bs → (Ex → St → Option Int) → Option Int := fun x y k => ref2_CheckValue_L1_G N r_ref2_checkCases x.2.1 x.2.2.1 y.1.1 y.1.2.1 y.1.2.2.1 y.1.2.2.2.1 y.1.2.2.2.2.1 x.2.2.2.1 k
noncomputable def ref2_CheckValue_LP (N : Nat) (r_ref2_checkCases : (List (Str × GValue)) → Option (Int)) : Nat → Code → St → (Ex → St → Option Int) → Option Int := fun i c =>
  match i with
  | 0 => (LPc 70 ref2_CheckValue_L0_fs ref2_CheckValue_L0_bs (ref2_CheckValue_L0_F N r_ref2_checkCases) (fun st k => iter (ref2_CheckValue_h 0) (exec (ref2_CheckValue_E N r_ref2_checkCases) N c 0) N st k))
  | 2 => (LPc 70 ref2_CheckValue_L1_fs ref2_CheckValue_L1_bs (ref2_CheckValue_L1_F N r_ref2_checkCases) (fun st k => iter (ref2_CheckValue_h 2) (exec (ref2_CheckValue_E N r_ref2_checkCases) N c 2) N st k))
  | i => fun st k => iter (ref2_CheckValue_h i) (exec (ref2_CheckValue_E N r_ref2_checkCases) N c i) N st k
theorem ref2_CheckValue_L1_step (N : Nat) (r_ref2_checkCases : (List (Str × GValue)) → Option (Int)) (c50 : List Str) (c51 : Int) (c1001_0_1 : Int) (c1001_1_2 : Str) (c1001_2_3 : Int) (c1001_3_4 : List Str) (c1001_4_5 : List (Str × GValue)) (KX : Nat → St → Option Int) (I : St → Option Int) (s52 : Int) :
    execL (ref2_CheckValue_LP N r_ref2_checkCases) (ref2_CheckValue_E N r_ref2_checkCases) (cAt (bodyOf Tryz.f15) [true, true, true, true, true, true, false, true, false, false]) 2 (ref2_CheckValue_L1_hd c50 c51 c1001_0_1 c1001_1_2 c1001_2_3 c1001_3_4 c1001_4_5 s52) (roundK (ref2_CheckValue_h 2) I KX (resD (ref2_CheckValue_E N r_ref2_checkCases) Tryz.f15 (ref2_CheckValue_sg fun x _ => ref2_CheckValue N r_ref2_checkCases x.1) ref2_CheckValue_pk)) = ref2_CheckValue_L1T N r_ref2_checkCases c50 c51 (KX 2 (ref2_CheckValue_L1_tl2 c50 c51 c1001_0_1 c1001_1_2 c1001_2_3 c1001_3_4 c1001_4_5)) (fun s52 => I (ref2_CheckValue_L1_hd c50 c51 c1001_0_1 c1001_1_2 c1001_2_3 c1001_3_4 c1001_4_5 s52)) s52 := by kernel_rfl
theorem ref2_CheckValue_L1_ok (N : Nat) (r_ref2_checkCases : (List (Str × GValue)) → Option (Int)) : ∀ x y k, (∀ st, k .ret st = (resD (ref2_CheckValue_E N r_ref2_checkCases) Tryz.f15 (ref2_CheckValue_sg fun x _ => ref2_CheckValue N r_ref2_checkCases x.1) ref2_CheckValue_pk) st) → iter (ref2_CheckValue_h 2) (exec (ref2_CheckValue_E N r_ref2_checkCases) N (cAt (bodyOf Tryz.f15) [true, true, true, true, true, true, false, true, false, false]) 2) N ⟨70, unF ref2_CheckValue_L1_fs x, unH ref2_CheckValue_L1_bs y⟩ k = ref2_CheckValue_L1_F N r_ref2_checkCases x y k := fun x y k hk =>
  iter_link (S := (Int) × Unit) (ref2_CheckValue_h 2) _ (execL (ref2_CheckValue_LP N r_ref2_checkCases) (ref2_CheckValue_E N r_ref2_checkCases) (cAt (bodyOf Tryz.f15) [true, true, true, true, true, true, false, true, false, false]) 2) (resD (ref2_CheckValue_E N r_ref2_checkCases) Tryz.f15 (ref2_CheckValue_sg fun x _ => ref2_CheckValue N r_ref2_checkCases x.1) ref2_CheckValue_pk) (fun st k hk => execL_eq _ _ N _ (cAt (bodyOf Tryz.f15) [true, true, true, true, true, true, false, true, false, false]) 2 (show LoopsOk (ref2_CheckValue_LP N r_ref2_checkCases) (ref2_CheckValue_E N r_ref2_checkCases) N (resD (ref2_CheckValue_E N r_ref2_checkCases) Tryz.f15 (ref2_CheckValue_sg fun x _ => ref2_CheckValue N r_ref2_checkCases x.1) ref2_CheckValue_pk) [] from trivial) st k hk) (fun s => ref2_CheckValue_L1_hd x.2.1 x.2.2.1 y.1.1 y.1.2.1 y.1.2.2.1 y.1.2.2.2.1 y.1.2.2.2.2.1 s.1) k hk
    (fun self s => ref2_CheckValue_L1T N r_ref2_checkCases x.2.1 x.2.2.1 (k (.exit 2) (ref2_CheckValue_L1_tl2 x.2.1 x.2.2.1 y.1.1 y.1.2.1 y.1.2.2.1 y.1.2.2.2.1 y.1.2.2.2.2.1)) (fun s52 => self (s52, ())) s.1) (fun n s => ref2_CheckValue_L1 N r_ref2_checkCases x.2.1 x.2.2.1 (k (.exit 2) (ref2_CheckValue_L1_tl2 x.2.1 x.2.2.1 y.1.1 y.1.2.1 y.1.2.2.1 y.1.2.2.2.1 y.1.2.2.2.2.1)) n s.1) (fun _ => rfl) (fun _ _ => rfl)
    (fun I s => ref2_CheckValue_L1_step N r_ref2_checkCases x.2.1 x.2.2.1 y.1.1 y.1.2.1 y.1.2.2.1 y.1.2.2.2.1 y.1.2.2.2.2.1 (fun j => k (.exit j)) I s.1) N (x.2.2.2.1, ())
theorem ref2_CheckValue_lp2 (N : Nat) (r_ref2_checkCases : (List (Str × GValue)) → Option (Int)) : ∀ st k, (∀ st, k .ret st = (resD (ref2_CheckValue_E N r_ref2_checkCases) Tryz.f15 (ref2_CheckValue_sg fun x _ => ref2_CheckValue N r_ref2_checkCases x.1) ref2_CheckValue_pk) st) → ref2_CheckValue_LP N r_ref2_checkCases 2 (cAt (bodyOf Tryz.f15) [true, true, true, true, true, true, false, true, false, false]) st k = iter (Env.hint (ref2_CheckValue_E N r_ref2_checkCases) 2) (exec (ref2_CheckValue_E N r_ref2_checkCases) N (cAt (bodyOf Tryz.f15) [true, true, true, true, true, true, false, true, false, false]) 2) N st k := fun st k hk => LPc_eq 70 ref2_CheckValue_L1_fs ref2_CheckValue_L1_bs _ _ (resD (ref2_CheckValue_E N r_ref2_checkCases) Tryz.f15 (ref2_CheckValue_sg fun x _ => ref2_CheckValue N r_ref2_checkCases x.1) ref2_CheckValue_pk) (ref2_CheckValue_L1_ok N r_ref2_checkCases) _ st k hk (rfl)
theorem ref2_CheckValue_L0_step (N : Nat) (r_ref2_checkCases : (List (Str × GValue)) → Option (Int)) (c35 : List Str) (c36 : Int) (c1001_0 : Int) (c1001_1 : Str) (c1001_2 : Int) (c1001_3 : List Str) (c1001_4 : List (Str × GValue)) (KX : Nat → St → Option Int) (I : St → Option Int) (s37 : Int) :
    execL (ref2_CheckValue_LP N r_ref2_checkCases) (ref2_CheckValue_E N r_ref2_checkCases) (cAt (bodyOf Tryz.f15) [true, true, true, true, false, true, false, false]) 0 (ref2_CheckValue_L0_hd c35 c36 c1001_0 c1001_1 c1001_2 c1001_3 c1001_4 s37) (roundK (ref2_CheckValue_h 0) I KX (resD (ref2_CheckValue_E N r_ref2_checkCases) Tryz.f15 (ref2_CheckValue_sg fun x _ => ref2_CheckValue N r_ref2_checkCases x.1) ref2_CheckValue_pk)) = ref2_CheckValue_L0T N r_ref2_checkCases c35 c36 (KX 0 (ref2_CheckValue_L0_tl0 c35 c36 c1001_0 c1001_1 c1001_2 c1001_3 c1001_4)) (fun s37 => I (ref2_CheckValue_L0_hd c35 c36 c1001_0 c1001_1 c1001_2 c1001_3 c1001_4 s37)) s37 := by kernel_rfl
theorem ref2_CheckValue_L0_ok (N : Nat) (r_ref2_checkCases : (List (Str × GValue)) → Option (Int)) : ∀ x y k, (∀ st, k .ret st = (resD (ref2_CheckValue_E N r_ref2_checkCases) Tryz.f15 (ref2_CheckValue_sg fun x _ => ref2_CheckValue N r_ref2_checkCases x.1) ref2_CheckValue_pk) st) → iter (ref2_CheckValue_h 0) (exec (ref2_CheckValue_E N r_ref2_checkCases) N (cAt (bodyOf Tryz.f15) [true, true, true, true, false, true, false, false]) 0) N ⟨70, unF ref2_CheckValue_L0_fs x, unH ref2_CheckValue_L0_bs y⟩ k = ref2_CheckValue_L0_F N r_ref2_checkCases x y k := fun x y k hk =>
  iter_link (S := (Int) × Unit) (ref2_CheckValue_h 0) _ (execL (ref2_CheckValue_LP N r_ref2_checkCases) (ref2_CheckValue_E N r_ref2_checkCases) (cAt (bodyOf Tryz.f15) [true, true, true, true, false, true, false, false]) 0) (resD (ref2_CheckValue_E N r_ref2_checkCases) Tryz.f15 (ref2_CheckValue_sg fun x _ => ref2_CheckValue N r_ref2_checkCases x.1) ref2_CheckValue_pk) (fun st k hk => execL_eq _ _ N _ (cAt (bodyOf Tryz.f15) [true, true, true, true, false, true, false, false]) 0 (show LoopsOk (ref2_CheckValue_LP N r_ref2_checkCases) (ref2_CheckValue_E N r_ref2_checkCases) N (resD (ref2_CheckValue_E N r_ref2_checkCases) Tryz.f15 (ref2_CheckValue_sg fun x _ => ref2_CheckValue N r_ref2_checkCases x.1) ref2_CheckValue_pk) [] from trivial) st k hk) (fun s => ref2_CheckValue_L0_hd x.2.1 x.2.2.1 y.1.1 y.1.2.1 y.1.2.2.1 y.1.2.2.2.1 y.1.2.2.2.2.1 s.1) k hk
    (fun self s => ref2_CheckValue_L0T N r_ref2_checkCases x.2.1 x.2.2.1 (k (.exit 0) (ref2_CheckValue_L0_tl0 x.2.1 x.2.2.1 y.1.1 y.1.2.1 y.1.2.2.1 y.1.2.2.2.1 y.1.2.2.2.2.1)) (fun s37 => self (s37, ())) s.1) (fun n s => ref2_CheckValue_L0 N r_ref2_checkCases x.2.1 x.2.2.1 (k (.exit 0) (ref2_CheckValue_L0_tl0 x.2.1 x.2.2.1 y.1.1 y.1.2.1 y.1.2.2.1 y.1.2.2.2.1 y.1.2.2.2.2.1)) n s.1) (fun _ => rfl) (fun _ _ => rfl)
    (fun I s => ref2_CheckValue_L0_step N r_ref2_checkCases x.2.1 x.2.2.1 y.1.1 y.1.2.1 y.1.2.2.1 y.1.2.2.2.1 y.1.2.2.2.2.1 (fun j => k (.exit j)) I s.1) N (x.2.2.2.1, ())
theorem ref2_CheckValue_lp0 (N : Nat) (r_ref2_checkCases : (List (Str × GValue)) → Option (Int)) : ∀ st k, (∀ st, k .ret st = (resD (ref2_CheckValue_E N r_ref2_checkCases) Tryz.f15 (ref2_CheckValue_sg fun x _ => ref2_CheckValue N r_ref2_checkCases x.1) ref2_CheckValue_pk) st) → ref2_CheckValue_LP N r_ref2_checkCases 0 (cAt (bodyOf Tryz.f15) [true, true, true, true, false, true, false, false]) st k = iter (Env.hint (ref2_CheckValue_E N r_ref2_checkCases) 0) (exec (ref2_CheckValue_E N r_ref2_checkCases) N (cAt (bodyOf Tryz.f15) [true, true, true, true, false, true, false, false]) 0) N st k := fun st k hk => LPc_eq 70 ref2_CheckValue_L0_fs ref2_CheckValue_L0_bs _ _ (resD (ref2_CheckValue_E N r_ref2_checkCases) Tryz.f15 (ref2_CheckValue_sg fun x _ => ref2_CheckValue N r_ref2_checkCases x.1) ref2_CheckValue_pk) (ref2_CheckValue_L0_ok N r_ref2_checkCases) _ st k hk (rfl)
theorem ref2_CheckValue_core (N : Nat) (r_ref2_checkCases : (List (Str × GValue)) → Option (Int)) (x : SV [.v (.rc .value)]) (y : BV []) : runL (ref2_CheckValue_E N r_ref2_checkCases) Tryz.f15 (ref2_CheckValue_sg fun x _ => ref2_CheckValue N r_ref2_checkCases x.1) ref2_CheckValue_pk (ref2_CheckValue_LP N r_ref2_checkCases) x y = ref2_CheckValue N r_ref2_checkCases x.1 := by kernel_rfl
theorem ref2_CheckValue_sound (N : Nat) (r_ref2_checkCases : (List (Str × GValue)) → Option (Int)) (h_ref2_checkCases : Sound Tryz.prog GW B0G 48 (ref2_checkCases_sg fun x y => r_ref2_checkCases x.1)) : Sound Tryz.prog GW B0G 15 (ref2_CheckValue_sg fun x _ => ref2_CheckValue N r_ref2_checkCases x.1) :=
  runD_sound (mkE_ok ref2_CheckValue_h (ref2_CheckValue_fn N r_ref2_checkCases) _ _ (ref2_CheckValue_fn_ok N r_ref2_checkCases h_ref2_checkCases)) Tryz.func15 rfl Tryz.call15 (ref2_CheckValue_sg fun x _ => ref2_CheckValue N r_ref2_checkCases x.1) ref2_CheckValue_pk (fun _ _ => rfl) N (fun x y _ h => ((runL_eq (ref2_CheckValue_E N r_ref2_checkCases) N Tryz.f15 (ref2_CheckValue_sg fun x _ => ref2_CheckValue N r_ref2_checkCases x.1) ref2_CheckValue_pk (ref2_CheckValue_LP N r_ref2_checkCases) (show LoopsOk (ref2_CheckValue_LP N r_ref2_checkCases) (ref2_CheckValue_E N r_ref2_checkCases) N (resD (ref2_CheckValue_E N r_ref2_checkCases) Tryz.f15 (ref2_CheckValue_sg fun x _ => ref2_CheckValue N r_ref2_checkCases x.1) ref2_CheckValue_pk) [(0, (cAt (bodyOf Tryz.f15) [true, true, true, true, false, true, false, false])), (2, (cAt (bodyOf Tryz.f15) [true, true, true, true, true, true, false, true, false, false]))] from ⟨ref2_CheckValue_lp0 N r_ref2_checkCases, ref2_CheckValue_lp2 N r_ref2_checkCases, trivial⟩) x y).trans (ref2_CheckValue_core N r_ref2_checkCases x y)).trans h)
end
end Go.Proofs.YtahjncefiegflaaGreatDoor


/- What functions of the program compute, as plain functions (printed). -/
namespace Go.Proofs.YtahjncefiegflaaGreatDoor
open Go Go.RowKit
set_option maxRecDepth 100000
set_option linter.unusedVariables false
noncomputable section
def ref2_checkCases_b_L1T (_N : Nat) (r_ref2_checkCases : (List (Str × GValue)) → Option (Int)) (t27 : List (Str × GValue)) (c28 : Int) (c1004_0 : Str) (k2 : Option Int) (self : Int → Option Int) (s29 : Int) : Option Int :=
  br (decide (s29 < c28))
    (bnd (geti t27 s29) fun t31 =>
    br (t31.1 == c1004_0)
      (some (7 : Int))
      (self (IntKind.i64.wrap (s29 + (1 : Int)))))
    (k2)
def ref2_checkCases_b_L1 (N : Nat) (r_ref2_checkCases : (List (Str × GValue)) → Option (Int)) (t27 : List (Str × GValue)) (c28 : Int) (c1004_0 : Str) (k2 : Option Int) : Nat → Int → Option Int
  | 0, _ => none
  | n + 1, s29 => ref2_checkCases_b_L1T N r_ref2_checkCases t27 c28 c1004_0 k2 (ref2_checkCases_b_L1 N r_ref2_checkCases t27 c28 c1004_0 k2 n) s29
def ref2_checkCases_b_L0T (N : Nat) (r_ref2_checkCases : (List (Str × GValue)) → Option (Int)) (x0 : List (Str × GValue)) (c12 : List (Str × GValue)) (c13 : Int) (k0 : Option Int) (self : Int → Option Int) (s14 : Int) : Option Int :=
  br (decide (s14 < c13))
    (bnd (geti c12 s14) fun t17 =>
    bnd (ref2_checkText N t17.1) fun t21 =>
    br (t21 != (0 : Int))
      (some t21)
      (bnd (slc x0 (0 : Int) s14) fun t27 =>
      ref2_checkCases_b_L1 N r_ref2_checkCases t27 (t27.length : Int) t17.1 (br (t17.2.kind == (4 : Int))
            (some (4 : Int))
            (bnd (ref2_CheckValue N r_ref2_checkCases (GValue.mk t17.2.kind t17.2.text t17.2.number t17.2.list t17.2.cases)) fun t45 =>
            br (t45 != (0 : Int))
              (some t45)
              (bnd (geti x0 (0 : Int)) fun t53 =>
              br (t17.2.kind != t53.2.kind)
                (some (6 : Int))
                (self (IntKind.i64.wrap (s14 + (1 : Int))))))) N (0 : Int)))
    (k0)
def ref2_checkCases_b_L0 (N : Nat) (r_ref2_checkCases : (List (Str × GValue)) → Option (Int)) (x0 : List (Str × GValue)) (c12 : List (Str × GValue)) (c13 : Int) (k0 : Option Int) : Nat → Int → Option Int
  | 0, _ => none
  | n + 1, s14 => ref2_checkCases_b_L0T N r_ref2_checkCases x0 c12 c13 k0 (ref2_checkCases_b_L0 N r_ref2_checkCases x0 c12 c13 k0 n) s14
def ref2_checkCases_b (N : Nat) (r_ref2_checkCases : (List (Str × GValue)) → Option (Int)) (x0 : List (Str × GValue)) : Option Int :=
  br ((x0.length : Int) == (0 : Int))
    (some (9 : Int))
    (ref2_checkCases_b_L0 N r_ref2_checkCases x0 x0 (x0.length : Int) (some (0 : Int)) N (0 : Int))
abbrev ref2_checkCases_b_sg (f : SV [.v (.sl (.pr .str (.rc .value)))] → BV [] → Option (Int)) : AF := { ps := [.v (.sl (.pr .str (.rc .value)))], bs := [], rs := [.v (.int .i64)], cs := [], R := Int, out := fun z => ((z, ()), ()), f := f }
abbrev ref2_checkCases_b_pk : SV [.v (.int .i64)] → BV [] → Int := fun x _ => x.1
def ref2_checkCases_b_fn (N : Nat) (r_ref2_checkCases : (List (Str × GValue)) → Option (Int)) : FuncId → Option Tmp → Option AF := fun f _ =>
  match f with
    | 15 => some (ref2_CheckValue_sg fun x _ => ref2_CheckValue N r_ref2_checkCases x.1)
    | 91 => some (ref2_checkText_sg fun x _ => ref2_checkText N x.1)
    | _ => none
theorem ref2_checkCases_b_fn_ok (N : Nat) (r_ref2_checkCases : (List (Str × GValue)) → Option (Int)) (h_ref2_checkCases : Sound Tryz.prog GW B0G 48 (ref2_checkCases_sg fun x y => r_ref2_checkCases x.1)) : ∀ f q F, ref2_checkCases_b_fn N r_ref2_checkCases f q = some F → Sound Tryz.prog GW B0G f F := by
  intro f q F h
  unfold ref2_checkCases_b_fn at h
  split at h
  · cases h; exact ref2_CheckValue_sound N r_ref2_checkCases h_ref2_checkCases
  · cases h; exact ref2_checkText_sound N
  · cases h
def ref2_checkCases_b_h : Nat → Hint := fun i =>
  match i with
  | 0 => ⟨[], [0, 12, 13, 14], [], [], [], []⟩
  | 2 => ⟨[], [0, 4, 12, 13, 14, 27, 28, 29], [1004], [0, 4, 12, 13, 14], [1004], []⟩
  | _ => ⟨[], [], [], [], [], []⟩
abbrev ref2_checkCases_b_E (N : Nat) (r_ref2_checkCases : (List (Str × GValue)) → Option (Int)) : Env := mkE ref2_checkCases_b_h (ref2_checkCases_b_fn N r_ref2_checkCases) (fun _ => false) (fun _ => false)
abbrev ref2_checkCases_b_L1_fs : List (Nat × Sl) := [(0, .v (.sl (.pr .str (.rc .value)))), (4, .box 1004 0), (12, .v (.sl (.pr .str (.rc .value)))), (13, .v (.int .i64)), (14, .v (.int .i64)), (27, .v (.sl (.pr .str (.rc .value)))), (28, .v (.int .i64)), (29, .v (.int .i64))]
abbrev ref2_checkCases_b_L1_bs : List (Nat × Sb) := [(1004, .cells [.v .str, .v (.int .i64), .v .str, .v (.int .i64), .v (.sl .str), .v (.sl (.pr .str (.rc .value)))])]
def ref2_checkCases_b_L1_hd (x0 : List (Str × GValue)) (c12 : List (Str × GValue)) (c13 : Int) (s14 : Int) (t27 : List (Str × GValue)) (c28 : Int) (c1004_0 : Str) (c1004_1 : Int) (c1004_2 : Str) (c1004_3 : Int) (c1004_4 : List Str) (c1004_5 : List (Str × GValue)) (s29 : Int) : St := ⟨59, [(0, .v (.sl (.pr .str (.rc .value))) x0), (4, .box 1004 0), (12, .v (.sl (.pr .str (.rc .value))) c12), (13, .v (.int .i64) c13), (14, .v (.int .i64) s14), (27, .v (.sl (.pr .str (.rc .value))) t27), (28, .v (.int .i64) c28), (29, .v (.int .i64) s29)], [(1004, .cells [.v .str c1004_0, .v (.int .i64) c1004_1, .v .str c1004_2, .v (.int .i64) c1004_3, .v (.sl .str) c1004_4, .v (.sl (.pr .str (.rc .value))) c1004_5])]⟩
def ref2_checkCases_b_L1_tl2 (x0 : List (Str × GValue)) (c12 : List (Str × GValue)) (c13 : Int) (s14 : Int) (_t27 : List (Str × GValue)) (_c28 : Int) (c1004_0 : Str) (c1004_1 : Int) (c1004_2 : Str) (c1004_3 : Int) (c1004_4 : List Str) (c1004_5 : List (Str × GValue)) : St := ⟨59, [(0, .v (.sl (.pr .str (.rc .value))) x0), (4, .box 1004 0), (12, .v (.sl (.pr .str (.rc .value))) c12), (13, .v (.int .i64) c13), (14, .v (.int .i64) s14)], [(1004, .cells [.v .str c1004_0, .v (.int .i64) c1004_1, .v .str c1004_2, .v (.int .i64) c1004_3, .v (.sl .str) c1004_4, .v (.sl (.pr .str (.rc .value))) c1004_5])]⟩
def ref2_checkCases_b_L1_G (N : Nat) (r_ref2_checkCases : (List (Str × GValue)) → Option (Int)) (x0 : List (Str × GValue)) (c12 : List (Str × GValue)) (c13 : Int) (s14 : Int) (t27 : List (Str × GValue)) (c28 : Int) (c1004_0 : Str) (c1004_1 : Int) (c1004_2 : Str) (c1004_3 : Int) (c1004_4 : List Str) (c1004_5 : List (Str × GValue)) (s29 : Int) (k : Ex → St → Option Int) : Option Int :=
  ref2_checkCases_b_L1 N r_ref2_checkCases t27 c28 c1004_0 (k (.exit 2) (ref2_checkCases_b_L1_tl2 x0 c12 c13 s14 t27 c28 c1004_0 c1004_1 c1004_2 c1004_3 c1004_4 c1004_5)) N s29
abbrev ref2_checkCases_b_L1_F (N : Nat) (r_ref2_checkCases : (List (Str × GValue)) → Option (Int)) : FV ref2_checkCases_b_L1_fs → HV ref2_checkCases_b_L1_bs → (Ex → St → Option Int) → Option Int := fun x y k => ref2_checkCases_b_L1_G N r_ref2_checkCases x.1 x.2.2.1 x.2.2.2.1 x.2.2.2.2.1 x.2.2.2.2.2.1 x.2.2.2.2.2.2.1 y.1.1 y.1.2.1 y.1.2.2.1 y.1.2.2.2.1 y.1.2.2.2.2.1 y.1.2.2.2.2.2.1 x.2.2.2.2.2.2.2.1 k
abbrev ref2_checkCases_b_L0_fs : List (Nat × Sl) := [(0, .v (.sl (.pr .str (.rc .value)))), (12, .v (.sl (.pr .str (.rc .value)))), (13, .v (.int .i64)), (14, .v (.int .i64))]
abbrev ref2_checkCases_b_L0_bs : List (Nat × Sb) := []
def ref2_checkCases_b_L0_hd (x0 : List (Str × GValue)) (c12 : List (Str × GValue)) (c13 : Int) (s14 : Int) : St := ⟨59, [(0, .v (.sl (.pr .str (.rc .value))) x0), (12, .v (.sl (.pr .str (.rc .value))) c12), (13, .v (.int .i64) c13), (14, .v (.int .i64) s14)], []⟩
def ref2_checkCases_b_L0_tl0 (_x0 : List (Str × GValue)) (_c12 : List (Str × GValue)) (_c13 : Int) : St := ⟨59, [], []⟩
def ref2_checkCases_b_L0_G (N : Nat) (r_ref2_checkCases : (List (Str × GValue)) → Option (Int)) (x0 : List (Str × GValue)) (c12 : List (Str × GValue)) (c13 : Int) (s14 : Int) (k : Ex → St → Option Int) : Option Int :=
  ref2_checkCases_b_L0 N r_ref2_checkCases x0 c12 c13 (k (.exit 0) (ref2_checkCases_b_L0_tl0 x0 c12 c13)) N s14
abbrev ref2_checkCases_b_L0_F (N : Nat) (r_ref2_checkCases : (List (Str × GValue)) → Option (Int)) : FV ref2_checkCases_b_L0_fs → HV ref2_checkCases_b_L0_bs → (Ex → St → Option Int) → Option Int := fun x _ k => ref2_checkCases_b_L0_G N r_ref2_checkCases x.1 x.2.1 x.2.2.1 x.2.2.2.1 k
noncomputable def ref2_checkCases_b_LP (N : Nat) (r_ref2_checkCases : (List (Str × GValue)) → Option (Int)) : Nat → Code → St → (Ex → St → Option Int) → Option Int := fun i c =>
  match i with
  | 0 => (LPc 59 ref2_checkCases_b_L0_fs ref2_checkCases_b_L0_bs (ref2_checkCases_b_L0_F N r_ref2_checkCases) (fun st k => iter (ref2_checkCases_b_h 0) (exec (ref2_checkCases_b_E N r_ref2_checkCases) N c 0) N st k))
  | 2 => (LPc 59 ref2_checkCases_b_L1_fs ref2_checkCases_b_L1_bs (ref2_checkCases_b_L1_F N r_ref2_checkCases) (fun st k => iter (ref2_checkCases_b_h 2) (exec (ref2_checkCases_b_E N r_ref2_checkCases) N c 2) N st k))
  | i => fun st k => iter (ref2_checkCases_b_h i) (exec (ref2_checkCases_b_E N r_ref2_checkCases) N c i) N st k
theorem ref2_checkCases_b_L1_step (N : Nat) (r_ref2_checkCases : (List (Str × GValue)) → Option (Int)) (x0 : List (Str × GValue)) (c12 : List (Str × GValue)) (c13 : Int) (s14 : Int) (t27 : List (Str × GValue)) (c28 : Int) (c1004_0 : Str) (c1004_1 : Int) (c1004_2 : Str) (c1004_3 : Int) (c1004_4 : List Str) (c1004_5 : List (Str × GValue)) (KX : Nat → St → Option Int) (I : St → Option Int) (s29 : Int) :
    execL (ref2_checkCases_b_LP N r_ref2_checkCases) (ref2_checkCases_b_E N r_ref2_checkCases) (cAt (bodyOf Tryz.f48) [true, true, false, true, false, false, true, true, false, false, true, true, false, true, false, false]) 2 (ref2_checkCases_b_L1_hd x0 c12 c13 s14 t27 c28 c1004_0 c1004_1 c1004_2 c1004_3 c1004_4 c1004_5 s29) (roundK (ref2_checkCases_b_h 2) I KX (resD (ref2_checkCases_b_E N r_ref2_checkCases) Tryz.f48 (ref2_checkCases_b_sg fun x _ => ref2_checkCases_b N r_ref2_checkCases x.1) ref2_checkCases_b_pk)) = ref2_checkCases_b_L1T N r_ref2_checkCases t27 c28 c1004_0 (KX 2 (ref2_checkCases_b_L1_tl2 x0 c12 c13 s14 t27 c28 c1004_0 c1004_1 c1004_2 c1004_3 c1004_4 c1004_5)) (fun s29 => I (ref2_checkCases_b_L1_hd x0 c12 c13 s14 t27 c28 c1004_0 c1004_1 c1004_2 c1004_3 c1004_4 c1004_5 s29)) s29 := by kernel_rfl
theorem ref2_checkCases_b_L1_ok (N : Nat) (r_ref2_checkCases : (List (Str × GValue)) → Option (Int)) : ∀ x y k, (∀ st, k .ret st = (resD (ref2_checkCases_b_E N r_ref2_checkCases) Tryz.f48 (ref2_checkCases_b_sg fun x _ => ref2_checkCases_b N r_ref2_checkCases x.1) ref2_checkCases_b_pk) st) → iter (ref2_checkCases_b_h 2) (exec (ref2_checkCases_b_E N r_ref2_checkCases) N (cAt (bodyOf Tryz.f48) [true, true, false, true, false, false, true, true, false, false, true, true, false, true, false, false]) 2) N ⟨59, unF ref2_checkCases_b_L1_fs x, unH ref2_checkCases_b_L1_bs y⟩ k = ref2_checkCases_b_L1_F N r_ref2_checkCases x y k := fun x y k hk =>
  iter_link (S := (Int) × Unit) (ref2_checkCases_b_h 2) _ (execL (ref2_checkCases_b_LP N r_ref2_checkCases) (ref2_checkCases_b_E N r_ref2_checkCases) (cAt (bodyOf Tryz.f48) [true, true, false, true, false, false, true, true, false, false, true, true, false, true, false, false]) 2) (resD (ref2_checkCases_b_E N r_ref2_checkCases) Tryz.f48 (ref2_checkCases_b_sg fun x _ => ref2_checkCases_b N r_ref2_checkCases x.1) ref2_checkCases_b_pk) (fun st k hk => execL_eq _ _ N _ (cAt (bodyOf Tryz.f48) [true, true, false, true, false, false, true, true, false, false, true, true, false, true, false, false]) 2 (show LoopsOk (ref2_checkCases_b_LP N r_ref2_checkCases) (ref2_checkCases_b_E N r_ref2_checkCases) N (resD (ref2_checkCases_b_E N r_ref2_checkCases) Tryz.f48 (ref2_checkCases_b_sg fun x _ => ref2_checkCases_b N r_ref2_checkCases x.1) ref2_checkCases_b_pk) [] from trivial) st k hk) (fun s => ref2_checkCases_b_L1_hd x.1 x.2.2.1 x.2.2.2.1 x.2.2.2.2.1 x.2.2.2.2.2.1 x.2.2.2.2.2.2.1 y.1.1 y.1.2.1 y.1.2.2.1 y.1.2.2.2.1 y.1.2.2.2.2.1 y.1.2.2.2.2.2.1 s.1) k hk
    (fun self s => ref2_checkCases_b_L1T N r_ref2_checkCases x.2.2.2.2.2.1 x.2.2.2.2.2.2.1 y.1.1 (k (.exit 2) (ref2_checkCases_b_L1_tl2 x.1 x.2.2.1 x.2.2.2.1 x.2.2.2.2.1 x.2.2.2.2.2.1 x.2.2.2.2.2.2.1 y.1.1 y.1.2.1 y.1.2.2.1 y.1.2.2.2.1 y.1.2.2.2.2.1 y.1.2.2.2.2.2.1)) (fun s29 => self (s29, ())) s.1) (fun n s => ref2_checkCases_b_L1 N r_ref2_checkCases x.2.2.2.2.2.1 x.2.2.2.2.2.2.1 y.1.1 (k (.exit 2) (ref2_checkCases_b_L1_tl2 x.1 x.2.2.1 x.2.2.2.1 x.2.2.2.2.1 x.2.2.2.2.2.1 x.2.2.2.2.2.2.1 y.1.1 y.1.2.1 y.1.2.2.1 y.1.2.2.2.1 y.1.2.2.2.2.1 y.1.2.2.2.2.2.1)) n s.1) (fun _ => rfl) (fun _ _ => rfl)
    (fun I s => ref2_checkCases_b_L1_step N r_ref2_checkCases x.1 x.2.2.1 x.2.2.2.1 x.2.2.2.2.1 x.2.2.2.2.2.1 x.2.2.2.2.2.2.1 y.1.1 y.1.2.1 y.1.2.2.1 y.1.2.2.2.1 y.1.2.2.2.2.1 y.1.2.2.2.2.2.1 (fun j => k (.exit j)) I s.1) N (x.2.2.2.2.2.2.2.1, ())
theorem ref2_checkCases_b_lp2 (N : Nat) (r_ref2_checkCases : (List (Str × GValue)) → Option (Int)) : ∀ st k, (∀ st, k .ret st = (resD (ref2_checkCases_b_E N r_ref2_checkCases) Tryz.f48 (ref2_checkCases_b_sg fun x _ => ref2_checkCases_b N r_ref2_checkCases x.1) ref2_checkCases_b_pk) st) → ref2_checkCases_b_LP N r_ref2_checkCases 2 (cAt (bodyOf Tryz.f48) [true, true, false, true, false, false, true, true, false, false, true, true, false, true, false, false]) st k = iter (Env.hint (ref2_checkCases_b_E N r_ref2_checkCases) 2) (exec (ref2_checkCases_b_E N r_ref2_checkCases) N (cAt (bodyOf Tryz.f48) [true, true, false, true, false, false, true, true, false, false, true, true, false, true, false, false]) 2) N st k := fun st k hk => LPc_eq 59 ref2_checkCases_b_L1_fs ref2_checkCases_b_L1_bs _ _ (resD (ref2_checkCases_b_E N r_ref2_checkCases) Tryz.f48 (ref2_checkCases_b_sg fun x _ => ref2_checkCases_b N r_ref2_checkCases x.1) ref2_checkCases_b_pk) (ref2_checkCases_b_L1_ok N r_ref2_checkCases) _ st k hk (rfl)
theorem ref2_checkCases_b_L0_step (N : Nat) (r_ref2_checkCases : (List (Str × GValue)) → Option (Int)) (x0 : List (Str × GValue)) (c12 : List (Str × GValue)) (c13 : Int) (KX : Nat → St → Option Int) (I : St → Option Int) (s14 : Int) :
    execL (ref2_checkCases_b_LP N r_ref2_checkCases) (ref2_checkCases_b_E N r_ref2_checkCases) (cAt (bodyOf Tryz.f48) [true, true, false, true, false, false]) 0 (ref2_checkCases_b_L0_hd x0 c12 c13 s14) (roundK (ref2_checkCases_b_h 0) I KX (resD (ref2_checkCases_b_E N r_ref2_checkCases) Tryz.f48 (ref2_checkCases_b_sg fun x _ => ref2_checkCases_b N r_ref2_checkCases x.1) ref2_checkCases_b_pk)) = ref2_checkCases_b_L0T N r_ref2_checkCases x0 c12 c13 (KX 0 (ref2_checkCases_b_L0_tl0 x0 c12 c13)) (fun s14 => I (ref2_checkCases_b_L0_hd x0 c12 c13 s14)) s14 := by kernel_rfl
theorem ref2_checkCases_b_L0_ok (N : Nat) (r_ref2_checkCases : (List (Str × GValue)) → Option (Int)) : ∀ x y k, (∀ st, k .ret st = (resD (ref2_checkCases_b_E N r_ref2_checkCases) Tryz.f48 (ref2_checkCases_b_sg fun x _ => ref2_checkCases_b N r_ref2_checkCases x.1) ref2_checkCases_b_pk) st) → iter (ref2_checkCases_b_h 0) (exec (ref2_checkCases_b_E N r_ref2_checkCases) N (cAt (bodyOf Tryz.f48) [true, true, false, true, false, false]) 0) N ⟨59, unF ref2_checkCases_b_L0_fs x, unH ref2_checkCases_b_L0_bs y⟩ k = ref2_checkCases_b_L0_F N r_ref2_checkCases x y k := fun x _ k hk =>
  iter_link (S := (Int) × Unit) (ref2_checkCases_b_h 0) _ (execL (ref2_checkCases_b_LP N r_ref2_checkCases) (ref2_checkCases_b_E N r_ref2_checkCases) (cAt (bodyOf Tryz.f48) [true, true, false, true, false, false]) 0) (resD (ref2_checkCases_b_E N r_ref2_checkCases) Tryz.f48 (ref2_checkCases_b_sg fun x _ => ref2_checkCases_b N r_ref2_checkCases x.1) ref2_checkCases_b_pk) (fun st k hk => execL_eq _ _ N _ (cAt (bodyOf Tryz.f48) [true, true, false, true, false, false]) 0 (show LoopsOk (ref2_checkCases_b_LP N r_ref2_checkCases) (ref2_checkCases_b_E N r_ref2_checkCases) N (resD (ref2_checkCases_b_E N r_ref2_checkCases) Tryz.f48 (ref2_checkCases_b_sg fun x _ => ref2_checkCases_b N r_ref2_checkCases x.1) ref2_checkCases_b_pk) [(2, (cAt (bodyOf Tryz.f48) [true, true, false, true, false, false, true, true, false, false, true, true, false, true, false, false]))] from ⟨ref2_checkCases_b_lp2 N r_ref2_checkCases, trivial⟩) st k hk) (fun s => ref2_checkCases_b_L0_hd x.1 x.2.1 x.2.2.1 s.1) k hk
    (fun self s => ref2_checkCases_b_L0T N r_ref2_checkCases x.1 x.2.1 x.2.2.1 (k (.exit 0) (ref2_checkCases_b_L0_tl0 x.1 x.2.1 x.2.2.1)) (fun s14 => self (s14, ())) s.1) (fun n s => ref2_checkCases_b_L0 N r_ref2_checkCases x.1 x.2.1 x.2.2.1 (k (.exit 0) (ref2_checkCases_b_L0_tl0 x.1 x.2.1 x.2.2.1)) n s.1) (fun _ => rfl) (fun _ _ => rfl)
    (fun I s => ref2_checkCases_b_L0_step N r_ref2_checkCases x.1 x.2.1 x.2.2.1 (fun j => k (.exit j)) I s.1) N (x.2.2.2.1, ())
theorem ref2_checkCases_b_lp0 (N : Nat) (r_ref2_checkCases : (List (Str × GValue)) → Option (Int)) : ∀ st k, (∀ st, k .ret st = (resD (ref2_checkCases_b_E N r_ref2_checkCases) Tryz.f48 (ref2_checkCases_b_sg fun x _ => ref2_checkCases_b N r_ref2_checkCases x.1) ref2_checkCases_b_pk) st) → ref2_checkCases_b_LP N r_ref2_checkCases 0 (cAt (bodyOf Tryz.f48) [true, true, false, true, false, false]) st k = iter (Env.hint (ref2_checkCases_b_E N r_ref2_checkCases) 0) (exec (ref2_checkCases_b_E N r_ref2_checkCases) N (cAt (bodyOf Tryz.f48) [true, true, false, true, false, false]) 0) N st k := fun st k hk => LPc_eq 59 ref2_checkCases_b_L0_fs ref2_checkCases_b_L0_bs _ _ (resD (ref2_checkCases_b_E N r_ref2_checkCases) Tryz.f48 (ref2_checkCases_b_sg fun x _ => ref2_checkCases_b N r_ref2_checkCases x.1) ref2_checkCases_b_pk) (ref2_checkCases_b_L0_ok N r_ref2_checkCases) _ st k hk (rfl)
theorem ref2_checkCases_b_core (N : Nat) (r_ref2_checkCases : (List (Str × GValue)) → Option (Int)) (x : SV [.v (.sl (.pr .str (.rc .value)))]) (y : BV []) : runL (ref2_checkCases_b_E N r_ref2_checkCases) Tryz.f48 (ref2_checkCases_b_sg fun x _ => ref2_checkCases_b N r_ref2_checkCases x.1) ref2_checkCases_b_pk (ref2_checkCases_b_LP N r_ref2_checkCases) x y = ref2_checkCases_b N r_ref2_checkCases x.1 := by kernel_rfl
theorem ref2_checkCases_b_sound (N : Nat) (r_ref2_checkCases : (List (Str × GValue)) → Option (Int)) (h_ref2_checkCases : Sound Tryz.prog GW B0G 48 (ref2_checkCases_sg fun x y => r_ref2_checkCases x.1)) : Sound Tryz.prog GW B0G 48 (ref2_checkCases_b_sg fun x _ => ref2_checkCases_b N r_ref2_checkCases x.1) :=
  runD_sound (mkE_ok ref2_checkCases_b_h (ref2_checkCases_b_fn N r_ref2_checkCases) _ _ (ref2_checkCases_b_fn_ok N r_ref2_checkCases h_ref2_checkCases)) Tryz.func48 rfl Tryz.call48 (ref2_checkCases_b_sg fun x _ => ref2_checkCases_b N r_ref2_checkCases x.1) ref2_checkCases_b_pk (fun _ _ => rfl) N (fun x y _ h => ((runL_eq (ref2_checkCases_b_E N r_ref2_checkCases) N Tryz.f48 (ref2_checkCases_b_sg fun x _ => ref2_checkCases_b N r_ref2_checkCases x.1) ref2_checkCases_b_pk (ref2_checkCases_b_LP N r_ref2_checkCases) (show LoopsOk (ref2_checkCases_b_LP N r_ref2_checkCases) (ref2_checkCases_b_E N r_ref2_checkCases) N (resD (ref2_checkCases_b_E N r_ref2_checkCases) Tryz.f48 (ref2_checkCases_b_sg fun x _ => ref2_checkCases_b N r_ref2_checkCases x.1) ref2_checkCases_b_pk) [(0, (cAt (bodyOf Tryz.f48) [true, true, false, true, false, false])), (2, (cAt (bodyOf Tryz.f48) [true, true, false, true, false, false, true, true, false, false, true, true, false, true, false, false]))] from ⟨ref2_checkCases_b_lp0 N r_ref2_checkCases, ref2_checkCases_b_lp2 N r_ref2_checkCases, trivial⟩) x y).trans (ref2_checkCases_b_core N r_ref2_checkCases x y)).trans h)
def ref2_checkCases (N : Nat) : Nat → (List (Str × GValue)) → Option (Int)
  | 0 => fun _ => none
  | d + 1 => ref2_checkCases_b N (ref2_checkCases N d)
theorem ref2_checkCases_sound (N : Nat) : ∀ d, Sound Tryz.prog GW B0G 48 (ref2_checkCases_sg fun x y => ref2_checkCases N d x.1)
  | 0 => Sound.never Tryz.call48 (fun _ _ => rfl)
  | d + 1 => ref2_checkCases_b_sound N (ref2_checkCases N d) (ref2_checkCases_sound N d)
def script_isSmall (_N : Nat) (x0 : UInt8) : Option Bool :=
  br (decide (x0 ≥ (97 : UInt8)))
    (some (decide (x0 ≤ (122 : UInt8))))
    (some false)
abbrev script_isSmall_sg (f : SV [.v .u8] → BV [] → Option (Bool)) : AF := { ps := [.v .u8], bs := [], rs := [.v .bool], cs := [], R := Bool, out := fun z => ((z, ()), ()), f := f }
abbrev script_isSmall_pk : SV [.v .bool] → BV [] → Bool := fun x _ => x.1
def script_isSmall_fn (_N : Nat) : FuncId → Option Tmp → Option AF := fun f _ =>
  match f with
    | _ => none
theorem script_isSmall_fn_ok (N : Nat) : ∀ f q F, script_isSmall_fn N f q = some F → Sound Tryz.prog GW B0G f F := by
  intro f q F h
  unfold script_isSmall_fn at h
  split at h
  · cases h
def script_isSmall_h : Nat → Hint := fun i =>
  match i with
  | _ => ⟨[], [], [], [], [], []⟩
abbrev script_isSmall_E (N : Nat) : Env := mkE script_isSmall_h (script_isSmall_fn N) (fun _ => false) (fun _ => false)
noncomputable def script_isSmall_LP (N : Nat) : Nat → Code → St → (Ex → St → Option Bool) → Option Bool := fun i c =>
  match i with
  | i => fun st k => iter (script_isSmall_h i) (exec (script_isSmall_E N) N c i) N st k
theorem script_isSmall_core (N : Nat) (x : SV [.v .u8]) (y : BV []) : runL (script_isSmall_E N) Tryz.f96 (script_isSmall_sg fun x _ => script_isSmall N x.1) script_isSmall_pk (script_isSmall_LP N) x y = script_isSmall N x.1 := by kernel_rfl
theorem script_isSmall_sound (N : Nat) : Sound Tryz.prog GW B0G 96 (script_isSmall_sg fun x _ => script_isSmall N x.1) :=
  runD_sound (mkE_ok script_isSmall_h (script_isSmall_fn N) _ _ (script_isSmall_fn_ok N)) Tryz.func96 rfl Tryz.call96 (script_isSmall_sg fun x _ => script_isSmall N x.1) script_isSmall_pk (fun _ _ => rfl) N (fun x y _ h => ((runL_eq (script_isSmall_E N) N Tryz.f96 (script_isSmall_sg fun x _ => script_isSmall N x.1) script_isSmall_pk (script_isSmall_LP N) (show LoopsOk (script_isSmall_LP N) (script_isSmall_E N) N (resD (script_isSmall_E N) Tryz.f96 (script_isSmall_sg fun x _ => script_isSmall N x.1) script_isSmall_pk) [] from trivial) x y).trans (script_isSmall_core N x y)).trans h)
end
end Go.Proofs.YtahjncefiegflaaGreatDoor

