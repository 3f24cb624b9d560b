/- What functions of the program compute, as plain functions (printed). -/
import Derived.Test.YtahjncefiegflaaGreatDoorQScF4
namespace Go.Proofs.YtahjncefiegflaaGreatDoor
open Go Go.RowKit
set_option maxRecDepth 100000
set_option linter.unusedVariables false
noncomputable section
def ref2_checkCases_b_L1T (_N : Nat) (r_ref2_checkCases : (List (Str × GValue)) → Option (Int)) (t27 : List (Str × GValue)) (c28 : Int) (c1004_0 : Str) (k2 : Option Int) (self : Int → Option Int) (s29 : Int) : Option Int :=
  br (decide (s29 < c28))
    (bnd (geti t27 s29) fun t31 =>
    br (t31.1 == c1004_0)
      (some (7 : Int))
      (self (IntKind.i64.wrap (s29 + (1 : Int)))))
    (k2)
def ref2_checkCases_b_L1 (N : Nat) (r_ref2_checkCases : (List (Str × GValue)) → Option (Int)) (t27 : List (Str × GValue)) (c28 : Int) (c1004_0 : Str) (k2 : Option Int) : Nat → Int → Option Int
  | 0, _ => none
  | n + 1, s29 => ref2_checkCases_b_L1T N r_ref2_checkCases t27 c28 c1004_0 k2 (ref2_checkCases_b_L1 N r_ref2_checkCases t27 c28 c1004_0 k2 n) s29
def ref2_checkCases_b_L0T (N : Nat) (r_ref2_checkCases : (List (Str × GValue)) → Option (Int)) (x0 : List (Str × GValue)) (c12 : List (Str × GValue)) (c13 : Int) (k0 : Option Int) (self : Int → Option Int) (s14 : Int) : Option Int :=
  br (decide (s14 < c13))
    (bnd (geti c12 s14) fun t17 =>
    bnd (ref2_checkText N t17.1) fun t21 =>
    br (t21 != (0 : Int))
      (some t21)
      (bnd (slc x0 (0 : Int) s14) fun t27 =>
      ref2_checkCases_b_L1 N r_ref2_checkCases t27 (t27.length : Int) t17.1 (br (t17.2.kind == (4 : Int))
            (some (4 : Int))
            (bnd (ref2_CheckValue N r_ref2_checkCases (GValue.mk t17.2.kind t17.2.text t17.2.number t17.2.list t17.2.cases)) fun t45 =>
            br (t45 != (0 : Int))
              (some t45)
              (bnd (geti x0 (0 : Int)) fun t53 =>
              br (t17.2.kind != t53.2.kind)
                (some (6 : Int))
                (self (IntKind.i64.wrap (s14 + (1 : Int))))))) N (0 : Int)))
    (k0)
def ref2_checkCases_b_L0 (N : Nat) (r_ref2_checkCases : (List (Str × GValue)) → Option (Int)) (x0 : List (Str × GValue)) (c12 : List (Str × GValue)) (c13 : Int) (k0 : Option Int) : Nat → Int → Option Int
  | 0, _ => none
  | n + 1, s14 => ref2_checkCases_b_L0T N r_ref2_checkCases x0 c12 c13 k0 (ref2_checkCases_b_L0 N r_ref2_checkCases x0 c12 c13 k0 n) s14
def ref2_checkCases_b (N : Nat) (r_ref2_checkCases : (List (Str × GValue)) → Option (Int)) (x0 : List (Str × GValue)) : Option Int :=
  br ((x0.length : Int) == (0 : Int))
    (some (9 : Int))
    (ref2_checkCases_b_L0 N r_ref2_checkCases x0 x0 (x0.length : Int) (some (0 : Int)) N (0 : Int))
abbrev ref2_checkCases_b_sg (f : SV [.v (.sl (.pr .str (.rc .value)))] → BV [] → Option (Int)) : AF := { ps := [.v (.sl (.pr .str (.rc .value)))], bs := [], rs := [.v (.int .i64)], cs := [], R := Int, out := fun z => ((z, ()), ()), f := f }
abbrev ref2_checkCases_b_pk : SV [.v (.int .i64)] → BV [] → Int := fun x _ => x.1
def ref2_checkCases_b_fn (N : Nat) (r_ref2_checkCases : (List (Str × GValue)) → Option (Int)) : FuncId → Option Tmp → Option AF := fun f _ =>
  match f with
    | 15 => some (ref2_CheckValue_sg fun x _ => ref2_CheckValue N r_ref2_checkCases x.1)
    | 91 => some (ref2_checkText_sg fun x _ => ref2_checkText N x.1)
    | _ => none
theorem ref2_checkCases_b_fn_ok (N : Nat) (r_ref2_checkCases : (List (Str × GValue)) → Option (Int)) (h_ref2_checkCases : Sound Tryz.prog GW B0G 48 (ref2_checkCases_sg fun x y => r_ref2_checkCases x.1)) : ∀ f q F, ref2_checkCases_b_fn N r_ref2_checkCases f q = some F → Sound Tryz.prog GW B0G f F := by
  intro f q F h
  unfold ref2_checkCases_b_fn at h
  split at h
  · cases h; exact ref2_CheckValue_sound N r_ref2_checkCases h_ref2_checkCases
  · cases h; exact ref2_checkText_sound N
  · cases h
def ref2_checkCases_b_h : Nat → Hint := fun i =>
  match i with
  | 0 => ⟨[], [0, 12, 13, 14], [], [], [], []⟩
  | 2 => ⟨[], [0, 4, 12, 13, 14, 27, 28, 29], [1004], [0, 4, 12, 13, 14], [1004], []⟩
  | _ => ⟨[], [], [], [], [], []⟩
abbrev ref2_checkCases_b_E (N : Nat) (r_ref2_checkCases : (List (Str × GValue)) → Option (Int)) : Env := mkE ref2_checkCases_b_h (ref2_checkCases_b_fn N r_ref2_checkCases) (fun _ => false) (fun _ => false)
abbrev ref2_checkCases_b_L1_fs : List (Nat × Sl) := [(0, .v (.sl (.pr .str (.rc .value)))), (4, .box 1004 0), (12, .v (.sl (.pr .str (.rc .value)))), (13, .v (.int .i64)), (14, .v (.int .i64)), (27, .v (.sl (.pr .str (.rc .value)))), (28, .v (.int .i64)), (29, .v (.int .i64))]
abbrev ref2_checkCases_b_L1_bs : List (Nat × Sb) := [(1004, .cells [.v .str, .v (.int .i64), .v .str, .v (.int .i64), .v (.sl .str), .v (.sl (.pr .str (.rc .value)))])]
def ref2_checkCases_b_L1_hd (x0 : List (Str × GValue)) (c12 : List (Str × GValue)) (c13 : Int) (s14 : Int) (t27 : List (Str × GValue)) (c28 : Int) (c1004_0 : Str) (c1004_1 : Int) (c1004_2 : Str) (c1004_3 : Int) (c1004_4 : List Str) (c1004_5 : List (Str × GValue)) (s29 : Int) : St := ⟨59, [(0, .v (.sl (.pr .str (.rc .value))) x0), (4, .box 1004 0), (12, .v (.sl (.pr .str (.rc .value))) c12), (13, .v (.int .i64) c13), (14, .v (.int .i64) s14), (27, .v (.sl (.pr .str (.rc .value))) t27), (28, .v (.int .i64) c28), (29, .v (.int .i64) s29)], [(1004, .cells [.v .str c1004_0, .v (.int .i64) c1004_1, .v .str c1004_2, .v (.int .i64) c1004_3, .v (.sl .str) c1004_4, .v (.sl (.pr .str (.rc .value))) c1004_5])]⟩
def ref2_checkCases_b_L1_tl2 (x0 : List (Str × GValue)) (c12 : List (Str × GValue)) (c13 : Int) (s14 : Int) (_t27 : List (Str × GValue)) (_c28 : Int) (c1004_0 : Str) (c1004_1 : Int) (c1004_2 : Str) (c1004_3 : Int) (c1004_4 : List Str) (c1004_5 : List (Str × GValue)) : St := ⟨59, [(0, .v (.sl (.pr .str (.rc .value))) x0), (4, .box 1004 0), (12, .v (.sl (.pr .str (.rc .value))) c12), (13, .v (.int .i64) c13), (14, .v (.int .i64) s14)], [(1004, .cells [.v .str c1004_0, .v (.int .i64) c1004_1, .v .str c1004_2, .v (.int .i64) c1004_3, .v (.sl .str) c1004_4, .v (.sl (.pr .str (.rc .value))) c1004_5])]⟩
def ref2_checkCases_b_L1_G (N : Nat) (r_ref2_checkCases : (List (Str × GValue)) → Option (Int)) (x0 : List (Str × GValue)) (c12 : List (Str × GValue)) (c13 : Int) (s14 : Int) (t27 : List (Str × GValue)) (c28 : Int) (c1004_0 : Str) (c1004_1 : Int) (c1004_2 : Str) (c1004_3 : Int) (c1004_4 : List Str) (c1004_5 : List (Str × GValue)) (s29 : Int) (k : Ex → St → Option Int) : Option Int :=
  ref2_checkCases_b_L1 N r_ref2_checkCases t27 c28 c1004_0 (k (.exit 2) (ref2_checkCases_b_L1_tl2 x0 c12 c13 s14 t27 c28 c1004_0 c1004_1 c1004_2 c1004_3 c1004_4 c1004_5)) N s29
abbrev ref2_checkCases_b_L1_F (N : Nat) (r_ref2_checkCases : (List (Str × GValue)) → Option (Int)) : FV ref2_checkCases_b_L1_fs → HV ref2_checkCases_b_L1_bs → (Ex → St → Option Int) → Option Int := fun x y k => ref2_checkCases_b_L1_G N r_ref2_checkCases x.1 x.2.2.1 x.2.2.2.1 x.2.2.2.2.1 x.2.2.2.2.2.1 x.2.2.2.2.2.2.1 y.1.1 y.1.2.1 y.1.2.2.1 y.1.2.2.2.1 y.1.2.2.2.2.1 y.1.2.2.2.2.2.1 x.2.2.2.2.2.2.2.1 k
abbrev ref2_checkCases_b_L0_fs : List (Nat × Sl) := [(0, .v (.sl (.pr .str (.rc .value)))), (12, .v (.sl (.pr .str (.rc .value)))), (13, .v (.int .i64)), (14, .v (.int .i64))]
abbrev ref2_checkCases_b_L0_bs : List (Nat × Sb) := []
def ref2_checkCases_b_L0_hd (x0 : List (Str × GValue)) (c12 : List (Str × GValue)) (c13 : Int) (s14 : Int) : St := ⟨59, [(0, .v (.sl (.pr .str (.rc .value))) x0), (12, .v (.sl (.pr .str (.rc .value))) c12), (13, .v (.int .i64) c13), (14, .v (.int .i64) s14)], []⟩
def ref2_checkCases_b_L0_tl0 (_x0 : List (Str × GValue)) (_c12 : List (Str × GValue)) (_c13 : Int) : St := ⟨59, [], []⟩
def ref2_checkCases_b_L0_G (N : Nat) (r_ref2_checkCases : (List (Str × GValue)) → Option (Int)) (x0 : List (Str × GValue)) (c12 : List (Str × GValue)) (c13 : Int) (s14 : Int) (k : Ex → St → Option Int) : Option Int :=
  ref2_checkCases_b_L0 N r_ref2_checkCases x0 c12 c13 (k (.exit 0) (ref2_checkCases_b_L0_tl0 x0 c12 c13)) N s14
abbrev ref2_checkCases_b_L0_F (N : Nat) (r_ref2_checkCases : (List (Str × GValue)) → Option (Int)) : FV ref2_checkCases_b_L0_fs → HV ref2_checkCases_b_L0_bs → (Ex → St → Option Int) → Option Int := fun x _ k => ref2_checkCases_b_L0_G N r_ref2_checkCases x.1 x.2.1 x.2.2.1 x.2.2.2.1 k
noncomputable def ref2_checkCases_b_LP (N : Nat) (r_ref2_checkCases : (List (Str × GValue)) → Option (Int)) : Nat → Code → St → (Ex → St → Option Int) → Option Int := fun i c =>
  match i with
  | 0 => (LPc 59 ref2_checkCases_b_L0_fs ref2_checkCases_b_L0_bs (ref2_checkCases_b_L0_F N r_ref2_checkCases) (fun st k => iter (ref2_checkCases_b_h 0) (exec (ref2_checkCases_b_E N r_ref2_checkCases) N c 0) N st k))
  | 2 => (LPc 59 ref2_checkCases_b_L1_fs ref2_checkCases_b_L1_bs (ref2_checkCases_b_L1_F N r_ref2_checkCases) (fun st k => iter (ref2_checkCases_b_h 2) (exec (ref2_checkCases_b_E N r_ref2_checkCases) N c 2) N st k))
  | i => fun st k => iter (ref2_checkCases_b_h i) (exec (ref2_checkCases_b_E N r_ref2_checkCases) N c i) N st k
theorem ref2_checkCases_b_L1_step (N : Nat) (r_ref2_checkCases : (List (Str × GValue)) → Option (Int)) (x0 : List (Str × GValue)) (c12 : List (Str × GValue)) (c13 : Int) (s14 : Int) (t27 : List (Str × GValue)) (c28 : Int) (c1004_0 : Str) (c1004_1 : Int) (c1004_2 : Str) (c1004_3 : Int) (c1004_4 : List Str) (c1004_5 : List (Str × GValue)) (KX : Nat → St → Option Int) (I : St → Option Int) (s29 : Int) :
    execL (ref2_checkCases_b_LP N r_ref2_checkCases) (ref2_checkCases_b_E N r_ref2_checkCases) (cAt (bodyOf Tryz.f48) [true, true, false, true, false, false, true, true, false, false, true, true, false, true, false, false]) 2 (ref2_checkCases_b_L1_hd x0 c12 c13 s14 t27 c28 c1004_0 c1004_1 c1004_2 c1004_3 c1004_4 c1004_5 s29) (roundK (ref2_checkCases_b_h 2) I KX (resD (ref2_checkCases_b_E N r_ref2_checkCases) Tryz.f48 (ref2_checkCases_b_sg fun x _ => ref2_checkCases_b N r_ref2_checkCases x.1) ref2_checkCases_b_pk)) = ref2_checkCases_b_L1T N r_ref2_checkCases t27 c28 c1004_0 (KX 2 (ref2_checkCases_b_L1_tl2 x0 c12 c13 s14 t27 c28 c1004_0 c1004_1 c1004_2 c1004_3 c1004_4 c1004_5)) (fun s29 => I (ref2_checkCases_b_L1_hd x0 c12 c13 s14 t27 c28 c1004_0 c1004_1 c1004_2 c1004_3 c1004_4 c1004_5 s29)) s29 := by kernel_rfl
theorem ref2_checkCases_b_L1_ok (N : Nat) (r_ref2_checkCases : (List (Str × GValue)) → Option (Int)) : ∀ x y k, (∀ st, k .ret st = (resD (ref2_checkCases_b_E N r_ref2_checkCases) Tryz.f48 (ref2_checkCases_b_sg fun x _ => ref2_checkCases_b N r_ref2_checkCases x.1) ref2_checkCases_b_pk) st) → iter (ref2_checkCases_b_h 2) (exec (ref2_checkCases_b_E N r_ref2_checkCases) N (cAt (bodyOf Tryz.f48) [true, true, false, true, false, false, true, true, false, false, true, true, false, true, false, false]) 2) N ⟨59, unF ref2_checkCases_b_L1_fs x, unH ref2_checkCases_b_L1_bs y⟩ k = ref2_checkCases_b_L1_F N r_ref2_checkCases x y k := fun x y k hk =>
  iter_link (S := (Int) × Unit) (ref2_checkCases_b_h 2) _ (execL (ref2_checkCases_b_LP N r_ref2_checkCases) (ref2_checkCases_b_E N r_ref2_checkCases) (cAt (bodyOf Tryz.f48) [true, true, false, true, false, false, true, true, false, false, true, true, false, true, false, false]) 2) (resD (ref2_checkCases_b_E N r_ref2_checkCases) Tryz.f48 (ref2_checkCases_b_sg fun x _ => ref2_checkCases_b N r_ref2_checkCases x.1) ref2_checkCases_b_pk) (fun st k hk => execL_eq _ _ N _ (cAt (bodyOf Tryz.f48) [true, true, false, true, false, false, true, true, false, false, true, true, false, true, false, false]) 2 (show LoopsOk (ref2_checkCases_b_LP N r_ref2_checkCases) (ref2_checkCases_b_E N r_ref2_checkCases) N (resD (ref2_checkCases_b_E N r_ref2_checkCases) Tryz.f48 (ref2_checkCases_b_sg fun x _ => ref2_checkCases_b N r_ref2_checkCases x.1) ref2_checkCases_b_pk) [] from trivial) st k hk) (fun s => ref2_checkCases_b_L1_hd x.1 x.2.2.1 x.2.2.2.1 x.2.2.2.2.1 x.2.2.2.2.2.1 x.2.2.2.2.2.2.1 y.1.1 y.1.2.1 y.1.2.2.1 y.1.2.2.2.1 y.1.2.2.2.2.1 y.1.2.2.2.2.2.1 s.1) k hk
    (fun self s => ref2_checkCases_b_L1T N r_ref2_checkCases x.2.2.2.2.2.1 x.2.2.2.2.2.2.1 y.1.1 (k (.exit 2) (ref2_checkCases_b_L1_tl2 x.1 x.2.2.1 x.2.2.2.1 x.2.2.2.2.1 x.2.2.2.2.2.1 x.2.2.2.2.2.2.1 y.1.1 y.1.2.1 y.1.2.2.1 y.1.2.2.2.1 y.1.2.2.2.2.1 y.1.2.2.2.2.2.1)) (fun s29 => self (s29, ())) s.1) (fun n s => ref2_checkCases_b_L1 N r_ref2_checkCases x.2.2.2.2.2.1 x.2.2.2.2.2.2.1 y.1.1 (k (.exit 2) (ref2_checkCases_b_L1_tl2 x.1 x.2.2.1 x.2.2.2.1 x.2.2.2.2.1 x.2.2.2.2.2.1 x.2.2.2.2.2.2.1 y.1.1 y.1.2.1 y.1.2.2.1 y.1.2.2.2.1 y.1.2.2.2.2.1 y.1.2.2.2.2.2.1)) n s.1) (fun _ => rfl) (fun _ _ => rfl)
    (fun I s => ref2_checkCases_b_L1_step N r_ref2_checkCases x.1 x.2.2.1 x.2.2.2.1 x.2.2.2.2.1 x.2.2.2.2.2.1 x.2.2.2.2.2.2.1 y.1.1 y.1.2.1 y.1.2.2.1 y.1.2.2.2.1 y.1.2.2.2.2.1 y.1.2.2.2.2.2.1 (fun j => k (.exit j)) I s.1) N (x.2.2.2.2.2.2.2.1, ())
theorem ref2_checkCases_b_lp2 (N : Nat) (r_ref2_checkCases : (List (Str × GValue)) → Option (Int)) : ∀ st k, (∀ st, k .ret st = (resD (ref2_checkCases_b_E N r_ref2_checkCases) Tryz.f48 (ref2_checkCases_b_sg fun x _ => ref2_checkCases_b N r_ref2_checkCases x.1) ref2_checkCases_b_pk) st) → ref2_checkCases_b_LP N r_ref2_checkCases 2 (cAt (bodyOf Tryz.f48) [true, true, false, true, false, false, true, true, false, false, true, true, false, true, false, false]) st k = iter (Env.hint (ref2_checkCases_b_E N r_ref2_checkCases) 2) (exec (ref2_checkCases_b_E N r_ref2_checkCases) N (cAt (bodyOf Tryz.f48) [true, true, false, true, false, false, true, true, false, false, true, true, false, true, false, false]) 2) N st k := fun st k hk => LPc_eq 59 ref2_checkCases_b_L1_fs ref2_checkCases_b_L1_bs _ _ (resD (ref2_checkCases_b_E N r_ref2_checkCases) Tryz.f48 (ref2_checkCases_b_sg fun x _ => ref2_checkCases_b N r_ref2_checkCases x.1) ref2_checkCases_b_pk) (ref2_checkCases_b_L1_ok N r_ref2_checkCases) _ st k hk (rfl)
theorem ref2_checkCases_b_L0_step (N : Nat) (r_ref2_checkCases : (List (Str × GValue)) → Option (Int)) (x0 : List (Str × GValue)) (c12 : List (Str × GValue)) (c13 : Int) (KX : Nat → St → Option Int) (I : St → Option Int) (s14 : Int) :
    execL (ref2_checkCases_b_LP N r_ref2_checkCases) (ref2_checkCases_b_E N r_ref2_checkCases) (cAt (bodyOf Tryz.f48) [true, true, false, true, false, false]) 0 (ref2_checkCases_b_L0_hd x0 c12 c13 s14) (roundK (ref2_checkCases_b_h 0) I KX (resD (ref2_checkCases_b_E N r_ref2_checkCases) Tryz.f48 (ref2_checkCases_b_sg fun x _ => ref2_checkCases_b N r_ref2_checkCases x.1) ref2_checkCases_b_pk)) = ref2_checkCases_b_L0T N r_ref2_checkCases x0 c12 c13 (KX 0 (ref2_checkCases_b_L0_tl0 x0 c12 c13)) (fun s14 => I (ref2_checkCases_b_L0_hd x0 c12 c13 s14)) s14 := by kernel_rfl
theorem ref2_checkCases_b_L0_ok (N : Nat) (r_ref2_checkCases : (List (Str × GValue)) → Option (Int)) : ∀ x y k, (∀ st, k .ret st = (resD (ref2_checkCases_b_E N r_ref2_checkCases) Tryz.f48 (ref2_checkCases_b_sg fun x _ => ref2_checkCases_b N r_ref2_checkCases x.1) ref2_checkCases_b_pk) st) → iter (ref2_checkCases_b_h 0) (exec (ref2_checkCases_b_E N r_ref2_checkCases) N (cAt (bodyOf Tryz.f48) [true, true, false, true, false, false]) 0) N ⟨59, unF ref2_checkCases_b_L0_fs x, unH ref2_checkCases_b_L0_bs y⟩ k = ref2_checkCases_b_L0_F N r_ref2_checkCases x y k := fun x _ k hk =>
  iter_link (S := (Int) × Unit) (ref2_checkCases_b_h 0) _ (execL (ref2_checkCases_b_LP N r_ref2_checkCases) (ref2_checkCases_b_E N r_ref2_checkCases) (cAt (bodyOf Tryz.f48) [true, true, false, true, false, false]) 0) (resD (ref2_checkCases_b_E N r_ref2_checkCases) Tryz.f48 (ref2_checkCases_b_sg fun x _ => ref2_checkCases_b N r_ref2_checkCases x.1) ref2_checkCases_b_pk) (fun st k hk => execL_eq _ _ N _ (cAt (bodyOf Tryz.f48) [true, true, false, true, false, false]) 0 (show LoopsOk (ref2_checkCases_b_LP N r_ref2_checkCases) (ref2_checkCases_b_E N r_ref2_checkCases) N (resD (ref2_checkCases_b_E N r_ref2_checkCases) Tryz.f48 (ref2_checkCases_b_sg fun x _ => ref2_checkCases_b N r_ref2_checkCases x.1) ref2_checkCases_b_pk) [(2, (cAt (bodyOf Tryz.f48) [true, true, false, true, false, false, true, true, false, false, true, true, false, true, false, false]))] from ⟨ref2_checkCases_b_lp2 N r_ref2_checkCases, trivial⟩) st k hk) (fun s => ref2_checkCases_b_L0_hd x.1 x.2.1 x.2.2.1 s.1) k hk
    (fun self s => ref2_checkCases_b_L0T N r_ref2_checkCases x.1 x.2.1 x.2.2.1 (k (.exit 0) (ref2_checkCases_b_L0_tl0 x.1 x.2.1 x.2.2.1)) (fun s14 => self (s14, ())) s.1) (fun n s => ref2_checkCases_b_L0 N r_ref2_checkCases x.1 x.2.1 x.2.2.1 (k (.exit 0) (ref2_checkCases_b_L0_tl0 x.1 x.2.1 x.2.2.1)) n s.1) (fun _ => rfl) (fun _ _ => rfl)
    (fun I s => ref2_checkCases_b_L0_step N r_ref2_checkCases x.1 x.2.1 x.2.2.1 (fun j => k (.exit j)) I s.1) N (x.2.2.2.1, ())
theorem ref2_checkCases_b_lp0 (N : Nat) (r_ref2_checkCases : (List (Str × GValue)) → Option (Int)) : ∀ st k, (∀ st, k .ret st = (resD (ref2_checkCases_b_E N r_ref2_checkCases) Tryz.f48 (ref2_checkCases_b_sg fun x _ => ref2_checkCases_b N r_ref2_checkCases x.1) ref2_checkCases_b_pk) st) → ref2_checkCases_b_LP N r_ref2_checkCases 0 (cAt (bodyOf Tryz.f48) [true, true, false, true, false, false]) st k = iter (Env.hint (ref2_checkCases_b_E N r_ref2_checkCases) 0) (exec (ref2_checkCases_b_E N r_ref2_checkCases) N (cAt (bodyOf Tryz.f48) [true, true, false, true, false, false]) 0) N st k := fun st k hk => LPc_eq 59 ref2_checkCases_b_L0_fs ref2_checkCases_b_L0_bs _ _ (resD (ref2_checkCases_b_E N r_ref2_checkCases) Tryz.f48 (ref2_checkCases_b_sg fun x _ => ref2_checkCases_b N r_ref2_checkCases x.1) ref2_checkCases_b_pk) (ref2_checkCases_b_L0_ok N r_ref2_checkCases) _ st k hk (rfl)
theorem ref2_checkCases_b_core (N : Nat) (r_ref2_checkCases : (List (Str × GValue)) → Option (Int)) (x : SV [.v (.sl (.pr .str (.rc .value)))]) (y : BV []) : runL (ref2_checkCases_b_E N r_ref2_checkCases) Tryz.f48 (ref2_checkCases_b_sg fun x _ => ref2_checkCases_b N r_ref2_checkCases x.1) ref2_checkCases_b_pk (ref2_checkCases_b_LP N r_ref2_checkCases) x y = ref2_checkCases_b N r_ref2_checkCases x.1 := by kernel_rfl
theorem ref2_checkCases_b_sound (N : Nat) (r_ref2_checkCases : (List (Str × GValue)) → Option (Int)) (h_ref2_checkCases : Sound Tryz.prog GW B0G 48 (ref2_checkCases_sg fun x y => r_ref2_checkCases x.1)) : Sound Tryz.prog GW B0G 48 (ref2_checkCases_b_sg fun x _ => ref2_checkCases_b N r_ref2_checkCases x.1) :=
  runD_sound (mkE_ok ref2_checkCases_b_h (ref2_checkCases_b_fn N r_ref2_checkCases) _ _ (ref2_checkCases_b_fn_ok N r_ref2_checkCases h_ref2_checkCases)) Tryz.func48 rfl Tryz.call48 (ref2_checkCases_b_sg fun x _ => ref2_checkCases_b N r_ref2_checkCases x.1) ref2_checkCases_b_pk (fun _ _ => rfl) N (fun x y _ h => ((runL_eq (ref2_checkCases_b_E N r_ref2_checkCases) N Tryz.f48 (ref2_checkCases_b_sg fun x _ => ref2_checkCases_b N r_ref2_checkCases x.1) ref2_checkCases_b_pk (ref2_checkCases_b_LP N r_ref2_checkCases) (show LoopsOk (ref2_checkCases_b_LP N r_ref2_checkCases) (ref2_checkCases_b_E N r_ref2_checkCases) N (resD (ref2_checkCases_b_E N r_ref2_checkCases) Tryz.f48 (ref2_checkCases_b_sg fun x _ => ref2_checkCases_b N r_ref2_checkCases x.1) ref2_checkCases_b_pk) [(0, (cAt (bodyOf Tryz.f48) [true, true, false, true, false, false])), (2, (cAt (bodyOf Tryz.f48) [true, true, false, true, false, false, true, true, false, false, true, true, false, true, false, false]))] from ⟨ref2_checkCases_b_lp0 N r_ref2_checkCases, ref2_checkCases_b_lp2 N r_ref2_checkCases, trivial⟩) x y).trans (ref2_checkCases_b_core N r_ref2_checkCases x y)).trans h)
def ref2_checkCases (N : Nat) : Nat → (List (Str × GValue)) → Option (Int)
  | 0 => fun _ => none
  | d + 1 => ref2_checkCases_b N (ref2_checkCases N d)
theorem ref2_checkCases_sound (N : Nat) : ∀ d, Sound Tryz.prog GW B0G 48 (ref2_checkCases_sg fun x y => ref2_checkCases N d x.1)
  | 0 => Sound.never Tryz.call48 (fun _ _ => rfl)
  | d + 1 => ref2_checkCases_b_sound N (ref2_checkCases N d) (ref2_checkCases_sound N d)
def ref2_kindOf (_N : Nat) (x0 : GValue) : Option Int :=
  br (x0.kind == (4 : Int))
    (bnd (geti x0.cases (0 : Int)) fun t8 =>
    some t8.2.kind)
    (some x0.kind)
abbrev ref2_kindOf_sg (f : SV [.v (.rc .value)] → BV [] → Option (Int)) : AF := { ps := [.v (.rc .value)], bs := [], rs := [.v (.int .i64)], cs := [], R := Int, out := fun z => ((z, ()), ()), f := f }
abbrev ref2_kindOf_pk : SV [.v (.int .i64)] → BV [] → Int := fun x _ => x.1
def ref2_kindOf_fn (_N : Nat) : FuncId → Option Tmp → Option AF := fun f _ =>
  match f with
    | _ => none
theorem ref2_kindOf_fn_ok (N : Nat) : ∀ f q F, ref2_kindOf_fn N f q = some F → Sound Tryz.prog GW B0G f F := by
  intro f q F h
  unfold ref2_kindOf_fn at h
  split at h
  · cases h
def ref2_kindOf_h : Nat → Hint := fun i =>
  match i with
  | _ => ⟨[], [], [], [], [], []⟩
abbrev ref2_kindOf_E (N : Nat) : Env := mkE ref2_kindOf_h (ref2_kindOf_fn N) (fun _ => false) (fun _ => false)
noncomputable def ref2_kindOf_LP (N : Nat) : Nat → Code → St → (Ex → St → Option Int) → Option Int := fun i c =>
  match i with
  | i => fun st k => iter (ref2_kindOf_h i) (exec (ref2_kindOf_E N) N c i) N st k
theorem ref2_kindOf_core (N : Nat) (x : SV [.v (.rc .value)]) (y : BV []) : runL (ref2_kindOf_E N) Tryz.f38 (ref2_kindOf_sg fun x _ => ref2_kindOf N x.1) ref2_kindOf_pk (ref2_kindOf_LP N) x y = ref2_kindOf N x.1 := by kernel_rfl
theorem ref2_kindOf_sound (N : Nat) : Sound Tryz.prog GW B0G 38 (ref2_kindOf_sg fun x _ => ref2_kindOf N x.1) :=
  runD_sound (mkE_ok ref2_kindOf_h (ref2_kindOf_fn N) _ _ (ref2_kindOf_fn_ok N)) Tryz.func38 rfl Tryz.call38 (ref2_kindOf_sg fun x _ => ref2_kindOf N x.1) ref2_kindOf_pk (fun _ _ => rfl) N (fun x y _ h => ((runL_eq (ref2_kindOf_E N) N Tryz.f38 (ref2_kindOf_sg fun x _ => ref2_kindOf N x.1) ref2_kindOf_pk (ref2_kindOf_LP N) (show LoopsOk (ref2_kindOf_LP N) (ref2_kindOf_E N) N (resD (ref2_kindOf_E N) Tryz.f38 (ref2_kindOf_sg fun x _ => ref2_kindOf N x.1) ref2_kindOf_pk) [] from trivial) x y).trans (ref2_kindOf_core N x y)).trans h)
abbrev ref2_sum_sg (f : SV [.v (.rc .value), .v (.rc .value)] → BV [] → Option (GValue)) : AF := { ps := [.v (.rc .value), .v (.rc .value)], bs := [], rs := [.v (.rc .value)], cs := [], R := GValue, out := fun z => ((z, ()), ()), f := f }
def ref2_sum_b_L0T (_N : Nat) (r_ref2_sum : GValue → GValue → Option (GValue)) (c34 : List (Str × GValue)) (c35 : Int) (c1003_0 : Int) (c1003_1 : Str) (c1003_2 : Int) (c1003_3 : List Str) (c1003_4 : List (Str × GValue)) (k1 : (List (Str × GValue)) → Option GValue) (self : Int → (List (Str × GValue)) → Option GValue) (s36 : Int) (w900001 : List (Str × GValue)) : Option GValue :=
  br (decide (s36 < c35))
    (bnd (geti c34 s36) fun t38 =>
    bnd (r_ref2_sum (GValue.mk t38.2.kind t38.2.text t38.2.number t38.2.list t38.2.cases) (GValue.mk c1003_0 c1003_1 c1003_2 c1003_3 c1003_4)) fun t47 =>
    br (decide ((w900001.length + [(t38.1, GValue.mk t47.kind t47.text t47.number t47.list t47.cases)].length) * (24 * Ty.sz (.pr .str (.rc .value))) ≤ 140737488355328))
      (self (IntKind.i64.wrap (s36 + (1 : Int))) (w900001 ++ [(t38.1, GValue.mk t47.kind t47.text t47.number t47.list t47.cases)]))
      none)
    (k1 w900001)
def ref2_sum_b_L0 (N : Nat) (r_ref2_sum : GValue → GValue → Option (GValue)) (c34 : List (Str × GValue)) (c35 : Int) (c1003_0 : Int) (c1003_1 : Str) (c1003_2 : Int) (c1003_3 : List Str) (c1003_4 : List (Str × GValue)) (k1 : (List (Str × GValue)) → Option GValue) : Nat → Int → (List (Str × GValue)) → Option GValue
  | 0, _, _ => none
  | n + 1, s36, w900001 => ref2_sum_b_L0T N r_ref2_sum c34 c35 c1003_0 c1003_1 c1003_2 c1003_3 c1003_4 k1 (ref2_sum_b_L0 N r_ref2_sum c34 c35 c1003_0 c1003_1 c1003_2 c1003_3 c1003_4 k1 n) s36 w900001
def ref2_sum_b_L1T (_N : Nat) (r_ref2_sum : GValue → GValue → Option (GValue)) (c58 : List (Str × GValue)) (c59 : Int) (c1002_0 : Int) (c1002_1 : Str) (c1002_2 : Int) (c1002_3 : List Str) (c1002_4 : List (Str × GValue)) (k3 : (List (Str × GValue)) → Option GValue) (self : Int → (List (Str × GValue)) → Option GValue) (s60 : Int) (w900002 : List (Str × GValue)) : Option GValue :=
  br (decide (s60 < c59))
    (bnd (geti c58 s60) fun t62 =>
    bnd (r_ref2_sum (GValue.mk c1002_0 c1002_1 c1002_2 c1002_3 c1002_4) (GValue.mk t62.2.kind t62.2.text t62.2.number t62.2.list t62.2.cases)) fun t71 =>
    br (decide ((w900002.length + [(t62.1, GValue.mk t71.kind t71.text t71.number t71.list t71.cases)].length) * (24 * Ty.sz (.pr .str (.rc .value))) ≤ 140737488355328))
      (self (IntKind.i64.wrap (s60 + (1 : Int))) (w900002 ++ [(t62.1, GValue.mk t71.kind t71.text t71.number t71.list t71.cases)]))
      none)
    (k3 w900002)
def ref2_sum_b_L1 (N : Nat) (r_ref2_sum : GValue → GValue → Option (GValue)) (c58 : List (Str × GValue)) (c59 : Int) (c1002_0 : Int) (c1002_1 : Str) (c1002_2 : Int) (c1002_3 : List Str) (c1002_4 : List (Str × GValue)) (k3 : (List (Str × GValue)) → Option GValue) : Nat → Int → (List (Str × GValue)) → Option GValue
  | 0, _, _ => none
  | n + 1, s60, w900002 => ref2_sum_b_L1T N r_ref2_sum c58 c59 c1002_0 c1002_1 c1002_2 c1002_3 c1002_4 k3 (ref2_sum_b_L1 N r_ref2_sum c58 c59 c1002_0 c1002_1 c1002_2 c1002_3 c1002_4 k3 n) s60 w900002
def ref2_sum_b (N : Nat) (r_ref2_sum : GValue → GValue → Option (GValue)) (x0 : GValue) (x1 : GValue) : Option GValue :=
  br (x0.kind == (4 : Int))
    (ref2_sum_b_L0 N r_ref2_sum x0.cases (x0.cases.length : Int) x1.kind x1.text x1.number x1.list x1.cases (fun o0_w900001 =>
        some (GValue.mk (4 : Int) ([] : Str) (0 : Int) ([] : List Str) o0_w900001)) N (0 : Int) ([] : List (Str × GValue)))
    (br (x1.kind == (4 : Int))
      (ref2_sum_b_L1 N r_ref2_sum x1.cases (x1.cases.length : Int) x0.kind x0.text x0.number x0.list x0.cases (fun o1_w900002 =>
          some (GValue.mk (4 : Int) ([] : Str) (0 : Int) ([] : List Str) o1_w900002)) N (0 : Int) ([] : List (Str × GValue)))
      (br (decide (x0.text.length + x1.text.length ≤ 9223372036854775807))
        (bnd (slices_Concat_string_string N [x0.list, x1.list]) fun t27 =>
        some (GValue.mk x0.kind (x0.text ++ x1.text) (IntKind.i64.wrap (x0.number + x1.number)) t27 ([] : List (Str × GValue))))
        none))
abbrev ref2_sum_b_sg (f : SV [.v (.rc .value), .v (.rc .value)] → BV [] → Option (GValue)) : AF := { ps := [.v (.rc .value), .v (.rc .value)], bs := [], rs := [.v (.rc .value)], cs := [], R := GValue, out := fun z => ((z, ()), ()), f := f }
abbrev ref2_sum_b_pk : SV [.v (.rc .value)] → BV [] → GValue := fun x _ => x.1
def ref2_sum_b_fn (N : Nat) (r_ref2_sum : GValue → GValue → Option (GValue)) : FuncId → Option Tmp → Option AF := fun f _ =>
  match f with
    | 39 => some (ref2_sum_sg fun x _ => r_ref2_sum x.1 x.2.1)
    | 86 => some (slices_Concat_string_string_sg fun x _ => slices_Concat_string_string N x.1)
    | _ => none
theorem ref2_sum_b_fn_ok (N : Nat) (r_ref2_sum : GValue → GValue → Option (GValue)) (h_ref2_sum : Sound Tryz.prog GW B0G 39 (ref2_sum_sg fun x y => r_ref2_sum x.1 x.2.1)) : ∀ f q F, ref2_sum_b_fn N r_ref2_sum f q = some F → Sound Tryz.prog GW B0G f F := by
  intro f q F h
  unfold ref2_sum_b_fn at h
  split at h
  · cases h; exact h_ref2_sum
  · cases h; exact slices_Concat_string_string_sound N
  · cases h
def ref2_sum_b_h : Nat → Hint := fun i =>
  match i with
  | 1 => ⟨[], [3, 4, 5, 34, 35, 36], [1003, 1004, 1005, 900001], [4, 5], [1004, 1005, 900001], [(1005, 4, 900001, 75, (.pr .str (.rc .value)))]⟩
  | 3 => ⟨[], [2, 4, 5, 58, 59, 60], [1002, 1004, 1005, 900002], [4, 5], [1004, 1005, 900002], [(1005, 4, 900002, 75, (.pr .str (.rc .value)))]⟩
  | 100002 => ⟨[1002, 1003], [], [], [], [], []⟩
  | 100007 => ⟨[1003, 1005, 1007, 900001], [], [], [], [], []⟩
  | 100013 => ⟨[1002, 1005, 1009, 900002], [], [], [], [], []⟩
  | _ => ⟨[], [], [], [], [], []⟩
abbrev ref2_sum_b_E (N : Nat) (r_ref2_sum : GValue → GValue → Option (GValue)) : Env := mkE ref2_sum_b_h (ref2_sum_b_fn N r_ref2_sum) (fun _ => false) (fun _ => false)
abbrev ref2_sum_b_L0_fs : List (Nat × Sl) := [(3, .box 1003 0), (4, .box 1004 0), (5, .box 1005 0), (34, .v (.sl (.pr .str (.rc .value)))), (35, .v (.int .i64)), (36, .v (.int .i64))]
abbrev ref2_sum_b_L0_bs : List (Nat × Sb) := [(1003, .cells [.v (.int .i64), .v .str, .v (.int .i64), .v (.sl .str), .v (.sl (.pr .str (.rc .value)))]), (1004, .cells [.v (.int .i64), .v .str, .v (.int .i64), .nilS, .nilS]), (1005, .cells [.v (.int .i64), .v .str, .v (.int .i64), .nilS, .row 900001]), (900001, .row 75 (.pr .str (.rc .value)) false)]
def ref2_sum_b_L0_hd (c34 : List (Str × GValue)) (c35 : Int) (c1003_0 : Int) (c1003_1 : Str) (c1003_2 : Int) (c1003_3 : List Str) (c1003_4 : List (Str × GValue)) (c1004_0 : Int) (c1004_1 : Str) (c1004_2 : Int) (c1005_0 : Int) (c1005_1 : Str) (c1005_2 : Int) (s36 : Int) (w900001 : List (Str × GValue)) : St := ⟨79, [(3, .box 1003 0), (4, .box 1004 0), (5, .box 1005 0), (34, .v (.sl (.pr .str (.rc .value))) c34), (35, .v (.int .i64) c35), (36, .v (.int .i64) s36)], [(1003, .cells [.v (.int .i64) c1003_0, .v .str c1003_1, .v (.int .i64) c1003_2, .v (.sl .str) c1003_3, .v (.sl (.pr .str (.rc .value))) c1003_4]), (1004, .cells [.v (.int .i64) c1004_0, .v .str c1004_1, .v (.int .i64) c1004_2, .nilS, .nilS]), (1005, .cells [.v (.int .i64) c1005_0, .v .str c1005_1, .v (.int .i64) c1005_2, .nilS, .row 900001]), (900001, .row 75 (.pr .str (.rc .value)) false w900001)]⟩
def ref2_sum_b_L0_tl1 (_c34 : List (Str × GValue)) (_c35 : Int) (_c1003_0 : Int) (_c1003_1 : Str) (_c1003_2 : Int) (_c1003_3 : List Str) (_c1003_4 : List (Str × GValue)) (c1004_0 : Int) (c1004_1 : Str) (c1004_2 : Int) (c1005_0 : Int) (c1005_1 : Str) (c1005_2 : Int) (o0_w900001 : List (Str × GValue)) : St := ⟨79, [(4, .box 1004 0), (5, .box 1005 0)], [(1004, .cells [.v (.int .i64) c1004_0, .v .str c1004_1, .v (.int .i64) c1004_2, .nilS, .nilS]), (1005, .cells [.v (.int .i64) c1005_0, .v .str c1005_1, .v (.int .i64) c1005_2, .nilS, .row 900001]), (900001, .row 75 (.pr .str (.rc .value)) false o0_w900001)]⟩
def ref2_sum_b_L0_G (N : Nat) (r_ref2_sum : GValue → GValue → Option (GValue)) (c34 : List (Str × GValue)) (c35 : Int) (c1003_0 : Int) (c1003_1 : Str) (c1003_2 : Int) (c1003_3 : List Str) (c1003_4 : List (Str × GValue)) (c1004_0 : Int) (c1004_1 : Str) (c1004_2 : Int) (c1005_0 : Int) (c1005_1 : Str) (c1005_2 : Int) (s36 : Int) (w900001 : List (Str × GValue)) (k : Ex → St → Option GValue) : Option GValue :=
  ref2_sum_b_L0 N r_ref2_sum c34 c35 c1003_0 c1003_1 c1003_2 c1003_3 c1003_4 (fun o0_w900001 => k (.exit 1) (ref2_sum_b_L0_tl1 c34 c35 c1003_0 c1003_1 c1003_2 c1003_3 c1003_4 c1004_0 c1004_1 c1004_2 c1005_0 c1005_1 c1005_2 o0_w900001)) N s36 w900001
abbrev ref2_sum_b_L0_F (N : Nat) (r_ref2_sum : GValue → GValue → Option (GValue)) : FV ref2_sum_b_L0_fs → HV ref2_sum_b_L0_bs → (Ex → St → Option GValue) → Option GValue := fun x y k => ref2_sum_b_L0_G N r_ref2_sum x.2.2.2.1 x.2.2.2.2.1 y.1.1 y.1.2.1 y.1.2.2.1 y.1.2.2.2.1 y.1.2.2.2.2.1 y.2.1.1 y.2.1.2.1 y.2.1.2.2.1 y.2.2.1.1 y.2.2.1.2.1 y.2.2.1.2.2.1 x.2.2.2.2.2.1 y.2.2.2.1 k
abbrev ref2_sum_b_L1_fs : List (Nat × Sl) := [(2, .box 1002 0), (4, .box 1004 0), (5, .box 1005 0), (58, .v (.sl (.pr .str (.rc .value)))), (59, .v (.int .i64)), (60, .v (.int .i64))]
abbrev ref2_sum_b_L1_bs : List (Nat × Sb) := [(1002, .cells [.v (.int .i64), .v .str, .v (.int .i64), .v (.sl .str), .v (.sl (.pr .str (.rc .value)))]), (1004, .cells [.v (.int .i64), .v .str, .v (.int .i64), .nilS, .nilS]), (1005, .cells [.v (.int .i64), .v .str, .v (.int .i64), .nilS, .row 900002]), (900002, .row 75 (.pr .str (.rc .value)) false)]
def ref2_sum_b_L1_hd (c58 : List (Str × GValue)) (c59 : Int) (c1002_0 : Int) (c1002_1 : Str) (c1002_2 : Int) (c1002_3 : List Str) (c1002_4 : List (Str × GValue)) (c1004_0_1 : Int) (c1004_1_2 : Str) (c1004_2_3 : Int) (c1005_0_4 : Int) (c1005_1_5 : Str) (c1005_2_6 : Int) (s60 : Int) (w900002 : List (Str × GValue)) : St := ⟨79, [(2, .box 1002 0), (4, .box 1004 0), (5, .box 1005 0), (58, .v (.sl (.pr .str (.rc .value))) c58), (59, .v (.int .i64) c59), (60, .v (.int .i64) s60)], [(1002, .cells [.v (.int .i64) c1002_0, .v .str c1002_1, .v (.int .i64) c1002_2, .v (.sl .str) c1002_3, .v (.sl (.pr .str (.rc .value))) c1002_4]), (1004, .cells [.v (.int .i64) c1004_0_1, .v .str c1004_1_2, .v (.int .i64) c1004_2_3, .nilS, .nilS]), (1005, .cells [.v (.int .i64) c1005_0_4, .v .str c1005_1_5, .v (.int .i64) c1005_2_6, .nilS, .row 900002]), (900002, .row 75 (.pr .str (.rc .value)) false w900002)]⟩
def ref2_sum_b_L1_tl3 (_c58 : List (Str × GValue)) (_c59 : Int) (_c1002_0 : Int) (_c1002_1 : Str) (_c1002_2 : Int) (_c1002_3 : List Str) (_c1002_4 : List (Str × GValue)) (c1004_0_1 : Int) (c1004_1_2 : Str) (c1004_2_3 : Int) (c1005_0_4 : Int) (c1005_1_5 : Str) (c1005_2_6 : Int) (o1_w900002 : List (Str × GValue)) : St := ⟨79, [(4, .box 1004 0), (5, .box 1005 0)], [(1004, .cells [.v (.int .i64) c1004_0_1, .v .str c1004_1_2, .v (.int .i64) c1004_2_3, .nilS, .nilS]), (1005, .cells [.v (.int .i64) c1005_0_4, .v .str c1005_1_5, .v (.int .i64) c1005_2_6, .nilS, .row 900002]), (900002, .row 75 (.pr .str (.rc .value)) false o1_w900002)]⟩
def ref2_sum_b_L1_G (N : Nat) (r_ref2_sum : GValue → GValue → Option (GValue)) (c58 : List (Str × GValue)) (c59 : Int) (c1002_0 : Int) (c1002_1 : Str) (c1002_2 : Int) (c1002_3 : List Str) (c1002_4 : List (Str × GValue)) (c1004_0_1 : Int) (c1004_1_2 : Str) (c1004_2_3 : Int) (c1005_0_4 : Int) (c1005_1_5 : Str) (c1005_2_6 : Int) (s60 : Int) (w900002 : List (Str × GValue)) (k : Ex → St → Option GValue) : Option GValue :=
  ref2_sum_b_L1 N r_ref2_sum c58 c59 c1002_0 c1002_1 c1002_2 c1002_3 c1002_4 (fun o1_w900002 => k (.exit 3) (ref2_sum_b_L1_tl3 c58 c59 c1002_0 c1002_1 c1002_2 c1002_3 c1002_4 c1004_0_1 c1004_1_2 c1004_2_3 c1005_0_4 c1005_1_5 c1005_2_6 o1_w900002)) N s60 w900002
abbrev ref2_sum_b_L1_F (N : Nat) (r_ref2_sum : GValue → GValue → Option (GValue)) : FV ref2_sum_b_L1_fs → HV ref2_sum_b_L1_bs → (Ex → St → Option GValue) → Option GValue := fun x y k => ref2_sum_b_L1_G N r_ref2_sum x.2.2.2.1 x.2.2.2.2.1 y.1.1 y.1.2.1 y.1.2.2.1 y.1.2.2.2.1 y.1.2.2.2.2.1 y.2.1.1 y.2.1.2.1 y.2.1.2.2.1 y.2.2.1.1 y.2.2.1.2.1 y.2.2.1.2.2.1 x.2.2.2.2.2.1 y.2.2.2.1 k
noncomputable def ref2_sum_b_LP (N : Nat) (r_ref2_sum : GValue → GValue → Option (GValue)) : Nat → Code → St → (Ex → St → Option GValue) → Option GValue := fun i c =>
  match i with
  | 1 => (LPc 79 ref2_sum_b_L0_fs ref2_sum_b_L0_bs (ref2_sum_b_L0_F N r_ref2_sum) (fun st k => iter (ref2_sum_b_h 1) (exec (ref2_sum_b_E N r_ref2_sum) N c 1) N st k))
  | 3 => (LPc 79 ref2_sum_b_L1_fs ref2_sum_b_L1_bs (ref2_sum_b_L1_F N r_ref2_sum) (fun st k => iter (ref2_sum_b_h 3) (exec (ref2_sum_b_E N r_ref2_sum) N c 3) N st k))
  | i => fun st k => iter (ref2_sum_b_h i) (exec (ref2_sum_b_E N r_ref2_sum) N c i) N st k
theorem ref2_sum_b_L1_step (N : Nat) (r_ref2_sum : GValue → GValue → Option (GValue)) (c58 : List (Str × GValue)) (c59 : Int) (c1002_0 : Int) (c1002_1 : Str) (c1002_2 : Int) (c1002_3 : List Str) (c1002_4 : List (Str × GValue)) (c1004_0_1 : Int) (c1004_1_2 : Str) (c1004_2_3 : Int) (c1005_0_4 : Int) (c1005_1_5 : Str) (c1005_2_6 : Int) (KX : Nat → St → Option GValue) (I : St → Option GValue) (s60 : Int) (w900002 : List (Str × GValue)) :
    execL (ref2_sum_b_LP N r_ref2_sum) (ref2_sum_b_E N r_ref2_sum) (cAt (bodyOf Tryz.f39) [true, true, false, false, true, true, true, false, true, false, false]) 3 (ref2_sum_b_L1_hd c58 c59 c1002_0 c1002_1 c1002_2 c1002_3 c1002_4 c1004_0_1 c1004_1_2 c1004_2_3 c1005_0_4 c1005_1_5 c1005_2_6 s60 w900002) (roundK (ref2_sum_b_h 3) I KX (resD (ref2_sum_b_E N r_ref2_sum) Tryz.f39 (ref2_sum_b_sg fun x _ => ref2_sum_b N r_ref2_sum x.1 x.2.1) ref2_sum_b_pk)) = ref2_sum_b_L1T N r_ref2_sum c58 c59 c1002_0 c1002_1 c1002_2 c1002_3 c1002_4 (fun o1_w900002 => KX 3 (ref2_sum_b_L1_tl3 c58 c59 c1002_0 c1002_1 c1002_2 c1002_3 c1002_4 c1004_0_1 c1004_1_2 c1004_2_3 c1005_0_4 c1005_1_5 c1005_2_6 o1_w900002)) (fun s60 w900002 => I (ref2_sum_b_L1_hd c58 c59 c1002_0 c1002_1 c1002_2 c1002_3 c1002_4 c1004_0_1 c1004_1_2 c1004_2_3 c1005_0_4 c1005_1_5 c1005_2_6 s60 w900002)) s60 w900002 := by kernel_rfl
theorem ref2_sum_b_L1_ok (N : Nat) (r_ref2_sum : GValue → GValue → Option (GValue)) : ∀ x y k, (∀ st, k .ret st = (resD (ref2_sum_b_E N r_ref2_sum) Tryz.f39 (ref2_sum_b_sg fun x _ => ref2_sum_b N r_ref2_sum x.1 x.2.1) ref2_sum_b_pk) st) → iter (ref2_sum_b_h 3) (exec (ref2_sum_b_E N r_ref2_sum) N (cAt (bodyOf Tryz.f39) [true, true, false, false, true, true, true, false, true, false, false]) 3) N ⟨79, unF ref2_sum_b_L1_fs x, unH ref2_sum_b_L1_bs y⟩ k = ref2_sum_b_L1_F N r_ref2_sum x y k := fun x y k hk =>
  iter_link (S := (Int) × (List (Str × GValue)) × Unit) (ref2_sum_b_h 3) _ (execL (ref2_sum_b_LP N r_ref2_sum) (ref2_sum_b_E N r_ref2_sum) (cAt (bodyOf Tryz.f39) [true, true, false, false, true, true, true, false, true, false, false]) 3) (resD (ref2_sum_b_E N r_ref2_sum) Tryz.f39 (ref2_sum_b_sg fun x _ => ref2_sum_b N r_ref2_sum x.1 x.2.1) ref2_sum_b_pk) (fun st k hk => execL_eq _ _ N _ (cAt (bodyOf Tryz.f39) [true, true, false, false, true, true, true, false, true, false, false]) 3 (show LoopsOk (ref2_sum_b_LP N r_ref2_sum) (ref2_sum_b_E N r_ref2_sum) N (resD (ref2_sum_b_E N r_ref2_sum) Tryz.f39 (ref2_sum_b_sg fun x _ => ref2_sum_b N r_ref2_sum x.1 x.2.1) ref2_sum_b_pk) [] from trivial) st k hk) (fun s => ref2_sum_b_L1_hd x.2.2.2.1 x.2.2.2.2.1 y.1.1 y.1.2.1 y.1.2.2.1 y.1.2.2.2.1 y.1.2.2.2.2.1 y.2.1.1 y.2.1.2.1 y.2.1.2.2.1 y.2.2.1.1 y.2.2.1.2.1 y.2.2.1.2.2.1 s.1 s.2.1) k hk
    (fun self s => ref2_sum_b_L1T N r_ref2_sum x.2.2.2.1 x.2.2.2.2.1 y.1.1 y.1.2.1 y.1.2.2.1 y.1.2.2.2.1 y.1.2.2.2.2.1 (fun o1_w900002 => k (.exit 3) (ref2_sum_b_L1_tl3 x.2.2.2.1 x.2.2.2.2.1 y.1.1 y.1.2.1 y.1.2.2.1 y.1.2.2.2.1 y.1.2.2.2.2.1 y.2.1.1 y.2.1.2.1 y.2.1.2.2.1 y.2.2.1.1 y.2.2.1.2.1 y.2.2.1.2.2.1 o1_w900002)) (fun s60 w900002 => self (s60, w900002, ())) s.1 s.2.1) (fun n s => ref2_sum_b_L1 N r_ref2_sum x.2.2.2.1 x.2.2.2.2.1 y.1.1 y.1.2.1 y.1.2.2.1 y.1.2.2.2.1 y.1.2.2.2.2.1 (fun o1_w900002 => k (.exit 3) (ref2_sum_b_L1_tl3 x.2.2.2.1 x.2.2.2.2.1 y.1.1 y.1.2.1 y.1.2.2.1 y.1.2.2.2.1 y.1.2.2.2.2.1 y.2.1.1 y.2.1.2.1 y.2.1.2.2.1 y.2.2.1.1 y.2.2.1.2.1 y.2.2.1.2.2.1 o1_w900002)) n s.1 s.2.1) (fun _ => rfl) (fun _ _ => rfl)
    (fun I s => ref2_sum_b_L1_step N r_ref2_sum x.2.2.2.1 x.2.2.2.2.1 y.1.1 y.1.2.1 y.1.2.2.1 y.1.2.2.2.1 y.1.2.2.2.2.1 y.2.1.1 y.2.1.2.1 y.2.1.2.2.1 y.2.2.1.1 y.2.2.1.2.1 y.2.2.1.2.2.1 (fun j => k (.exit j)) I s.1 s.2.1) N (x.2.2.2.2.2.1, y.2.2.2.1, ())
theorem ref2_sum_b_lp3 (N : Nat) (r_ref2_sum : GValue → GValue → Option (GValue)) : ∀ st k, (∀ st, k .ret st = (resD (ref2_sum_b_E N r_ref2_sum) Tryz.f39 (ref2_sum_b_sg fun x _ => ref2_sum_b N r_ref2_sum x.1 x.2.1) ref2_sum_b_pk) st) → ref2_sum_b_LP N r_ref2_sum 3 (cAt (bodyOf Tryz.f39) [true, true, false, false, true, true, true, false, true, false, false]) st k = iter (Env.hint (ref2_sum_b_E N r_ref2_sum) 3) (exec (ref2_sum_b_E N r_ref2_sum) N (cAt (bodyOf Tryz.f39) [true, true, false, false, true, true, true, false, true, false, false]) 3) N st k := fun st k hk => LPc_eq 79 ref2_sum_b_L1_fs ref2_sum_b_L1_bs _ _ (resD (ref2_sum_b_E N r_ref2_sum) Tryz.f39 (ref2_sum_b_sg fun x _ => ref2_sum_b N r_ref2_sum x.1 x.2.1) ref2_sum_b_pk) (ref2_sum_b_L1_ok N r_ref2_sum) _ st k hk (rfl)
theorem ref2_sum_b_L0_step (N : Nat) (r_ref2_sum : GValue → GValue → Option (GValue)) (c34 : List (Str × GValue)) (c35 : Int) (c1003_0 : Int) (c1003_1 : Str) (c1003_2 : Int) (c1003_3 : List Str) (c1003_4 : List (Str × GValue)) (c1004_0 : Int) (c1004_1 : Str) (c1004_2 : Int) (c1005_0 : Int) (c1005_1 : Str) (c1005_2 : Int) (KX : Nat → St → Option GValue) (I : St → Option GValue) (s36 : Int) (w900001 : List (Str × GValue)) :
    execL (ref2_sum_b_LP N r_ref2_sum) (ref2_sum_b_E N r_ref2_sum) (cAt (bodyOf Tryz.f39) [true, true, false, false, true, false, true, false, false]) 1 (ref2_sum_b_L0_hd c34 c35 c1003_0 c1003_1 c1003_2 c1003_3 c1003_4 c1004_0 c1004_1 c1004_2 c1005_0 c1005_1 c1005_2 s36 w900001) (roundK (ref2_sum_b_h 1) I KX (resD (ref2_sum_b_E N r_ref2_sum) Tryz.f39 (ref2_sum_b_sg fun x _ => ref2_sum_b N r_ref2_sum x.1 x.2.1) ref2_sum_b_pk)) = ref2_sum_b_L0T N r_ref2_sum c34 c35 c1003_0 c1003_1 c1003_2 c1003_3 c1003_4 (fun o0_w900001 => KX 1 (ref2_sum_b_L0_tl1 c34 c35 c1003_0 c1003_1 c1003_2 c1003_3 c1003_4 c1004_0 c1004_1 c1004_2 c1005_0 c1005_1 c1005_2 o0_w900001)) (fun s36 w900001 => I (ref2_sum_b_L0_hd c34 c35 c1003_0 c1003_1 c1003_2 c1003_3 c1003_4 c1004_0 c1004_1 c1004_2 c1005_0 c1005_1 c1005_2 s36 w900001)) s36 w900001 := by kernel_rfl
theorem ref2_sum_b_L0_ok (N : Nat) (r_ref2_sum : GValue → GValue → Option (GValue)) : ∀ x y k, (∀ st, k .ret st = (resD (ref2_sum_b_E N r_ref2_sum) Tryz.f39 (ref2_sum_b_sg fun x _ => ref2_sum_b N r_ref2_sum x.1 x.2.1) ref2_sum_b_pk) st) → iter (ref2_sum_b_h 1) (exec (ref2_sum_b_E N r_ref2_sum) N (cAt (bodyOf Tryz.f39) [true, true, false, false, true, false, true, false, false]) 1) N ⟨79, unF ref2_sum_b_L0_fs x, unH ref2_sum_b_L0_bs y⟩ k = ref2_sum_b_L0_F N r_ref2_sum x y k := fun x y k hk =>
  iter_link (S := (Int) × (List (Str × GValue)) × Unit) (ref2_sum_b_h 1) _ (execL (ref2_sum_b_LP N r_ref2_sum) (ref2_sum_b_E N r_ref2_sum) (cAt (bodyOf Tryz.f39) [true, true, false, false, true, false, true, false, false]) 1) (resD (ref2_sum_b_E N r_ref2_sum) Tryz.f39 (ref2_sum_b_sg fun x _ => ref2_sum_b N r_ref2_sum x.1 x.2.1) ref2_sum_b_pk) (fun st k hk => execL_eq _ _ N _ (cAt (bodyOf Tryz.f39) [true, true, false, false, true, false, true, false, false]) 1 (show LoopsOk (ref2_sum_b_LP N r_ref2_sum) (ref2_sum_b_E N r_ref2_sum) N (resD (ref2_sum_b_E N r_ref2_sum) Tryz.f39 (ref2_sum_b_sg fun x _ => ref2_sum_b N r_ref2_sum x.1 x.2.1) ref2_sum_b_pk) [] from trivial) st k hk) (fun s => ref2_sum_b_L0_hd x.2.2.2.1 x.2.2.2.2.1 y.1.1 y.1.2.1 y.1.2.2.1 y.1.2.2.2.1 y.1.2.2.2.2.1 y.2.1.1 y.2.1.2.1 y.2.1.2.2.1 y.2.2.1.1 y.2.2.1.2.1 y.2.2.1.2.2.1 s.1 s.2.1) k hk
    (fun self s => ref2_sum_b_L0T N r_ref2_sum x.2.2.2.1 x.2.2.2.2.1 y.1.1 y.1.2.1 y.1.2.2.1 y.1.2.2.2.1 y.1.2.2.2.2.1 (fun o0_w900001 => k (.exit 1) (ref2_sum_b_L0_tl1 x.2.2.2.1 x.2.2.2.2.1 y.1.1 y.1.2.1 y.1.2.2.1 y.1.2.2.2.1 y.1.2.2.2.2.1 y.2.1.1 y.2.1.2.1 y.2.1.2.2.1 y.2.2.1.1 y.2.2.1.2.1 y.2.2.1.2.2.1 o0_w900001)) (fun s36 w900001 => self (s36, w900001, ())) s.1 s.2.1) (fun n s => ref2_sum_b_L0 N r_ref2_sum x.2.2.2.1 x.2.2.2.2.1 y.1.1 y.1.2.1 y.1.2.2.1 y.1.2.2.2.1 y.1.2.2.2.2.1 (fun o0_w900001 => k (.exit 1) (ref2_sum_b_L0_tl1 x.2.2.2.1 x.2.2.2.2.1 y.1.1 y.1.2.1 y.1.2.2.1 y.1.2.2.2.1 y.1.2.2.2.2.1 y.2.1.1 y.2.1.2.1 y.2.1.2.2.1 y.2.2.1.1 y.2.2.1.2.1 y.2.2.1.2.2.1 o0_w900001)) n s.1 s.2.1) (fun _ => rfl) (fun _ _ => rfl)
    (fun I s => ref2_sum_b_L0_step N r_ref2_sum x.2.2.2.1 x.2.2.2.2.1 y.1.1 y.1.2.1 y.1.2.2.1 y.1.2.2.2.1 y.1.2.2.2.2.1 y.2.1.1 y.2.1.2.1 y.2.1.2.2.1 y.2.2.1.1 y.2.2.1.2.1 y.2.2.1.2.2.1 (fun j => k (.exit j)) I s.1 s.2.1) N (x.2.2.2.2.2.1, y.2.2.2.1, ())
theorem ref2_sum_b_lp1 (N : Nat) (r_ref2_sum : GValue → GValue → Option (GValue)) : ∀ st k, (∀ st, k .ret st = (resD (ref2_sum_b_E N r_ref2_sum) Tryz.f39 (ref2_sum_b_sg fun x _ => ref2_sum_b N r_ref2_sum x.1 x.2.1) ref2_sum_b_pk) st) → ref2_sum_b_LP N r_ref2_sum 1 (cAt (bodyOf Tryz.f39) [true, true, false, false, true, false, true, false, false]) st k = iter (Env.hint (ref2_sum_b_E N r_ref2_sum) 1) (exec (ref2_sum_b_E N r_ref2_sum) N (cAt (bodyOf Tryz.f39) [true, true, false, false, true, false, true, false, false]) 1) N st k := fun st k hk => LPc_eq 79 ref2_sum_b_L0_fs ref2_sum_b_L0_bs _ _ (resD (ref2_sum_b_E N r_ref2_sum) Tryz.f39 (ref2_sum_b_sg fun x _ => ref2_sum_b N r_ref2_sum x.1 x.2.1) ref2_sum_b_pk) (ref2_sum_b_L0_ok N r_ref2_sum) _ st k hk (rfl)
theorem ref2_sum_b_core (N : Nat) (r_ref2_sum : GValue → GValue → Option (GValue)) (x : SV [.v (.rc .value), .v (.rc .value)]) (y : BV []) : runL (ref2_sum_b_E N r_ref2_sum) Tryz.f39 (ref2_sum_b_sg fun x _ => ref2_sum_b N r_ref2_sum x.1 x.2.1) ref2_sum_b_pk (ref2_sum_b_LP N r_ref2_sum) x y = ref2_sum_b N r_ref2_sum x.1 x.2.1 := by kernel_rfl
theorem ref2_sum_b_sound (N : Nat) (r_ref2_sum : GValue → GValue → Option (GValue)) (h_ref2_sum : Sound Tryz.prog GW B0G 39 (ref2_sum_sg fun x y => r_ref2_sum x.1 x.2.1)) : Sound Tryz.prog GW B0G 39 (ref2_sum_b_sg fun x _ => ref2_sum_b N r_ref2_sum x.1 x.2.1) :=
  runD_sound (mkE_ok ref2_sum_b_h (ref2_sum_b_fn N r_ref2_sum) _ _ (ref2_sum_b_fn_ok N r_ref2_sum h_ref2_sum)) Tryz.func39 rfl Tryz.call39 (ref2_sum_b_sg fun x _ => ref2_sum_b N r_ref2_sum x.1 x.2.1) ref2_sum_b_pk (fun _ _ => rfl) N (fun x y _ h => ((runL_eq (ref2_sum_b_E N r_ref2_sum) N Tryz.f39 (ref2_sum_b_sg fun x _ => ref2_sum_b N r_ref2_sum x.1 x.2.1) ref2_sum_b_pk (ref2_sum_b_LP N r_ref2_sum) (show LoopsOk (ref2_sum_b_LP N r_ref2_sum) (ref2_sum_b_E N r_ref2_sum) N (resD (ref2_sum_b_E N r_ref2_sum) Tryz.f39 (ref2_sum_b_sg fun x _ => ref2_sum_b N r_ref2_sum x.1 x.2.1) ref2_sum_b_pk) [(1, (cAt (bodyOf Tryz.f39) [true, true, false, false, true, false, true, false, false])), (3, (cAt (bodyOf Tryz.f39) [true, true, false, false, true, true, true, false, true, false, false]))] from ⟨ref2_sum_b_lp1 N r_ref2_sum, ref2_sum_b_lp3 N r_ref2_sum, trivial⟩) x y).trans (ref2_sum_b_core N r_ref2_sum x y)).trans h)
def ref2_sum (N : Nat) : Nat → GValue → GValue → Option (GValue)
  | 0 => fun _ _ => none
  | d + 1 => ref2_sum_b N (ref2_sum N d)
theorem ref2_sum_sound (N : Nat) : ∀ d, Sound Tryz.prog GW B0G 39 (ref2_sum_sg fun x y => ref2_sum N d x.1 x.2.1)
  | 0 => Sound.never Tryz.call39 (fun _ _ => rfl)
  | d + 1 => ref2_sum_b_sound N (ref2_sum N d) (ref2_sum_sound N d)
def ref2_Add (N : Nat) (x0 : GValue) (x1 : GValue) : Option (GValue × Int) :=
  bnd (ref2_CheckValue N (ref2_checkCases N N) (GValue.mk x0.kind x0.text x0.number x0.list x0.cases)) fun t11 =>
  br (t11 != (0 : Int))
    (some (GValue.mk (0 : Int) ([] : Str) (0 : Int) ([] : List Str) ([] : List (Str × GValue)), t11))
    (bnd (ref2_CheckValue N (ref2_checkCases N N) (GValue.mk x1.kind x1.text x1.number x1.list x1.cases)) fun t17 =>
    br (t17 != (0 : Int))
      (some (GValue.mk (0 : Int) ([] : Str) (0 : Int) ([] : List Str) ([] : List (Str × GValue)), t17))
      (bnd (ref2_kindOf N (GValue.mk x0.kind x0.text x0.number x0.list x0.cases)) fun t23 =>
      bnd (ref2_kindOf N (GValue.mk x1.kind x1.text x1.number x1.list x1.cases)) fun t25 =>
      br (t23 != t25)
        (some (GValue.mk (0 : Int) ([] : Str) (0 : Int) ([] : List Str) ([] : List (Str × GValue)), (6 : Int)))
        (br (x0.kind == (4 : Int))
          (br (x1.kind == (4 : Int))
            (some (GValue.mk (0 : Int) ([] : Str) (0 : Int) ([] : List Str) ([] : List (Str × GValue)), (6 : Int)))
            (bnd (ref2_sum N N (GValue.mk x0.kind x0.text x0.number x0.list x0.cases) (GValue.mk x1.kind x1.text x1.number x1.list x1.cases)) fun t40 =>
            bnd (ref2_CheckValue N (ref2_checkCases N N) (GValue.mk t40.kind t40.text t40.number t40.list t40.cases)) fun t42 =>
            br (t42 != (0 : Int))
              (some (GValue.mk (0 : Int) ([] : Str) (0 : Int) ([] : List Str) ([] : List (Str × GValue)), t42))
              (some (GValue.mk t40.kind t40.text t40.number t40.list t40.cases, (0 : Int)))))
          (bnd (ref2_sum N N (GValue.mk x0.kind x0.text x0.number x0.list x0.cases) (GValue.mk x1.kind x1.text x1.number x1.list x1.cases)) fun t40_1 =>
          bnd (ref2_CheckValue N (ref2_checkCases N N) (GValue.mk t40_1.kind t40_1.text t40_1.number t40_1.list t40_1.cases)) fun t42_2 =>
          br (t42_2 != (0 : Int))
            (some (GValue.mk (0 : Int) ([] : Str) (0 : Int) ([] : List Str) ([] : List (Str × GValue)), t42_2))
            (some (GValue.mk t40_1.kind t40_1.text t40_1.number t40_1.list t40_1.cases, (0 : Int)))))))
abbrev ref2_Add_sg (f : SV [.v (.rc .value), .v (.rc .value)] → BV [] → Option (GValue × Int)) : AF := { ps := [.v (.rc .value), .v (.rc .value)], bs := [], rs := [.v (.rc .value), .v (.int .i64)], cs := [], R := GValue × Int, out := fun z => ((z.1, z.2, ()), ()), f := f }
abbrev ref2_Add_pk : SV [.v (.rc .value), .v (.int .i64)] → BV [] → (GValue × Int) := fun x _ => (x.1, x.2.1)
def ref2_Add_fn (N : Nat) : FuncId → Option Tmp → Option AF := fun f _ =>
  match f with
    | 15 => some (ref2_CheckValue_sg fun x _ => ref2_CheckValue N (ref2_checkCases N N) x.1)
    | 38 => some (ref2_kindOf_sg fun x _ => ref2_kindOf N x.1)
    | 39 => some (ref2_sum_sg fun x _ => ref2_sum N N x.1 x.2.1)
    | _ => none
theorem ref2_Add_fn_ok (N : Nat) : ∀ f q F, ref2_Add_fn N f q = some F → Sound Tryz.prog GW B0G f F := by
  intro f q F h
  unfold ref2_Add_fn at h
  split at h
  · cases h; exact ref2_CheckValue_sound N (ref2_checkCases N N) (ref2_checkCases_sound N N)
  · cases h; exact ref2_kindOf_sound N
  · cases h; exact ref2_sum_sound N N
  · cases h
def ref2_Add_h : Nat → Hint := fun i =>
  match i with
  | _ => ⟨[], [], [], [], [], []⟩
abbrev ref2_Add_E (N : Nat) : Env := mkE ref2_Add_h (ref2_Add_fn N) (fun _ => false) (fun _ => false)
noncomputable def ref2_Add_LP (N : Nat) : Nat → Code → St → (Ex → St → Option (GValue × Int)) → Option (GValue × Int) := fun i c =>
  match i with
  | i => fun st k => iter (ref2_Add_h i) (exec (ref2_Add_E N) N c i) N st k
theorem ref2_Add_core (N : Nat) (x : SV [.v (.rc .value), .v (.rc .value)]) (y : BV []) : runL (ref2_Add_E N) Tryz.f13 (ref2_Add_sg fun x _ => ref2_Add N x.1 x.2.1) ref2_Add_pk (ref2_Add_LP N) x y = ref2_Add N x.1 x.2.1 := by kernel_rfl
theorem ref2_Add_sound (N : Nat) : Sound Tryz.prog GW B0G 13 (ref2_Add_sg fun x _ => ref2_Add N x.1 x.2.1) :=
  runD_sound (mkE_ok ref2_Add_h (ref2_Add_fn N) _ _ (ref2_Add_fn_ok N)) Tryz.func13 rfl Tryz.call13 (ref2_Add_sg fun x _ => ref2_Add N x.1 x.2.1) ref2_Add_pk (fun _ _ => rfl) N (fun x y _ h => ((runL_eq (ref2_Add_E N) N Tryz.f13 (ref2_Add_sg fun x _ => ref2_Add N x.1 x.2.1) ref2_Add_pk (ref2_Add_LP N) (show LoopsOk (ref2_Add_LP N) (ref2_Add_E N) N (resD (ref2_Add_E N) Tryz.f13 (ref2_Add_sg fun x _ => ref2_Add N x.1 x.2.1) ref2_Add_pk) [] from trivial) x y).trans (ref2_Add_core N x y)).trans h)
abbrev script_Equal_1_sg (f : SV [.v (.pr .str (.rc .value)), .v (.pr .str (.rc .value))] → BV [] → Option (Bool)) : AF := { ps := [.v (.pr .str (.rc .value)), .v (.pr .str (.rc .value))], bs := [], rs := [.v .bool], cs := [], R := Bool, out := fun z => ((z, ()), ()), f := f }
def slices_EqualFunc_api_Case_L0T (_N : Nat) (r_script_Equal_1 : (Str × GValue) → (Str × GValue) → Option (Bool)) (x1 : List (Str × GValue)) (x0 : List (Str × GValue)) (c16 : Int) (k0 : Option Bool) (self : Int → Option Bool) (s17 : Int) : Option Bool :=
  br (decide (s17 < c16))
    (bnd (geti x0 s17) fun t20 =>
    bnd (geti x1 s17) fun t24 =>
    bnd (r_script_Equal_1 (t20.1, GValue.mk t20.2.kind t20.2.text t20.2.number t20.2.list t20.2.cases) (t24.1, GValue.mk t24.2.kind t24.2.text t24.2.number t24.2.list t24.2.cases)) fun t29 =>
    br (!t29)
      (some false)
      (self (IntKind.i64.wrap (s17 + (1 : Int)))))
    (k0)
def slices_EqualFunc_api_Case_L0 (N : Nat) (r_script_Equal_1 : (Str × GValue) → (Str × GValue) → Option (Bool)) (x1 : List (Str × GValue)) (x0 : List (Str × GValue)) (c16 : Int) (k0 : Option Bool) : Nat → Int → Option Bool
  | 0, _ => none
  | n + 1, s17 => slices_EqualFunc_api_Case_L0T N r_script_Equal_1 x1 x0 c16 k0 (slices_EqualFunc_api_Case_L0 N r_script_Equal_1 x1 x0 c16 k0 n) s17
def slices_EqualFunc_api_Case (N : Nat) (r_script_Equal_1 : (Str × GValue) → (Str × GValue) → Option (Bool)) (x0 : List (Str × GValue)) (x1 : List (Str × GValue)) (_x2 : Unit) : Option Bool :=
  br ((x0.length : Int) != (x1.length : Int))
    (some false)
    (slices_EqualFunc_api_Case_L0 N r_script_Equal_1 x1 x0 (x0.length : Int) (some true) N (0 : Int))
abbrev slices_EqualFunc_api_Case_sg (f : SV [.v (.sl (.pr .str (.rc .value))), .v (.sl (.pr .str (.rc .value))), .v (.clo 93 .un)] → BV [] → Option (Bool)) : AF := { ps := [.v (.sl (.pr .str (.rc .value))), .v (.sl (.pr .str (.rc .value))), .v (.clo 93 .un)], bs := [], rs := [.v .bool], cs := [], R := Bool, out := fun z => ((z, ()), ()), f := f }
abbrev slices_EqualFunc_api_Case_pk : SV [.v .bool] → BV [] → Bool := fun x _ => x.1
def slices_EqualFunc_api_Case_fn (_N : Nat) (r_script_Equal_1 : (Str × GValue) → (Str × GValue) → Option (Bool)) : FuncId → Option Tmp → Option AF := fun f _ =>
  match f with
    | 93 => some (script_Equal_1_sg fun x _ => r_script_Equal_1 x.1 x.2.1)
    | _ => none
theorem slices_EqualFunc_api_Case_fn_ok (N : Nat) (r_script_Equal_1 : (Str × GValue) → (Str × GValue) → Option (Bool)) (h_script_Equal_1 : Sound Tryz.prog GW B0G 93 (script_Equal_1_sg fun x y => r_script_Equal_1 x.1 x.2.1)) : ∀ f q F, slices_EqualFunc_api_Case_fn N r_script_Equal_1 f q = some F → Sound Tryz.prog GW B0G f F := by
  intro f q F h
  unfold slices_EqualFunc_api_Case_fn at h
  split at h
  · cases h; exact h_script_Equal_1
  · cases h
def slices_EqualFunc_api_Case_h : Nat → Hint := fun i =>
  match i with
  | 0 => ⟨[], [1, 2, 15, 16, 17], [], [], [], []⟩
  | _ => ⟨[], [], [], [], [], []⟩
abbrev slices_EqualFunc_api_Case_E (N : Nat) (r_script_Equal_1 : (Str × GValue) → (Str × GValue) → Option (Bool)) : Env := mkE slices_EqualFunc_api_Case_h (slices_EqualFunc_api_Case_fn N r_script_Equal_1) (fun _ => false) (fun _ => false)
abbrev slices_EqualFunc_api_Case_L0_fs : List (Nat × Sl) := [(1, .v (.sl (.pr .str (.rc .value)))), (2, .v (.clo 93 .un)), (15, .v (.sl (.pr .str (.rc .value)))), (16, .v (.int .i64)), (17, .v (.int .i64))]
abbrev slices_EqualFunc_api_Case_L0_bs : List (Nat × Sb) := []
def slices_EqualFunc_api_Case_L0_hd (x1 : List (Str × GValue)) (x2 : Unit) (x0 : List (Str × GValue)) (c16 : Int) (s17 : Int) : St := ⟨32, [(1, .v (.sl (.pr .str (.rc .value))) x1), (2, .v (.clo 93 .un) x2), (15, .v (.sl (.pr .str (.rc .value))) x0), (16, .v (.int .i64) c16), (17, .v (.int .i64) s17)], []⟩
def slices_EqualFunc_api_Case_L0_tl0 (_x1 : List (Str × GValue)) (_x2 : Unit) (_x0 : List (Str × GValue)) (_c16 : Int) : St := ⟨32, [], []⟩
def slices_EqualFunc_api_Case_L0_G (N : Nat) (r_script_Equal_1 : (Str × GValue) → (Str × GValue) → Option (Bool)) (x1 : List (Str × GValue)) (x2 : Unit) (x0 : List (Str × GValue)) (c16 : Int) (s17 : Int) (k : Ex → St → Option Bool) : Option Bool :=
  slices_EqualFunc_api_Case_L0 N r_script_Equal_1 x1 x0 c16 (k (.exit 0) (slices_EqualFunc_api_Case_L0_tl0 x1 x2 x0 c16)) N s17
abbrev slices_EqualFunc_api_Case_L0_F (N : Nat) (r_script_Equal_1 : (Str × GValue) → (Str × GValue) → Option (Bool)) : FV slices_EqualFunc_api_Case_L0_fs → HV slices_EqualFunc_api_Case_L0_bs → (Ex → St → Option Bool) → Option Bool := fun x _ k => slices_EqualFunc_api_Case_L0_G N r_script_Equal_1 x.1 x.2.1 x.2.2.1 x.2.2.2.1 x.2.2.2.2.1 k
noncomputable def slices_EqualFunc_api_Case_LP (N : Nat) (r_script_Equal_1 : (Str × GValue) → (Str × GValue) → Option (Bool)) : Nat → Code → St → (Ex → St → Option Bool) → Option Bool := fun i c =>
  match i with
  | 0 => (LPc 32 slices_EqualFunc_api_Case_L0_fs slices_EqualFunc_api_Case_L0_bs (slices_EqualFunc_api_Case_L0_F N r_script_Equal_1) (fun st k => iter (slices_EqualFunc_api_Case_h 0) (exec (slices_EqualFunc_api_Case_E N r_script_Equal_1) N c 0) N st k))
  | i => fun st k => iter (slices_EqualFunc_api_Case_h i) (exec (slices_EqualFunc_api_Case_E N r_script_Equal_1) N c i) N st k
theorem slices_EqualFunc_api_Case_L0_step (N : Nat) (r_script_Equal_1 : (Str × GValue) → (Str × GValue) → Option (Bool)) (x1 : List (Str × GValue)) (x2 : Unit) (x0 : List (Str × GValue)) (c16 : Int) (KX : Nat → St → Option Bool) (I : St → Option Bool) (s17 : Int) :
    execL (slices_EqualFunc_api_Case_LP N r_script_Equal_1) (slices_EqualFunc_api_Case_E N r_script_Equal_1) (cAt (bodyOf Tryz.f92) [true, true, false, true, false, false]) 0 (slices_EqualFunc_api_Case_L0_hd x1 x2 x0 c16 s17) (roundK (slices_EqualFunc_api_Case_h 0) I KX (resD (slices_EqualFunc_api_Case_E N r_script_Equal_1) Tryz.f92 (slices_EqualFunc_api_Case_sg fun x _ => slices_EqualFunc_api_Case N r_script_Equal_1 x.1 x.2.1 x.2.2.1) slices_EqualFunc_api_Case_pk)) = slices_EqualFunc_api_Case_L0T N r_script_Equal_1 x1 x0 c16 (KX 0 (slices_EqualFunc_api_Case_L0_tl0 x1 x2 x0 c16)) (fun s17 => I (slices_EqualFunc_api_Case_L0_hd x1 x2 x0 c16 s17)) s17 := by kernel_rfl
theorem slices_EqualFunc_api_Case_L0_ok (N : Nat) (r_script_Equal_1 : (Str × GValue) → (Str × GValue) → Option (Bool)) : ∀ x y k, (∀ st, k .ret st = (resD (slices_EqualFunc_api_Case_E N r_script_Equal_1) Tryz.f92 (slices_EqualFunc_api_Case_sg fun x _ => slices_EqualFunc_api_Case N r_script_Equal_1 x.1 x.2.1 x.2.2.1) slices_EqualFunc_api_Case_pk) st) → iter (slices_EqualFunc_api_Case_h 0) (exec (slices_EqualFunc_api_Case_E N r_script_Equal_1) N (cAt (bodyOf Tryz.f92) [true, true, false, true, false, false]) 0) N ⟨32, unF slices_EqualFunc_api_Case_L0_fs x, unH slices_EqualFunc_api_Case_L0_bs y⟩ k = slices_EqualFunc_api_Case_L0_F N r_script_Equal_1 x y k := fun x _ k hk =>
  iter_link (S := (Int) × Unit) (slices_EqualFunc_api_Case_h 0) _ (execL (slices_EqualFunc_api_Case_LP N r_script_Equal_1) (slices_EqualFunc_api_Case_E N r_script_Equal_1) (cAt (bodyOf Tryz.f92) [true, true, false, true, false, false]) 0) (resD (slices_EqualFunc_api_Case_E N r_script_Equal_1) Tryz.f92 (slices_EqualFunc_api_Case_sg fun x _ => slices_EqualFunc_api_Case N r_script_Equal_1 x.1 x.2.1 x.2.2.1) slices_EqualFunc_api_Case_pk) (fun st k hk => execL_eq _ _ N _ (cAt (bodyOf Tryz.f92) [true, true, false, true, false, false]) 0 (show LoopsOk (slices_EqualFunc_api_Case_LP N r_script_Equal_1) (slices_EqualFunc_api_Case_E N r_script_Equal_1) N (resD (slices_EqualFunc_api_Case_E N r_script_Equal_1) Tryz.f92 (slices_EqualFunc_api_Case_sg fun x _ => slices_EqualFunc_api_Case N r_script_Equal_1 x.1 x.2.1 x.2.2.1) slices_EqualFunc_api_Case_pk) [] from trivial) st k hk) (fun s => slices_EqualFunc_api_Case_L0_hd x.1 x.2.1 x.2.2.1 x.2.2.2.1 s.1) k hk
    (fun self s => slices_EqualFunc_api_Case_L0T N r_script_Equal_1 x.1 x.2.2.1 x.2.2.2.1 (k (.exit 0) (slices_EqualFunc_api_Case_L0_tl0 x.1 x.2.1 x.2.2.1 x.2.2.2.1)) (fun s17 => self (s17, ())) s.1) (fun n s => slices_EqualFunc_api_Case_L0 N r_script_Equal_1 x.1 x.2.2.1 x.2.2.2.1 (k (.exit 0) (slices_EqualFunc_api_Case_L0_tl0 x.1 x.2.1 x.2.2.1 x.2.2.2.1)) n s.1) (fun _ => rfl) (fun _ _ => rfl)
    (fun I s => slices_EqualFunc_api_Case_L0_step N r_script_Equal_1 x.1 x.2.1 x.2.2.1 x.2.2.2.1 (fun j => k (.exit j)) I s.1) N (x.2.2.2.2.1, ())
theorem slices_EqualFunc_api_Case_lp0 (N : Nat) (r_script_Equal_1 : (Str × GValue) → (Str × GValue) → Option (Bool)) : ∀ st k, (∀ st, k .ret st = (resD (slices_EqualFunc_api_Case_E N r_script_Equal_1) Tryz.f92 (slices_EqualFunc_api_Case_sg fun x _ => slices_EqualFunc_api_Case N r_script_Equal_1 x.1 x.2.1 x.2.2.1) slices_EqualFunc_api_Case_pk) st) → slices_EqualFunc_api_Case_LP N r_script_Equal_1 0 (cAt (bodyOf Tryz.f92) [true, true, false, true, false, false]) st k = iter (Env.hint (slices_EqualFunc_api_Case_E N r_script_Equal_1) 0) (exec (slices_EqualFunc_api_Case_E N r_script_Equal_1) N (cAt (bodyOf Tryz.f92) [true, true, false, true, false, false]) 0) N st k := fun st k hk => LPc_eq 32 slices_EqualFunc_api_Case_L0_fs slices_EqualFunc_api_Case_L0_bs _ _ (resD (slices_EqualFunc_api_Case_E N r_script_Equal_1) Tryz.f92 (slices_EqualFunc_api_Case_sg fun x _ => slices_EqualFunc_api_Case N r_script_Equal_1 x.1 x.2.1 x.2.2.1) slices_EqualFunc_api_Case_pk) (slices_EqualFunc_api_Case_L0_ok N r_script_Equal_1) _ st k hk (rfl)
theorem slices_EqualFunc_api_Case_core (N : Nat) (r_script_Equal_1 : (Str × GValue) → (Str × GValue) → Option (Bool)) (x : SV [.v (.sl (.pr .str (.rc .value))), .v (.sl (.pr .str (.rc .value))), .v (.clo 93 .un)]) (y : BV []) : runL (slices_EqualFunc_api_Case_E N r_script_Equal_1) Tryz.f92 (slices_EqualFunc_api_Case_sg fun x _ => slices_EqualFunc_api_Case N r_script_Equal_1 x.1 x.2.1 x.2.2.1) slices_EqualFunc_api_Case_pk (slices_EqualFunc_api_Case_LP N r_script_Equal_1) x y = slices_EqualFunc_api_Case N r_script_Equal_1 x.1 x.2.1 x.2.2.1 := by kernel_rfl
theorem slices_EqualFunc_api_Case_sound (N : Nat) (r_script_Equal_1 : (Str × GValue) → (Str × GValue) → Option (Bool)) (h_script_Equal_1 : Sound Tryz.prog GW B0G 93 (script_Equal_1_sg fun x y => r_script_Equal_1 x.1 x.2.1)) : Sound Tryz.prog GW B0G 92 (slices_EqualFunc_api_Case_sg fun x _ => slices_EqualFunc_api_Case N r_script_Equal_1 x.1 x.2.1 x.2.2.1) :=
  runD_sound (mkE_ok slices_EqualFunc_api_Case_h (slices_EqualFunc_api_Case_fn N r_script_Equal_1) _ _ (slices_EqualFunc_api_Case_fn_ok N r_script_Equal_1 h_script_Equal_1)) Tryz.func92 rfl Tryz.call92 (slices_EqualFunc_api_Case_sg fun x _ => slices_EqualFunc_api_Case N r_script_Equal_1 x.1 x.2.1 x.2.2.1) slices_EqualFunc_api_Case_pk (fun _ _ => rfl) N (fun x y _ h => ((runL_eq (slices_EqualFunc_api_Case_E N r_script_Equal_1) N Tryz.f92 (slices_EqualFunc_api_Case_sg fun x _ => slices_EqualFunc_api_Case N r_script_Equal_1 x.1 x.2.1 x.2.2.1) slices_EqualFunc_api_Case_pk (slices_EqualFunc_api_Case_LP N r_script_Equal_1) (show LoopsOk (slices_EqualFunc_api_Case_LP N r_script_Equal_1) (slices_EqualFunc_api_Case_E N r_script_Equal_1) N (resD (slices_EqualFunc_api_Case_E N r_script_Equal_1) Tryz.f92 (slices_EqualFunc_api_Case_sg fun x _ => slices_EqualFunc_api_Case N r_script_Equal_1 x.1 x.2.1 x.2.2.1) slices_EqualFunc_api_Case_pk) [(0, (cAt (bodyOf Tryz.f92) [true, true, false, true, false, false]))] from ⟨slices_EqualFunc_api_Case_lp0 N r_script_Equal_1, trivial⟩) x y).trans (slices_EqualFunc_api_Case_core N r_script_Equal_1 x y)).trans h)
def script_Equal (N : Nat) (r_script_Equal_1 : (Str × GValue) → (Str × GValue) → Option (Bool)) (x0 : GValue) (x1 : GValue) : Option Bool :=
  br (x0.kind == x1.kind)
    (br (x0.text == x1.text)
      (br (x0.number == x1.number)
        (bnd (slices_Equal_string_string N x0.list x1.list) fun t29 =>
        br (t29)
          (bnd (slices_EqualFunc_api_Case N r_script_Equal_1 x0.cases x1.cases ()) fun t36 =>
          some t36)
          (some false))
        (some false))
      (some false))
    (some false)
abbrev script_Equal_sg (f : SV [.v (.rc .value), .v (.rc .value)] → BV [] → Option (Bool)) : AF := { ps := [.v (.rc .value), .v (.rc .value)], bs := [], rs := [.v .bool], cs := [], R := Bool, out := fun z => ((z, ()), ()), f := f }
abbrev script_Equal_pk : SV [.v .bool] → BV [] → Bool := fun x _ => x.1
def script_Equal_fn (N : Nat) (r_script_Equal_1 : (Str × GValue) → (Str × GValue) → Option (Bool)) : FuncId → Option Tmp → Option AF := fun f _ =>
  match f with
    | 37 => some (slices_Equal_string_string_sg fun x _ => slices_Equal_string_string N x.1 x.2.1)
    | 92 => some (slices_EqualFunc_api_Case_sg fun x _ => slices_EqualFunc_api_Case N r_script_Equal_1 x.1 x.2.1 x.2.2.1)
    | _ => none
theorem script_Equal_fn_ok (N : Nat) (r_script_Equal_1 : (Str × GValue) → (Str × GValue) → Option (Bool)) (h_script_Equal_1 : Sound Tryz.prog GW B0G 93 (script_Equal_1_sg fun x y => r_script_Equal_1 x.1 x.2.1)) : ∀ f q F, script_Equal_fn N r_script_Equal_1 f q = some F → Sound Tryz.prog GW B0G f F := by
  intro f q F h
  unfold script_Equal_fn at h
  split at h
  · cases h; exact slices_Equal_string_string_sound N
  · cases h; exact slices_EqualFunc_api_Case_sound N r_script_Equal_1 h_script_Equal_1
  · cases h
def script_Equal_h : Nat → Hint := fun i =>
  match i with
  | _ => ⟨[], [], [], [], [], []⟩
abbrev script_Equal_E (N : Nat) (r_script_Equal_1 : (Str × GValue) → (Str × GValue) → Option (Bool)) : Env := mkE script_Equal_h (script_Equal_fn N r_script_Equal_1) (fun _ => false) (fun _ => false)
noncomputable def script_Equal_LP (N : Nat) (r_script_Equal_1 : (Str × GValue) → (Str × GValue) → Option (Bool)) : Nat → Code → St → (Ex → St → Option Bool) → Option Bool := fun i c =>
  match i with
  | i => fun st k => iter (script_Equal_h i) (exec (script_Equal_E N r_script_Equal_1) N c i) N st k
theorem script_Equal_core (N : Nat) (r_script_Equal_1 : (Str × GValue) → (Str × GValue) → Option (Bool)) (x : SV [.v (.rc .value), .v (.rc .value)]) (y : BV []) : runL (script_Equal_E N r_script_Equal_1) Tryz.f49 (script_Equal_sg fun x _ => script_Equal N r_script_Equal_1 x.1 x.2.1) script_Equal_pk (script_Equal_LP N r_script_Equal_1) x y = script_Equal N r_script_Equal_1 x.1 x.2.1 := by kernel_rfl
theorem script_Equal_sound (N : Nat) (r_script_Equal_1 : (Str × GValue) → (Str × GValue) → Option (Bool)) (h_script_Equal_1 : Sound Tryz.prog GW B0G 93 (script_Equal_1_sg fun x y => r_script_Equal_1 x.1 x.2.1)) : Sound Tryz.prog GW B0G 49 (script_Equal_sg fun x _ => script_Equal N r_script_Equal_1 x.1 x.2.1) :=
  runD_sound (mkE_ok script_Equal_h (script_Equal_fn N r_script_Equal_1) _ _ (script_Equal_fn_ok N r_script_Equal_1 h_script_Equal_1)) Tryz.func49 rfl Tryz.call49 (script_Equal_sg fun x _ => script_Equal N r_script_Equal_1 x.1 x.2.1) script_Equal_pk (fun _ _ => rfl) N (fun x y _ h => ((runL_eq (script_Equal_E N r_script_Equal_1) N Tryz.f49 (script_Equal_sg fun x _ => script_Equal N r_script_Equal_1 x.1 x.2.1) script_Equal_pk (script_Equal_LP N r_script_Equal_1) (show LoopsOk (script_Equal_LP N r_script_Equal_1) (script_Equal_E N r_script_Equal_1) N (resD (script_Equal_E N r_script_Equal_1) Tryz.f49 (script_Equal_sg fun x _ => script_Equal N r_script_Equal_1 x.1 x.2.1) script_Equal_pk) [] from trivial) x y).trans (script_Equal_core N r_script_Equal_1 x y)).trans h)
def script_Equal_1_b (N : Nat) (r_script_Equal_1 : (Str × GValue) → (Str × GValue) → Option (Bool)) (x0 : Str × GValue) (x1 : Str × GValue) : Option Bool :=
  br (x0.1 == x1.1)
    (bnd (script_Equal N r_script_Equal_1 (GValue.mk x0.2.kind x0.2.text x0.2.number x0.2.list x0.2.cases) (GValue.mk x1.2.kind x1.2.text x1.2.number x1.2.list x1.2.cases)) fun t15 =>
    some t15)
    (some false)
abbrev script_Equal_1_b_sg (f : SV [.v (.pr .str (.rc .value)), .v (.pr .str (.rc .value))] → BV [] → Option (Bool)) : AF := { ps := [.v (.pr .str (.rc .value)), .v (.pr .str (.rc .value))], bs := [], rs := [.v .bool], cs := [], R := Bool, out := fun z => ((z, ()), ()), f := f }
abbrev script_Equal_1_b_pk : SV [.v .bool] → BV [] → Bool := fun x _ => x.1
def script_Equal_1_b_fn (N : Nat) (r_script_Equal_1 : (Str × GValue) → (Str × GValue) → Option (Bool)) : FuncId → Option Tmp → Option AF := fun f _ =>
  match f with
    | 49 => some (script_Equal_sg fun x _ => script_Equal N r_script_Equal_1 x.1 x.2.1)
    | _ => none
theorem script_Equal_1_b_fn_ok (N : Nat) (r_script_Equal_1 : (Str × GValue) → (Str × GValue) → Option (Bool)) (h_script_Equal_1 : Sound Tryz.prog GW B0G 93 (script_Equal_1_sg fun x y => r_script_Equal_1 x.1 x.2.1)) : ∀ f q F, script_Equal_1_b_fn N r_script_Equal_1 f q = some F → Sound Tryz.prog GW B0G f F := by
  intro f q F h
  unfold script_Equal_1_b_fn at h
  split at h
  · cases h; exact script_Equal_sound N r_script_Equal_1 h_script_Equal_1
  · cases h
def script_Equal_1_b_h : Nat → Hint := fun i =>
  match i with
  | _ => ⟨[], [], [], [], [], []⟩
abbrev script_Equal_1_b_E (N : Nat) (r_script_Equal_1 : (Str × GValue) → (Str × GValue) → Option (Bool)) : Env := mkE script_Equal_1_b_h (script_Equal_1_b_fn N r_script_Equal_1) (fun _ => false) (fun _ => false)
noncomputable def script_Equal_1_b_LP (N : Nat) (r_script_Equal_1 : (Str × GValue) → (Str × GValue) → Option (Bool)) : Nat → Code → St → (Ex → St → Option Bool) → Option Bool := fun i c =>
  match i with
  | i => fun st k => iter (script_Equal_1_b_h i) (exec (script_Equal_1_b_E N r_script_Equal_1) N c i) N st k
theorem script_Equal_1_b_core (N : Nat) (r_script_Equal_1 : (Str × GValue) → (Str × GValue) → Option (Bool)) (x : SV [.v (.pr .str (.rc .value)), .v (.pr .str (.rc .value))]) (y : BV []) : runL (script_Equal_1_b_E N r_script_Equal_1) Tryz.f93 (script_Equal_1_b_sg fun x _ => script_Equal_1_b N r_script_Equal_1 x.1 x.2.1) script_Equal_1_b_pk (script_Equal_1_b_LP N r_script_Equal_1) x y = script_Equal_1_b N r_script_Equal_1 x.1 x.2.1 := by kernel_rfl
theorem script_Equal_1_b_sound (N : Nat) (r_script_Equal_1 : (Str × GValue) → (Str × GValue) → Option (Bool)) (h_script_Equal_1 : Sound Tryz.prog GW B0G 93 (script_Equal_1_sg fun x y => r_script_Equal_1 x.1 x.2.1)) : Sound Tryz.prog GW B0G 93 (script_Equal_1_b_sg fun x _ => script_Equal_1_b N r_script_Equal_1 x.1 x.2.1) :=
  runD_sound (mkE_ok script_Equal_1_b_h (script_Equal_1_b_fn N r_script_Equal_1) _ _ (script_Equal_1_b_fn_ok N r_script_Equal_1 h_script_Equal_1)) Tryz.func93 rfl Tryz.call93 (script_Equal_1_b_sg fun x _ => script_Equal_1_b N r_script_Equal_1 x.1 x.2.1) script_Equal_1_b_pk (fun _ _ => rfl) N (fun x y _ h => ((runL_eq (script_Equal_1_b_E N r_script_Equal_1) N Tryz.f93 (script_Equal_1_b_sg fun x _ => script_Equal_1_b N r_script_Equal_1 x.1 x.2.1) script_Equal_1_b_pk (script_Equal_1_b_LP N r_script_Equal_1) (show LoopsOk (script_Equal_1_b_LP N r_script_Equal_1) (script_Equal_1_b_E N r_script_Equal_1) N (resD (script_Equal_1_b_E N r_script_Equal_1) Tryz.f93 (script_Equal_1_b_sg fun x _ => script_Equal_1_b N r_script_Equal_1 x.1 x.2.1) script_Equal_1_b_pk) [] from trivial) x y).trans (script_Equal_1_b_core N r_script_Equal_1 x y)).trans h)
def script_Equal_1 (N : Nat) : Nat → (Str × GValue) → (Str × GValue) → Option (Bool)
  | 0 => fun _ _ => none
  | d + 1 => script_Equal_1_b N (script_Equal_1 N d)
theorem script_Equal_1_sound (N : Nat) : ∀ d, Sound Tryz.prog GW B0G 93 (script_Equal_1_sg fun x y => script_Equal_1 N d x.1 x.2.1)
  | 0 => Sound.never Tryz.call93 (fun _ _ => rfl)
  | d + 1 => script_Equal_1_b_sound N (script_Equal_1 N d) (script_Equal_1_sound N d)
def script_Same (N : Nat) (x0 : GValue) (x1 : GValue) : Option (Bool × Int) :=
  bnd (script_checkTwo N (GValue.mk x0.kind x0.text x0.number x0.list x0.cases) (GValue.mk x1.kind x1.text x1.number x1.list x1.cases)) fun t9 =>
  br (t9 != (0 : Int))
    (some (false, t9))
    (bnd (script_Equal N (script_Equal_1 N N) (GValue.mk x0.kind x0.text x0.number x0.list x0.cases) (GValue.mk x1.kind x1.text x1.number x1.list x1.cases)) fun t15 =>
    some (t15, (0 : Int)))
abbrev script_Same_sg (f : SV [.v (.rc .value), .v (.rc .value)] → BV [] → Option (Bool × Int)) : AF := { ps := [.v (.rc .value), .v (.rc .value)], bs := [], rs := [.v .bool, .v (.int .i64)], cs := [], R := Bool × Int, out := fun z => ((z.1, z.2, ()), ()), f := f }
abbrev script_Same_pk : SV [.v .bool, .v (.int .i64)] → BV [] → (Bool × Int) := fun x _ => (x.1, x.2.1)
def script_Same_fn (N : Nat) : FuncId → Option Tmp → Option AF := fun f _ =>
  match f with
    | 34 => some (script_checkTwo_sg fun x _ => script_checkTwo N x.1 x.2.1)
    | 49 => some (script_Equal_sg fun x _ => script_Equal N (script_Equal_1 N N) x.1 x.2.1)
    | _ => none
theorem script_Same_fn_ok (N : Nat) : ∀ f q F, script_Same_fn N f q = some F → Sound Tryz.prog GW B0G f F := by
  intro f q F h
  unfold script_Same_fn at h
  split at h
  · cases h; exact script_checkTwo_sound N
  · cases h; exact script_Equal_sound N (script_Equal_1 N N) (script_Equal_1_sound N N)
  · cases h
def script_Same_h : Nat → Hint := fun i =>
  match i with
  | _ => ⟨[], [], [], [], [], []⟩
abbrev script_Same_E (N : Nat) : Env := mkE script_Same_h (script_Same_fn N) (fun _ => false) (fun _ => false)
noncomputable def script_Same_LP (N : Nat) : Nat → Code → St → (Ex → St → Option (Bool × Int)) → Option (Bool × Int) := fun i c =>
  match i with
  | i => fun st k => iter (script_Same_h i) (exec (script_Same_E N) N c i) N st k
theorem script_Same_core (N : Nat) (x : SV [.v (.rc .value), .v (.rc .value)]) (y : BV []) : runL (script_Same_E N) Tryz.f16 (script_Same_sg fun x _ => script_Same N x.1 x.2.1) script_Same_pk (script_Same_LP N) x y = script_Same N x.1 x.2.1 := by kernel_rfl
theorem script_Same_sound (N : Nat) : Sound Tryz.prog GW B0G 16 (script_Same_sg fun x _ => script_Same N x.1 x.2.1) :=
  runD_sound (mkE_ok script_Same_h (script_Same_fn N) _ _ (script_Same_fn_ok N)) Tryz.func16 rfl Tryz.call16 (script_Same_sg fun x _ => script_Same N x.1 x.2.1) script_Same_pk (fun _ _ => rfl) N (fun x y _ h => ((runL_eq (script_Same_E N) N Tryz.f16 (script_Same_sg fun x _ => script_Same N x.1 x.2.1) script_Same_pk (script_Same_LP N) (show LoopsOk (script_Same_LP N) (script_Same_E N) N (resD (script_Same_E N) Tryz.f16 (script_Same_sg fun x _ => script_Same N x.1 x.2.1) script_Same_pk) [] from trivial) x y).trans (script_Same_core N x y)).trans h)
def ref2_Same (N : Nat) (x0 : GValue) (x1 : GValue) : Option (Bool × Int) :=
  bnd (ref2_CheckValue N (ref2_checkCases N N) (GValue.mk x0.kind x0.text x0.number x0.list x0.cases)) fun t9 =>
  br (t9 != (0 : Int))
    (some (false, t9))
    (bnd (ref2_CheckValue N (ref2_checkCases N N) (GValue.mk x1.kind x1.text x1.number x1.list x1.cases)) fun t14 =>
    br (t14 != (0 : Int))
      (some (false, t14))
      (bnd (ref2_SameValue N N (GValue.mk x0.kind x0.text x0.number x0.list x0.cases) (GValue.mk x1.kind x1.text x1.number x1.list x1.cases)) fun t20 =>
      some (t20, (0 : Int))))
abbrev ref2_Same_sg (f : SV [.v (.rc .value), .v (.rc .value)] → BV [] → Option (Bool × Int)) : AF := { ps := [.v (.rc .value), .v (.rc .value)], bs := [], rs := [.v .bool, .v (.int .i64)], cs := [], R := Bool × Int, out := fun z => ((z.1, z.2, ()), ()), f := f }
abbrev ref2_Same_pk : SV [.v .bool, .v (.int .i64)] → BV [] → (Bool × Int) := fun x _ => (x.1, x.2.1)
def ref2_Same_fn (N : Nat) : FuncId → Option Tmp → Option AF := fun f _ =>
  match f with
    | 12 => some (ref2_SameValue_sg fun x _ => ref2_SameValue N N x.1 x.2.1)
    | 15 => some (ref2_CheckValue_sg fun x _ => ref2_CheckValue N (ref2_checkCases N N) x.1)
    | _ => none
theorem ref2_Same_fn_ok (N : Nat) : ∀ f q F, ref2_Same_fn N f q = some F → Sound Tryz.prog GW B0G f F := by
  intro f q F h
  unfold ref2_Same_fn at h
  split at h
  · cases h; exact ref2_SameValue_sound N N
  · cases h; exact ref2_CheckValue_sound N (ref2_checkCases N N) (ref2_checkCases_sound N N)
  · cases h
def ref2_Same_h : Nat → Hint := fun i =>
  match i with
  | _ => ⟨[], [], [], [], [], []⟩
abbrev ref2_Same_E (N : Nat) : Env := mkE ref2_Same_h (ref2_Same_fn N) (fun _ => false) (fun _ => false)
noncomputable def ref2_Same_LP (N : Nat) : Nat → Code → St → (Ex → St → Option (Bool × Int)) → Option (Bool × Int) := fun i c =>
  match i with
  | i => fun st k => iter (ref2_Same_h i) (exec (ref2_Same_E N) N c i) N st k
theorem ref2_Same_core (N : Nat) (x : SV [.v (.rc .value), .v (.rc .value)]) (y : BV []) : runL (ref2_Same_E N) Tryz.f17 (ref2_Same_sg fun x _ => ref2_Same N x.1 x.2.1) ref2_Same_pk (ref2_Same_LP N) x y = ref2_Same N x.1 x.2.1 := by kernel_rfl
theorem ref2_Same_sound (N : Nat) : Sound Tryz.prog GW B0G 17 (ref2_Same_sg fun x _ => ref2_Same N x.1 x.2.1) :=
  runD_sound (mkE_ok ref2_Same_h (ref2_Same_fn N) _ _ (ref2_Same_fn_ok N)) Tryz.func17 rfl Tryz.call17 (ref2_Same_sg fun x _ => ref2_Same N x.1 x.2.1) ref2_Same_pk (fun _ _ => rfl) N (fun x y _ h => ((runL_eq (ref2_Same_E N) N Tryz.f17 (ref2_Same_sg fun x _ => ref2_Same N x.1 x.2.1) ref2_Same_pk (ref2_Same_LP N) (show LoopsOk (ref2_Same_LP N) (ref2_Same_E N) N (resD (ref2_Same_E N) Tryz.f17 (ref2_Same_sg fun x _ => ref2_Same N x.1 x.2.1) ref2_Same_pk) [] from trivial) x y).trans (ref2_Same_core N x y)).trans h)
def law2_ScriptValuesMatchSpec (N : Nat) (x0 : GValue) (x1 : GValue) : Option Bool :=
  bnd (script_Add N (GValue.mk x0.kind x0.text x0.number x0.list x0.cases) (GValue.mk x1.kind x1.text x1.number x1.list x1.cases)) fun t14 =>
  bnd (ref2_Add N (GValue.mk x0.kind x0.text x0.number x0.list x0.cases) (GValue.mk x1.kind x1.text x1.number x1.list x1.cases)) fun t20 =>
  bnd (script_CheckValue N (script_checkCases N N) (GValue.mk x0.kind x0.text x0.number x0.list x0.cases)) fun t24 =>
  bnd (ref2_CheckValue N (ref2_checkCases N N) (GValue.mk x0.kind x0.text x0.number x0.list x0.cases)) fun t26 =>
  br (t24 != t26)
    (some false)
    (br (t14.2 != t20.2)
      (some false)
      (bnd (ref2_SameValue N N (GValue.mk t14.1.kind t14.1.text t14.1.number t14.1.list t14.1.cases) (GValue.mk t20.1.kind t20.1.text t20.1.number t20.1.list t20.1.cases)) fun t36 =>
      br (!t36)
        (some false)
        (bnd (script_Same N (GValue.mk x0.kind x0.text x0.number x0.list x0.cases) (GValue.mk x1.kind x1.text x1.number x1.list x1.cases)) fun t42 =>
        bnd (ref2_Same N (GValue.mk x0.kind x0.text x0.number x0.list x0.cases) (GValue.mk x1.kind x1.text x1.number x1.list x1.cases)) fun t48 =>
        br (t42.2 == t48.2)
          (br (t42.1 == t48.1)
            (bnd (law2_awake) fun t60 =>
            some t60)
            (some false))
          (some false))))
abbrev law2_ScriptValuesMatchSpec_sg (f : SV [.v (.rc .value), .v (.rc .value)] → BV [] → Option (Bool)) : AF := { ps := [.v (.rc .value), .v (.rc .value)], bs := [], rs := [.v .bool], cs := [], R := Bool, out := fun z => ((z, ()), ()), f := f }
abbrev law2_ScriptValuesMatchSpec_pk : SV [.v .bool] → BV [] → Bool := fun x _ => x.1
def law2_ScriptValuesMatchSpec_fn (N : Nat) : FuncId → Option Tmp → Option AF := fun f _ =>
  match f with
    | 10 => some (script_Add_sg fun x _ => script_Add N x.1 x.2.1)
    | 11 => some (law2_awake_sg fun _ _ => law2_awake)
    | 12 => some (ref2_SameValue_sg fun x _ => ref2_SameValue N N x.1 x.2.1)
    | 13 => some (ref2_Add_sg fun x _ => ref2_Add N x.1 x.2.1)
    | 14 => some (script_CheckValue_sg fun x _ => script_CheckValue N (script_checkCases N N) x.1)
    | 15 => some (ref2_CheckValue_sg fun x _ => ref2_CheckValue N (ref2_checkCases N N) x.1)
    | 16 => some (script_Same_sg fun x _ => script_Same N x.1 x.2.1)
    | 17 => some (ref2_Same_sg fun x _ => ref2_Same N x.1 x.2.1)
    | _ => none
theorem law2_ScriptValuesMatchSpec_fn_ok (N : Nat) : ∀ f q F, law2_ScriptValuesMatchSpec_fn N f q = some F → Sound Tryz.prog GW B0G f F := by
  intro f q F h
  unfold law2_ScriptValuesMatchSpec_fn at h
  split at h
  · cases h; exact script_Add_sound N
  · cases h; exact law2_awake_sound
  · cases h; exact ref2_SameValue_sound N N
  · cases h; exact ref2_Add_sound N
  · cases h; exact script_CheckValue_sound N (script_checkCases N N) (script_checkCases_sound N N)
  · cases h; exact ref2_CheckValue_sound N (ref2_checkCases N N) (ref2_checkCases_sound N N)
  · cases h; exact script_Same_sound N
  · cases h; exact ref2_Same_sound N
  · cases h
def law2_ScriptValuesMatchSpec_h : Nat → Hint := fun i =>
  match i with
  | _ => ⟨[], [], [], [], [], []⟩
abbrev law2_ScriptValuesMatchSpec_E (N : Nat) : Env := mkE law2_ScriptValuesMatchSpec_h (law2_ScriptValuesMatchSpec_fn N) (fun _ => false) (fun _ => false)
noncomputable def law2_ScriptValuesMatchSpec_LP (N : Nat) : Nat → Code → St → (Ex → St → Option Bool) → Option Bool := fun i c =>
  match i with
  | i => fun st k => iter (law2_ScriptValuesMatchSpec_h i) (exec (law2_ScriptValuesMatchSpec_E N) N c i) N st k
theorem law2_ScriptValuesMatchSpec_core (N : Nat) (x : SV [.v (.rc .value), .v (.rc .value)]) (y : BV []) : runL (law2_ScriptValuesMatchSpec_E N) Tryz.f4 (law2_ScriptValuesMatchSpec_sg fun x _ => law2_ScriptValuesMatchSpec N x.1 x.2.1) law2_ScriptValuesMatchSpec_pk (law2_ScriptValuesMatchSpec_LP N) x y = law2_ScriptValuesMatchSpec N x.1 x.2.1 := by kernel_rfl
theorem law2_ScriptValuesMatchSpec_sound (N : Nat) : Sound Tryz.prog GW B0G 4 (law2_ScriptValuesMatchSpec_sg fun x _ => law2_ScriptValuesMatchSpec N x.1 x.2.1) :=
  runD_sound (mkE_ok law2_ScriptValuesMatchSpec_h (law2_ScriptValuesMatchSpec_fn N) _ _ (law2_ScriptValuesMatchSpec_fn_ok N)) Tryz.func4 rfl Tryz.call4 (law2_ScriptValuesMatchSpec_sg fun x _ => law2_ScriptValuesMatchSpec N x.1 x.2.1) law2_ScriptValuesMatchSpec_pk (fun _ _ => rfl) N (fun x y _ h => ((runL_eq (law2_ScriptValuesMatchSpec_E N) N Tryz.f4 (law2_ScriptValuesMatchSpec_sg fun x _ => law2_ScriptValuesMatchSpec N x.1 x.2.1) law2_ScriptValuesMatchSpec_pk (law2_ScriptValuesMatchSpec_LP N) (show LoopsOk (law2_ScriptValuesMatchSpec_LP N) (law2_ScriptValuesMatchSpec_E N) N (resD (law2_ScriptValuesMatchSpec_E N) Tryz.f4 (law2_ScriptValuesMatchSpec_sg fun x _ => law2_ScriptValuesMatchSpec N x.1 x.2.1) law2_ScriptValuesMatchSpec_pk) [] from trivial) x y).trans (law2_ScriptValuesMatchSpec_core N x y)).trans h)
end
end Go.Proofs.YtahjncefiegflaaGreatDoor


/- What functions of the program compute, as plain functions (printed). -/
namespace Go.Proofs.YtahjncefiegflaaGreatDoor
open Go Go.RowKit
set_option maxRecDepth 100000
set_option linter.unusedVariables false
noncomputable section
def slices_Clone_string_string (_N : Nat) (x0 : List Str) : Option (List Str) :=
  br ((x0).isEmpty)
    (both
      (some ([] : List Str))
      (br (decide ((([] : List Str).length + x0.length) * (24 * Ty.sz .str) ≤ 140737488355328))
        (some (([] : List Str) ++ x0))
        none))
    (br (decide ((([] : List Str).length + x0.length) * (24 * Ty.sz .str) ≤ 140737488355328))
      (some (([] : List Str) ++ x0))
      none)
abbrev slices_Clone_string_string_sg (f : SV [.v (.sl .str)] → BV [] → Option (List Str)) : AF := { ps := [.v (.sl .str)], bs := [], rs := [.row 0], cs := [.row 9 .str true], R := List Str, out := fun z => (((), ()), (z, ())), f := f }
abbrev slices_Clone_string_string_pk : SV [.row 0] → BV [.row 9 .str true] → (List Str) := fun _ y => y.1
def slices_Clone_string_string_fn (_N : Nat) : FuncId → Option Tmp → Option AF := fun f _ =>
  match f with
    | _ => none
theorem slices_Clone_string_string_fn_ok (N : Nat) : ∀ f q F, slices_Clone_string_string_fn N f q = some F → Sound Tryz.prog GW B0G f F := by
  intro f q F h
  unfold slices_Clone_string_string_fn at h
  split at h
  · cases h
def slices_Clone_string_string_h : Nat → Hint := fun i =>
  match i with
  | _ => ⟨[], [], [], [], [], []⟩
abbrev slices_Clone_string_string_E (N : Nat) : Env := mkE slices_Clone_string_string_h (slices_Clone_string_string_fn N) (fun i => match i with | 2 => true | 5 => true | _ => false) (fun _ => false)
noncomputable def slices_Clone_string_string_LP (N : Nat) : Nat → Code → St → (Ex → St → Option (List Str)) → Option (List Str) := fun i c =>
  match i with
  | i => fun st k => iter (slices_Clone_string_string_h i) (exec (slices_Clone_string_string_E N) N c i) N st k
theorem slices_Clone_string_string_core (N : Nat) (x : SV [.v (.sl .str)]) (y : BV []) : runL (slices_Clone_string_string_E N) Tryz.f100 (slices_Clone_string_string_sg fun x _ => slices_Clone_string_string N x.1) slices_Clone_string_string_pk (slices_Clone_string_string_LP N) x y = slices_Clone_string_string N x.1 := by kernel_rfl
theorem slices_Clone_string_string_sound (N : Nat) : Sound Tryz.prog GW B0G 100 (slices_Clone_string_string_sg fun x _ => slices_Clone_string_string N x.1) :=
  runD_sound (mkE_ok slices_Clone_string_string_h (slices_Clone_string_string_fn N) _ _ (slices_Clone_string_string_fn_ok N)) Tryz.func100 rfl Tryz.call100 (slices_Clone_string_string_sg fun x _ => slices_Clone_string_string N x.1) slices_Clone_string_string_pk (fun _ _ => rfl) N (fun x y _ h => ((runL_eq (slices_Clone_string_string_E N) N Tryz.f100 (slices_Clone_string_string_sg fun x _ => slices_Clone_string_string N x.1) slices_Clone_string_string_pk (slices_Clone_string_string_LP N) (show LoopsOk (slices_Clone_string_string_LP N) (slices_Clone_string_string_E N) N (resD (slices_Clone_string_string_E N) Tryz.f100 (slices_Clone_string_string_sg fun x _ => slices_Clone_string_string N x.1) slices_Clone_string_string_pk) [] from trivial) x y).trans (slices_Clone_string_string_core N x y)).trans h)
end
end Go.Proofs.YtahjncefiegflaaGreatDoor


/- What functions of the program compute, as plain functions (printed). -/
namespace Go.Proofs.YtahjncefiegflaaGreatDoor
open Go Go.RowKit
set_option maxRecDepth 100000
set_option linter.unusedVariables false
noncomputable section
end
end Go.Proofs.YtahjncefiegflaaGreatDoor

