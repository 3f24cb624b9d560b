/- What functions of the program compute, as plain functions (printed). -/
import Derived.Test.YtahjncefiegflaaGreatDoorQScF6
import Derived.Test.YtahjncefiegflaaGreatDoorQBmSi
import Derived.ProofKit
import Derived.OpenShut
import Derived.ShutString
import Derived.DataReads
import Derived.ChangeShapes
import Derived.WideShapes
import Derived.Test.YtahjncefiegflaaGreatDoorRows
import Derived.Test.YtahjncefiegflaaGreatDoorQFor2
namespace Go.Proofs.YtahjncefiegflaaGreatDoor
open Go Go.RowKit
set_option maxRecDepth 100000
set_option linter.unusedVariables false
noncomputable section
def ref2_CheckTarget_L0T (N : Nat) (c24 : List (Str × GValue)) (c25 : Int) (c1001_2 : List (Str × GValue)) (k1 : Option Int) (self : Int → Option Int) (s26 : Int) : Option Int :=
  br (decide (s26 < c25))
    (bnd (geti c24 s26) fun t29 =>
    bnd (ref2_IsName N t29.1) fun t33 =>
    br (!t33)
      (some (5 : Int))
      (bnd (ref2_CheckValue N (ref2_checkCases N N) (GValue.mk t29.2.kind t29.2.text t29.2.number t29.2.list t29.2.cases)) fun t37 =>
      br (t37 != (0 : Int))
        (some t37)
        (br (decide (s26 > (0 : Int)))
          (bnd (geti c1001_2 (IntKind.i64.wrap (s26 - (1 : Int)))) fun t50 =>
          br (Op.bytesLess t29.1 t50.1 || t29.1 == t50.1)
            (some (8 : Int))
            (self (IntKind.i64.wrap (s26 + (1 : Int)))))
          (self (IntKind.i64.wrap (s26 + (1 : Int)))))))
    (k1)
def ref2_CheckTarget_L0 (N : Nat) (c24 : List (Str × GValue)) (c25 : Int) (c1001_2 : List (Str × GValue)) (k1 : Option Int) : Nat → Int → Option Int
  | 0, _ => none
  | n + 1, s26 => ref2_CheckTarget_L0T N c24 c25 c1001_2 k1 (ref2_CheckTarget_L0 N c24 c25 c1001_2 k1 n) s26
def ref2_CheckTarget_L1T (_N : Nat) (c57 : List (Str × GValue)) (c58 : Int) (k3 : Option Int) (self : Int → Option Int) (s59 : Int) : Option Int :=
  br (decide (s59 < c58))
    (bnd (geti c57 s59) fun t61 =>
    br (t61.1 == ([110, 97, 109, 101] : Str))
      (some (5 : Int))
      (br (t61.1 == ([107, 105, 110, 100] : Str))
        (some (5 : Int))
        (self (IntKind.i64.wrap (s59 + (1 : Int))))))
    (k3)
def ref2_CheckTarget_L1 (N : Nat) (c57 : List (Str × GValue)) (c58 : Int) (k3 : Option Int) : Nat → Int → Option Int
  | 0, _ => none
  | n + 1, s59 => ref2_CheckTarget_L1T N c57 c58 k3 (ref2_CheckTarget_L1 N c57 c58 k3 n) s59
def ref2_CheckTarget (N : Nat) (x0 : Str × Str × List (Str × GValue)) : Option Int :=
  bnd (ref2_IsPath N x0.1) fun t11 =>
  br (!t11)
    (some (3 : Int))
    (bnd (ref2_IsName N x0.2.1) fun t16 =>
    br (!t16)
      (some (5 : Int))
      (br (decide ((x0.2.2.length : Int) > (30 : Int)))
        (some (2 : Int))
        (ref2_CheckTarget_L0 N x0.2.2 (x0.2.2.length : Int) x0.2.2 (ref2_CheckTarget_L1 N x0.2.2 (x0.2.2.length : Int) (some (0 : Int)) N (0 : Int)) N (0 : Int))))
abbrev ref2_CheckTarget_sg (f : SV [.v (.pr .str (.pr .str (.sl (.pr .str (.rc .value)))))] → BV [] → Option (Int)) : AF := { ps := [.v (.pr .str (.pr .str (.sl (.pr .str (.rc .value)))))], bs := [], rs := [.v (.int .i64)], cs := [], R := Int, out := fun z => ((z, ()), ()), f := f }
abbrev ref2_CheckTarget_pk : SV [.v (.int .i64)] → BV [] → Int := fun x _ => x.1
def ref2_CheckTarget_fn (N : Nat) : FuncId → Option Tmp → Option AF := fun f _ =>
  match f with
    | 15 => some (ref2_CheckValue_sg fun x _ => ref2_CheckValue N (ref2_checkCases N N) x.1)
    | 54 => some (ref2_IsName_sg fun x _ => ref2_IsName N x.1)
    | 62 => some (ref2_IsPath_sg fun x _ => ref2_IsPath N x.1)
    | _ => none
theorem ref2_CheckTarget_fn_ok (N : Nat) : ∀ f q F, ref2_CheckTarget_fn N f q = some F → Sound Tryz.prog GW B0G f F := by
  intro f q F h
  unfold ref2_CheckTarget_fn at h
  split at h
  · cases h; exact ref2_CheckValue_sound N (ref2_checkCases N N) (ref2_checkCases_sound N N)
  · cases h; exact ref2_IsName_sound N
  · cases h; exact ref2_IsPath_sound N
  · cases h
def ref2_CheckTarget_h : Nat → Hint := fun i =>
  match i with
  | 1 => ⟨[], [1, 24, 25, 26], [1001], [1], [1001], []⟩
  | 3 => ⟨[], [57, 58, 59], [], [], [], []⟩
  | _ => ⟨[], [], [], [], [], []⟩
abbrev ref2_CheckTarget_E (N : Nat) : Env := mkE ref2_CheckTarget_h (ref2_CheckTarget_fn N) (fun _ => false) (fun _ => false)
abbrev ref2_CheckTarget_L0_fs : List (Nat × Sl) := [(1, .box 1001 0), (24, .v (.sl (.pr .str (.rc .value)))), (25, .v (.int .i64)), (26, .v (.int .i64))]
abbrev ref2_CheckTarget_L0_bs : List (Nat × Sb) := [(1001, .cells [.v .str, .v .str, .v (.sl (.pr .str (.rc .value)))])]
def ref2_CheckTarget_L0_hd (c24 : List (Str × GValue)) (c25 : Int) (c1001_0 : Str) (c1001_1 : Str) (c1001_2 : List (Str × GValue)) (s26 : Int) : St := ⟨72, [(1, .box 1001 0), (24, .v (.sl (.pr .str (.rc .value))) c24), (25, .v (.int .i64) c25), (26, .v (.int .i64) s26)], [(1001, .cells [.v .str c1001_0, .v .str c1001_1, .v (.sl (.pr .str (.rc .value))) c1001_2])]⟩
def ref2_CheckTarget_L0_tl1 (_c24 : List (Str × GValue)) (_c25 : Int) (c1001_0 : Str) (c1001_1 : Str) (c1001_2 : List (Str × GValue)) : St := ⟨72, [(1, .box 1001 0)], [(1001, .cells [.v .str c1001_0, .v .str c1001_1, .v (.sl (.pr .str (.rc .value))) c1001_2])]⟩
def ref2_CheckTarget_L0_G (N : Nat) (c24 : List (Str × GValue)) (c25 : Int) (c1001_0 : Str) (c1001_1 : Str) (c1001_2 : List (Str × GValue)) (s26 : Int) (k : Ex → St → Option Int) : Option Int :=
  ref2_CheckTarget_L0 N c24 c25 c1001_2 (k (.exit 1) (ref2_CheckTarget_L0_tl1 c24 c25 c1001_0 c1001_1 c1001_2)) N s26
abbrev ref2_CheckTarget_L0_F (N : Nat) : FV ref2_CheckTarget_L0_fs → HV ref2_CheckTarget_L0_bs → (Ex → St → Option Int) → Option Int := fun x y k => ref2_CheckTarget_L0_G N x.2.1 x.2.2.1 y.1.1 y.1.2.1 y.1.2.2.1 x.2.2.2.1 k
abbrev ref2_CheckTarget_L1_fs : List (Nat × Sl) := [(57, .v (.sl (.pr .str (.rc .value)))), (58, .v (.int .i64)), (59, .v (.int .i64))]
abbrev ref2_CheckTarget_L1_bs : List (Nat × Sb) := []
def ref2_CheckTarget_L1_hd (c57 : List (Str × GValue)) (c58 : Int) (s59 : Int) : St := ⟨72, [(57, .v (.sl (.pr .str (.rc .value))) c57), (58, .v (.int .i64) c58), (59, .v (.int .i64) s59)], []⟩
def ref2_CheckTarget_L1_tl3 (_c57 : List (Str × GValue)) (_c58 : Int) : St := ⟨72, [], []⟩
def ref2_CheckTarget_L1_G (N : Nat) (c57 : List (Str × GValue)) (c58 : Int) (s59 : Int) (k : Ex → St → Option Int) : Option Int :=
  ref2_CheckTarget_L1 N c57 c58 (k (.exit 3) (ref2_CheckTarget_L1_tl3 c57 c58)) N s59
abbrev ref2_CheckTarget_L1_F (N : Nat) : FV ref2_CheckTarget_L1_fs → HV ref2_CheckTarget_L1_bs → (Ex → St → Option Int) → Option Int := fun x _ k => ref2_CheckTarget_L1_G N x.1 x.2.1 x.2.2.1 k
noncomputable def ref2_CheckTarget_LP (N : Nat) : Nat → Code → St → (Ex → St → Option Int) → Option Int := fun i c =>
  match i with
  | 1 => (LPc 72 ref2_CheckTarget_L0_fs ref2_CheckTarget_L0_bs (ref2_CheckTarget_L0_F N) (fun st k => iter (ref2_CheckTarget_h 1) (exec (ref2_CheckTarget_E N) N c 1) N st k))
  | 3 => (LPc 72 ref2_CheckTarget_L1_fs ref2_CheckTarget_L1_bs (ref2_CheckTarget_L1_F N) (fun st k => iter (ref2_CheckTarget_h 3) (exec (ref2_CheckTarget_E N) N c 3) N st k))
  | i => fun st k => iter (ref2_CheckTarget_h i) (exec (ref2_CheckTarget_E N) N c i) N st k
theorem ref2_CheckTarget_L1_step (N : Nat) (c57 : List (Str × GValue)) (c58 : Int) (KX : Nat → St → Option Int) (I : St → Option Int) (s59 : Int) :
    execL (ref2_CheckTarget_LP N) (ref2_CheckTarget_E N) (cAt (bodyOf Tryz.f53) [true, true, true, false, true, false, false]) 3 (ref2_CheckTarget_L1_hd c57 c58 s59) (roundK (ref2_CheckTarget_h 3) I KX (resD (ref2_CheckTarget_E N) Tryz.f53 (ref2_CheckTarget_sg fun x _ => ref2_CheckTarget N x.1) ref2_CheckTarget_pk)) = ref2_CheckTarget_L1T N c57 c58 (KX 3 (ref2_CheckTarget_L1_tl3 c57 c58)) (fun s59 => I (ref2_CheckTarget_L1_hd c57 c58 s59)) s59 := by kernel_rfl
theorem ref2_CheckTarget_L1_ok (N : Nat) : ∀ x y k, (∀ st, k .ret st = (resD (ref2_CheckTarget_E N) Tryz.f53 (ref2_CheckTarget_sg fun x _ => ref2_CheckTarget N x.1) ref2_CheckTarget_pk) st) → iter (ref2_CheckTarget_h 3) (exec (ref2_CheckTarget_E N) N (cAt (bodyOf Tryz.f53) [true, true, true, false, true, false, false]) 3) N ⟨72, unF ref2_CheckTarget_L1_fs x, unH ref2_CheckTarget_L1_bs y⟩ k = ref2_CheckTarget_L1_F N x y k := fun x _ k hk =>
  iter_link (S := (Int) × Unit) (ref2_CheckTarget_h 3) _ (execL (ref2_CheckTarget_LP N) (ref2_CheckTarget_E N) (cAt (bodyOf Tryz.f53) [true, true, true, false, true, false, false]) 3) (resD (ref2_CheckTarget_E N) Tryz.f53 (ref2_CheckTarget_sg fun x _ => ref2_CheckTarget N x.1) ref2_CheckTarget_pk) (fun st k hk => execL_eq _ _ N _ (cAt (bodyOf Tryz.f53) [true, true, true, false, true, false, false]) 3 (show LoopsOk (ref2_CheckTarget_LP N) (ref2_CheckTarget_E N) N (resD (ref2_CheckTarget_E N) Tryz.f53 (ref2_CheckTarget_sg fun x _ => ref2_CheckTarget N x.1) ref2_CheckTarget_pk) [] from trivial) st k hk) (fun s => ref2_CheckTarget_L1_hd x.1 x.2.1 s.1) k hk
    (fun self s => ref2_CheckTarget_L1T N x.1 x.2.1 (k (.exit 3) (ref2_CheckTarget_L1_tl3 x.1 x.2.1)) (fun s59 => self (s59, ())) s.1) (fun n s => ref2_CheckTarget_L1 N x.1 x.2.1 (k (.exit 3) (ref2_CheckTarget_L1_tl3 x.1 x.2.1)) n s.1) (fun _ => rfl) (fun _ _ => rfl)
    (fun I s => ref2_CheckTarget_L1_step N x.1 x.2.1 (fun j => k (.exit j)) I s.1) N (x.2.2.1, ())
theorem ref2_CheckTarget_lp3 (N : Nat) : ∀ st k, (∀ st, k .ret st = (resD (ref2_CheckTarget_E N) Tryz.f53 (ref2_CheckTarget_sg fun x _ => ref2_CheckTarget N x.1) ref2_CheckTarget_pk) st) → ref2_CheckTarget_LP N 3 (cAt (bodyOf Tryz.f53) [true, true, true, false, true, false, false]) st k = iter (Env.hint (ref2_CheckTarget_E N) 3) (exec (ref2_CheckTarget_E N) N (cAt (bodyOf Tryz.f53) [true, true, true, false, true, false, false]) 3) N st k := fun st k hk => LPc_eq 72 ref2_CheckTarget_L1_fs ref2_CheckTarget_L1_bs _ _ (resD (ref2_CheckTarget_E N) Tryz.f53 (ref2_CheckTarget_sg fun x _ => ref2_CheckTarget N x.1) ref2_CheckTarget_pk) (ref2_CheckTarget_L1_ok N) _ st k hk (rfl)
theorem ref2_CheckTarget_L0_step (N : Nat) (c24 : List (Str × GValue)) (c25 : Int) (c1001_0 : Str) (c1001_1 : Str) (c1001_2 : List (Str × GValue)) (KX : Nat → St → Option Int) (I : St → Option Int) (s26 : Int) :
    execL (ref2_CheckTarget_LP N) (ref2_CheckTarget_E N) (cAt (bodyOf Tryz.f53) [true, true, false, true, false, false]) 1 (ref2_CheckTarget_L0_hd c24 c25 c1001_0 c1001_1 c1001_2 s26) (roundK (ref2_CheckTarget_h 1) I KX (resD (ref2_CheckTarget_E N) Tryz.f53 (ref2_CheckTarget_sg fun x _ => ref2_CheckTarget N x.1) ref2_CheckTarget_pk)) = ref2_CheckTarget_L0T N c24 c25 c1001_2 (KX 1 (ref2_CheckTarget_L0_tl1 c24 c25 c1001_0 c1001_1 c1001_2)) (fun s26 => I (ref2_CheckTarget_L0_hd c24 c25 c1001_0 c1001_1 c1001_2 s26)) s26 := by kernel_rfl
theorem ref2_CheckTarget_L0_ok (N : Nat) : ∀ x y k, (∀ st, k .ret st = (resD (ref2_CheckTarget_E N) Tryz.f53 (ref2_CheckTarget_sg fun x _ => ref2_CheckTarget N x.1) ref2_CheckTarget_pk) st) → iter (ref2_CheckTarget_h 1) (exec (ref2_CheckTarget_E N) N (cAt (bodyOf Tryz.f53) [true, true, false, true, false, false]) 1) N ⟨72, unF ref2_CheckTarget_L0_fs x, unH ref2_CheckTarget_L0_bs y⟩ k = ref2_CheckTarget_L0_F N x y k := fun x y k hk =>
  iter_link (S := (Int) × Unit) (ref2_CheckTarget_h 1) _ (execL (ref2_CheckTarget_LP N) (ref2_CheckTarget_E N) (cAt (bodyOf Tryz.f53) [true, true, false, true, false, false]) 1) (resD (ref2_CheckTarget_E N) Tryz.f53 (ref2_CheckTarget_sg fun x _ => ref2_CheckTarget N x.1) ref2_CheckTarget_pk) (fun st k hk => execL_eq _ _ N _ (cAt (bodyOf Tryz.f53) [true, true, false, true, false, false]) 1 (show LoopsOk (ref2_CheckTarget_LP N) (ref2_CheckTarget_E N) N (resD (ref2_CheckTarget_E N) Tryz.f53 (ref2_CheckTarget_sg fun x _ => ref2_CheckTarget N x.1) ref2_CheckTarget_pk) [] from trivial) st k hk) (fun s => ref2_CheckTarget_L0_hd x.2.1 x.2.2.1 y.1.1 y.1.2.1 y.1.2.2.1 s.1) k hk
    (fun self s => ref2_CheckTarget_L0T N x.2.1 x.2.2.1 y.1.2.2.1 (k (.exit 1) (ref2_CheckTarget_L0_tl1 x.2.1 x.2.2.1 y.1.1 y.1.2.1 y.1.2.2.1)) (fun s26 => self (s26, ())) s.1) (fun n s => ref2_CheckTarget_L0 N x.2.1 x.2.2.1 y.1.2.2.1 (k (.exit 1) (ref2_CheckTarget_L0_tl1 x.2.1 x.2.2.1 y.1.1 y.1.2.1 y.1.2.2.1)) n s.1) (fun _ => rfl) (fun _ _ => rfl)
    (fun I s => ref2_CheckTarget_L0_step N x.2.1 x.2.2.1 y.1.1 y.1.2.1 y.1.2.2.1 (fun j => k (.exit j)) I s.1) N (x.2.2.2.1, ())
theorem ref2_CheckTarget_lp1 (N : Nat) : ∀ st k, (∀ st, k .ret st = (resD (ref2_CheckTarget_E N) Tryz.f53 (ref2_CheckTarget_sg fun x _ => ref2_CheckTarget N x.1) ref2_CheckTarget_pk) st) → ref2_CheckTarget_LP N 1 (cAt (bodyOf Tryz.f53) [true, true, false, true, false, false]) st k = iter (Env.hint (ref2_CheckTarget_E N) 1) (exec (ref2_CheckTarget_E N) N (cAt (bodyOf Tryz.f53) [true, true, false, true, false, false]) 1) N st k := fun st k hk => LPc_eq 72 ref2_CheckTarget_L0_fs ref2_CheckTarget_L0_bs _ _ (resD (ref2_CheckTarget_E N) Tryz.f53 (ref2_CheckTarget_sg fun x _ => ref2_CheckTarget N x.1) ref2_CheckTarget_pk) (ref2_CheckTarget_L0_ok N) _ st k hk (rfl)
theorem ref2_CheckTarget_core (N : Nat) (x : SV [.v (.pr .str (.pr .str (.sl (.pr .str (.rc .value)))))]) (y : BV []) : runL (ref2_CheckTarget_E N) Tryz.f53 (ref2_CheckTarget_sg fun x _ => ref2_CheckTarget N x.1) ref2_CheckTarget_pk (ref2_CheckTarget_LP N) x y = ref2_CheckTarget N x.1 := by kernel_rfl
theorem ref2_CheckTarget_sound (N : Nat) : Sound Tryz.prog GW B0G 53 (ref2_CheckTarget_sg fun x _ => ref2_CheckTarget N x.1) :=
  runD_sound (mkE_ok ref2_CheckTarget_h (ref2_CheckTarget_fn N) _ _ (ref2_CheckTarget_fn_ok N)) Tryz.func53 rfl Tryz.call53 (ref2_CheckTarget_sg fun x _ => ref2_CheckTarget N x.1) ref2_CheckTarget_pk (fun _ _ => rfl) N (fun x y _ h => ((runL_eq (ref2_CheckTarget_E N) N Tryz.f53 (ref2_CheckTarget_sg fun x _ => ref2_CheckTarget N x.1) ref2_CheckTarget_pk (ref2_CheckTarget_LP N) (show LoopsOk (ref2_CheckTarget_LP N) (ref2_CheckTarget_E N) N (resD (ref2_CheckTarget_E N) Tryz.f53 (ref2_CheckTarget_sg fun x _ => ref2_CheckTarget N x.1) ref2_CheckTarget_pk) [(1, (cAt (bodyOf Tryz.f53) [true, true, false, true, false, false])), (3, (cAt (bodyOf Tryz.f53) [true, true, true, false, true, false, false]))] from ⟨ref2_CheckTarget_lp1 N, ref2_CheckTarget_lp3 N, trivial⟩) x y).trans (ref2_CheckTarget_core N x y)).trans h)
def ref2_attr_L0T (_N : Nat) (x1 : Str) (c9 : List (Str × GValue)) (c10 : Int) (k0 : Option (GValue × Bool)) (self : Int → Option (GValue × Bool)) (s11 : Int) : Option (GValue × Bool) :=
  br (decide (s11 < c10))
    (bnd (geti c9 s11) fun t13 =>
    br (t13.1 == x1)
      (some (GValue.mk t13.2.kind t13.2.text t13.2.number t13.2.list t13.2.cases, true))
      (self (IntKind.i64.wrap (s11 + (1 : Int)))))
    (k0)
def ref2_attr_L0 (N : Nat) (x1 : Str) (c9 : List (Str × GValue)) (c10 : Int) (k0 : Option (GValue × Bool)) : Nat → Int → Option (GValue × Bool)
  | 0, _ => none
  | n + 1, s11 => ref2_attr_L0T N x1 c9 c10 k0 (ref2_attr_L0 N x1 c9 c10 k0 n) s11
def ref2_attr (N : Nat) (x0 : Str × Str × List (Str × GValue)) (x1 : Str) : Option (GValue × Bool) :=
  ref2_attr_L0 N x1 x0.2.2 (x0.2.2.length : Int) (some (GValue.mk (0 : Int) ([] : Str) (0 : Int) ([] : List Str) ([] : List (Str × GValue)), false)) N (0 : Int)
abbrev ref2_attr_sg (f : SV [.v (.pr .str (.pr .str (.sl (.pr .str (.rc .value))))), .v .str] → BV [] → Option (GValue × Bool)) : AF := { ps := [.v (.pr .str (.pr .str (.sl (.pr .str (.rc .value))))), .v .str], bs := [], rs := [.v (.rc .value), .v .bool], cs := [], R := GValue × Bool, out := fun z => ((z.1, z.2, ()), ()), f := f }
abbrev ref2_attr_pk : SV [.v (.rc .value), .v .bool] → BV [] → (GValue × Bool) := fun x _ => (x.1, x.2.1)
def ref2_attr_fn (_N : Nat) : FuncId → Option Tmp → Option AF := fun f _ =>
  match f with
    | _ => none
theorem ref2_attr_fn_ok (N : Nat) : ∀ f q F, ref2_attr_fn N f q = some F → Sound Tryz.prog GW B0G f F := by
  intro f q F h
  unfold ref2_attr_fn at h
  split at h
  · cases h
def ref2_attr_h : Nat → Hint := fun i =>
  match i with
  | 0 => ⟨[], [1, 4, 9, 10, 11], [1004], [4], [1004], []⟩
  | _ => ⟨[], [], [], [], [], []⟩
abbrev ref2_attr_E (N : Nat) : Env := mkE ref2_attr_h (ref2_attr_fn N) (fun _ => false) (fun _ => false)
abbrev ref2_attr_L0_fs : List (Nat × Sl) := [(1, .v .str), (4, .box 1004 0), (9, .v (.sl (.pr .str (.rc .value)))), (10, .v (.int .i64)), (11, .v (.int .i64))]
abbrev ref2_attr_L0_bs : List (Nat × Sb) := [(1004, .cells [.v (.int .i64), .v .str, .v (.int .i64), .nilS, .nilS])]
def ref2_attr_L0_hd (x1 : Str) (c9 : List (Str × GValue)) (c10 : Int) (c1004_0 : Int) (c1004_1 : Str) (c1004_2 : Int) (s11 : Int) : St := ⟨23, [(1, .v .str x1), (4, .box 1004 0), (9, .v (.sl (.pr .str (.rc .value))) c9), (10, .v (.int .i64) c10), (11, .v (.int .i64) s11)], [(1004, .cells [.v (.int .i64) c1004_0, .v .str c1004_1, .v (.int .i64) c1004_2, .nilS, .nilS])]⟩
def ref2_attr_L0_tl0 (_x1 : Str) (_c9 : List (Str × GValue)) (_c10 : Int) (c1004_0 : Int) (c1004_1 : Str) (c1004_2 : Int) : St := ⟨23, [(4, .box 1004 0)], [(1004, .cells [.v (.int .i64) c1004_0, .v .str c1004_1, .v (.int .i64) c1004_2, .nilS, .nilS])]⟩
def ref2_attr_L0_G (N : Nat) (x1 : Str) (c9 : List (Str × GValue)) (c10 : Int) (c1004_0 : Int) (c1004_1 : Str) (c1004_2 : Int) (s11 : Int) (k : Ex → St → Option (GValue × Bool)) : Option (GValue × Bool) :=
  ref2_attr_L0 N x1 c9 c10 (k (.exit 0) (ref2_attr_L0_tl0 x1 c9 c10 c1004_0 c1004_1 c1004_2)) N s11
abbrev ref2_attr_L0_F (N : Nat) : FV ref2_attr_L0_fs → HV ref2_attr_L0_bs → (Ex → St → Option (GValue × Bool)) → Option (GValue × Bool) := fun x y k => ref2_attr_L0_G N x.1 x.2.2.1 x.2.2.2.1 y.1.1 y.1.2.1 y.1.2.2.1 x.2.2.2.2.1 k
noncomputable def ref2_attr_LP (N : Nat) : Nat → Code → St → (Ex → St → Option (GValue × Bool)) → Option (GValue × Bool) := fun i c =>
  match i with
  | 0 => (LPc 23 ref2_attr_L0_fs ref2_attr_L0_bs (ref2_attr_L0_F N) (fun st k => iter (ref2_attr_h 0) (exec (ref2_attr_E N) N c 0) N st k))
  | i => fun st k => iter (ref2_attr_h i) (exec (ref2_attr_E N) N c i) N st k
theorem ref2_attr_L0_step (N : Nat) (x1 : Str) (c9 : List (Str × GValue)) (c10 : Int) (c1004_0 : Int) (c1004_1 : Str) (c1004_2 : Int) (KX : Nat → St → Option (GValue × Bool)) (I : St → Option (GValue × Bool)) (s11 : Int) :
    execL (ref2_attr_LP N) (ref2_attr_E N) (cAt (bodyOf Tryz.f55) [true, false, true, false, false]) 0 (ref2_attr_L0_hd x1 c9 c10 c1004_0 c1004_1 c1004_2 s11) (roundK (ref2_attr_h 0) I KX (resD (ref2_attr_E N) Tryz.f55 (ref2_attr_sg fun x _ => ref2_attr N x.1 x.2.1) ref2_attr_pk)) = ref2_attr_L0T N x1 c9 c10 (KX 0 (ref2_attr_L0_tl0 x1 c9 c10 c1004_0 c1004_1 c1004_2)) (fun s11 => I (ref2_attr_L0_hd x1 c9 c10 c1004_0 c1004_1 c1004_2 s11)) s11 := by kernel_rfl
theorem ref2_attr_L0_ok (N : Nat) : ∀ x y k, (∀ st, k .ret st = (resD (ref2_attr_E N) Tryz.f55 (ref2_attr_sg fun x _ => ref2_attr N x.1 x.2.1) ref2_attr_pk) st) → iter (ref2_attr_h 0) (exec (ref2_attr_E N) N (cAt (bodyOf Tryz.f55) [true, false, true, false, false]) 0) N ⟨23, unF ref2_attr_L0_fs x, unH ref2_attr_L0_bs y⟩ k = ref2_attr_L0_F N x y k := fun x y k hk =>
  iter_link (S := (Int) × Unit) (ref2_attr_h 0) _ (execL (ref2_attr_LP N) (ref2_attr_E N) (cAt (bodyOf Tryz.f55) [true, false, true, false, false]) 0) (resD (ref2_attr_E N) Tryz.f55 (ref2_attr_sg fun x _ => ref2_attr N x.1 x.2.1) ref2_attr_pk) (fun st k hk => execL_eq _ _ N _ (cAt (bodyOf Tryz.f55) [true, false, true, false, false]) 0 (show LoopsOk (ref2_attr_LP N) (ref2_attr_E N) N (resD (ref2_attr_E N) Tryz.f55 (ref2_attr_sg fun x _ => ref2_attr N x.1 x.2.1) ref2_attr_pk) [] from trivial) st k hk) (fun s => ref2_attr_L0_hd x.1 x.2.2.1 x.2.2.2.1 y.1.1 y.1.2.1 y.1.2.2.1 s.1) k hk
    (fun self s => ref2_attr_L0T N x.1 x.2.2.1 x.2.2.2.1 (k (.exit 0) (ref2_attr_L0_tl0 x.1 x.2.2.1 x.2.2.2.1 y.1.1 y.1.2.1 y.1.2.2.1)) (fun s11 => self (s11, ())) s.1) (fun n s => ref2_attr_L0 N x.1 x.2.2.1 x.2.2.2.1 (k (.exit 0) (ref2_attr_L0_tl0 x.1 x.2.2.1 x.2.2.2.1 y.1.1 y.1.2.1 y.1.2.2.1)) n s.1) (fun _ => rfl) (fun _ _ => rfl)
    (fun I s => ref2_attr_L0_step N x.1 x.2.2.1 x.2.2.2.1 y.1.1 y.1.2.1 y.1.2.2.1 (fun j => k (.exit j)) I s.1) N (x.2.2.2.2.1, ())
theorem ref2_attr_lp0 (N : Nat) : ∀ st k, (∀ st, k .ret st = (resD (ref2_attr_E N) Tryz.f55 (ref2_attr_sg fun x _ => ref2_attr N x.1 x.2.1) ref2_attr_pk) st) → ref2_attr_LP N 0 (cAt (bodyOf Tryz.f55) [true, false, true, false, false]) st k = iter (Env.hint (ref2_attr_E N) 0) (exec (ref2_attr_E N) N (cAt (bodyOf Tryz.f55) [true, false, true, false, false]) 0) N st k := fun st k hk => LPc_eq 23 ref2_attr_L0_fs ref2_attr_L0_bs _ _ (resD (ref2_attr_E N) Tryz.f55 (ref2_attr_sg fun x _ => ref2_attr N x.1 x.2.1) ref2_attr_pk) (ref2_attr_L0_ok N) _ st k hk (rfl)
theorem ref2_attr_core (N : Nat) (x : SV [.v (.pr .str (.pr .str (.sl (.pr .str (.rc .value))))), .v .str]) (y : BV []) : runL (ref2_attr_E N) Tryz.f55 (ref2_attr_sg fun x _ => ref2_attr N x.1 x.2.1) ref2_attr_pk (ref2_attr_LP N) x y = ref2_attr N x.1 x.2.1 := by kernel_rfl
theorem ref2_attr_sound (N : Nat) : Sound Tryz.prog GW B0G 55 (ref2_attr_sg fun x _ => ref2_attr N x.1 x.2.1) :=
  runD_sound (mkE_ok ref2_attr_h (ref2_attr_fn N) _ _ (ref2_attr_fn_ok N)) Tryz.func55 rfl Tryz.call55 (ref2_attr_sg fun x _ => ref2_attr N x.1 x.2.1) ref2_attr_pk (fun _ _ => rfl) N (fun x y _ h => ((runL_eq (ref2_attr_E N) N Tryz.f55 (ref2_attr_sg fun x _ => ref2_attr N x.1 x.2.1) ref2_attr_pk (ref2_attr_LP N) (show LoopsOk (ref2_attr_LP N) (ref2_attr_E N) N (resD (ref2_attr_E N) Tryz.f55 (ref2_attr_sg fun x _ => ref2_attr N x.1 x.2.1) ref2_attr_pk) [(0, (cAt (bodyOf Tryz.f55) [true, false, true, false, false]))] from ⟨ref2_attr_lp0 N, trivial⟩) x y).trans (ref2_attr_core N x y)).trans h)
def ref2_Attr (N : Nat) (x0 : Str × Str × List (Str × GValue)) (x1 : Str) : Option (GValue × Bool × Int) :=
  bnd (ref2_CheckTarget N x0) fun t11 =>
  br (t11 != (0 : Int))
    (some (GValue.mk (0 : Int) ([] : Str) (0 : Int) ([] : List Str) ([] : List (Str × GValue)), (false, t11)))
    (bnd (ref2_IsName N x1) fun t17 =>
    br (!t17)
      (some (GValue.mk (0 : Int) ([] : Str) (0 : Int) ([] : List Str) ([] : List (Str × GValue)), (false, (5 : Int))))
      (bnd (ref2_attr N x0 x1) fun t23 =>
      some (GValue.mk t23.1.kind t23.1.text t23.1.number t23.1.list t23.1.cases, (t23.2, (0 : Int)))))
abbrev ref2_Attr_sg (f : SV [.v (.pr .str (.pr .str (.sl (.pr .str (.rc .value))))), .v .str] → BV [] → Option (GValue × Bool × Int)) : AF := { ps := [.v (.pr .str (.pr .str (.sl (.pr .str (.rc .value))))), .v .str], bs := [], rs := [.v (.rc .value), .v .bool, .v (.int .i64)], cs := [], R := GValue × Bool × Int, out := fun z => ((z.1, z.2.1, z.2.2, ()), ()), f := f }
abbrev ref2_Attr_pk : SV [.v (.rc .value), .v .bool, .v (.int .i64)] → BV [] → (GValue × Bool × Int) := fun x _ => (x.1, x.2.1, x.2.2.1)
def ref2_Attr_fn (N : Nat) : FuncId → Option Tmp → Option AF := fun f _ =>
  match f with
    | 53 => some (ref2_CheckTarget_sg fun x _ => ref2_CheckTarget N x.1)
    | 54 => some (ref2_IsName_sg fun x _ => ref2_IsName N x.1)
    | 55 => some (ref2_attr_sg fun x _ => ref2_attr N x.1 x.2.1)
    | _ => none
theorem ref2_Attr_fn_ok (N : Nat) : ∀ f q F, ref2_Attr_fn N f q = some F → Sound Tryz.prog GW B0G f F := by
  intro f q F h
  unfold ref2_Attr_fn at h
  split at h
  · cases h; exact ref2_CheckTarget_sound N
  · cases h; exact ref2_IsName_sound N
  · cases h; exact ref2_attr_sound N
  · cases h
def ref2_Attr_h : Nat → Hint := fun i =>
  match i with
  | _ => ⟨[], [], [], [], [], []⟩
abbrev ref2_Attr_E (N : Nat) : Env := mkE ref2_Attr_h (ref2_Attr_fn N) (fun _ => false) (fun _ => false)
noncomputable def ref2_Attr_LP (N : Nat) : Nat → Code → St → (Ex → St → Option (GValue × Bool × Int)) → Option (GValue × Bool × Int) := fun i c =>
  match i with
  | i => fun st k => iter (ref2_Attr_h i) (exec (ref2_Attr_E N) N c i) N st k
theorem ref2_Attr_core (N : Nat) (x : SV [.v (.pr .str (.pr .str (.sl (.pr .str (.rc .value))))), .v .str]) (y : BV []) : runL (ref2_Attr_E N) Tryz.f19 (ref2_Attr_sg fun x _ => ref2_Attr N x.1 x.2.1) ref2_Attr_pk (ref2_Attr_LP N) x y = ref2_Attr N x.1 x.2.1 := by kernel_rfl
theorem ref2_Attr_sound (N : Nat) : Sound Tryz.prog GW B0G 19 (ref2_Attr_sg fun x _ => ref2_Attr N x.1 x.2.1) :=
  runD_sound (mkE_ok ref2_Attr_h (ref2_Attr_fn N) _ _ (ref2_Attr_fn_ok N)) Tryz.func19 rfl Tryz.call19 (ref2_Attr_sg fun x _ => ref2_Attr N x.1 x.2.1) ref2_Attr_pk (fun _ _ => rfl) N (fun x y _ h => ((runL_eq (ref2_Attr_E N) N Tryz.f19 (ref2_Attr_sg fun x _ => ref2_Attr N x.1 x.2.1) ref2_Attr_pk (ref2_Attr_LP N) (show LoopsOk (ref2_Attr_LP N) (ref2_Attr_E N) N (resD (ref2_Attr_E N) Tryz.f19 (ref2_Attr_sg fun x _ => ref2_Attr N x.1 x.2.1) ref2_Attr_pk) [] from trivial) x y).trans (ref2_Attr_core N x y)).trans h)
def script_CheckPackage_L0T (N : Nat) (c20 : List (Str × Str × List (Str × GValue))) (c21 : Int) (c1001_1 : List (Str × Str × List (Str × GValue))) (k0 : Option Int) (self : Int → Option Int) (s22 : Int) : Option Int :=
  br (decide (s22 < c21))
    (bnd (geti c20 s22) fun t25 =>
    bnd (script_CheckTarget N t25) fun t28 =>
    br (t28 != (0 : Int))
      (some t28)
      (br (decide (s22 > (0 : Int)))
        (bnd (geti c1001_1 (IntKind.i64.wrap (s22 - (1 : Int)))) fun t41 =>
        br (Op.bytesLess t25.1 t41.1 || t25.1 == t41.1)
          (some (8 : Int))
          (self (IntKind.i64.wrap (s22 + (1 : Int)))))
        (self (IntKind.i64.wrap (s22 + (1 : Int))))))
    (k0)
def script_CheckPackage_L0 (N : Nat) (c20 : List (Str × Str × List (Str × GValue))) (c21 : Int) (c1001_1 : List (Str × Str × List (Str × GValue))) (k0 : Option Int) : Nat → Int → Option Int
  | 0, _ => none
  | n + 1, s22 => script_CheckPackage_L0T N c20 c21 c1001_1 k0 (script_CheckPackage_L0 N c20 c21 c1001_1 k0 n) s22
def script_CheckPackage (N : Nat) (x0 : Str × List (Str × Str × List (Str × GValue))) : Option Int :=
  br (!(x0.1 == ([] : Str)))
    (bnd (blob_IsPath N x0.1) fun t12 =>
    br (!t12)
      (some (3 : Int))
      (br (decide ((x0.2.length : Int) > (500 : Int)))
        (some (2 : Int))
        (script_CheckPackage_L0 N x0.2 (x0.2.length : Int) x0.2 (some (0 : Int)) N (0 : Int))))
    (br (decide ((x0.2.length : Int) > (500 : Int)))
      (some (2 : Int))
      (script_CheckPackage_L0 N x0.2 (x0.2.length : Int) x0.2 (some (0 : Int)) N (0 : Int)))
abbrev script_CheckPackage_sg (f : SV [.v (.pr .str (.sl (.pr .str (.pr .str (.sl (.pr .str (.rc .value)))))))] → BV [] → Option (Int)) : AF := { ps := [.v (.pr .str (.sl (.pr .str (.pr .str (.sl (.pr .str (.rc .value)))))))], bs := [], rs := [.v (.int .i64)], cs := [], R := Int, out := fun z => ((z, ()), ()), f := f }
abbrev script_CheckPackage_pk : SV [.v (.int .i64)] → BV [] → Int := fun x _ => x.1
def script_CheckPackage_fn (N : Nat) : FuncId → Option Tmp → Option AF := fun f _ =>
  match f with
    | 50 => some (script_CheckTarget_sg fun x _ => script_CheckTarget N x.1)
    | 56 => some (blob_IsPath_sg fun x _ => blob_IsPath N x.1)
    | _ => none
theorem script_CheckPackage_fn_ok (N : Nat) : ∀ f q F, script_CheckPackage_fn N f q = some F → Sound Tryz.prog GW B0G f F := by
  intro f q F h
  unfold script_CheckPackage_fn at h
  split at h
  · cases h; exact script_CheckTarget_sound N
  · cases h; exact blob_IsPath_sound N
  · cases h
def script_CheckPackage_h : Nat → Hint := fun i =>
  match i with
  | 0 => ⟨[], [1, 20, 21, 22], [1001], [], [], []⟩
  | _ => ⟨[], [], [], [], [], []⟩
abbrev script_CheckPackage_E (N : Nat) : Env := mkE script_CheckPackage_h (script_CheckPackage_fn N) (fun _ => false) (fun _ => false)
abbrev script_CheckPackage_L0_fs : List (Nat × Sl) := [(1, .box 1001 0), (20, .v (.sl (.pr .str (.pr .str (.sl (.pr .str (.rc .value))))))), (21, .v (.int .i64)), (22, .v (.int .i64))]
abbrev script_CheckPackage_L0_bs : List (Nat × Sb) := [(1001, .cells [.v .str, .v (.sl (.pr .str (.pr .str (.sl (.pr .str (.rc .value))))))])]
def script_CheckPackage_L0_hd (c20 : List (Str × Str × List (Str × GValue))) (c21 : Int) (c1001_0 : Str) (c1001_1 : List (Str × Str × List (Str × GValue))) (s22 : Int) : St := ⟨47, [(1, .box 1001 0), (20, .v (.sl (.pr .str (.pr .str (.sl (.pr .str (.rc .value)))))) c20), (21, .v (.int .i64) c21), (22, .v (.int .i64) s22)], [(1001, .cells [.v .str c1001_0, .v (.sl (.pr .str (.pr .str (.sl (.pr .str (.rc .value)))))) c1001_1])]⟩
def script_CheckPackage_L0_tl0 (_c20 : List (Str × Str × List (Str × GValue))) (_c21 : Int) (_c1001_0 : Str) (_c1001_1 : List (Str × Str × List (Str × GValue))) : St := ⟨47, [], []⟩
def script_CheckPackage_L0_G (N : Nat) (c20 : List (Str × Str × List (Str × GValue))) (c21 : Int) (c1001_0 : Str) (c1001_1 : List (Str × Str × List (Str × GValue))) (s22 : Int) (k : Ex → St → Option Int) : Option Int :=
  script_CheckPackage_L0 N c20 c21 c1001_1 (k (.exit 0) (script_CheckPackage_L0_tl0 c20 c21 c1001_0 c1001_1)) N s22
abbrev script_CheckPackage_L0_F (N : Nat) : FV script_CheckPackage_L0_fs → HV script_CheckPackage_L0_bs → (Ex → St → Option Int) → Option Int := fun x y k => script_CheckPackage_L0_G N x.2.1 x.2.2.1 y.1.1 y.1.2.1 x.2.2.2.1 k
noncomputable def script_CheckPackage_LP (N : Nat) : Nat → Code → St → (Ex → St → Option Int) → Option Int := fun i c =>
  match i with
  | 0 => (LPc 47 script_CheckPackage_L0_fs script_CheckPackage_L0_bs (script_CheckPackage_L0_F N) (fun st k => iter (script_CheckPackage_h 0) (exec (script_CheckPackage_E N) N c 0) N st k))
  | i => fun st k => iter (script_CheckPackage_h i) (exec (script_CheckPackage_E N) N c i) N st k
theorem script_CheckPackage_L0_step (N : Nat) (c20 : List (Str × Str × List (Str × GValue))) (c21 : Int) (c1001_0 : Str) (c1001_1 : List (Str × Str × List (Str × GValue))) (KX : Nat → St → Option Int) (I : St → Option Int) (s22 : Int) :
    execL (script_CheckPackage_LP N) (script_CheckPackage_E N) (cAt (bodyOf Tryz.f20) [true, true, true, false, true, false, false]) 0 (script_CheckPackage_L0_hd c20 c21 c1001_0 c1001_1 s22) (roundK (script_CheckPackage_h 0) I KX (resD (script_CheckPackage_E N) Tryz.f20 (script_CheckPackage_sg fun x _ => script_CheckPackage N x.1) script_CheckPackage_pk)) = script_CheckPackage_L0T N c20 c21 c1001_1 (KX 0 (script_CheckPackage_L0_tl0 c20 c21 c1001_0 c1001_1)) (fun s22 => I (script_CheckPackage_L0_hd c20 c21 c1001_0 c1001_1 s22)) s22 := by kernel_rfl
theorem script_CheckPackage_L0_ok (N : Nat) : ∀ x y k, (∀ st, k .ret st = (resD (script_CheckPackage_E N) Tryz.f20 (script_CheckPackage_sg fun x _ => script_CheckPackage N x.1) script_CheckPackage_pk) st) → iter (script_CheckPackage_h 0) (exec (script_CheckPackage_E N) N (cAt (bodyOf Tryz.f20) [true, true, true, false, true, false, false]) 0) N ⟨47, unF script_CheckPackage_L0_fs x, unH script_CheckPackage_L0_bs y⟩ k = script_CheckPackage_L0_F N x y k := fun x y k hk =>
  iter_link (S := (Int) × Unit) (script_CheckPackage_h 0) _ (execL (script_CheckPackage_LP N) (script_CheckPackage_E N) (cAt (bodyOf Tryz.f20) [true, true, true, false, true, false, false]) 0) (resD (script_CheckPackage_E N) Tryz.f20 (script_CheckPackage_sg fun x _ => script_CheckPackage N x.1) script_CheckPackage_pk) (fun st k hk => execL_eq _ _ N _ (cAt (bodyOf Tryz.f20) [true, true, true, false, true, false, false]) 0 (show LoopsOk (script_CheckPackage_LP N) (script_CheckPackage_E N) N (resD (script_CheckPackage_E N) Tryz.f20 (script_CheckPackage_sg fun x _ => script_CheckPackage N x.1) script_CheckPackage_pk) [] from trivial) st k hk) (fun s => script_CheckPackage_L0_hd x.2.1 x.2.2.1 y.1.1 y.1.2.1 s.1) k hk
    (fun self s => script_CheckPackage_L0T N x.2.1 x.2.2.1 y.1.2.1 (k (.exit 0) (script_CheckPackage_L0_tl0 x.2.1 x.2.2.1 y.1.1 y.1.2.1)) (fun s22 => self (s22, ())) s.1) (fun n s => script_CheckPackage_L0 N x.2.1 x.2.2.1 y.1.2.1 (k (.exit 0) (script_CheckPackage_L0_tl0 x.2.1 x.2.2.1 y.1.1 y.1.2.1)) n s.1) (fun _ => rfl) (fun _ _ => rfl)
    (fun I s => script_CheckPackage_L0_step N x.2.1 x.2.2.1 y.1.1 y.1.2.1 (fun j => k (.exit j)) I s.1) N (x.2.2.2.1, ())
theorem script_CheckPackage_lp0 (N : Nat) : ∀ st k, (∀ st, k .ret st = (resD (script_CheckPackage_E N) Tryz.f20 (script_CheckPackage_sg fun x _ => script_CheckPackage N x.1) script_CheckPackage_pk) st) → script_CheckPackage_LP N 0 (cAt (bodyOf Tryz.f20) [true, true, true, false, true, false, false]) st k = iter (Env.hint (script_CheckPackage_E N) 0) (exec (script_CheckPackage_E N) N (cAt (bodyOf Tryz.f20) [true, true, true, false, true, false, false]) 0) N st k := fun st k hk => LPc_eq 47 script_CheckPackage_L0_fs script_CheckPackage_L0_bs _ _ (resD (script_CheckPackage_E N) Tryz.f20 (script_CheckPackage_sg fun x _ => script_CheckPackage N x.1) script_CheckPackage_pk) (script_CheckPackage_L0_ok N) _ st k hk (rfl)
theorem script_CheckPackage_core (N : Nat) (x : SV [.v (.pr .str (.sl (.pr .str (.pr .str (.sl (.pr .str (.rc .value)))))))]) (y : BV []) : runL (script_CheckPackage_E N) Tryz.f20 (script_CheckPackage_sg fun x _ => script_CheckPackage N x.1) script_CheckPackage_pk (script_CheckPackage_LP N) x y = script_CheckPackage N x.1 := by kernel_rfl
theorem script_CheckPackage_sound (N : Nat) : Sound Tryz.prog GW B0G 20 (script_CheckPackage_sg fun x _ => script_CheckPackage N x.1) :=
  runD_sound (mkE_ok script_CheckPackage_h (script_CheckPackage_fn N) _ _ (script_CheckPackage_fn_ok N)) Tryz.func20 rfl Tryz.call20 (script_CheckPackage_sg fun x _ => script_CheckPackage N x.1) script_CheckPackage_pk (fun _ _ => rfl) N (fun x y _ h => ((runL_eq (script_CheckPackage_E N) N Tryz.f20 (script_CheckPackage_sg fun x _ => script_CheckPackage N x.1) script_CheckPackage_pk (script_CheckPackage_LP N) (show LoopsOk (script_CheckPackage_LP N) (script_CheckPackage_E N) N (resD (script_CheckPackage_E N) Tryz.f20 (script_CheckPackage_sg fun x _ => script_CheckPackage N x.1) script_CheckPackage_pk) [(0, (cAt (bodyOf Tryz.f20) [true, true, true, false, true, false, false]))] from ⟨script_CheckPackage_lp0 N, trivial⟩) x y).trans (script_CheckPackage_core N x y)).trans h)
def ref2_CheckPackage_L0T (N : Nat) (c15 : List (Str × Str × List (Str × GValue))) (c16 : Int) (c1001_1 : List (Str × Str × List (Str × GValue))) (k0 : Option Int) (self : Int → Option Int) (s17 : Int) : Option Int :=
  br (decide (s17 < c16))
    (bnd (geti c15 s17) fun t20 =>
    bnd (ref2_CheckTarget N t20) fun t23 =>
    br (t23 != (0 : Int))
      (some t23)
      (br (decide (s17 > (0 : Int)))
        (bnd (geti c1001_1 (IntKind.i64.wrap (s17 - (1 : Int)))) fun t36 =>
        br (Op.bytesLess t20.1 t36.1 || t20.1 == t36.1)
          (some (8 : Int))
          (self (IntKind.i64.wrap (s17 + (1 : Int)))))
        (self (IntKind.i64.wrap (s17 + (1 : Int))))))
    (k0)
def ref2_CheckPackage_L0 (N : Nat) (c15 : List (Str × Str × List (Str × GValue))) (c16 : Int) (c1001_1 : List (Str × Str × List (Str × GValue))) (k0 : Option Int) : Nat → Int → Option Int
  | 0, _ => none
  | n + 1, s17 => ref2_CheckPackage_L0T N c15 c16 c1001_1 k0 (ref2_CheckPackage_L0 N c15 c16 c1001_1 k0 n) s17
def ref2_CheckPackage (N : Nat) (x0 : Str × List (Str × Str × List (Str × GValue))) : Option Int :=
  bnd (ref2_isPkg N x0.1) fun t8 =>
  br (!t8)
    (some (3 : Int))
    (br (decide ((x0.2.length : Int) > (500 : Int)))
      (some (2 : Int))
      (ref2_CheckPackage_L0 N x0.2 (x0.2.length : Int) x0.2 (some (0 : Int)) N (0 : Int)))
abbrev ref2_CheckPackage_sg (f : SV [.v (.pr .str (.sl (.pr .str (.pr .str (.sl (.pr .str (.rc .value)))))))] → BV [] → Option (Int)) : AF := { ps := [.v (.pr .str (.sl (.pr .str (.pr .str (.sl (.pr .str (.rc .value)))))))], bs := [], rs := [.v (.int .i64)], cs := [], R := Int, out := fun z => ((z, ()), ()), f := f }
abbrev ref2_CheckPackage_pk : SV [.v (.int .i64)] → BV [] → Int := fun x _ => x.1
def ref2_CheckPackage_fn (N : Nat) : FuncId → Option Tmp → Option AF := fun f _ =>
  match f with
    | 53 => some (ref2_CheckTarget_sg fun x _ => ref2_CheckTarget N x.1)
    | 57 => some (ref2_isPkg_sg fun x _ => ref2_isPkg N x.1)
    | _ => none
theorem ref2_CheckPackage_fn_ok (N : Nat) : ∀ f q F, ref2_CheckPackage_fn N f q = some F → Sound Tryz.prog GW B0G f F := by
  intro f q F h
  unfold ref2_CheckPackage_fn at h
  split at h
  · cases h; exact ref2_CheckTarget_sound N
  · cases h; exact ref2_isPkg_sound N
  · cases h
def ref2_CheckPackage_h : Nat → Hint := fun i =>
  match i with
  | 0 => ⟨[], [1, 15, 16, 17], [1001], [], [], []⟩
  | _ => ⟨[], [], [], [], [], []⟩
abbrev ref2_CheckPackage_E (N : Nat) : Env := mkE ref2_CheckPackage_h (ref2_CheckPackage_fn N) (fun _ => false) (fun _ => false)
abbrev ref2_CheckPackage_L0_fs : List (Nat × Sl) := [(1, .box 1001 0), (15, .v (.sl (.pr .str (.pr .str (.sl (.pr .str (.rc .value))))))), (16, .v (.int .i64)), (17, .v (.int .i64))]
abbrev ref2_CheckPackage_L0_bs : List (Nat × Sb) := [(1001, .cells [.v .str, .v (.sl (.pr .str (.pr .str (.sl (.pr .str (.rc .value))))))])]
def ref2_CheckPackage_L0_hd (c15 : List (Str × Str × List (Str × GValue))) (c16 : Int) (c1001_0 : Str) (c1001_1 : List (Str × Str × List (Str × GValue))) (s17 : Int) : St := ⟨42, [(1, .box 1001 0), (15, .v (.sl (.pr .str (.pr .str (.sl (.pr .str (.rc .value)))))) c15), (16, .v (.int .i64) c16), (17, .v (.int .i64) s17)], [(1001, .cells [.v .str c1001_0, .v (.sl (.pr .str (.pr .str (.sl (.pr .str (.rc .value)))))) c1001_1])]⟩
def ref2_CheckPackage_L0_tl0 (_c15 : List (Str × Str × List (Str × GValue))) (_c16 : Int) (_c1001_0 : Str) (_c1001_1 : List (Str × Str × List (Str × GValue))) : St := ⟨42, [], []⟩
def ref2_CheckPackage_L0_G (N : Nat) (c15 : List (Str × Str × List (Str × GValue))) (c16 : Int) (c1001_0 : Str) (c1001_1 : List (Str × Str × List (Str × GValue))) (s17 : Int) (k : Ex → St → Option Int) : Option Int :=
  ref2_CheckPackage_L0 N c15 c16 c1001_1 (k (.exit 0) (ref2_CheckPackage_L0_tl0 c15 c16 c1001_0 c1001_1)) N s17
abbrev ref2_CheckPackage_L0_F (N : Nat) : FV ref2_CheckPackage_L0_fs → HV ref2_CheckPackage_L0_bs → (Ex → St → Option Int) → Option Int := fun x y k => ref2_CheckPackage_L0_G N x.2.1 x.2.2.1 y.1.1 y.1.2.1 x.2.2.2.1 k
noncomputable def ref2_CheckPackage_LP (N : Nat) : Nat → Code → St → (Ex → St → Option Int) → Option Int := fun i c =>
  match i with
  | 0 => (LPc 42 ref2_CheckPackage_L0_fs ref2_CheckPackage_L0_bs (ref2_CheckPackage_L0_F N) (fun st k => iter (ref2_CheckPackage_h 0) (exec (ref2_CheckPackage_E N) N c 0) N st k))
  | i => fun st k => iter (ref2_CheckPackage_h i) (exec (ref2_CheckPackage_E N) N c i) N st k
theorem ref2_CheckPackage_L0_step (N : Nat) (c15 : List (Str × Str × List (Str × GValue))) (c16 : Int) (c1001_0 : Str) (c1001_1 : List (Str × Str × List (Str × GValue))) (KX : Nat → St → Option Int) (I : St → Option Int) (s17 : Int) :
    execL (ref2_CheckPackage_LP N) (ref2_CheckPackage_E N) (cAt (bodyOf Tryz.f21) [true, true, true, false, true, false, false]) 0 (ref2_CheckPackage_L0_hd c15 c16 c1001_0 c1001_1 s17) (roundK (ref2_CheckPackage_h 0) I KX (resD (ref2_CheckPackage_E N) Tryz.f21 (ref2_CheckPackage_sg fun x _ => ref2_CheckPackage N x.1) ref2_CheckPackage_pk)) = ref2_CheckPackage_L0T N c15 c16 c1001_1 (KX 0 (ref2_CheckPackage_L0_tl0 c15 c16 c1001_0 c1001_1)) (fun s17 => I (ref2_CheckPackage_L0_hd c15 c16 c1001_0 c1001_1 s17)) s17 := by kernel_rfl
theorem ref2_CheckPackage_L0_ok (N : Nat) : ∀ x y k, (∀ st, k .ret st = (resD (ref2_CheckPackage_E N) Tryz.f21 (ref2_CheckPackage_sg fun x _ => ref2_CheckPackage N x.1) ref2_CheckPackage_pk) st) → iter (ref2_CheckPackage_h 0) (exec (ref2_CheckPackage_E N) N (cAt (bodyOf Tryz.f21) [true, true, true, false, true, false, false]) 0) N ⟨42, unF ref2_CheckPackage_L0_fs x, unH ref2_CheckPackage_L0_bs y⟩ k = ref2_CheckPackage_L0_F N x y k := fun x y k hk =>
  iter_link (S := (Int) × Unit) (ref2_CheckPackage_h 0) _ (execL (ref2_CheckPackage_LP N) (ref2_CheckPackage_E N) (cAt (bodyOf Tryz.f21) [true, true, true, false, true, false, false]) 0) (resD (ref2_CheckPackage_E N) Tryz.f21 (ref2_CheckPackage_sg fun x _ => ref2_CheckPackage N x.1) ref2_CheckPackage_pk) (fun st k hk => execL_eq _ _ N _ (cAt (bodyOf Tryz.f21) [true, true, true, false, true, false, false]) 0 (show LoopsOk (ref2_CheckPackage_LP N) (ref2_CheckPackage_E N) N (resD (ref2_CheckPackage_E N) Tryz.f21 (ref2_CheckPackage_sg fun x _ => ref2_CheckPackage N x.1) ref2_CheckPackage_pk) [] from trivial) st k hk) (fun s => ref2_CheckPackage_L0_hd x.2.1 x.2.2.1 y.1.1 y.1.2.1 s.1) k hk
    (fun self s => ref2_CheckPackage_L0T N x.2.1 x.2.2.1 y.1.2.1 (k (.exit 0) (ref2_CheckPackage_L0_tl0 x.2.1 x.2.2.1 y.1.1 y.1.2.1)) (fun s17 => self (s17, ())) s.1) (fun n s => ref2_CheckPackage_L0 N x.2.1 x.2.2.1 y.1.2.1 (k (.exit 0) (ref2_CheckPackage_L0_tl0 x.2.1 x.2.2.1 y.1.1 y.1.2.1)) n s.1) (fun _ => rfl) (fun _ _ => rfl)
    (fun I s => ref2_CheckPackage_L0_step N x.2.1 x.2.2.1 y.1.1 y.1.2.1 (fun j => k (.exit j)) I s.1) N (x.2.2.2.1, ())
theorem ref2_CheckPackage_lp0 (N : Nat) : ∀ st k, (∀ st, k .ret st = (resD (ref2_CheckPackage_E N) Tryz.f21 (ref2_CheckPackage_sg fun x _ => ref2_CheckPackage N x.1) ref2_CheckPackage_pk) st) → ref2_CheckPackage_LP N 0 (cAt (bodyOf Tryz.f21) [true, true, true, false, true, false, false]) st k = iter (Env.hint (ref2_CheckPackage_E N) 0) (exec (ref2_CheckPackage_E N) N (cAt (bodyOf Tryz.f21) [true, true, true, false, true, false, false]) 0) N st k := fun st k hk => LPc_eq 42 ref2_CheckPackage_L0_fs ref2_CheckPackage_L0_bs _ _ (resD (ref2_CheckPackage_E N) Tryz.f21 (ref2_CheckPackage_sg fun x _ => ref2_CheckPackage N x.1) ref2_CheckPackage_pk) (ref2_CheckPackage_L0_ok N) _ st k hk (rfl)
theorem ref2_CheckPackage_core (N : Nat) (x : SV [.v (.pr .str (.sl (.pr .str (.pr .str (.sl (.pr .str (.rc .value)))))))]) (y : BV []) : runL (ref2_CheckPackage_E N) Tryz.f21 (ref2_CheckPackage_sg fun x _ => ref2_CheckPackage N x.1) ref2_CheckPackage_pk (ref2_CheckPackage_LP N) x y = ref2_CheckPackage N x.1 := by kernel_rfl
theorem ref2_CheckPackage_sound (N : Nat) : Sound Tryz.prog GW B0G 21 (ref2_CheckPackage_sg fun x _ => ref2_CheckPackage N x.1) :=
  runD_sound (mkE_ok ref2_CheckPackage_h (ref2_CheckPackage_fn N) _ _ (ref2_CheckPackage_fn_ok N)) Tryz.func21 rfl Tryz.call21 (ref2_CheckPackage_sg fun x _ => ref2_CheckPackage N x.1) ref2_CheckPackage_pk (fun _ _ => rfl) N (fun x y _ h => ((runL_eq (ref2_CheckPackage_E N) N Tryz.f21 (ref2_CheckPackage_sg fun x _ => ref2_CheckPackage N x.1) ref2_CheckPackage_pk (ref2_CheckPackage_LP N) (show LoopsOk (ref2_CheckPackage_LP N) (ref2_CheckPackage_E N) N (resD (ref2_CheckPackage_E N) Tryz.f21 (ref2_CheckPackage_sg fun x _ => ref2_CheckPackage N x.1) ref2_CheckPackage_pk) [(0, (cAt (bodyOf Tryz.f21) [true, true, true, false, true, false, false]))] from ⟨ref2_CheckPackage_lp0 N, trivial⟩) x y).trans (ref2_CheckPackage_core N x y)).trans h)
def law2_ScriptPackagesMatchSpec (N : Nat) (x0 : Str × List (Str × Str × List (Str × GValue))) (x1 : Str × Str × List (Str × GValue)) (x2 : Str) : Option Bool :=
  bnd (script_Attr N x1 x2) fun t16 =>
  bnd (ref2_Attr N x1 x2) fun t23 =>
  bnd (script_CheckPackage N x0) fun t28 =>
  bnd (ref2_CheckPackage N x0) fun t30 =>
  br (t28 == t30)
    (br (t16.2.2 == t23.2.2)
      (br (t16.2.1 == t23.2.1)
        (bnd (ref2_SameValue N N (GValue.mk t16.1.kind t16.1.text t16.1.number t16.1.list t16.1.cases) (GValue.mk t23.1.kind t23.1.text t23.1.number t23.1.list t23.1.cases)) fun t45 =>
        br (t45)
          (bnd (law2_awake) fun t48 =>
          some t48)
          (some false))
        (some false))
      (some false))
    (some false)
abbrev law2_ScriptPackagesMatchSpec_sg (f : SV [.v (.pr .str (.sl (.pr .str (.pr .str (.sl (.pr .str (.rc .value))))))), .v (.pr .str (.pr .str (.sl (.pr .str (.rc .value))))), .v .str] → BV [] → Option (Bool)) : AF := { ps := [.v (.pr .str (.sl (.pr .str (.pr .str (.sl (.pr .str (.rc .value))))))), .v (.pr .str (.pr .str (.sl (.pr .str (.rc .value))))), .v .str], bs := [], rs := [.v .bool], cs := [], R := Bool, out := fun z => ((z, ()), ()), f := f }
abbrev law2_ScriptPackagesMatchSpec_pk : SV [.v .bool] → BV [] → Bool := fun x _ => x.1
def law2_ScriptPackagesMatchSpec_fn (N : Nat) : FuncId → Option Tmp → Option AF := fun f _ =>
  match f with
    | 11 => some (law2_awake_sg fun _ _ => law2_awake)
    | 12 => some (ref2_SameValue_sg fun x _ => ref2_SameValue N N x.1 x.2.1)
    | 18 => some (script_Attr_sg fun x _ => script_Attr N x.1 x.2.1)
    | 19 => some (ref2_Attr_sg fun x _ => ref2_Attr N x.1 x.2.1)
    | 20 => some (script_CheckPackage_sg fun x _ => script_CheckPackage N x.1)
    | 21 => some (ref2_CheckPackage_sg fun x _ => ref2_CheckPackage N x.1)
    | _ => none
theorem law2_ScriptPackagesMatchSpec_fn_ok (N : Nat) : ∀ f q F, law2_ScriptPackagesMatchSpec_fn N f q = some F → Sound Tryz.prog GW B0G f F := by
  intro f q F h
  unfold law2_ScriptPackagesMatchSpec_fn at h
  split at h
  · cases h; exact law2_awake_sound
  · cases h; exact ref2_SameValue_sound N N
  · cases h; exact script_Attr_sound N
  · cases h; exact ref2_Attr_sound N
  · cases h; exact script_CheckPackage_sound N
  · cases h; exact ref2_CheckPackage_sound N
  · cases h
def law2_ScriptPackagesMatchSpec_h : Nat → Hint := fun i =>
  match i with
  | _ => ⟨[], [], [], [], [], []⟩
abbrev law2_ScriptPackagesMatchSpec_E (N : Nat) : Env := mkE law2_ScriptPackagesMatchSpec_h (law2_ScriptPackagesMatchSpec_fn N) (fun _ => false) (fun _ => false)
noncomputable def law2_ScriptPackagesMatchSpec_LP (N : Nat) : Nat → Code → St → (Ex → St → Option Bool) → Option Bool := fun i c =>
  match i with
  | i => fun st k => iter (law2_ScriptPackagesMatchSpec_h i) (exec (law2_ScriptPackagesMatchSpec_E N) N c i) N st k
theorem law2_ScriptPackagesMatchSpec_core (N : Nat) (x : SV [.v (.pr .str (.sl (.pr .str (.pr .str (.sl (.pr .str (.rc .value))))))), .v (.pr .str (.pr .str (.sl (.pr .str (.rc .value))))), .v .str]) (y : BV []) : runL (law2_ScriptPackagesMatchSpec_E N) Tryz.f5 (law2_ScriptPackagesMatchSpec_sg fun x _ => law2_ScriptPackagesMatchSpec N x.1 x.2.1 x.2.2.1) law2_ScriptPackagesMatchSpec_pk (law2_ScriptPackagesMatchSpec_LP N) x y = law2_ScriptPackagesMatchSpec N x.1 x.2.1 x.2.2.1 := by kernel_rfl
theorem law2_ScriptPackagesMatchSpec_sound (N : Nat) : Sound Tryz.prog GW B0G 5 (law2_ScriptPackagesMatchSpec_sg fun x _ => law2_ScriptPackagesMatchSpec N x.1 x.2.1 x.2.2.1) :=
  runD_sound (mkE_ok law2_ScriptPackagesMatchSpec_h (law2_ScriptPackagesMatchSpec_fn N) _ _ (law2_ScriptPackagesMatchSpec_fn_ok N)) Tryz.func5 rfl Tryz.call5 (law2_ScriptPackagesMatchSpec_sg fun x _ => law2_ScriptPackagesMatchSpec N x.1 x.2.1 x.2.2.1) law2_ScriptPackagesMatchSpec_pk (fun _ _ => rfl) N (fun x y _ h => ((runL_eq (law2_ScriptPackagesMatchSpec_E N) N Tryz.f5 (law2_ScriptPackagesMatchSpec_sg fun x _ => law2_ScriptPackagesMatchSpec N x.1 x.2.1 x.2.2.1) law2_ScriptPackagesMatchSpec_pk (law2_ScriptPackagesMatchSpec_LP N) (show LoopsOk (law2_ScriptPackagesMatchSpec_LP N) (law2_ScriptPackagesMatchSpec_E N) N (resD (law2_ScriptPackagesMatchSpec_E N) Tryz.f5 (law2_ScriptPackagesMatchSpec_sg fun x _ => law2_ScriptPackagesMatchSpec N x.1 x.2.1 x.2.2.1) law2_ScriptPackagesMatchSpec_pk) [] from trivial) x y).trans (law2_ScriptPackagesMatchSpec_core N x y)).trans h)
end
end Go.Proofs.YtahjncefiegflaaGreatDoor


/- Splitting, cutting and joining at one byte. No program in sight. -/
namespace Go.Proofs.YtahjncefiegflaaGreatDoor
set_option linter.unusedVariables false
set_option linter.unusedSimpArgs false
open Go Go.RowKit
def splitC (c : UInt8) : Str → List Str
  | [] => [[]]
  | b :: s => if b = c then [] :: splitC c s else match splitC c s with
    | x :: xs => (b :: x) :: xs
    | [] => [[b]]
theorem splitC_ne (c : UInt8) (s : Str) : splitC c s ≠ [] := by
  cases s with
  | nil => simp [splitC]
  | cons b s => unfold splitC; split; simp; split <;> simp
theorem indexByte_cons (b c : UInt8) (s : Str) : Lib.indexByte (b :: s) c = if b = c then 0 else if Lib.indexByte s c = -1 then -1 else Lib.indexByte s c + 1 := by
  have h := Lib.indexByte_ge s c
  rw [Lib.indexByte]
  by_cases hb : b = c
  · simp [hb]
  · simp only [beq_iff_eq, hb, if_false]
theorem splitK_one (c : UInt8) : ∀ (s : Str), Lib.splitK [c] 0 (Lib.count s [c]) s = splitC c s
  | [] => by simp [Lib.count_one, Lib.splitK, splitC]
  | b :: s => by
    have ih := splitK_one c s
    by_cases hb : b = c
    · subst hb
      rw [Lib.count_cons_eq, Nat.add_comm, Lib.splitK, Lib.index_one, indexByte_cons]
      simp only [if_true]
      show (_ :: Lib.splitK [b] 0 (Lib.count s [b]) s) = _
      rw [ih]
      simp [splitC]
    · rw [Lib.count_cons_ne _ _ _ hb]
      unfold splitC
      rw [if_neg hb, ← ih]
      cases hk : Lib.count s [c] with
      | zero => simp [Lib.splitK]
      | succ k =>
        rw [Lib.splitK, Lib.splitK, Lib.index_one, Lib.index_one, indexByte_cons, if_neg hb]
        have h0 := Lib.indexByte_ge s c
        by_cases h1 : Lib.indexByte s c = -1
        · simp [h1]
        · have h2 : ∃ n : Nat, Lib.indexByte s c = n := ⟨(Lib.indexByte s c).toNat, by omega⟩
          obtain ⟨n, hn⟩ := h2
          have e : ((n : Int) + 1).toNat = n + 1 := by omega
          have e1 : ¬ ((n : Int) = -1) := by omega
          have e2 : ¬ ((n : Int) + 1 = -1) := by omega
          simp [hn, e, e1, e2, Nat.add_right_comm]
theorem splitS_one (s : Str) (c : UInt8) : splitS s [c] = splitC c s := by
  unfold splitS
  have := Lib.splitB_data ⟨[c].toArray⟩ 0 (Lib.countB ⟨s.toArray⟩ ⟨[c].toArray⟩) ⟨s.toArray⟩
  rw [this]
  exact splitK_one c s
theorem splitC_len (c : UInt8) : ∀ s : Str, (splitC c s).length = s.count c + 1
  | [] => rfl
  | b :: s => by
    have ih := splitC_len c s
    unfold splitC
    by_cases hb : b = c
    · rw [if_pos hb]; simp [hb, ih]
    · rw [if_neg hb, List.count_cons_of_ne hb, ← ih]
      have := splitC_ne c s
      cases h : splitC c s with
      | nil => exact absurd h this
      | cons => rfl
theorem strings_Split_one (s : Str) (c : UInt8) (h : s.length < 4294967281) : strings_Split s [c] = some (splitC c s) := by
  have hc : s.count c ≤ s.length := List.count_le_length
  unfold strings_Split
  rw [splitS_one, splitC_len]
  refine if_pos ⟨h, by simp, ?_, by omega⟩
  show _ = Lib.count s [c] + 1
  rw [Lib.count_one]
theorem splitC_mem (c : UInt8) (s : Str) : ∀ x ∈ splitC c s, c ∉ x ∧ x.length ≤ s.length := by
  induction s with
  | nil => intro x hx; simp [splitC] at hx; subst hx; simp
  | cons b s ih =>
    intro x hx
    unfold splitC at hx
    by_cases hb : b = c
    · rw [if_pos hb] at hx
      rcases List.mem_cons.1 hx with rfl | hx
      · simp
      · have := ih x hx; exact ⟨this.1, by simp; omega⟩
    · rw [if_neg hb] at hx
      cases h : splitC c s with
      | nil => exact absurd h (splitC_ne c s)
      | cons y ys =>
        rw [h] at hx ih
        rcases List.mem_cons.1 hx with rfl | hx
        · have := ih y (by simp)
          refine ⟨fun hm => ?_, by simp; omega⟩
          rcases List.mem_cons.1 hm with e | hm
          · exact hb e.symm
          · exact this.1 hm
        · have := ih x (List.mem_cons_of_mem _ hx); exact ⟨this.1, by simp; omega⟩
end Go.Proofs.YtahjncefiegflaaGreatDoor


/- The arguments of a law, as the statement's reading hands them over, as data of the machine: any type. -/
namespace Go.Proofs.YtahjncefiegflaaGreatDoor
set_option linter.unusedVariables false
set_option linter.unusedSimpArgs false
open Go Go.RowKit Go.ChangeShapes Go.WideShapes
/-- Nothing is longer than Go lets it be. -/
def FitG (RR : (i : RC) → i.den → Prop) : (t : Ty) → t.den → Prop
  | .u8, _ => True
  | .int k, x => (Lit.int k x).wf = true
  | .bool, _ => True
  | .str, x => x.length ≤ maxLen
  | .sl t, xs => xs.length ≤ maxLen ∧ ∀ x ∈ xs, FitG RR t x
  | .pr a b, x => FitG RR a x.1 ∧ FitG RR b x.2
  | .un, _ => True
  | .mp _, _ => True
  | .ptr _, _ => True
  | .np _, _ => True
  | .clo _ _, _ => True
  | .rc i, x => RR i x
def FitR (i : RC) (x : i.den) : Prop := ∀ RR : (i : RC) → i.den → Prop, (∀ j y, FitG RR j.body (j.un y) → RR j y) → RR i x
def Fit : (t : Ty) → t.den → Prop := FitG FitR
theorem FitG.mono {RR RR' : (i : RC) → i.den → Prop} (hR : ∀ i x, RR i x → RR' i x) : ∀ (t : Ty) (x : t.den), FitG RR t x → FitG RR' t x
  | .u8, _, h => h
  | .int _, _, h => h
  | .bool, _, h => h
  | .str, _, h => h
  | .sl t, _, h => ⟨h.1, fun x hx => FitG.mono hR t x (h.2 x hx)⟩
  | .pr a b, _, h => ⟨FitG.mono hR a _ h.1, FitG.mono hR b _ h.2⟩
  | .un, _, h => h
  | .mp _, _, h => h
  | .ptr _, _, h => h
  | .np _, _, h => h
  | .clo _ _, _, h => h
  | .rc i, x, h => hR i x h
theorem FitR.intro {i : RC} {x : i.den} (h : Fit i.body (i.un x)) : FitR i x :=
  fun RR hc => hc i x (FitG.mono (fun j y hy => hy RR hc) _ _ h)
theorem FitR.elim {i : RC} {x : i.den} (h : FitR i x) : Fit i.body (i.un x) :=
  h (fun j y => Fit j.body (j.un y)) fun _ _ hy => FitG.mono (fun _ _ h => FitR.intro h) _ _ hy
mutual
/-- A type of the program is this one, down to its parts. -/
inductive Deep (P : Program) (R : RC → Option TypeId) : Ty → TypeId → Prop where
  | u8 {T : TypeId} : P.underlying T = some (.int .u8) → Deep P R .u8 T
  | int {T : TypeId} {k : IntKind} : P.underlying T = some (.int k) → Deep P R (.int k) T
  | bool {T : TypeId} : P.underlying T = some .bool → Deep P R .bool T
  | str {T : TypeId} : P.underlying T = some .string → Deep P R .str T
  | sl {T e : TypeId} {t : Ty} : P.underlying T = some (.slice e) → P.cellsOf e = t.sz → Deep P R t e → Deep P R (.sl t) T
  | st {T : TypeId} {t : Ty} {fs : Array Field} : P.underlying T = some (.struct fs) → P.cellsOf T = t.sz → t.isAgg = true → DeepF P R t fs.toList 0 → Deep P R t T
  | rc {T : TypeId} {i : RC} : R i = some T → Deep P R (.rc i) T
/-- The same, of fields from a place on. -/
inductive DeepF (P : Program) (R : RC → Option TypeId) : Ty → List Field → Nat → Prop where
  | nil {o : Nat} : DeepF P R .un [] o
  | one {t : Ty} {f : Field} {o : Nat} : f.offset = o → P.cellsOf f.type = t.sz → Deep P R t f.type → DeepF P R t [f] o
  | single {t : Ty} {f : Field} {o : Nat} : f.offset = o → P.cellsOf f.type = t.sz → Deep P R t f.type → DeepF P R (.pr t .un) [f] o
  | cons {a b : Ty} {f : Field} {fs : List Field} {o : Nat} : f.offset = o → P.cellsOf f.type = a.sz → Deep P R a f.type → DeepF P R b fs (o + a.sz) → DeepF P R (.pr a b) (f :: fs) o
end
def RcOk (P : Program) (R : RC → Option TypeId) : Prop := ∀ i T, R i = some T → ∃ fs, P.underlying T = some (.struct fs) ∧ P.cellsOf T = i.sz ∧ DeepF P R i.body fs.toList 0
abbrev M00 : Nat → Nat → Prop := fun _ _ => False
section
variable {H : Type} {enc : TypeId × Value → H} {P : Program} {w : World} {spare : Nat → Bool} {held : Bool} {R : RC → Option TypeId}
theorem choose_list {α : Type} {p : Nat → α → Prop} : ∀ n, (∀ i, i < n → ∃ x, p i x) → ∃ l : List α, l.length = n ∧ ∀ i (h : i < l.length), p i l[i]
  | 0, _ => ⟨[], rfl, fun i h => absurd h (Nat.not_lt_zero _)⟩
  | n + 1, h => by
    obtain ⟨l, hl, hp⟩ := choose_list n fun i hi => h i (Nat.lt_succ_of_lt hi)
    obtain ⟨x, hx⟩ := h n (Nat.lt_succ_self _)
    refine ⟨l ++ [x], by simp [hl], fun i hi => ?_⟩
    rcases Nat.lt_or_ge i l.length with h' | h'
    · rw [List.getElem_append_left h']; exact hp i h'
    · have : i = l.length := by simp at hi; omega
      subst this
      simp [hl, hx]
theorem pl_of_cells {a : Addr} {n : Nat} {cs : List Value} (h : w.cells? 0 a n = some cs) : Pl M00 w a cs := by
  intro j u hu
  refine ⟨?_, id⟩
  unfold World.cells? at h
  rw [if_pos (Nat.zero_le _)] at h
  have hl := mapM_some_length h
  have hj : j < n := by
    rcases Nat.lt_or_ge j cs.length with h' | h'
    · rw [hl, List.length_range] at h'; exact h'
    · rw [List.getElem?_eq_none h'] at hu; cases hu
  have := mapM_some_get h j j (by rw [List.getElem?_range hj])
  rw [this]; exact hu
end
/-- A law is called. -/
theorem law_run {P : Program} {f : FuncId} {ps : List Sl} {F : SV ps → BV [] → Option Bool} {out : Bool → SV [.v .bool] × BV []} (hout : ∀ z, (out z).1 = (z, ())) (hs : Sound P GW B0G f ⟨ps, [], [.v .bool], [], Bool, out, F⟩)
    {W : World} {vs : List Value} {x : SV ps} (hg : GW W) (ha : All2 (RepD0 M00 W g0) (lays id ps x) vs) (hf : F x () = some true) : Calls P f vs.toArray W fun e W' => e = .returned (.bool true) ∧ Ext W W' := by
  refine (hs.2 M00 W g0 vs x () true hg (GW_size hg) { args := ha, res := fun r blk h => (by cases h), dom := fun r gx h => (by cases h), inj := fun _ _ _ _ _ h => (by cases h), low := fun _ _ _ h => (by cases h), chg := fun _ _ _ _ h => (by cases h), mlt := fun b o h => h.elim, row := fun _ _ _ h => (by cases h) } hf).mono fun e W' hp => ?_
  obtain ⟨vs', g', he, hE, _, hF, _⟩ := hp
  refine ⟨?_, hE.ext fun b hb => ?_⟩
  · have := hF.args
    rw [hout] at this
    match vs', this with
    | [v], ⟨h1, _⟩ =>
      have h2 := RepV.plain (t := .bool) rfl h1
      have h3 : [v] = [.bool true] := h2
      injection h3 with h3
      rw [he, h3]
      rfl
  · obtain ⟨r, x, h, _⟩ := hb
    cases h
end Go.Proofs.YtahjncefiegflaaGreatDoor


/- The arguments of a law, with how much they hold together ('bulk'). -/
namespace Go.Proofs.YtahjncefiegflaaGreatDoor
set_option linter.unusedVariables false
set_option linter.unusedSimpArgs false
open Go Go.RowKit Go.ChangeShapes Go.WideShapes
/-- How many values and letters data hold. -/
def bulkG (rb : (i : RC) → i.den → Nat) : (t : Ty) → t.den → Nat
  | .u8, _ => 1
  | .int _, _ => 1
  | .bool, _ => 1
  | .str, x => x.length + 1
  | .sl t, xs => (xs.map (bulkG rb t)).sum + 1
  | .pr a b, x => bulkG rb a x.1 + bulkG rb b x.2
  | .un, _ => 0
  | .mp _, _ => 0
  | .ptr _, _ => 0
  | .np _, _ => 0
  | .clo _ _, _ => 0
  | .rc i, x => rb i x
def RbOk (rb : (i : RC) → i.den → Nat) : Prop := ∀ i x, rb i (i.mk x) ≤ bulkG rb i.body x + 1
def GValue.bulk : GValue → Nat
  | .mk _ t _ l cs => 1 + (t.length + 1 + (1 + ((l.map (·.length + 1)).sum + 1 + ((cs.attach.map (fun c => c.1.1.length + 1 + GValue.bulk c.1.2)).sum + 1)))) + 1
termination_by v => SizeOf.sizeOf v
decreasing_by
  have := List.sizeOf_lt_of_mem c.2
  have h2 : SizeOf.sizeOf c.1 = 1 + SizeOf.sizeOf c.1.1 + SizeOf.sizeOf c.1.2 := by cases c.1; rfl
  simp_wf
  omega
def GExpr.bulk : GExpr → Nat
  | .mk _ t _ l cs => 1 + (t.length + 1 + (1 + ((l.map (·.length + 1)).sum + 1 + ((cs.attach.map (fun c => GExpr.bulk c.1)).sum + 1)))) + 1
termination_by v => SizeOf.sizeOf v
decreasing_by
  have := List.sizeOf_lt_of_mem c.2
  simp_wf
  omega
def GStmt.bulk : GStmt → Nat
  | .mk _ n t l a e b f _ => 1 + (n.length + 1 + (t.length + 1 + ((l.map (·.length + 1)).sum + 1 + ((a.map (fun c => c.1.length + 1 + c.2.bulk)).sum + 1 + (e.bulk + ((b.attach.map (fun c => GStmt.bulk c.1)).sum + 1 + ((f.attach.map (fun c => GStmt.bulk c.1)).sum + 1 + 1))))))) + 1
termination_by v => SizeOf.sizeOf v
decreasing_by
  all_goals
    have := List.sizeOf_lt_of_mem c.2
    simp_wf
    omega
def rbC : (i : RC) → i.den → Nat
  | .value, x => GValue.bulk x
  | .expr, x => GExpr.bulk x
  | .stmt, x => GStmt.bulk x
  | .part, _ => 0
theorem attach_map {α β : Type} (f : α → β) (l : List α) : l.attach.map (fun c => f c.1) = l.map f := by
  rw [show (fun c : {x // x ∈ l} => f c.1) = f ∘ Subtype.val from rfl, ← List.map_map, List.attach_map_subtype_val]
theorem rbC_ok : RbOk rbC := by
  intro i x
  cases i with
  | value =>
    obtain ⟨k, t, n, l, cs⟩ := x
    have e : GValue.bulk (.mk k t n l cs) = bulkG rbC RC.value.body ((k, t, n, l, cs) : RC.value.body.den) + 1 := by
      rw [GValue.bulk, attach_map (fun c : Str × GValue => c.1.length + 1 + GValue.bulk c.2) cs]; rfl
    exact Nat.le_of_eq e
  | expr =>
    obtain ⟨k, t, n, l, cs⟩ := x
    have e : GExpr.bulk (.mk k t n l cs) = bulkG rbC RC.expr.body ((k, t, n, l, cs) : RC.expr.body.den) + 1 := by
      rw [GExpr.bulk, attach_map (fun c : GExpr => GExpr.bulk c) cs]; rfl
    exact Nat.le_of_eq e
  | stmt =>
    obtain ⟨k, n, t, l, a, e, b, f, p⟩ := x
    have e : GStmt.bulk (.mk k n t l a e b f p) = bulkG rbC RC.stmt.body ((k, n, t, l, a, e, b, f, p) : RC.stmt.body.den) + 1 := by
      rw [GStmt.bulk, attach_map (fun c : GStmt => GStmt.bulk c) b, attach_map (fun c : GStmt => GStmt.bulk c) f]; rfl
    exact Nat.le_of_eq e
  | part => exact Nat.zero_le _
section
variable {H : Type} {enc : TypeId × Value → H} {P : Program} {w : World} {spare : Nat → Bool} {held : Bool} {R : RC → Option TypeId} {rb : (i : RC) → i.den → Nat}
theorem uptoAll_cons (d : DataW H) (r : List (DataW H)) : Rows.uptoBulkAll (d :: r) = Rows.uptoBulk d + Rows.uptoBulkAll r := by simp [Rows.uptoBulkAll]
theorem uptoAll_nil : Rows.uptoBulkAll ([] : List (DataW H)) = 0 := by simp [Rows.uptoBulkAll]
theorem sum_le {α : Type} (f : α → Nat) : ∀ (l : List α) (e : List (DataW H × List MemPlace)), l.length = e.length → (∀ i (h : i < l.length) (h' : i < e.length), f l[i] ≤ Rows.uptoBulk e[i].1) → (l.map f).sum ≤ Rows.uptoBulkAll (e.map (·.1))
  | [], e, _, _ => by simp
  | x :: l, [], h, _ => by simp at h
  | x :: l, y :: e, h, hf => by
    have h0 := hf 0 (by simp) (by simp)
    have ih := sum_le f l e (by simpa using h) (fun i h1 h2 => by have := hf (i + 1) (by simpa using h1) (by simpa using h2); simpa using this)
    simp only [List.map_cons, List.sum_cons, uptoAll_cons]
    simp only [List.getElem_cons_zero] at h0
    omega
theorem fields_bulk {fuel : Nat} {cs : List Value}
    (ih : ∀ (t : Ty) (T : TypeId) (cs : List Value) (x : DataW H × List MemPlace), Deep P R t T → DataW.trod enc P w 0 spare held fuel T cs = some x → ∃ d : t.den, RepC M00 w t d cs ∧ Fit t d ∧ bulkG rb t d ≤ Rows.uptoBulk x.1) :
    ∀ (fs : List Field) (t : Ty) (o : Nat) (xs : List (DataW H × List MemPlace)), DeepF P R t fs o →
      (fs.mapM fun f => DataW.trod enc P w 0 spare held fuel f.type ((cs.drop f.offset).take (P.cellsOf f.type))) = some xs → ∃ d : t.den, RepC M00 w t d ((cs.drop o).take t.sz) ∧ Fit t d ∧ bulkG rb t d ≤ Rows.uptoBulkAll (xs.map (·.1)) := by
  intro fs
  induction fs with
  | nil =>
    intro t o xs hd _
    cases hd
    exact ⟨(), List.take_zero, trivial, Nat.zero_le _⟩
  | cons f fs hfs =>
    intro t o xs hd hm
    obtain ⟨y, ys, hy, hys, rfl⟩ : ∃ y ys, DataW.trod enc P w 0 spare held fuel f.type ((cs.drop f.offset).take (P.cellsOf f.type)) = some y ∧ (fs.mapM fun f => DataW.trod enc P w 0 spare held fuel f.type ((cs.drop f.offset).take (P.cellsOf f.type))) = some ys ∧ xs = y :: ys := by
      rw [List.mapM_cons] at hm
      cases hy : DataW.trod enc P w 0 spare held fuel f.type ((cs.drop f.offset).take (P.cellsOf f.type)) with
      | none => rw [hy] at hm; cases hm
      | some y =>
        rw [hy] at hm
        cases hys : (fs.mapM fun f => DataW.trod enc P w 0 spare held fuel f.type ((cs.drop f.offset).take (P.cellsOf f.type))) with
        | none => rw [hys] at hm; cases hm
        | some ys => rw [hys] at hm; exact ⟨y, ys, rfl, rfl, (Option.some.inj hm).symm⟩
    rw [List.map_cons, uptoAll_cons]
    cases hd with
    | one ho hc h1 =>
      rw [ho, hc] at hy
      obtain ⟨d, h1, h2, h3⟩ := ih _ _ _ _ h1 hy
      exact ⟨d, h1, h2, by omega⟩
    | single ho hc h1 =>
      rw [ho, hc] at hy
      obtain ⟨d, hd1, hd2, hd3⟩ := ih _ _ _ _ h1 hy
      refine ⟨(d, ()), ⟨_, [], (List.append_nil _).symm, hd1, rfl⟩, ⟨hd2, trivial⟩, ?_⟩
      show bulkG rb _ d + 0 ≤ _
      omega
    | @cons a b _ _ _ ho hc h1 h2 =>
      rw [ho, hc] at hy
      obtain ⟨d, hd1, hd2, hd3⟩ := ih _ _ _ _ h1 hy
      obtain ⟨e, he1, he2, he3⟩ := hfs _ _ _ h2 hys
      refine ⟨(d, e), ⟨_, _, ?_, hd1, he1⟩, ⟨hd2, he2⟩, ?_⟩
      · show (cs.drop o).take (a.sz + b.sz) = _
        rw [List.take_add, List.drop_drop]
      · show bulkG rb a d + bulkG rb b e ≤ _
        omega
theorem trod_bulk (hR : RcOk P R) (hrb : RbOk rb) : ∀ (fuel : Nat) (t : Ty) (T : TypeId) (cs : List Value) (x : DataW H × List MemPlace), Deep P R t T → DataW.trod enc P w 0 spare held fuel T cs = some x →
    ∃ d : t.den, RepC M00 w t d cs ∧ Fit t d ∧ bulkG rb t d ≤ Rows.uptoBulk x.1 := by
  intro fuel
  induction fuel with
  | zero => intro t T cs x _ h; cases h
  | succ fuel ih =>
    intro t T cs x hd h
    have hstruct : ∀ (t : Ty) (fs : Array Field), P.underlying T = some (.struct fs) → P.cellsOf T = t.sz → DeepF P R t fs.toList 0 → ∃ d : t.den, RepC M00 w t d cs ∧ Fit t d ∧ bulkG rb t d + 1 ≤ Rows.uptoBulk x.1 := fun t fs hu hc hf => by
      unfold DataW.trod at h
      simp only [hu] at h
      split at h
      · rename_i hl
        cases hm : (fs.toList.mapM fun f => DataW.trod enc P w 0 spare held fuel f.type ((cs.drop f.offset).take (P.cellsOf f.type))) with
        | none => rw [hm] at h; cases h
        | some xs =>
          rw [hm] at h
          obtain ⟨d, h1, h2, h3⟩ := fields_bulk ih fs.toList t 0 xs hf hm
          rw [List.drop_zero, List.take_of_length_le (by omega)] at h1
          refine ⟨d, h1, h2, ?_⟩
          injection h with h
          subst h
          simp only [Rows.uptoBulk]
          omega
      · cases h
    cases hd with
    | u8 hu =>
      have hx : ∃ n, cs = [.int .u8 n] ∧ (Lit.int .u8 n).wf = true ∧ x.1 = .lit (.int .u8 n) := by
        unfold DataW.trod at h
        split at h
        all_goals try (simp_all; done)
        rename_i k' n hu2
        rw [hu] at hu2
        cases hu2
        split at h
        · rename_i hc
          obtain ⟨rfl, hc⟩ := hc
          exact ⟨n, rfl, hc, by injection h with h; rw [← h]⟩
        · cases h
      obtain ⟨n, rfl, hn, hx⟩ := hx
      refine ⟨UInt8.ofNat n.toNat, ?_, trivial, by rw [hx]; simp [Rows.uptoBulk, bulkG]⟩
      show [Value.int .u8 n] = [Value.int .u8 (UInt8.ofNat n.toNat).toNat]
      simp [Lit.wf, IntKind.min, IntKind.max, IntKind.signed, IntKind.bits] at hn
      have : ((UInt8.ofNat n.toNat).toNat : Int) = n := by simp; omega
      rw [this]
    | @int _ k hu =>
      have hx : ∃ n, cs = [.int k n] ∧ (Lit.int k n).wf = true ∧ x.1 = .lit (.int k n) := by
        unfold DataW.trod at h
        split at h
        all_goals try (simp_all; done)
        rename_i k1 k' n hu2
        rw [hu] at hu2
        cases hu2
        split at h
        · rename_i hc
          obtain ⟨rfl, hc⟩ := hc
          exact ⟨n, rfl, hc, by injection h with h; rw [← h]⟩
        · cases h
      obtain ⟨n, rfl, hn, hx⟩ := hx
      exact ⟨n, rfl, hn, by rw [hx]; simp [Rows.uptoBulk, bulkG]⟩
    | bool hu =>
      have hx : ∃ b, cs = [.bool b] ∧ x.1 = .lit (.bool b) := by
        unfold DataW.trod at h
        split at h
        all_goals try (simp_all; done)
        injection h with h
        exact ⟨_, rfl, by rw [← h]⟩
      obtain ⟨b, rfl, hx⟩ := hx
      exact ⟨b, rfl, trivial, by rw [hx]; simp [Rows.uptoBulk, bulkG]⟩
    | str hu =>
      have hx : ∃ s : ByteArray, cs = [.string s] ∧ s.size ≤ maxLen ∧ x.1 = .lit (.string s.data.toList) := by
        unfold DataW.trod at h
        split at h
        all_goals try (simp_all; done)
        split at h
        · rename_i hc
          injection h with h
          exact ⟨_, rfl, hc, by rw [← h]⟩
        · cases h
      obtain ⟨s, rfl, hn, hx⟩ := hx
      refine ⟨s.data.toList, ?_, ?_, by rw [hx]; simp [Rows.uptoBulk, bulkG]⟩
      · show [Value.string s] = [Value.string ⟨s.data.toList.toArray⟩]
        simp
      · show s.data.toList.length ≤ maxLen
        simpa using hn
    | @sl _ e t hu hc he =>
      have hx : (cs = [.slice none 0 0] ∧ x.1 = .nil) ∨ ∃ a len cap elems rest, cs = [.slice (some a) len cap] ∧ len ≤ cap ∧ cap ≤ maxLen ∧
          ((List.range len).mapM fun i => (w.cells? 0 (a.add (i * P.cellsOf e)) (P.cellsOf e)).bind (DataW.trod enc P w 0 spare held fuel e)) = some elems ∧ x.1 = .slice (elems.map (·.1)) rest := by
        unfold DataW.trod at h
        split at h
        all_goals try (simp_all; done)
        · injection h with h
          exact .inl ⟨rfl, by rw [← h]⟩
        · rename_i hu2
          rw [hu] at hu2
          cases hu2
          simp only at h
          split at h
          · rename_i hb
            right
            cases hm : ((List.range _).mapM fun i => (w.cells? 0 (Addr.add _ (i * P.cellsOf e)) (P.cellsOf e)).bind (DataW.trod enc P w 0 spare held fuel e)) with
            | none => rw [hm] at h; cases h
            | some ys =>
              rw [hm] at h
              simp only [Option.bind_some, Option.map_eq_some_iff] at h
              obtain ⟨rest, _, h⟩ := h
              exact ⟨_, _, _, ys, rest.map (·.1), rfl, hb.2.1, hb.2.2, hm, by rw [← h]⟩
          · cases h
      rcases hx with ⟨rfl, hx⟩ | ⟨a, len, cap, elems, rest, rfl, h1, h2, hm, hx⟩
      · refine ⟨[], ⟨none, 0, rfl, Nat.le_refl _, Nat.zero_le _, fun i h => absurd h (Nat.not_lt_zero _)⟩, ⟨Nat.zero_le _, fun x h => (by cases h)⟩, ?_⟩
        rw [hx]; simp [Rows.uptoBulk, bulkG]
      · have hl := mapM_some_length hm
        rw [List.length_range] at hl
        have hall : ∀ i, i < len → ∃ d : t.den, (∃ es, RepC M00 w t d es ∧ Pl M00 w (a.add (i * t.sz)) es) ∧ Fit t d ∧ ∀ h : i < elems.length, bulkG rb t d ≤ Rows.uptoBulk elems[i].1 := fun i hi => by
          have hi' : i < elems.length := by omega
          have hy := mapM_some_get hm i i (by rw [List.getElem?_range hi])
          rw [List.getElem?_eq_getElem hi'] at hy
          simp only [hc] at hy
          cases hcs : w.cells? 0 (a.add (i * t.sz)) t.sz with
          | none => rw [hcs] at hy; cases hy
          | some es =>
            rw [hcs] at hy
            obtain ⟨d, hd1, hd2, hd3⟩ := ih _ _ _ _ he hy
            exact ⟨d, ⟨es, hd1, pl_of_cells hcs⟩, hd2, fun _ => hd3⟩
        obtain ⟨l, hll, hp⟩ := choose_list len hall
        refine ⟨l, ⟨some a, cap, ?_, by omega, h2, fun i hi => ?_⟩, ⟨?_, fun x hx => ?_⟩, ?_⟩
        · rw [hll]
        · obtain ⟨⟨es, e1, e2⟩, _⟩ := hp i hi
          exact ⟨a, es, rfl, e1, e2⟩
        · show l.length ≤ maxLen; omega
        · obtain ⟨i, hi, rfl⟩ := List.getElem_of_mem hx
          exact (hp i hi).2.1
        · rw [hx]
          simp only [Rows.uptoBulk, bulkG]
          have := sum_le (bulkG rb t) l elems (by omega) (fun i h1 h2 => (hp i h1).2.2 h2)
          omega
    | st hu hc ha hf =>
      obtain ⟨d, h1, h2, h3⟩ := hstruct t _ hu hc hf
      exact ⟨d, h1, h2, by omega⟩
    | rc hr =>
      obtain ⟨fs, hu, hc, hf⟩ := hR _ _ hr
      rename_i i
      obtain ⟨d, h1, h2, h3⟩ := hstruct i.body fs hu (by rw [hc, RC.sz_body]) hf
      refine ⟨i.mk d, RepC.rc.2 (by rw [RC.un_mk]; exact h1), FitR.intro (by rw [RC.un_mk]; exact h2), ?_⟩
      have := hrb i d
      show rb i (i.mk d) ≤ _
      omega
/-- An argument, with how much it holds. -/
theorem arg_openU (hR : RcOk P R) (hrb : RbOk rb) {r : Reach} {base : Nat} {t : Ty} {T : TypeId} {v : Value} {d : DataW H} {p : List MemPlace} (hd : Deep P R t T) (hv : Value.okWide P w r base T v) (h : DataW.Trod enc P w 0 spare held T v d p) :
    ∃ x : t.den, RepV M00 w t x v ∧ Fit t x ∧ bulkG rb t x ≤ Rows.uptoBulk d := by
  obtain ⟨fuel, hf⟩ := h
  obtain ⟨x, h1, h2, h3⟩ := trod_bulk hR hrb fuel t T _ _ hd hf
  refine ⟨x, ⟨_, h1, ?_⟩, h2, h3⟩
  have hagg : ∀ fs, P.underlying T = some (.struct fs) → t.isAgg = true → v = mkV t v.cells.toList := fun fs hu ha => by
    obtain ⟨cs, rfl, _⟩ := okWide_struct hu hv
    rw [mkV_agg ha]
    simp [Value.cells]
  have hone : ∀ c : Value, v = c → c.cells = #[c] → t.isAgg = false → v = mkV t v.cells.toList := fun c e hc ha => by
    subst e
    rw [hc, mkV_plain ha]
  cases hd with
  | u8 hu => obtain ⟨n, rfl⟩ := okWide_int hu hv; exact hone _ rfl rfl rfl
  | int hu => obtain ⟨n, rfl⟩ := okWide_int hu hv; exact hone _ rfl rfl rfl
  | bool hu => obtain ⟨n, rfl⟩ := okWide_bool hu hv; exact hone _ rfl rfl rfl
  | str hu => obtain ⟨n, rfl⟩ := okWide_string hu hv; exact hone _ rfl rfl rfl
  | sl hu _ _ => obtain ⟨a, l, c, rfl⟩ := okWide_slice hu hv; exact hone _ rfl rfl rfl
  | st hu _ ha _ => exact hagg _ hu ha
  | rc hr => obtain ⟨fs, hu, _⟩ := hR _ _ hr; exact hagg _ hu rfl
end
end Go.Proofs.YtahjncefiegflaaGreatDoor


/- Labels in the program and in its reference (laws 44 and 45), in plain Lean. -/
namespace Go.Proofs.YtahjncefiegflaaGreatDoor
set_option linter.unusedVariables false
set_option linter.unusedSimpArgs false
open Go Go.RowKit
theorem scan_loop {α R : Type} {xs : List α} (ok : α → Bool) {k bad : Option R} {f : Nat → Int → Option R} (hstep : ∀ n i (hi : i < xs.length), f (n + 1) (i : Int) = if ok xs[i] = true then f n ((i + 1 : Nat) : Int) else bad)
    (hend : ∀ n, f (n + 1) (xs.length : Int) = k) : ∀ n, xs.length < n → f n 0 = if xs.all ok = true then k else bad := by
  have gen : ∀ (d n i : Nat), i + d = xs.length → d < n → f n (i : Int) = if (xs.drop i).all ok = true then k else bad := by
    intro d
    induction d with
    | zero =>
      intro n i h hn
      obtain ⟨n, rfl⟩ : ∃ j, n = j + 1 := ⟨n - 1, by omega⟩
      obtain rfl : i = xs.length := by omega
      rw [hend, List.drop_length]; rfl
    | succ d ih =>
      intro n i h hn
      obtain ⟨n, rfl⟩ : ∃ j, n = j + 1 := ⟨n - 1, by omega⟩
      have hi : i < xs.length := by omega
      rw [hstep n i hi, ih n (i + 1) (by omega) (by omega), List.drop_eq_getElem_cons hi, List.all_cons]
      cases ok xs[i] <;> simp
  intro n hn
  have := gen xs.length n 0 (by omega) hn
  simpa using this
def byteB (c : UInt8) : Bool := (blob_inPart 0 c).getD false
theorem byte_fin : ∀ n : Fin 256, blob_inPart 0 (UInt8.ofNat n.1) = some (byteB (UInt8.ofNat n.1)) := by decide +kernel
theorem byte_eq (N : Nat) (c : UInt8) : blob_inPart N c = some (byteB c) := by
  have h := byte_fin ⟨c.toNat, c.toNat_lt⟩
  have e : UInt8.ofNat c.toNat = c := by simp
  simp only [e] at h
  exact h
theorem rb1 : ∀ n : Fin 256, ref2_isPart_L0T 0 [UInt8.ofNat n.1] 1 none (fun _ => none) 0 = if byteB (UInt8.ofNat n.1) = true then none else some false := by decide +kernel
theorem rb2 : ∀ n : Fin 256, ref2_isPart_L0T 0 [UInt8.ofNat n.1] 1 none (fun _ => some true) 0 = if byteB (UInt8.ofNat n.1) = true then some true else some false := by decide +kernel
theorem rb3 : ∀ n : Fin 256, ref2_isPart_L0T 0 [UInt8.ofNat n.1] 1 none (fun _ => some false) 0 = if byteB (UInt8.ofNat n.1) = true then some false else some false := by decide +kernel
theorem ref_byte (c : UInt8) (A : Option Bool) : ref2_isPart_L0T 0 [c] 1 none (fun _ => A) 0 = if byteB c = true then A else some false := by
  have e : UInt8.ofNat c.toNat = c := by simp
  match A with
  | none => have h := rb1 ⟨c.toNat, c.toNat_lt⟩; simp only [e] at h; exact h
  | some true => have h := rb2 ⟨c.toNat, c.toNat_lt⟩; simp only [e] at h; exact h
  | some false => have h := rb3 ⟨c.toNat, c.toNat_lt⟩; simp only [e] at h; exact h
theorem blob_scan {N : Nat} {x : Str} (hx : x.length ≤ 1048576) (k : Option Bool) : ∀ n, x.length < n → blob_isPart_L0 N x (x.length : Int) k n 0 = if x.all byteB = true then k else some false := by
  refine scan_loop byteB (fun n i hi => ?_) (fun n => ?_)
  · show blob_isPart_L0T N x _ k _ (i : Int) = _
    have hw : IntKind.i64.wrap ((i : Int) + 1) = ((i + 1 : Nat) : Int) := by rw [wrap_id (by omega) (by omega)]; omega
    unfold blob_isPart_L0T
    rw [br_pos (by omega : (i : Int) < (x.length : Int)), geti_lt x hi, bnd_some, byte_eq, bnd_some, hw]
    cases byteB x[i] <;> simp
  · show blob_isPart_L0T N x _ k _ (x.length : Int) = _
    unfold blob_isPart_L0T
    rw [br_neg (by omega)]
theorem ref_scan {N : Nat} {x : Str} (hx : x.length ≤ 1048576) (k : Option Bool) : ∀ n, x.length < n → ref2_isPart_L0 N x (x.length : Int) k n 0 = if x.all byteB = true then k else some false := by
  refine scan_loop byteB (fun n i hi => ?_) (fun n => ?_)
  · show ref2_isPart_L0T N x _ k _ (i : Int) = _
    have hw : IntKind.i64.wrap ((i : Int) + 1) = ((i + 1 : Nat) : Int) := by rw [wrap_id (by omega) (by omega)]; omega
    have h := ref_byte x[i] (ref2_isPart_L0 N x (x.length : Int) k n ((i + 1 : Nat) : Int))
    have hg : geti [x[i]] (0 : Int) = some x[i] := rfl
    unfold ref2_isPart_L0T at h ⊢
    rw [br_pos (by decide : (0 : Int) < 1), hg] at h
    rw [br_pos (by omega : (i : Int) < (x.length : Int)), geti_lt x hi, hw]
    exact h
  · show ref2_isPart_L0T N x _ k _ (x.length : Int) = _
    unfold ref2_isPart_L0T
    rw [br_neg (by omega)]
def partP (x : Str) : Bool := x.all byteB && !(x == []) && !(x == [46]) && !(x == [46, 46])
theorem blob_isPart_val {N : Nat} (hN : big ≤ N) {x : Str} (hx : x.length ≤ 1048576) : blob_isPart N x = some (partP x) := by
  have hb : (18446744073709551616 : Nat) ≤ N := hN
  unfold blob_isPart partP
  rw [blob_scan hx _ N (by omega)]
  cases x.all byteB <;> cases (x == ([] : Str)) <;> cases (x == ([46] : Str)) <;> cases (x == ([46, 46] : Str)) <;> simp
theorem ref_isPart_val {N : Nat} (hN : big ≤ N) {x : Str} (hx : x.length ≤ 1048576) : ref2_isPart N x = some (partP x) := by
  have hb : (18446744073709551616 : Nat) ≤ N := hN
  unfold ref2_isPart partP
  rw [ref_scan hx _ N (by omega)]
  cases x.all byteB <;> cases (x == ([] : Str)) <;> cases (x == ([46] : Str)) <;> cases (x == ([46, 46] : Str)) <;> simp
def pathB (x : Str) : Bool := decide (1 ≤ x.length) && (decide (x.length ≤ 200) && (splitC 47 x).all partP)
theorem parts_len {x : Str} (h : x.length ≤ 1048576) : (splitC 47 x).length ≤ 1048576 + 1 := by
  rw [splitC_len]; have : x.count 47 ≤ x.length := List.count_le_length; omega
theorem parts_le {x : Str} (h : x.length ≤ 1048576) : ∀ q ∈ splitC 47 x, q.length ≤ 1048576 := fun q hq => by
  have := (splitC_mem 47 x q hq).2; omega
theorem blob_path_loop {N : Nat} (hN : big ≤ N) {P : List Str} (hl : P.length ≤ 1048576 + 1) (hP : ∀ q ∈ P, q.length ≤ 1048576) (k : Option Bool) : blob_IsPath_L0 N P (P.length : Int) k N 0 = if P.all partP = true then k else some false := by
  have hb : (18446744073709551616 : Nat) ≤ N := hN
  refine scan_loop partP (fun n i hi => ?_) (fun n => ?_) N (by omega)
  · show blob_IsPath_L0T N P _ _ _ (i : Int) = _
    have hw : IntKind.i64.wrap ((i : Int) + 1) = ((i + 1 : Nat) : Int) := by rw [wrap_id (by omega) (by omega)]; omega
    unfold blob_IsPath_L0T
    rw [br_pos (by omega : (i : Int) < (P.length : Int)), geti_lt P hi, bnd_some, hw, blob_isPart_val hN (hP P[i] (List.getElem_mem _)), bnd_some]
    cases partP P[i] <;> simp
  · show blob_IsPath_L0T N P _ _ _ (P.length : Int) = _
    unfold blob_IsPath_L0T
    rw [br_neg (by omega)]
theorem ref_path_loop {N : Nat} (hN : big ≤ N) {P : List Str} (hl : P.length ≤ 1048576 + 1) (hP : ∀ q ∈ P, q.length ≤ 1048576) (k : Option Bool) : ref2_IsPath_L0 N P (P.length : Int) k N 0 = if P.all partP = true then k else some false := by
  have hb : (18446744073709551616 : Nat) ≤ N := hN
  refine scan_loop partP (fun n i hi => ?_) (fun n => ?_) N (by omega)
  · show ref2_IsPath_L0T N P _ _ _ (i : Int) = _
    have hw : IntKind.i64.wrap ((i : Int) + 1) = ((i + 1 : Nat) : Int) := by rw [wrap_id (by omega) (by omega)]; omega
    unfold ref2_IsPath_L0T
    rw [br_pos (by omega : (i : Int) < (P.length : Int)), geti_lt P hi, bnd_some, hw, ref_isPart_val hN (hP P[i] (List.getElem_mem _)), bnd_some]
    cases partP P[i] <;> simp
  · show ref2_IsPath_L0T N P _ _ _ (P.length : Int) = _
    unfold ref2_IsPath_L0T
    rw [br_neg (by omega)]
theorem blob_path {N : Nat} (hN : big ≤ N) {x : Str} (h : x.length ≤ 1048576) : blob_IsPath N x = some (pathB x) := by
  unfold blob_IsPath pathB
  by_cases g1 : (x.length : Int) < 1
  · rw [br_pos g1, decide_eq_false (by omega : ¬ 1 ≤ x.length)]; rfl
  · rw [br_neg g1, decide_eq_true (by omega : 1 ≤ x.length)]
    by_cases g2 : (x.length : Int) > 200
    · rw [br_pos g2, decide_eq_false (by omega : ¬ x.length ≤ 200)]; rfl
    · rw [br_neg g2, decide_eq_true (by omega : x.length ≤ 200), strings_Split_one _ _ (by omega), bnd_some, blob_path_loop hN (parts_len h) (parts_le h)]
      cases (splitC 47 x).all partP <;> simp
theorem ref_path {N : Nat} (hN : big ≤ N) {x : Str} (h : x.length ≤ 1048576) : ref2_IsPath N x = some (pathB x) := by
  unfold ref2_IsPath pathB ref2_within
  rw [strings_Split_one _ _ (by omega), bnd_some, ref_path_loop hN (parts_len h) (parts_le h)]
  by_cases g1 : 1 ≤ x.length
  · rw [br_pos (by omega : (1 : Int) ≤ (x.length : Int)), decide_eq_true g1]
    by_cases g2 : x.length ≤ 200
    · rw [decide_eq_true (by omega : (x.length : Int) ≤ 200), decide_eq_true g2]
      cases (splitC 47 x).all partP <;> simp
    · rw [decide_eq_false (by omega : ¬ (x.length : Int) ≤ 200), decide_eq_false g2]
      cases (splitC 47 x).all partP <;> simp
  · rw [br_neg (by omega : ¬ (1 : Int) ≤ (x.length : Int)), decide_eq_false g1]
    cases (splitC 47 x).all partP <;> simp
def pkgB (x : Str) : Bool := (x == []) || pathB x
theorem ref_pkg {N : Nat} (hN : big ≤ N) {x : Str} (h : x.length ≤ 1048576) : ref2_isPkg N x = some (pkgB x) := by
  unfold ref2_isPkg pkgB
  rw [ref_path hN h]
  cases (x == ([] : Str)) <;> simp
end Go.Proofs.YtahjncefiegflaaGreatDoor

