/- What functions of the program compute, as plain functions (printed). -/
import Derived.Test.YthlkidohpiebiaaDoorQBlF3
import Derived.Test.YthlkidohpiebiaaDoorQBlT
import Derived.Shelf.Strings.SlTrimAscii
import Derived.Lib.Join
import Derived.ProofKit
import Derived.OpenShut
import Derived.ShutString
import Derived.DataReads
import Derived.ChangeShapes
import Derived.WideShapes
namespace Go.Proofs.YthlkidohpiebiaaDoor
open Go Go.RowKit
set_option maxRecDepth 100000
set_option linter.unusedVariables false
noncomputable section
def ref1_inside_L0T (N : Nat) (x0 : List (Str × Bool × List UInt8)) (x1 : Str) (k0 : Option Bool) (self : Int → Option Bool) (s5 : Int) : Option Bool :=
  br (decide (s5 < (x1.length : Int)))
    (bnd (geti x1 s5) fun t14 =>
    br (t14 == (47 : UInt8))
      (bnd (slc x1 (0 : Int) s5) fun t20 =>
      bnd (ref1_there N x0 t20) fun t21 =>
      br (t21)
        (some true)
        (self (IntKind.i64.wrap (s5 + (1 : Int)))))
      (self (IntKind.i64.wrap (s5 + (1 : Int)))))
    (k0)
def ref1_inside_L0 (N : Nat) (x0 : List (Str × Bool × List UInt8)) (x1 : Str) (k0 : Option Bool) : Nat → Int → Option Bool
  | 0, _ => none
  | n + 1, s5 => ref1_inside_L0T N x0 x1 k0 (ref1_inside_L0 N x0 x1 k0 n) s5
def ref1_inside (N : Nat) (x0 : List (Str × Bool × List UInt8)) (x1 : Str) : Option Bool :=
  ref1_inside_L0 N x0 x1 (some false) N (0 : Int)
abbrev ref1_inside_sg (f : SV [.v (.sl (.pr .str (.pr .bool (.sl .u8)))), .v .str] → BV [] → Option (Bool)) : AF := { ps := [.v (.sl (.pr .str (.pr .bool (.sl .u8)))), .v .str], bs := [], rs := [.v .bool], cs := [], R := Bool, out := fun z => ((z, ()), ()), f := f }
abbrev ref1_inside_pk : SV [.v .bool] → BV [] → Bool := fun x _ => x.1
def ref1_inside_fn (N : Nat) : FuncId → Option Tmp → Option AF := fun f _ =>
  match f with
    | 104 => some (ref1_there_sg fun x _ => ref1_there N x.1 x.2.1)
    | _ => none
theorem ref1_inside_fn_ok (N : Nat) : ∀ f q F, ref1_inside_fn N f q = some F → Sound Tryd.prog GW B0G f F := by
  intro f q F h
  unfold ref1_inside_fn at h
  split at h
  · cases h; exact ref1_there_sound N
  · cases h
def ref1_inside_h : Nat → Hint := fun i =>
  match i with
  | 0 => ⟨[], [0, 1, 5], [], [], [], []⟩
  | _ => ⟨[], [], [], [], [], []⟩
abbrev ref1_inside_E (N : Nat) : Env := mkE ref1_inside_h (ref1_inside_fn N) (fun _ => false) (fun _ => false)
abbrev ref1_inside_L0_fs : List (Nat × Sl) := [(0, .v (.sl (.pr .str (.pr .bool (.sl .u8))))), (1, .v .str), (5, .v (.int .i64))]
abbrev ref1_inside_L0_bs : List (Nat × Sb) := []
def ref1_inside_L0_hd (x0 : List (Str × Bool × List UInt8)) (x1 : Str) (s5 : Int) : St := ⟨23, [(0, .v (.sl (.pr .str (.pr .bool (.sl .u8)))) x0), (1, .v .str x1), (5, .v (.int .i64) s5)], []⟩
def ref1_inside_L0_tl0 (_x0 : List (Str × Bool × List UInt8)) (_x1 : Str) : St := ⟨23, [], []⟩
def ref1_inside_L0_G (N : Nat) (x0 : List (Str × Bool × List UInt8)) (x1 : Str) (s5 : Int) (k : Ex → St → Option Bool) : Option Bool :=
  ref1_inside_L0 N x0 x1 (k (.exit 0) (ref1_inside_L0_tl0 x0 x1)) N s5
abbrev ref1_inside_L0_F (N : Nat) : FV ref1_inside_L0_fs → HV ref1_inside_L0_bs → (Ex → St → Option Bool) → Option Bool := fun x _ k => ref1_inside_L0_G N x.1 x.2.1 x.2.2.1 k
noncomputable def ref1_inside_LP (N : Nat) : Nat → Code → St → (Ex → St → Option Bool) → Option Bool := fun i c =>
  match i with
  | 0 => (LPc 23 ref1_inside_L0_fs ref1_inside_L0_bs (ref1_inside_L0_F N) (fun st k => iter (ref1_inside_h 0) (exec (ref1_inside_E N) N c 0) N st k))
  | i => fun st k => iter (ref1_inside_h i) (exec (ref1_inside_E N) N c i) N st k
theorem ref1_inside_L0_step (N : Nat) (x0 : List (Str × Bool × List UInt8)) (x1 : Str) (KX : Nat → St → Option Bool) (I : St → Option Bool) (s5 : Int) :
    execL (ref1_inside_LP N) (ref1_inside_E N) (cAt (bodyOf Tryd.f75) [true, false, true, false, false]) 0 (ref1_inside_L0_hd x0 x1 s5) (roundK (ref1_inside_h 0) I KX (resD (ref1_inside_E N) Tryd.f75 (ref1_inside_sg fun x _ => ref1_inside N x.1 x.2.1) ref1_inside_pk)) = ref1_inside_L0T N x0 x1 (KX 0 (ref1_inside_L0_tl0 x0 x1)) (fun s5 => I (ref1_inside_L0_hd x0 x1 s5)) s5 := by kernel_rfl
theorem ref1_inside_L0_ok (N : Nat) : ∀ x y k, (∀ st, k .ret st = (resD (ref1_inside_E N) Tryd.f75 (ref1_inside_sg fun x _ => ref1_inside N x.1 x.2.1) ref1_inside_pk) st) → iter (ref1_inside_h 0) (exec (ref1_inside_E N) N (cAt (bodyOf Tryd.f75) [true, false, true, false, false]) 0) N ⟨23, unF ref1_inside_L0_fs x, unH ref1_inside_L0_bs y⟩ k = ref1_inside_L0_F N x y k := fun x _ k hk =>
  iter_link (S := (Int) × Unit) (ref1_inside_h 0) _ (execL (ref1_inside_LP N) (ref1_inside_E N) (cAt (bodyOf Tryd.f75) [true, false, true, false, false]) 0) (resD (ref1_inside_E N) Tryd.f75 (ref1_inside_sg fun x _ => ref1_inside N x.1 x.2.1) ref1_inside_pk) (fun st k hk => execL_eq _ _ N _ (cAt (bodyOf Tryd.f75) [true, false, true, false, false]) 0 (show LoopsOk (ref1_inside_LP N) (ref1_inside_E N) N (resD (ref1_inside_E N) Tryd.f75 (ref1_inside_sg fun x _ => ref1_inside N x.1 x.2.1) ref1_inside_pk) [] from trivial) st k hk) (fun s => ref1_inside_L0_hd x.1 x.2.1 s.1) k hk
    (fun self s => ref1_inside_L0T N x.1 x.2.1 (k (.exit 0) (ref1_inside_L0_tl0 x.1 x.2.1)) (fun s5 => self (s5, ())) s.1) (fun n s => ref1_inside_L0 N x.1 x.2.1 (k (.exit 0) (ref1_inside_L0_tl0 x.1 x.2.1)) n s.1) (fun _ => rfl) (fun _ _ => rfl)
    (fun I s => ref1_inside_L0_step N x.1 x.2.1 (fun j => k (.exit j)) I s.1) N (x.2.2.1, ())
theorem ref1_inside_lp0 (N : Nat) : ∀ st k, (∀ st, k .ret st = (resD (ref1_inside_E N) Tryd.f75 (ref1_inside_sg fun x _ => ref1_inside N x.1 x.2.1) ref1_inside_pk) st) → ref1_inside_LP N 0 (cAt (bodyOf Tryd.f75) [true, false, true, false, false]) st k = iter (Env.hint (ref1_inside_E N) 0) (exec (ref1_inside_E N) N (cAt (bodyOf Tryd.f75) [true, false, true, false, false]) 0) N st k := fun st k hk => LPc_eq 23 ref1_inside_L0_fs ref1_inside_L0_bs _ _ (resD (ref1_inside_E N) Tryd.f75 (ref1_inside_sg fun x _ => ref1_inside N x.1 x.2.1) ref1_inside_pk) (ref1_inside_L0_ok N) _ st k hk (rfl)
theorem ref1_inside_core (N : Nat) (x : SV [.v (.sl (.pr .str (.pr .bool (.sl .u8)))), .v .str]) (y : BV []) : runL (ref1_inside_E N) Tryd.f75 (ref1_inside_sg fun x _ => ref1_inside N x.1 x.2.1) ref1_inside_pk (ref1_inside_LP N) x y = ref1_inside N x.1 x.2.1 := by kernel_rfl
theorem ref1_inside_sound (N : Nat) : Sound Tryd.prog GW B0G 75 (ref1_inside_sg fun x _ => ref1_inside N x.1 x.2.1) :=
  runD_sound (mkE_ok ref1_inside_h (ref1_inside_fn N) _ _ (ref1_inside_fn_ok N)) Tryd.func75 rfl Tryd.call75 (ref1_inside_sg fun x _ => ref1_inside N x.1 x.2.1) ref1_inside_pk (fun _ _ => rfl) N (fun x y _ h => ((runL_eq (ref1_inside_E N) N Tryd.f75 (ref1_inside_sg fun x _ => ref1_inside N x.1 x.2.1) ref1_inside_pk (ref1_inside_LP N) (show LoopsOk (ref1_inside_LP N) (ref1_inside_E N) N (resD (ref1_inside_E N) Tryd.f75 (ref1_inside_sg fun x _ => ref1_inside N x.1 x.2.1) ref1_inside_pk) [(0, (cAt (bodyOf Tryd.f75) [true, false, true, false, false]))] from ⟨ref1_inside_lp0 N, trivial⟩) x y).trans (ref1_inside_core N x y)).trans h)
def ref1_CheckFiles_L0T (N : Nat) (x0 : List (Str × Bool × List UInt8)) (k0 : Int → Option Int) (self : Int → Int → Option Int) (s3 : Int) (s4 : Int) : Option Int :=
  br (decide (s4 < (x0.length : Int)))
    (bnd (geti x0 s4) fun t17 =>
    bnd (ref1_IsPath N t17.1) fun t20 =>
    br (!t20)
      (some (3 : Int))
      (bnd (geti x0 s4) fun t24 =>
      br (decide ((t24.2.2.length : Int) > (100000 : Int)))
        (some (2 : Int))
        (br (decide (s4 > (0 : Int)))
          (bnd (geti x0 s4) fun t34 =>
          bnd (geti x0 (IntKind.i64.wrap (s4 - (1 : Int)))) fun t40 =>
          br (Op.bytesLess t34.1 t40.1 || t34.1 == t40.1)
            (some (8 : Int))
            (bnd (geti x0 s4) fun t48 =>
            self (IntKind.i64.wrap (s3 + (t48.2.2.length : Int))) (IntKind.i64.wrap (s4 + (1 : Int)))))
          (bnd (geti x0 s4) fun t48_1 =>
          self (IntKind.i64.wrap (s3 + (t48_1.2.2.length : Int))) (IntKind.i64.wrap (s4 + (1 : Int)))))))
    (k0 s3)
def ref1_CheckFiles_L0 (N : Nat) (x0 : List (Str × Bool × List UInt8)) (k0 : Int → Option Int) : Nat → Int → Int → Option Int
  | 0, _, _ => none
  | n + 1, s3, s4 => ref1_CheckFiles_L0T N x0 k0 (ref1_CheckFiles_L0 N x0 k0 n) s3 s4
def ref1_CheckFiles_L1T (N : Nat) (x0 : List (Str × Bool × List UInt8)) (k2 : Option Int) (self : Int → Option Int) (s5 : Int) : Option Int :=
  br (decide (s5 < (x0.length : Int)))
    (bnd (geti x0 s5) fun t62 =>
    bnd (ref1_inside N x0 t62.1) fun t65 =>
    br (t65)
      (some (12 : Int))
      (self (IntKind.i64.wrap (s5 + (1 : Int)))))
    (k2)
def ref1_CheckFiles_L1 (N : Nat) (x0 : List (Str × Bool × List UInt8)) (k2 : Option Int) : Nat → Int → Option Int
  | 0, _ => none
  | n + 1, s5 => ref1_CheckFiles_L1T N x0 k2 (ref1_CheckFiles_L1 N x0 k2 n) s5
def ref1_CheckFiles (N : Nat) (x0 : List (Str × Bool × List UInt8)) : Option Int :=
  br (decide ((x0.length : Int) > (1000 : Int)))
    (some (2 : Int))
    (ref1_CheckFiles_L0 N x0 (fun o0_3 =>
        ref1_CheckFiles_L1 N x0 (br (decide (o0_3 > (2000000 : Int)))
              (some (2 : Int))
              (some (0 : Int))) N (0 : Int)) N (0 : Int) (0 : Int))
abbrev ref1_CheckFiles_sg (f : SV [.v (.sl (.pr .str (.pr .bool (.sl .u8))))] → BV [] → Option (Int)) : AF := { ps := [.v (.sl (.pr .str (.pr .bool (.sl .u8))))], bs := [], rs := [.v (.int .i64)], cs := [], R := Int, out := fun z => ((z, ()), ()), f := f }
abbrev ref1_CheckFiles_pk : SV [.v (.int .i64)] → BV [] → Int := fun x _ => x.1
def ref1_CheckFiles_fn (N : Nat) : FuncId → Option Tmp → Option AF := fun f _ =>
  match f with
    | 40 => some (ref1_IsPath_sg fun x _ => ref1_IsPath N x.1)
    | 75 => some (ref1_inside_sg fun x _ => ref1_inside N x.1 x.2.1)
    | _ => none
theorem ref1_CheckFiles_fn_ok (N : Nat) : ∀ f q F, ref1_CheckFiles_fn N f q = some F → Sound Tryd.prog GW B0G f F := by
  intro f q F h
  unfold ref1_CheckFiles_fn at h
  split at h
  · cases h; exact ref1_IsPath_sound N
  · cases h; exact ref1_inside_sound N
  · cases h
def ref1_CheckFiles_h : Nat → Hint := fun i =>
  match i with
  | 0 => ⟨[], [0, 3, 4], [], [0, 3], [], []⟩
  | 2 => ⟨[], [0, 3, 5], [], [3], [], []⟩
  | _ => ⟨[], [], [], [], [], []⟩
abbrev ref1_CheckFiles_E (N : Nat) : Env := mkE ref1_CheckFiles_h (ref1_CheckFiles_fn N) (fun _ => false) (fun _ => false)
abbrev ref1_CheckFiles_L0_fs : List (Nat × Sl) := [(0, .v (.sl (.pr .str (.pr .bool (.sl .u8))))), (3, .v (.int .i64)), (4, .v (.int .i64))]
abbrev ref1_CheckFiles_L0_bs : List (Nat × Sb) := []
def ref1_CheckFiles_L0_hd (x0 : List (Str × Bool × List UInt8)) (s3 : Int) (s4 : Int) : St := ⟨68, [(0, .v (.sl (.pr .str (.pr .bool (.sl .u8)))) x0), (3, .v (.int .i64) s3), (4, .v (.int .i64) s4)], []⟩
def ref1_CheckFiles_L0_tl0 (x0 : List (Str × Bool × List UInt8)) (o0_3 : Int) : St := ⟨68, [(0, .v (.sl (.pr .str (.pr .bool (.sl .u8)))) x0), (3, .v (.int .i64) o0_3)], []⟩
def ref1_CheckFiles_L0_G (N : Nat) (x0 : List (Str × Bool × List UInt8)) (s3 : Int) (s4 : Int) (k : Ex → St → Option Int) : Option Int :=
  ref1_CheckFiles_L0 N x0 (fun o0_3 => k (.exit 0) (ref1_CheckFiles_L0_tl0 x0 o0_3)) N s3 s4
abbrev ref1_CheckFiles_L0_F (N : Nat) : FV ref1_CheckFiles_L0_fs → HV ref1_CheckFiles_L0_bs → (Ex → St → Option Int) → Option Int := fun x _ k => ref1_CheckFiles_L0_G N x.1 x.2.1 x.2.2.1 k
abbrev ref1_CheckFiles_L1_fs : List (Nat × Sl) := [(0, .v (.sl (.pr .str (.pr .bool (.sl .u8))))), (3, .v (.int .i64)), (5, .v (.int .i64))]
abbrev ref1_CheckFiles_L1_bs : List (Nat × Sb) := []
def ref1_CheckFiles_L1_hd (x0 : List (Str × Bool × List UInt8)) (o0_3 : Int) (s5 : Int) : St := ⟨68, [(0, .v (.sl (.pr .str (.pr .bool (.sl .u8)))) x0), (3, .v (.int .i64) o0_3), (5, .v (.int .i64) s5)], []⟩
def ref1_CheckFiles_L1_tl2 (_x0 : List (Str × Bool × List UInt8)) (o0_3 : Int) : St := ⟨68, [(3, .v (.int .i64) o0_3)], []⟩
def ref1_CheckFiles_L1_G (N : Nat) (x0 : List (Str × Bool × List UInt8)) (o0_3 : Int) (s5 : Int) (k : Ex → St → Option Int) : Option Int :=
  ref1_CheckFiles_L1 N x0 (k (.exit 2) (ref1_CheckFiles_L1_tl2 x0 o0_3)) N s5
abbrev ref1_CheckFiles_L1_F (N : Nat) : FV ref1_CheckFiles_L1_fs → HV ref1_CheckFiles_L1_bs → (Ex → St → Option Int) → Option Int := fun x _ k => ref1_CheckFiles_L1_G N x.1 x.2.1 x.2.2.1 k
noncomputable def ref1_CheckFiles_LP (N : Nat) : Nat → Code → St → (Ex → St → Option Int) → Option Int := fun i c =>
  match i with
  | 0 => (LPc 68 ref1_CheckFiles_L0_fs ref1_CheckFiles_L0_bs (ref1_CheckFiles_L0_F N) (fun st k => iter (ref1_CheckFiles_h 0) (exec (ref1_CheckFiles_E N) N c 0) N st k))
  | 2 => (LPc 68 ref1_CheckFiles_L1_fs ref1_CheckFiles_L1_bs (ref1_CheckFiles_L1_F N) (fun st k => iter (ref1_CheckFiles_h 2) (exec (ref1_CheckFiles_E N) N c 2) N st k))
  | i => fun st k => iter (ref1_CheckFiles_h i) (exec (ref1_CheckFiles_E N) N c i) N st k
theorem ref1_CheckFiles_L1_step (N : Nat) (x0 : List (Str × Bool × List UInt8)) (o0_3 : Int) (KX : Nat → St → Option Int) (I : St → Option Int) (s5 : Int) :
    execL (ref1_CheckFiles_LP N) (ref1_CheckFiles_E N) (cAt (bodyOf Tryd.f36) [true, true, true, true, false, true, false, false]) 2 (ref1_CheckFiles_L1_hd x0 o0_3 s5) (roundK (ref1_CheckFiles_h 2) I KX (resD (ref1_CheckFiles_E N) Tryd.f36 (ref1_CheckFiles_sg fun x _ => ref1_CheckFiles N x.1) ref1_CheckFiles_pk)) = ref1_CheckFiles_L1T N x0 (KX 2 (ref1_CheckFiles_L1_tl2 x0 o0_3)) (fun s5 => I (ref1_CheckFiles_L1_hd x0 o0_3 s5)) s5 := by kernel_rfl
theorem ref1_CheckFiles_L1_ok (N : Nat) : ∀ x y k, (∀ st, k .ret st = (resD (ref1_CheckFiles_E N) Tryd.f36 (ref1_CheckFiles_sg fun x _ => ref1_CheckFiles N x.1) ref1_CheckFiles_pk) st) → iter (ref1_CheckFiles_h 2) (exec (ref1_CheckFiles_E N) N (cAt (bodyOf Tryd.f36) [true, true, true, true, false, true, false, false]) 2) N ⟨68, unF ref1_CheckFiles_L1_fs x, unH ref1_CheckFiles_L1_bs y⟩ k = ref1_CheckFiles_L1_F N x y k := fun x _ k hk =>
  iter_link (S := (Int) × Unit) (ref1_CheckFiles_h 2) _ (execL (ref1_CheckFiles_LP N) (ref1_CheckFiles_E N) (cAt (bodyOf Tryd.f36) [true, true, true, true, false, true, false, false]) 2) (resD (ref1_CheckFiles_E N) Tryd.f36 (ref1_CheckFiles_sg fun x _ => ref1_CheckFiles N x.1) ref1_CheckFiles_pk) (fun st k hk => execL_eq _ _ N _ (cAt (bodyOf Tryd.f36) [true, true, true, true, false, true, false, false]) 2 (show LoopsOk (ref1_CheckFiles_LP N) (ref1_CheckFiles_E N) N (resD (ref1_CheckFiles_E N) Tryd.f36 (ref1_CheckFiles_sg fun x _ => ref1_CheckFiles N x.1) ref1_CheckFiles_pk) [] from trivial) st k hk) (fun s => ref1_CheckFiles_L1_hd x.1 x.2.1 s.1) k hk
    (fun self s => ref1_CheckFiles_L1T N x.1 (k (.exit 2) (ref1_CheckFiles_L1_tl2 x.1 x.2.1)) (fun s5 => self (s5, ())) s.1) (fun n s => ref1_CheckFiles_L1 N x.1 (k (.exit 2) (ref1_CheckFiles_L1_tl2 x.1 x.2.1)) n s.1) (fun _ => rfl) (fun _ _ => rfl)
    (fun I s => ref1_CheckFiles_L1_step N x.1 x.2.1 (fun j => k (.exit j)) I s.1) N (x.2.2.1, ())
theorem ref1_CheckFiles_lp2 (N : Nat) : ∀ st k, (∀ st, k .ret st = (resD (ref1_CheckFiles_E N) Tryd.f36 (ref1_CheckFiles_sg fun x _ => ref1_CheckFiles N x.1) ref1_CheckFiles_pk) st) → ref1_CheckFiles_LP N 2 (cAt (bodyOf Tryd.f36) [true, true, true, true, false, true, false, false]) st k = iter (Env.hint (ref1_CheckFiles_E N) 2) (exec (ref1_CheckFiles_E N) N (cAt (bodyOf Tryd.f36) [true, true, true, true, false, true, false, false]) 2) N st k := fun st k hk => LPc_eq 68 ref1_CheckFiles_L1_fs ref1_CheckFiles_L1_bs _ _ (resD (ref1_CheckFiles_E N) Tryd.f36 (ref1_CheckFiles_sg fun x _ => ref1_CheckFiles N x.1) ref1_CheckFiles_pk) (ref1_CheckFiles_L1_ok N) _ st k hk (rfl)
theorem ref1_CheckFiles_L0_step (N : Nat) (x0 : List (Str × Bool × List UInt8)) (KX : Nat → St → Option Int) (I : St → Option Int) (s3 : Int) (s4 : Int) :
    execL (ref1_CheckFiles_LP N) (ref1_CheckFiles_E N) (cAt (bodyOf Tryd.f36) [true, true, true, false, true, false, false]) 0 (ref1_CheckFiles_L0_hd x0 s3 s4) (roundK (ref1_CheckFiles_h 0) I KX (resD (ref1_CheckFiles_E N) Tryd.f36 (ref1_CheckFiles_sg fun x _ => ref1_CheckFiles N x.1) ref1_CheckFiles_pk)) = ref1_CheckFiles_L0T N x0 (fun o0_3 => KX 0 (ref1_CheckFiles_L0_tl0 x0 o0_3)) (fun s3 s4 => I (ref1_CheckFiles_L0_hd x0 s3 s4)) s3 s4 := by kernel_rfl
theorem ref1_CheckFiles_L0_ok (N : Nat) : ∀ x y k, (∀ st, k .ret st = (resD (ref1_CheckFiles_E N) Tryd.f36 (ref1_CheckFiles_sg fun x _ => ref1_CheckFiles N x.1) ref1_CheckFiles_pk) st) → iter (ref1_CheckFiles_h 0) (exec (ref1_CheckFiles_E N) N (cAt (bodyOf Tryd.f36) [true, true, true, false, true, false, false]) 0) N ⟨68, unF ref1_CheckFiles_L0_fs x, unH ref1_CheckFiles_L0_bs y⟩ k = ref1_CheckFiles_L0_F N x y k := fun x _ k hk =>
  iter_link (S := (Int) × (Int) × Unit) (ref1_CheckFiles_h 0) _ (execL (ref1_CheckFiles_LP N) (ref1_CheckFiles_E N) (cAt (bodyOf Tryd.f36) [true, true, true, false, true, false, false]) 0) (resD (ref1_CheckFiles_E N) Tryd.f36 (ref1_CheckFiles_sg fun x _ => ref1_CheckFiles N x.1) ref1_CheckFiles_pk) (fun st k hk => execL_eq _ _ N _ (cAt (bodyOf Tryd.f36) [true, true, true, false, true, false, false]) 0 (show LoopsOk (ref1_CheckFiles_LP N) (ref1_CheckFiles_E N) N (resD (ref1_CheckFiles_E N) Tryd.f36 (ref1_CheckFiles_sg fun x _ => ref1_CheckFiles N x.1) ref1_CheckFiles_pk) [] from trivial) st k hk) (fun s => ref1_CheckFiles_L0_hd x.1 s.1 s.2.1) k hk
    (fun self s => ref1_CheckFiles_L0T N x.1 (fun o0_3 => k (.exit 0) (ref1_CheckFiles_L0_tl0 x.1 o0_3)) (fun s3 s4 => self (s3, s4, ())) s.1 s.2.1) (fun n s => ref1_CheckFiles_L0 N x.1 (fun o0_3 => k (.exit 0) (ref1_CheckFiles_L0_tl0 x.1 o0_3)) n s.1 s.2.1) (fun _ => rfl) (fun _ _ => rfl)
    (fun I s => ref1_CheckFiles_L0_step N x.1 (fun j => k (.exit j)) I s.1 s.2.1) N (x.2.1, x.2.2.1, ())
theorem ref1_CheckFiles_lp0 (N : Nat) : ∀ st k, (∀ st, k .ret st = (resD (ref1_CheckFiles_E N) Tryd.f36 (ref1_CheckFiles_sg fun x _ => ref1_CheckFiles N x.1) ref1_CheckFiles_pk) st) → ref1_CheckFiles_LP N 0 (cAt (bodyOf Tryd.f36) [true, true, true, false, true, false, false]) st k = iter (Env.hint (ref1_CheckFiles_E N) 0) (exec (ref1_CheckFiles_E N) N (cAt (bodyOf Tryd.f36) [true, true, true, false, true, false, false]) 0) N st k := fun st k hk => LPc_eq 68 ref1_CheckFiles_L0_fs ref1_CheckFiles_L0_bs _ _ (resD (ref1_CheckFiles_E N) Tryd.f36 (ref1_CheckFiles_sg fun x _ => ref1_CheckFiles N x.1) ref1_CheckFiles_pk) (ref1_CheckFiles_L0_ok N) _ st k hk (rfl)
theorem ref1_CheckFiles_core (N : Nat) (x : SV [.v (.sl (.pr .str (.pr .bool (.sl .u8))))]) (y : BV []) : runL (ref1_CheckFiles_E N) Tryd.f36 (ref1_CheckFiles_sg fun x _ => ref1_CheckFiles N x.1) ref1_CheckFiles_pk (ref1_CheckFiles_LP N) x y = ref1_CheckFiles N x.1 := by kernel_rfl
theorem ref1_CheckFiles_sound (N : Nat) : Sound Tryd.prog GW B0G 36 (ref1_CheckFiles_sg fun x _ => ref1_CheckFiles N x.1) :=
  runD_sound (mkE_ok ref1_CheckFiles_h (ref1_CheckFiles_fn N) _ _ (ref1_CheckFiles_fn_ok N)) Tryd.func36 rfl Tryd.call36 (ref1_CheckFiles_sg fun x _ => ref1_CheckFiles N x.1) ref1_CheckFiles_pk (fun _ _ => rfl) N (fun x y _ h => ((runL_eq (ref1_CheckFiles_E N) N Tryd.f36 (ref1_CheckFiles_sg fun x _ => ref1_CheckFiles N x.1) ref1_CheckFiles_pk (ref1_CheckFiles_LP N) (show LoopsOk (ref1_CheckFiles_LP N) (ref1_CheckFiles_E N) N (resD (ref1_CheckFiles_E N) Tryd.f36 (ref1_CheckFiles_sg fun x _ => ref1_CheckFiles N x.1) ref1_CheckFiles_pk) [(0, (cAt (bodyOf Tryd.f36) [true, true, true, false, true, false, false])), (2, (cAt (bodyOf Tryd.f36) [true, true, true, true, false, true, false, false]))] from ⟨ref1_CheckFiles_lp0 N, ref1_CheckFiles_lp2 N, trivial⟩) x y).trans (ref1_CheckFiles_core N x y)).trans h)
def ref1_fitsOne_L0T (N : Nat) (x0 : List Str) (x1 : Str) (k0 : Option Bool) (self : Int → Option Bool) (s5 : Int) : Option Bool :=
  br (decide (s5 < (x0.length : Int)))
    (bnd (geti x0 s5) fun t14 =>
    bnd (ref1_FitsOf N t14 x1) fun t17 =>
    br (t17)
      (some true)
      (self (IntKind.i64.wrap (s5 + (1 : Int)))))
    (k0)
def ref1_fitsOne_L0 (N : Nat) (x0 : List Str) (x1 : Str) (k0 : Option Bool) : Nat → Int → Option Bool
  | 0, _ => none
  | n + 1, s5 => ref1_fitsOne_L0T N x0 x1 k0 (ref1_fitsOne_L0 N x0 x1 k0 n) s5
def ref1_fitsOne (N : Nat) (x0 : List Str) (x1 : Str) : Option Bool :=
  ref1_fitsOne_L0 N x0 x1 (some false) N (0 : Int)
abbrev ref1_fitsOne_sg (f : SV [.v (.sl .str), .v .str] → BV [] → Option (Bool)) : AF := { ps := [.v (.sl .str), .v .str], bs := [], rs := [.v .bool], cs := [], R := Bool, out := fun z => ((z, ()), ()), f := f }
abbrev ref1_fitsOne_pk : SV [.v .bool] → BV [] → Bool := fun x _ => x.1
def ref1_fitsOne_fn (N : Nat) : FuncId → Option Tmp → Option AF := fun f _ =>
  match f with
    | 41 => some (ref1_FitsOf_sg fun x _ => ref1_FitsOf N x.1 x.2.1)
    | _ => none
theorem ref1_fitsOne_fn_ok (N : Nat) : ∀ f q F, ref1_fitsOne_fn N f q = some F → Sound Tryd.prog GW B0G f F := by
  intro f q F h
  unfold ref1_fitsOne_fn at h
  split at h
  · cases h; exact ref1_FitsOf_sound N
  · cases h
def ref1_fitsOne_h : Nat → Hint := fun i =>
  match i with
  | 0 => ⟨[], [0, 1, 5], [], [], [], []⟩
  | _ => ⟨[], [], [], [], [], []⟩
abbrev ref1_fitsOne_E (N : Nat) : Env := mkE ref1_fitsOne_h (ref1_fitsOne_fn N) (fun _ => false) (fun _ => false)
abbrev ref1_fitsOne_L0_fs : List (Nat × Sl) := [(0, .v (.sl .str)), (1, .v .str), (5, .v (.int .i64))]
abbrev ref1_fitsOne_L0_bs : List (Nat × Sb) := []
def ref1_fitsOne_L0_hd (x0 : List Str) (x1 : Str) (s5 : Int) : St := ⟨18, [(0, .v (.sl .str) x0), (1, .v .str x1), (5, .v (.int .i64) s5)], []⟩
def ref1_fitsOne_L0_tl0 (_x0 : List Str) (_x1 : Str) : St := ⟨18, [], []⟩
def ref1_fitsOne_L0_G (N : Nat) (x0 : List Str) (x1 : Str) (s5 : Int) (k : Ex → St → Option Bool) : Option Bool :=
  ref1_fitsOne_L0 N x0 x1 (k (.exit 0) (ref1_fitsOne_L0_tl0 x0 x1)) N s5
abbrev ref1_fitsOne_L0_F (N : Nat) : FV ref1_fitsOne_L0_fs → HV ref1_fitsOne_L0_bs → (Ex → St → Option Bool) → Option Bool := fun x _ k => ref1_fitsOne_L0_G N x.1 x.2.1 x.2.2.1 k
noncomputable def ref1_fitsOne_LP (N : Nat) : Nat → Code → St → (Ex → St → Option Bool) → Option Bool := fun i c =>
  match i with
  | 0 => (LPc 18 ref1_fitsOne_L0_fs ref1_fitsOne_L0_bs (ref1_fitsOne_L0_F N) (fun st k => iter (ref1_fitsOne_h 0) (exec (ref1_fitsOne_E N) N c 0) N st k))
  | i => fun st k => iter (ref1_fitsOne_h i) (exec (ref1_fitsOne_E N) N c i) N st k
theorem ref1_fitsOne_L0_step (N : Nat) (x0 : List Str) (x1 : Str) (KX : Nat → St → Option Bool) (I : St → Option Bool) (s5 : Int) :
    execL (ref1_fitsOne_LP N) (ref1_fitsOne_E N) (cAt (bodyOf Tryd.f51) [true, false, true, false, false]) 0 (ref1_fitsOne_L0_hd x0 x1 s5) (roundK (ref1_fitsOne_h 0) I KX (resD (ref1_fitsOne_E N) Tryd.f51 (ref1_fitsOne_sg fun x _ => ref1_fitsOne N x.1 x.2.1) ref1_fitsOne_pk)) = ref1_fitsOne_L0T N x0 x1 (KX 0 (ref1_fitsOne_L0_tl0 x0 x1)) (fun s5 => I (ref1_fitsOne_L0_hd x0 x1 s5)) s5 := by kernel_rfl
theorem ref1_fitsOne_L0_ok (N : Nat) : ∀ x y k, (∀ st, k .ret st = (resD (ref1_fitsOne_E N) Tryd.f51 (ref1_fitsOne_sg fun x _ => ref1_fitsOne N x.1 x.2.1) ref1_fitsOne_pk) st) → iter (ref1_fitsOne_h 0) (exec (ref1_fitsOne_E N) N (cAt (bodyOf Tryd.f51) [true, false, true, false, false]) 0) N ⟨18, unF ref1_fitsOne_L0_fs x, unH ref1_fitsOne_L0_bs y⟩ k = ref1_fitsOne_L0_F N x y k := fun x _ k hk =>
  iter_link (S := (Int) × Unit) (ref1_fitsOne_h 0) _ (execL (ref1_fitsOne_LP N) (ref1_fitsOne_E N) (cAt (bodyOf Tryd.f51) [true, false, true, false, false]) 0) (resD (ref1_fitsOne_E N) Tryd.f51 (ref1_fitsOne_sg fun x _ => ref1_fitsOne N x.1 x.2.1) ref1_fitsOne_pk) (fun st k hk => execL_eq _ _ N _ (cAt (bodyOf Tryd.f51) [true, false, true, false, false]) 0 (show LoopsOk (ref1_fitsOne_LP N) (ref1_fitsOne_E N) N (resD (ref1_fitsOne_E N) Tryd.f51 (ref1_fitsOne_sg fun x _ => ref1_fitsOne N x.1 x.2.1) ref1_fitsOne_pk) [] from trivial) st k hk) (fun s => ref1_fitsOne_L0_hd x.1 x.2.1 s.1) k hk
    (fun self s => ref1_fitsOne_L0T N x.1 x.2.1 (k (.exit 0) (ref1_fitsOne_L0_tl0 x.1 x.2.1)) (fun s5 => self (s5, ())) s.1) (fun n s => ref1_fitsOne_L0 N x.1 x.2.1 (k (.exit 0) (ref1_fitsOne_L0_tl0 x.1 x.2.1)) n s.1) (fun _ => rfl) (fun _ _ => rfl)
    (fun I s => ref1_fitsOne_L0_step N x.1 x.2.1 (fun j => k (.exit j)) I s.1) N (x.2.2.1, ())
theorem ref1_fitsOne_lp0 (N : Nat) : ∀ st k, (∀ st, k .ret st = (resD (ref1_fitsOne_E N) Tryd.f51 (ref1_fitsOne_sg fun x _ => ref1_fitsOne N x.1 x.2.1) ref1_fitsOne_pk) st) → ref1_fitsOne_LP N 0 (cAt (bodyOf Tryd.f51) [true, false, true, false, false]) st k = iter (Env.hint (ref1_fitsOne_E N) 0) (exec (ref1_fitsOne_E N) N (cAt (bodyOf Tryd.f51) [true, false, true, false, false]) 0) N st k := fun st k hk => LPc_eq 18 ref1_fitsOne_L0_fs ref1_fitsOne_L0_bs _ _ (resD (ref1_fitsOne_E N) Tryd.f51 (ref1_fitsOne_sg fun x _ => ref1_fitsOne N x.1 x.2.1) ref1_fitsOne_pk) (ref1_fitsOne_L0_ok N) _ st k hk (rfl)
theorem ref1_fitsOne_core (N : Nat) (x : SV [.v (.sl .str), .v .str]) (y : BV []) : runL (ref1_fitsOne_E N) Tryd.f51 (ref1_fitsOne_sg fun x _ => ref1_fitsOne N x.1 x.2.1) ref1_fitsOne_pk (ref1_fitsOne_LP N) x y = ref1_fitsOne N x.1 x.2.1 := by kernel_rfl
theorem ref1_fitsOne_sound (N : Nat) : Sound Tryd.prog GW B0G 51 (ref1_fitsOne_sg fun x _ => ref1_fitsOne N x.1 x.2.1) :=
  runD_sound (mkE_ok ref1_fitsOne_h (ref1_fitsOne_fn N) _ _ (ref1_fitsOne_fn_ok N)) Tryd.func51 rfl Tryd.call51 (ref1_fitsOne_sg fun x _ => ref1_fitsOne N x.1 x.2.1) ref1_fitsOne_pk (fun _ _ => rfl) N (fun x y _ h => ((runL_eq (ref1_fitsOne_E N) N Tryd.f51 (ref1_fitsOne_sg fun x _ => ref1_fitsOne N x.1 x.2.1) ref1_fitsOne_pk (ref1_fitsOne_LP N) (show LoopsOk (ref1_fitsOne_LP N) (ref1_fitsOne_E N) N (resD (ref1_fitsOne_E N) Tryd.f51 (ref1_fitsOne_sg fun x _ => ref1_fitsOne N x.1 x.2.1) ref1_fitsOne_pk) [(0, (cAt (bodyOf Tryd.f51) [true, false, true, false, false]))] from ⟨ref1_fitsOne_lp0 N, trivial⟩) x y).trans (ref1_fitsOne_core N x y)).trans h)
def ref1_Select_L0T (N : Nat) (x1 : List Str) (k0 : Option (Int × List Str)) (self : Int → Option (Int × List Str)) (s9 : Int) : Option (Int × List Str) :=
  br (decide (s9 < (x1.length : Int)))
    (bnd (geti x1 s9) fun t28 =>
    bnd (ref1_CheckPattern N t28) fun t30 =>
    br (t30 != (0 : Int))
      (some (t30, ([] : List Str)))
      (self (IntKind.i64.wrap (s9 + (1 : Int)))))
    (k0)
def ref1_Select_L0 (N : Nat) (x1 : List Str) (k0 : Option (Int × List Str)) : Nat → Int → Option (Int × List Str)
  | 0, _ => none
  | n + 1, s9 => ref1_Select_L0T N x1 k0 (ref1_Select_L0 N x1 k0 n) s9
def ref1_Select_L1T (N : Nat) (x2 : List Str) (k2 : Option (Int × List Str)) (self : Int → Option (Int × List Str)) (s11 : Int) : Option (Int × List Str) :=
  br (decide (s11 < (x2.length : Int)))
    (bnd (geti x2 s11) fun t42 =>
    bnd (ref1_CheckPattern N t42) fun t44 =>
    br (t44 != (0 : Int))
      (some (t44, ([] : List Str)))
      (self (IntKind.i64.wrap (s11 + (1 : Int)))))
    (k2)
def ref1_Select_L1 (N : Nat) (x2 : List Str) (k2 : Option (Int × List Str)) : Nat → Int → Option (Int × List Str)
  | 0, _ => none
  | n + 1, s11 => ref1_Select_L1T N x2 k2 (ref1_Select_L1 N x2 k2 n) s11
def ref1_Select_L2T (N : Nat) (x0 : List (Str × Bool × List UInt8)) (x1 : List Str) (x2 : List Str) (k4 : (List Str) → Option (Int × List Str)) (self : Int → (List Str) → Option (Int × List Str)) (s14 : Int) (w1013 : List Str) : Option (Int × List Str) :=
  br (decide (s14 < (x0.length : Int)))
    (bnd (geti x0 s14) fun t57 =>
    bnd (ref1_fitsOne N x1 t57.1) fun t60 =>
    br (t60)
      (bnd (geti x0 s14) fun t65 =>
      bnd (ref1_fitsOne N x2 t65.1) fun t68 =>
      br (!t68)
        (bnd (geti x0 s14) fun t74 =>
        br (decide ((w1013.length + [t74.1].length) * (24 * Ty.sz .str) ≤ 140737488355328))
          (self (IntKind.i64.wrap (s14 + (1 : Int))) (w1013 ++ [t74.1]))
          none)
        (self (IntKind.i64.wrap (s14 + (1 : Int))) w1013))
      (self (IntKind.i64.wrap (s14 + (1 : Int))) w1013))
    (k4 w1013)
def ref1_Select_L2 (N : Nat) (x0 : List (Str × Bool × List UInt8)) (x1 : List Str) (x2 : List Str) (k4 : (List Str) → Option (Int × List Str)) : Nat → Int → (List Str) → Option (Int × List Str)
  | 0, _, _ => none
  | n + 1, s14, w1013 => ref1_Select_L2T N x0 x1 x2 k4 (ref1_Select_L2 N x0 x1 x2 k4 n) s14 w1013
def ref1_Select (N : Nat) (x0 : List (Str × Bool × List UInt8)) (x1 : List Str) (x2 : List Str) : Option (Int × List Str) :=
  bnd (ref1_CheckFiles N x0) fun t16 =>
  br (t16 != (0 : Int))
    (some (t16, ([] : List Str)))
    (ref1_Select_L0 N x1 (ref1_Select_L1 N x2 (ref1_Select_L2 N x0 x1 x2 (fun o2_w1013 =>
                some ((0 : Int), o2_w1013)) N (0 : Int) ([] : List Str)) N (0 : Int)) N (0 : Int))
abbrev ref1_Select_sg (f : SV [.v (.sl (.pr .str (.pr .bool (.sl .u8)))), .v (.sl .str), .v (.sl .str)] → BV [] → Option (Int × List Str)) : AF := { ps := [.v (.sl (.pr .str (.pr .bool (.sl .u8)))), .v (.sl .str), .v (.sl .str)], bs := [], rs := [.row 0, .v (.int .i64)], cs := [.row 9 .str false], R := Int × List Str, out := fun z => (((), z.1, ()), (z.2, ())), f := f }
abbrev ref1_Select_pk : SV [.row 0, .v (.int .i64)] → BV [.row 9 .str false] → (Int × List Str) := fun x y => (x.2.1, y.1)
def ref1_Select_fn (N : Nat) : FuncId → Option Tmp → Option AF := fun f _ =>
  match f with
    | 17 => some (ref1_CheckPattern_sg fun x _ => ref1_CheckPattern N x.1)
    | 36 => some (ref1_CheckFiles_sg fun x _ => ref1_CheckFiles N x.1)
    | 51 => some (ref1_fitsOne_sg fun x _ => ref1_fitsOne N x.1 x.2.1)
    | _ => none
theorem ref1_Select_fn_ok (N : Nat) : ∀ f q F, ref1_Select_fn N f q = some F → Sound Tryd.prog GW B0G f F := by
  intro f q F h
  unfold ref1_Select_fn at h
  split at h
  · cases h; exact ref1_CheckPattern_sound N
  · cases h; exact ref1_CheckFiles_sound N
  · cases h; exact ref1_fitsOne_sound N
  · cases h
def ref1_Select_h : Nat → Hint := fun i =>
  match i with
  | 0 => ⟨[], [0, 1, 2, 9], [], [0, 1, 2], [], []⟩
  | 2 => ⟨[], [0, 1, 2, 11], [], [0, 1, 2], [], []⟩
  | 4 => ⟨[], [0, 1, 2, 13, 14], [1013], [13], [1013], []⟩
  | _ => ⟨[], [], [], [], [], []⟩
abbrev ref1_Select_E (N : Nat) : Env := mkE ref1_Select_h (ref1_Select_fn N) (fun _ => false) (fun _ => false)
abbrev ref1_Select_L0_fs : List (Nat × Sl) := [(0, .v (.sl (.pr .str (.pr .bool (.sl .u8))))), (1, .v (.sl .str)), (2, .v (.sl .str)), (9, .v (.int .i64))]
abbrev ref1_Select_L0_bs : List (Nat × Sb) := []
def ref1_Select_L0_hd (x0 : List (Str × Bool × List UInt8)) (x1 : List Str) (x2 : List Str) (s9 : Int) : St := ⟨80, [(0, .v (.sl (.pr .str (.pr .bool (.sl .u8)))) x0), (1, .v (.sl .str) x1), (2, .v (.sl .str) x2), (9, .v (.int .i64) s9)], []⟩
def ref1_Select_L0_tl0 (x0 : List (Str × Bool × List UInt8)) (x1 : List Str) (x2 : List Str) : St := ⟨80, [(0, .v (.sl (.pr .str (.pr .bool (.sl .u8)))) x0), (1, .v (.sl .str) x1), (2, .v (.sl .str) x2)], []⟩
def ref1_Select_L0_G (N : Nat) (x0 : List (Str × Bool × List UInt8)) (x1 : List Str) (x2 : List Str) (s9 : Int) (k : Ex → St → Option (Int × List Str)) : Option (Int × List Str) :=
  ref1_Select_L0 N x1 (k (.exit 0) (ref1_Select_L0_tl0 x0 x1 x2)) N s9
abbrev ref1_Select_L0_F (N : Nat) : FV ref1_Select_L0_fs → HV ref1_Select_L0_bs → (Ex → St → Option (Int × List Str)) → Option (Int × List Str) := fun x _ k => ref1_Select_L0_G N x.1 x.2.1 x.2.2.1 x.2.2.2.1 k
abbrev ref1_Select_L1_fs : List (Nat × Sl) := [(0, .v (.sl (.pr .str (.pr .bool (.sl .u8))))), (1, .v (.sl .str)), (2, .v (.sl .str)), (11, .v (.int .i64))]
abbrev ref1_Select_L1_bs : List (Nat × Sb) := []
def ref1_Select_L1_hd (x0 : List (Str × Bool × List UInt8)) (x1 : List Str) (x2 : List Str) (s11 : Int) : St := ⟨80, [(0, .v (.sl (.pr .str (.pr .bool (.sl .u8)))) x0), (1, .v (.sl .str) x1), (2, .v (.sl .str) x2), (11, .v (.int .i64) s11)], []⟩
def ref1_Select_L1_tl2 (x0 : List (Str × Bool × List UInt8)) (x1 : List Str) (x2 : List Str) : St := ⟨80, [(0, .v (.sl (.pr .str (.pr .bool (.sl .u8)))) x0), (1, .v (.sl .str) x1), (2, .v (.sl .str) x2)], []⟩
def ref1_Select_L1_G (N : Nat) (x0 : List (Str × Bool × List UInt8)) (x1 : List Str) (x2 : List Str) (s11 : Int) (k : Ex → St → Option (Int × List Str)) : Option (Int × List Str) :=
  ref1_Select_L1 N x2 (k (.exit 2) (ref1_Select_L1_tl2 x0 x1 x2)) N s11
abbrev ref1_Select_L1_F (N : Nat) : FV ref1_Select_L1_fs → HV ref1_Select_L1_bs → (Ex → St → Option (Int × List Str)) → Option (Int × List Str) := fun x _ k => ref1_Select_L1_G N x.1 x.2.1 x.2.2.1 x.2.2.2.1 k
abbrev ref1_Select_L2_fs : List (Nat × Sl) := [(0, .v (.sl (.pr .str (.pr .bool (.sl .u8))))), (1, .v (.sl .str)), (2, .v (.sl .str)), (13, .row 1013), (14, .v (.int .i64))]
abbrev ref1_Select_L2_bs : List (Nat × Sb) := [(1013, .row 9 .str false)]
def ref1_Select_L2_hd (x0 : List (Str × Bool × List UInt8)) (x1 : List Str) (x2 : List Str) (s14 : Int) (w1013 : List Str) : St := ⟨80, [(0, .v (.sl (.pr .str (.pr .bool (.sl .u8)))) x0), (1, .v (.sl .str) x1), (2, .v (.sl .str) x2), (13, .row 1013), (14, .v (.int .i64) s14)], [(1013, .row 9 .str false w1013)]⟩
def ref1_Select_L2_tl4 (_x0 : List (Str × Bool × List UInt8)) (_x1 : List Str) (_x2 : List Str) (o2_w1013 : List Str) : St := ⟨80, [(13, .row 1013)], [(1013, .row 9 .str false o2_w1013)]⟩
def ref1_Select_L2_G (N : Nat) (x0 : List (Str × Bool × List UInt8)) (x1 : List Str) (x2 : List Str) (s14 : Int) (w1013 : List Str) (k : Ex → St → Option (Int × List Str)) : Option (Int × List Str) :=
  ref1_Select_L2 N x0 x1 x2 (fun o2_w1013 => k (.exit 4) (ref1_Select_L2_tl4 x0 x1 x2 o2_w1013)) N s14 w1013
abbrev ref1_Select_L2_F (N : Nat) : FV ref1_Select_L2_fs → HV ref1_Select_L2_bs → (Ex → St → Option (Int × List Str)) → Option (Int × List Str) := fun x y k => ref1_Select_L2_G N x.1 x.2.1 x.2.2.1 x.2.2.2.2.1 y.1 k
noncomputable def ref1_Select_LP (N : Nat) : Nat → Code → St → (Ex → St → Option (Int × List Str)) → Option (Int × List Str) := fun i c =>
  match i with
  | 0 => (LPc 80 ref1_Select_L0_fs ref1_Select_L0_bs (ref1_Select_L0_F N) (fun st k => iter (ref1_Select_h 0) (exec (ref1_Select_E N) N c 0) N st k))
  | 2 => (LPc 80 ref1_Select_L1_fs ref1_Select_L1_bs (ref1_Select_L1_F N) (fun st k => iter (ref1_Select_h 2) (exec (ref1_Select_E N) N c 2) N st k))
  | 4 => (LPc 80 ref1_Select_L2_fs ref1_Select_L2_bs (ref1_Select_L2_F N) (fun st k => iter (ref1_Select_h 4) (exec (ref1_Select_E N) N c 4) N st k))
  | i => fun st k => iter (ref1_Select_h i) (exec (ref1_Select_E N) N c i) N st k
theorem ref1_Select_L2_step (N : Nat) (x0 : List (Str × Bool × List UInt8)) (x1 : List Str) (x2 : List Str) (KX : Nat → St → Option (Int × List Str)) (I : St → Option (Int × List Str)) (s14 : Int) (w1013 : List Str) :
    execL (ref1_Select_LP N) (ref1_Select_E N) (cAt (bodyOf Tryd.f20) [true, true, true, true, true, false, true, false, false]) 4 (ref1_Select_L2_hd x0 x1 x2 s14 w1013) (roundK (ref1_Select_h 4) I KX (resD (ref1_Select_E N) Tryd.f20 (ref1_Select_sg fun x _ => ref1_Select N x.1 x.2.1 x.2.2.1) ref1_Select_pk)) = ref1_Select_L2T N x0 x1 x2 (fun o2_w1013 => KX 4 (ref1_Select_L2_tl4 x0 x1 x2 o2_w1013)) (fun s14 w1013 => I (ref1_Select_L2_hd x0 x1 x2 s14 w1013)) s14 w1013 := by kernel_rfl
theorem ref1_Select_L2_ok (N : Nat) : ∀ x y k, (∀ st, k .ret st = (resD (ref1_Select_E N) Tryd.f20 (ref1_Select_sg fun x _ => ref1_Select N x.1 x.2.1 x.2.2.1) ref1_Select_pk) st) → iter (ref1_Select_h 4) (exec (ref1_Select_E N) N (cAt (bodyOf Tryd.f20) [true, true, true, true, true, false, true, false, false]) 4) N ⟨80, unF ref1_Select_L2_fs x, unH ref1_Select_L2_bs y⟩ k = ref1_Select_L2_F N x y k := fun x y k hk =>
  iter_link (S := (Int) × (List Str) × Unit) (ref1_Select_h 4) _ (execL (ref1_Select_LP N) (ref1_Select_E N) (cAt (bodyOf Tryd.f20) [true, true, true, true, true, false, true, false, false]) 4) (resD (ref1_Select_E N) Tryd.f20 (ref1_Select_sg fun x _ => ref1_Select N x.1 x.2.1 x.2.2.1) ref1_Select_pk) (fun st k hk => execL_eq _ _ N _ (cAt (bodyOf Tryd.f20) [true, true, true, true, true, false, true, false, false]) 4 (show LoopsOk (ref1_Select_LP N) (ref1_Select_E N) N (resD (ref1_Select_E N) Tryd.f20 (ref1_Select_sg fun x _ => ref1_Select N x.1 x.2.1 x.2.2.1) ref1_Select_pk) [] from trivial) st k hk) (fun s => ref1_Select_L2_hd x.1 x.2.1 x.2.2.1 s.1 s.2.1) k hk
    (fun self s => ref1_Select_L2T N x.1 x.2.1 x.2.2.1 (fun o2_w1013 => k (.exit 4) (ref1_Select_L2_tl4 x.1 x.2.1 x.2.2.1 o2_w1013)) (fun s14 w1013 => self (s14, w1013, ())) s.1 s.2.1) (fun n s => ref1_Select_L2 N x.1 x.2.1 x.2.2.1 (fun o2_w1013 => k (.exit 4) (ref1_Select_L2_tl4 x.1 x.2.1 x.2.2.1 o2_w1013)) n s.1 s.2.1) (fun _ => rfl) (fun _ _ => rfl)
    (fun I s => ref1_Select_L2_step N x.1 x.2.1 x.2.2.1 (fun j => k (.exit j)) I s.1 s.2.1) N (x.2.2.2.2.1, y.1, ())
theorem ref1_Select_lp4 (N : Nat) : ∀ st k, (∀ st, k .ret st = (resD (ref1_Select_E N) Tryd.f20 (ref1_Select_sg fun x _ => ref1_Select N x.1 x.2.1 x.2.2.1) ref1_Select_pk) st) → ref1_Select_LP N 4 (cAt (bodyOf Tryd.f20) [true, true, true, true, true, false, true, false, false]) st k = iter (Env.hint (ref1_Select_E N) 4) (exec (ref1_Select_E N) N (cAt (bodyOf Tryd.f20) [true, true, true, true, true, false, true, false, false]) 4) N st k := fun st k hk => LPc_eq 80 ref1_Select_L2_fs ref1_Select_L2_bs _ _ (resD (ref1_Select_E N) Tryd.f20 (ref1_Select_sg fun x _ => ref1_Select N x.1 x.2.1 x.2.2.1) ref1_Select_pk) (ref1_Select_L2_ok N) _ st k hk (rfl)
theorem ref1_Select_L1_step (N : Nat) (x0 : List (Str × Bool × List UInt8)) (x1 : List Str) (x2 : List Str) (KX : Nat → St → Option (Int × List Str)) (I : St → Option (Int × List Str)) (s11 : Int) :
    execL (ref1_Select_LP N) (ref1_Select_E N) (cAt (bodyOf Tryd.f20) [true, true, true, false, true, false, false]) 2 (ref1_Select_L1_hd x0 x1 x2 s11) (roundK (ref1_Select_h 2) I KX (resD (ref1_Select_E N) Tryd.f20 (ref1_Select_sg fun x _ => ref1_Select N x.1 x.2.1 x.2.2.1) ref1_Select_pk)) = ref1_Select_L1T N x2 (KX 2 (ref1_Select_L1_tl2 x0 x1 x2)) (fun s11 => I (ref1_Select_L1_hd x0 x1 x2 s11)) s11 := by kernel_rfl
theorem ref1_Select_L1_ok (N : Nat) : ∀ x y k, (∀ st, k .ret st = (resD (ref1_Select_E N) Tryd.f20 (ref1_Select_sg fun x _ => ref1_Select N x.1 x.2.1 x.2.2.1) ref1_Select_pk) st) → iter (ref1_Select_h 2) (exec (ref1_Select_E N) N (cAt (bodyOf Tryd.f20) [true, true, true, false, true, false, false]) 2) N ⟨80, unF ref1_Select_L1_fs x, unH ref1_Select_L1_bs y⟩ k = ref1_Select_L1_F N x y k := fun x _ k hk =>
  iter_link (S := (Int) × Unit) (ref1_Select_h 2) _ (execL (ref1_Select_LP N) (ref1_Select_E N) (cAt (bodyOf Tryd.f20) [true, true, true, false, true, false, false]) 2) (resD (ref1_Select_E N) Tryd.f20 (ref1_Select_sg fun x _ => ref1_Select N x.1 x.2.1 x.2.2.1) ref1_Select_pk) (fun st k hk => execL_eq _ _ N _ (cAt (bodyOf Tryd.f20) [true, true, true, false, true, false, false]) 2 (show LoopsOk (ref1_Select_LP N) (ref1_Select_E N) N (resD (ref1_Select_E N) Tryd.f20 (ref1_Select_sg fun x _ => ref1_Select N x.1 x.2.1 x.2.2.1) ref1_Select_pk) [] from trivial) st k hk) (fun s => ref1_Select_L1_hd x.1 x.2.1 x.2.2.1 s.1) k hk
    (fun self s => ref1_Select_L1T N x.2.2.1 (k (.exit 2) (ref1_Select_L1_tl2 x.1 x.2.1 x.2.2.1)) (fun s11 => self (s11, ())) s.1) (fun n s => ref1_Select_L1 N x.2.2.1 (k (.exit 2) (ref1_Select_L1_tl2 x.1 x.2.1 x.2.2.1)) n s.1) (fun _ => rfl) (fun _ _ => rfl)
    (fun I s => ref1_Select_L1_step N x.1 x.2.1 x.2.2.1 (fun j => k (.exit j)) I s.1) N (x.2.2.2.1, ())
theorem ref1_Select_lp2 (N : Nat) : ∀ st k, (∀ st, k .ret st = (resD (ref1_Select_E N) Tryd.f20 (ref1_Select_sg fun x _ => ref1_Select N x.1 x.2.1 x.2.2.1) ref1_Select_pk) st) → ref1_Select_LP N 2 (cAt (bodyOf Tryd.f20) [true, true, true, false, true, false, false]) st k = iter (Env.hint (ref1_Select_E N) 2) (exec (ref1_Select_E N) N (cAt (bodyOf Tryd.f20) [true, true, true, false, true, false, false]) 2) N st k := fun st k hk => LPc_eq 80 ref1_Select_L1_fs ref1_Select_L1_bs _ _ (resD (ref1_Select_E N) Tryd.f20 (ref1_Select_sg fun x _ => ref1_Select N x.1 x.2.1 x.2.2.1) ref1_Select_pk) (ref1_Select_L1_ok N) _ st k hk (rfl)
theorem ref1_Select_L0_step (N : Nat) (x0 : List (Str × Bool × List UInt8)) (x1 : List Str) (x2 : List Str) (KX : Nat → St → Option (Int × List Str)) (I : St → Option (Int × List Str)) (s9 : Int) :
    execL (ref1_Select_LP N) (ref1_Select_E N) (cAt (bodyOf Tryd.f20) [true, true, false, true, false, false]) 0 (ref1_Select_L0_hd x0 x1 x2 s9) (roundK (ref1_Select_h 0) I KX (resD (ref1_Select_E N) Tryd.f20 (ref1_Select_sg fun x _ => ref1_Select N x.1 x.2.1 x.2.2.1) ref1_Select_pk)) = ref1_Select_L0T N x1 (KX 0 (ref1_Select_L0_tl0 x0 x1 x2)) (fun s9 => I (ref1_Select_L0_hd x0 x1 x2 s9)) s9 := by kernel_rfl
theorem ref1_Select_L0_ok (N : Nat) : ∀ x y k, (∀ st, k .ret st = (resD (ref1_Select_E N) Tryd.f20 (ref1_Select_sg fun x _ => ref1_Select N x.1 x.2.1 x.2.2.1) ref1_Select_pk) st) → iter (ref1_Select_h 0) (exec (ref1_Select_E N) N (cAt (bodyOf Tryd.f20) [true, true, false, true, false, false]) 0) N ⟨80, unF ref1_Select_L0_fs x, unH ref1_Select_L0_bs y⟩ k = ref1_Select_L0_F N x y k := fun x _ k hk =>
  iter_link (S := (Int) × Unit) (ref1_Select_h 0) _ (execL (ref1_Select_LP N) (ref1_Select_E N) (cAt (bodyOf Tryd.f20) [true, true, false, true, false, false]) 0) (resD (ref1_Select_E N) Tryd.f20 (ref1_Select_sg fun x _ => ref1_Select N x.1 x.2.1 x.2.2.1) ref1_Select_pk) (fun st k hk => execL_eq _ _ N _ (cAt (bodyOf Tryd.f20) [true, true, false, true, false, false]) 0 (show LoopsOk (ref1_Select_LP N) (ref1_Select_E N) N (resD (ref1_Select_E N) Tryd.f20 (ref1_Select_sg fun x _ => ref1_Select N x.1 x.2.1 x.2.2.1) ref1_Select_pk) [] from trivial) st k hk) (fun s => ref1_Select_L0_hd x.1 x.2.1 x.2.2.1 s.1) k hk
    (fun self s => ref1_Select_L0T N x.2.1 (k (.exit 0) (ref1_Select_L0_tl0 x.1 x.2.1 x.2.2.1)) (fun s9 => self (s9, ())) s.1) (fun n s => ref1_Select_L0 N x.2.1 (k (.exit 0) (ref1_Select_L0_tl0 x.1 x.2.1 x.2.2.1)) n s.1) (fun _ => rfl) (fun _ _ => rfl)
    (fun I s => ref1_Select_L0_step N x.1 x.2.1 x.2.2.1 (fun j => k (.exit j)) I s.1) N (x.2.2.2.1, ())
theorem ref1_Select_lp0 (N : Nat) : ∀ st k, (∀ st, k .ret st = (resD (ref1_Select_E N) Tryd.f20 (ref1_Select_sg fun x _ => ref1_Select N x.1 x.2.1 x.2.2.1) ref1_Select_pk) st) → ref1_Select_LP N 0 (cAt (bodyOf Tryd.f20) [true, true, false, true, false, false]) st k = iter (Env.hint (ref1_Select_E N) 0) (exec (ref1_Select_E N) N (cAt (bodyOf Tryd.f20) [true, true, false, true, false, false]) 0) N st k := fun st k hk => LPc_eq 80 ref1_Select_L0_fs ref1_Select_L0_bs _ _ (resD (ref1_Select_E N) Tryd.f20 (ref1_Select_sg fun x _ => ref1_Select N x.1 x.2.1 x.2.2.1) ref1_Select_pk) (ref1_Select_L0_ok N) _ st k hk (rfl)
theorem ref1_Select_core (N : Nat) (x : SV [.v (.sl (.pr .str (.pr .bool (.sl .u8)))), .v (.sl .str), .v (.sl .str)]) (y : BV []) : runL (ref1_Select_E N) Tryd.f20 (ref1_Select_sg fun x _ => ref1_Select N x.1 x.2.1 x.2.2.1) ref1_Select_pk (ref1_Select_LP N) x y = ref1_Select N x.1 x.2.1 x.2.2.1 := by kernel_rfl
theorem ref1_Select_sound (N : Nat) : Sound Tryd.prog GW B0G 20 (ref1_Select_sg fun x _ => ref1_Select N x.1 x.2.1 x.2.2.1) :=
  runD_sound (mkE_ok ref1_Select_h (ref1_Select_fn N) _ _ (ref1_Select_fn_ok N)) Tryd.func20 rfl Tryd.call20 (ref1_Select_sg fun x _ => ref1_Select N x.1 x.2.1 x.2.2.1) ref1_Select_pk (fun _ _ => rfl) N (fun x y _ h => ((runL_eq (ref1_Select_E N) N Tryd.f20 (ref1_Select_sg fun x _ => ref1_Select N x.1 x.2.1 x.2.2.1) ref1_Select_pk (ref1_Select_LP N) (show LoopsOk (ref1_Select_LP N) (ref1_Select_E N) N (resD (ref1_Select_E N) Tryd.f20 (ref1_Select_sg fun x _ => ref1_Select N x.1 x.2.1 x.2.2.1) ref1_Select_pk) [(0, (cAt (bodyOf Tryd.f20) [true, true, false, true, false, false])), (2, (cAt (bodyOf Tryd.f20) [true, true, true, false, true, false, false])), (4, (cAt (bodyOf Tryd.f20) [true, true, true, true, true, false, true, false, false]))] from ⟨ref1_Select_lp0 N, ref1_Select_lp2 N, ref1_Select_lp4 N, trivial⟩) x y).trans (ref1_Select_core N x y)).trans h)
def slices_Equal_string_string_L0T (_N : Nat) (x0 : List Str) (x1 : List Str) (c12 : Int) (k0 : Option Bool) (self : Int → Option Bool) (s13 : Int) : Option Bool :=
  br (decide (s13 < c12))
    (bnd (geti x0 s13) fun t18 =>
    bnd (geti x1 s13) fun t22 =>
    br (!(t18 == t22))
      (some false)
      (self (IntKind.i64.wrap (s13 + (1 : Int)))))
    (k0)
def slices_Equal_string_string_L0 (N : Nat) (x0 : List Str) (x1 : List Str) (c12 : Int) (k0 : Option Bool) : Nat → Int → Option Bool
  | 0, _ => none
  | n + 1, s13 => slices_Equal_string_string_L0T N x0 x1 c12 k0 (slices_Equal_string_string_L0 N x0 x1 c12 k0 n) s13
def slices_Equal_string_string (N : Nat) (x0 : List Str) (x1 : List Str) : Option Bool :=
  br ((x0.length : Int) != (x1.length : Int))
    (some false)
    (slices_Equal_string_string_L0 N x0 x1 (x0.length : Int) (some true) N (0 : Int))
abbrev slices_Equal_string_string_sg (f : SV [.v (.sl .str), .v (.sl .str)] → BV [] → Option (Bool)) : AF := { ps := [.v (.sl .str), .v (.sl .str)], bs := [], rs := [.v .bool], cs := [], R := Bool, out := fun z => ((z, ()), ()), f := f }
abbrev slices_Equal_string_string_pk : SV [.v .bool] → BV [] → Bool := fun x _ => x.1
def slices_Equal_string_string_fn (_N : Nat) : FuncId → Option Tmp → Option AF := fun f _ =>
  match f with
    | _ => none
theorem slices_Equal_string_string_fn_ok (N : Nat) : ∀ f q F, slices_Equal_string_string_fn N f q = some F → Sound Tryd.prog GW B0G f F := by
  intro f q F h
  unfold slices_Equal_string_string_fn at h
  split at h
  · cases h
def slices_Equal_string_string_h : Nat → Hint := fun i =>
  match i with
  | 0 => ⟨[], [0, 1, 12, 13], [], [], [], []⟩
  | _ => ⟨[], [], [], [], [], []⟩
abbrev slices_Equal_string_string_E (N : Nat) : Env := mkE slices_Equal_string_string_h (slices_Equal_string_string_fn N) (fun _ => false) (fun _ => false)
abbrev slices_Equal_string_string_L0_fs : List (Nat × Sl) := [(0, .v (.sl .str)), (1, .v (.sl .str)), (12, .v (.int .i64)), (13, .v (.int .i64))]
abbrev slices_Equal_string_string_L0_bs : List (Nat × Sb) := []
def slices_Equal_string_string_L0_hd (x0 : List Str) (x1 : List Str) (c12 : Int) (s13 : Int) : St := ⟨26, [(0, .v (.sl .str) x0), (1, .v (.sl .str) x1), (12, .v (.int .i64) c12), (13, .v (.int .i64) s13)], []⟩
def slices_Equal_string_string_L0_tl0 (_x0 : List Str) (_x1 : List Str) (_c12 : Int) : St := ⟨26, [], []⟩
def slices_Equal_string_string_L0_G (N : Nat) (x0 : List Str) (x1 : List Str) (c12 : Int) (s13 : Int) (k : Ex → St → Option Bool) : Option Bool :=
  slices_Equal_string_string_L0 N x0 x1 c12 (k (.exit 0) (slices_Equal_string_string_L0_tl0 x0 x1 c12)) N s13
abbrev slices_Equal_string_string_L0_F (N : Nat) : FV slices_Equal_string_string_L0_fs → HV slices_Equal_string_string_L0_bs → (Ex → St → Option Bool) → Option Bool := fun x _ k => slices_Equal_string_string_L0_G N x.1 x.2.1 x.2.2.1 x.2.2.2.1 k
noncomputable def slices_Equal_string_string_LP (N : Nat) : Nat → Code → St → (Ex → St → Option Bool) → Option Bool := fun i c =>
  match i with
  | 0 => (LPc 26 slices_Equal_string_string_L0_fs slices_Equal_string_string_L0_bs (slices_Equal_string_string_L0_F N) (fun st k => iter (slices_Equal_string_string_h 0) (exec (slices_Equal_string_string_E N) N c 0) N st k))
  | i => fun st k => iter (slices_Equal_string_string_h i) (exec (slices_Equal_string_string_E N) N c i) N st k
theorem slices_Equal_string_string_L0_step (N : Nat) (x0 : List Str) (x1 : List Str) (c12 : Int) (KX : Nat → St → Option Bool) (I : St → Option Bool) (s13 : Int) :
    execL (slices_Equal_string_string_LP N) (slices_Equal_string_string_E N) (cAt (bodyOf Tryd.f21) [true, true, false, true, false, false]) 0 (slices_Equal_string_string_L0_hd x0 x1 c12 s13) (roundK (slices_Equal_string_string_h 0) I KX (resD (slices_Equal_string_string_E N) Tryd.f21 (slices_Equal_string_string_sg fun x _ => slices_Equal_string_string N x.1 x.2.1) slices_Equal_string_string_pk)) = slices_Equal_string_string_L0T N x0 x1 c12 (KX 0 (slices_Equal_string_string_L0_tl0 x0 x1 c12)) (fun s13 => I (slices_Equal_string_string_L0_hd x0 x1 c12 s13)) s13 := by kernel_rfl
theorem slices_Equal_string_string_L0_ok (N : Nat) : ∀ x y k, (∀ st, k .ret st = (resD (slices_Equal_string_string_E N) Tryd.f21 (slices_Equal_string_string_sg fun x _ => slices_Equal_string_string N x.1 x.2.1) slices_Equal_string_string_pk) st) → iter (slices_Equal_string_string_h 0) (exec (slices_Equal_string_string_E N) N (cAt (bodyOf Tryd.f21) [true, true, false, true, false, false]) 0) N ⟨26, unF slices_Equal_string_string_L0_fs x, unH slices_Equal_string_string_L0_bs y⟩ k = slices_Equal_string_string_L0_F N x y k := fun x _ k hk =>
  iter_link (S := (Int) × Unit) (slices_Equal_string_string_h 0) _ (execL (slices_Equal_string_string_LP N) (slices_Equal_string_string_E N) (cAt (bodyOf Tryd.f21) [true, true, false, true, false, false]) 0) (resD (slices_Equal_string_string_E N) Tryd.f21 (slices_Equal_string_string_sg fun x _ => slices_Equal_string_string N x.1 x.2.1) slices_Equal_string_string_pk) (fun st k hk => execL_eq _ _ N _ (cAt (bodyOf Tryd.f21) [true, true, false, true, false, false]) 0 (show LoopsOk (slices_Equal_string_string_LP N) (slices_Equal_string_string_E N) N (resD (slices_Equal_string_string_E N) Tryd.f21 (slices_Equal_string_string_sg fun x _ => slices_Equal_string_string N x.1 x.2.1) slices_Equal_string_string_pk) [] from trivial) st k hk) (fun s => slices_Equal_string_string_L0_hd x.1 x.2.1 x.2.2.1 s.1) k hk
    (fun self s => slices_Equal_string_string_L0T N x.1 x.2.1 x.2.2.1 (k (.exit 0) (slices_Equal_string_string_L0_tl0 x.1 x.2.1 x.2.2.1)) (fun s13 => self (s13, ())) s.1) (fun n s => slices_Equal_string_string_L0 N x.1 x.2.1 x.2.2.1 (k (.exit 0) (slices_Equal_string_string_L0_tl0 x.1 x.2.1 x.2.2.1)) n s.1) (fun _ => rfl) (fun _ _ => rfl)
    (fun I s => slices_Equal_string_string_L0_step N x.1 x.2.1 x.2.2.1 (fun j => k (.exit j)) I s.1) N (x.2.2.2.1, ())
theorem slices_Equal_string_string_lp0 (N : Nat) : ∀ st k, (∀ st, k .ret st = (resD (slices_Equal_string_string_E N) Tryd.f21 (slices_Equal_string_string_sg fun x _ => slices_Equal_string_string N x.1 x.2.1) slices_Equal_string_string_pk) st) → slices_Equal_string_string_LP N 0 (cAt (bodyOf Tryd.f21) [true, true, false, true, false, false]) st k = iter (Env.hint (slices_Equal_string_string_E N) 0) (exec (slices_Equal_string_string_E N) N (cAt (bodyOf Tryd.f21) [true, true, false, true, false, false]) 0) N st k := fun st k hk => LPc_eq 26 slices_Equal_string_string_L0_fs slices_Equal_string_string_L0_bs _ _ (resD (slices_Equal_string_string_E N) Tryd.f21 (slices_Equal_string_string_sg fun x _ => slices_Equal_string_string N x.1 x.2.1) slices_Equal_string_string_pk) (slices_Equal_string_string_L0_ok N) _ st k hk (rfl)
theorem slices_Equal_string_string_core (N : Nat) (x : SV [.v (.sl .str), .v (.sl .str)]) (y : BV []) : runL (slices_Equal_string_string_E N) Tryd.f21 (slices_Equal_string_string_sg fun x _ => slices_Equal_string_string N x.1 x.2.1) slices_Equal_string_string_pk (slices_Equal_string_string_LP N) x y = slices_Equal_string_string N x.1 x.2.1 := by kernel_rfl
theorem slices_Equal_string_string_sound (N : Nat) : Sound Tryd.prog GW B0G 21 (slices_Equal_string_string_sg fun x _ => slices_Equal_string_string N x.1 x.2.1) :=
  runD_sound (mkE_ok slices_Equal_string_string_h (slices_Equal_string_string_fn N) _ _ (slices_Equal_string_string_fn_ok N)) Tryd.func21 rfl Tryd.call21 (slices_Equal_string_string_sg fun x _ => slices_Equal_string_string N x.1 x.2.1) slices_Equal_string_string_pk (fun _ _ => rfl) N (fun x y _ h => ((runL_eq (slices_Equal_string_string_E N) N Tryd.f21 (slices_Equal_string_string_sg fun x _ => slices_Equal_string_string N x.1 x.2.1) slices_Equal_string_string_pk (slices_Equal_string_string_LP N) (show LoopsOk (slices_Equal_string_string_LP N) (slices_Equal_string_string_E N) N (resD (slices_Equal_string_string_E N) Tryd.f21 (slices_Equal_string_string_sg fun x _ => slices_Equal_string_string N x.1 x.2.1) slices_Equal_string_string_pk) [(0, (cAt (bodyOf Tryd.f21) [true, true, false, true, false, false]))] from ⟨slices_Equal_string_string_lp0 N, trivial⟩) x y).trans (slices_Equal_string_string_core N x y)).trans h)
def law1_BlobSelectsMatchSpec (N : Nat) (x0 : List (Str × Bool × List UInt8)) (x1 : List Str) (x2 : List Str) : Option Bool :=
  bnd (blob_Select N x0 x1 x2) fun t15 =>
  bnd (ref1_Select N x0 x1 x2) fun t22 =>
  bnd (slices_Equal_string_string N t15.2 t22.2) fun t27 =>
  br (t27)
    (br (t15.1 == t22.1)
      (bnd (law1_awake N) fun t34 =>
      some t34)
      (some false))
    (some false)
abbrev law1_BlobSelectsMatchSpec_sg (f : SV [.v (.sl (.pr .str (.pr .bool (.sl .u8)))), .v (.sl .str), .v (.sl .str)] → BV [] → Option (Bool)) : AF := { ps := [.v (.sl (.pr .str (.pr .bool (.sl .u8)))), .v (.sl .str), .v (.sl .str)], bs := [], rs := [.v .bool], cs := [], R := Bool, out := fun z => ((z, ()), ()), f := f }
abbrev law1_BlobSelectsMatchSpec_pk : SV [.v .bool] → BV [] → Bool := fun x _ => x.1
def law1_BlobSelectsMatchSpec_fn (N : Nat) : FuncId → Option Tmp → Option AF := fun f _ =>
  match f with
    | 18 => some (law1_awake_sg fun _ _ => law1_awake N)
    | 19 => some (blob_Select_sg fun x _ => blob_Select N x.1 x.2.1 x.2.2.1)
    | 20 => some (ref1_Select_sg fun x _ => ref1_Select N x.1 x.2.1 x.2.2.1)
    | 21 => some (slices_Equal_string_string_sg fun x _ => slices_Equal_string_string N x.1 x.2.1)
    | _ => none
theorem law1_BlobSelectsMatchSpec_fn_ok (N : Nat) : ∀ f q F, law1_BlobSelectsMatchSpec_fn N f q = some F → Sound Tryd.prog GW B0G f F := by
  intro f q F h
  unfold law1_BlobSelectsMatchSpec_fn at h
  split at h
  · cases h; exact law1_awake_sound N
  · cases h; exact blob_Select_sound N
  · cases h; exact ref1_Select_sound N
  · cases h; exact slices_Equal_string_string_sound N
  · cases h
def law1_BlobSelectsMatchSpec_h : Nat → Hint := fun i =>
  match i with
  | _ => ⟨[], [], [], [], [], []⟩
abbrev law1_BlobSelectsMatchSpec_E (N : Nat) : Env := mkE law1_BlobSelectsMatchSpec_h (law1_BlobSelectsMatchSpec_fn N) (fun _ => false) (fun _ => false)
noncomputable def law1_BlobSelectsMatchSpec_LP (N : Nat) : Nat → Code → St → (Ex → St → Option Bool) → Option Bool := fun i c =>
  match i with
  | i => fun st k => iter (law1_BlobSelectsMatchSpec_h i) (exec (law1_BlobSelectsMatchSpec_E N) N c i) N st k
theorem law1_BlobSelectsMatchSpec_core (N : Nat) (x : SV [.v (.sl (.pr .str (.pr .bool (.sl .u8)))), .v (.sl .str), .v (.sl .str)]) (y : BV []) : runL (law1_BlobSelectsMatchSpec_E N) Tryd.f5 (law1_BlobSelectsMatchSpec_sg fun x _ => law1_BlobSelectsMatchSpec N x.1 x.2.1 x.2.2.1) law1_BlobSelectsMatchSpec_pk (law1_BlobSelectsMatchSpec_LP N) x y = law1_BlobSelectsMatchSpec N x.1 x.2.1 x.2.2.1 := by kernel_rfl
theorem law1_BlobSelectsMatchSpec_sound (N : Nat) : Sound Tryd.prog GW B0G 5 (law1_BlobSelectsMatchSpec_sg fun x _ => law1_BlobSelectsMatchSpec N x.1 x.2.1 x.2.2.1) :=
  runD_sound (mkE_ok law1_BlobSelectsMatchSpec_h (law1_BlobSelectsMatchSpec_fn N) _ _ (law1_BlobSelectsMatchSpec_fn_ok N)) Tryd.func5 rfl Tryd.call5 (law1_BlobSelectsMatchSpec_sg fun x _ => law1_BlobSelectsMatchSpec N x.1 x.2.1 x.2.2.1) law1_BlobSelectsMatchSpec_pk (fun _ _ => rfl) N (fun x y _ h => ((runL_eq (law1_BlobSelectsMatchSpec_E N) N Tryd.f5 (law1_BlobSelectsMatchSpec_sg fun x _ => law1_BlobSelectsMatchSpec N x.1 x.2.1 x.2.2.1) law1_BlobSelectsMatchSpec_pk (law1_BlobSelectsMatchSpec_LP N) (show LoopsOk (law1_BlobSelectsMatchSpec_LP N) (law1_BlobSelectsMatchSpec_E N) N (resD (law1_BlobSelectsMatchSpec_E N) Tryd.f5 (law1_BlobSelectsMatchSpec_sg fun x _ => law1_BlobSelectsMatchSpec N x.1 x.2.1 x.2.2.1) law1_BlobSelectsMatchSpec_pk) [] from trivial) x y).trans (law1_BlobSelectsMatchSpec_core N x y)).trans h)
end
end Go.Proofs.YthlkidohpiebiaaDoor


/- strings.Trim and strings.Join, out of the kit's contracts. -/
namespace Go.Proofs.YthlkidohpiebiaaDoor
set_option linter.unusedVariables false
set_option linter.unusedSimpArgs false
open Go Go.RowKit Go.Shelf
end Go.Proofs.YthlkidohpiebiaaDoor



/- Splitting, cutting and joining at one byte. No program in sight. -/
namespace Go.Proofs.YthlkidohpiebiaaDoor
set_option linter.unusedVariables false
set_option linter.unusedSimpArgs false
open Go Go.RowKit
def splitC (c : UInt8) : Str → List Str
  | [] => [[]]
  | b :: s => if b = c then [] :: splitC c s else match splitC c s with
    | x :: xs => (b :: x) :: xs
    | [] => [[b]]
theorem splitC_ne (c : UInt8) (s : Str) : splitC c s ≠ [] := by
  cases s with
  | nil => simp [splitC]
  | cons b s => unfold splitC; split; simp; split <;> simp
theorem indexByte_cons (b c : UInt8) (s : Str) : Lib.indexByte (b :: s) c = if b = c then 0 else if Lib.indexByte s c = -1 then -1 else Lib.indexByte s c + 1 := by
  have h := Lib.indexByte_ge s c
  rw [Lib.indexByte]
  by_cases hb : b = c
  · simp [hb]
  · simp only [beq_iff_eq, hb, if_false]
theorem splitK_one (c : UInt8) : ∀ (s : Str), Lib.splitK [c] 0 (Lib.count s [c]) s = splitC c s
  | [] => by simp [Lib.count_one, Lib.splitK, splitC]
  | b :: s => by
    have ih := splitK_one c s
    by_cases hb : b = c
    · subst hb
      rw [Lib.count_cons_eq, Nat.add_comm, Lib.splitK, Lib.index_one, indexByte_cons]
      simp only [if_true]
      show (_ :: Lib.splitK [b] 0 (Lib.count s [b]) s) = _
      rw [ih]
      simp [splitC]
    · rw [Lib.count_cons_ne _ _ _ hb]
      unfold splitC
      rw [if_neg hb, ← ih]
      cases hk : Lib.count s [c] with
      | zero => simp [Lib.splitK]
      | succ k =>
        rw [Lib.splitK, Lib.splitK, Lib.index_one, Lib.index_one, indexByte_cons, if_neg hb]
        have h0 := Lib.indexByte_ge s c
        by_cases h1 : Lib.indexByte s c = -1
        · simp [h1]
        · have h2 : ∃ n : Nat, Lib.indexByte s c = n := ⟨(Lib.indexByte s c).toNat, by omega⟩
          obtain ⟨n, hn⟩ := h2
          have e : ((n : Int) + 1).toNat = n + 1 := by omega
          have e1 : ¬ ((n : Int) = -1) := by omega
          have e2 : ¬ ((n : Int) + 1 = -1) := by omega
          simp [hn, e, e1, e2, Nat.add_right_comm]
theorem splitS_one (s : Str) (c : UInt8) : splitS s [c] = splitC c s := by
  unfold splitS
  have := Lib.splitB_data ⟨[c].toArray⟩ 0 (Lib.countB ⟨s.toArray⟩ ⟨[c].toArray⟩) ⟨s.toArray⟩
  rw [this]
  exact splitK_one c s
theorem splitC_len (c : UInt8) : ∀ s : Str, (splitC c s).length = s.count c + 1
  | [] => rfl
  | b :: s => by
    have ih := splitC_len c s
    unfold splitC
    by_cases hb : b = c
    · rw [if_pos hb]; simp [hb, ih]
    · rw [if_neg hb, List.count_cons_of_ne hb, ← ih]
      have := splitC_ne c s
      cases h : splitC c s with
      | nil => exact absurd h this
      | cons => rfl
theorem strings_Split_one (s : Str) (c : UInt8) (h : s.length < 4294967281) : strings_Split s [c] = some (splitC c s) := by
  have hc : s.count c ≤ s.length := List.count_le_length
  unfold strings_Split
  rw [splitS_one, splitC_len]
  refine if_pos ⟨h, by simp, ?_, by omega⟩
  show _ = Lib.count s [c] + 1
  rw [Lib.count_one]
theorem splitC_mem (c : UInt8) (s : Str) : ∀ x ∈ splitC c s, c ∉ x ∧ x.length ≤ s.length := by
  induction s with
  | nil => intro x hx; simp [splitC] at hx; subst hx; simp
  | cons b s ih =>
    intro x hx
    unfold splitC at hx
    by_cases hb : b = c
    · rw [if_pos hb] at hx
      rcases List.mem_cons.1 hx with rfl | hx
      · simp
      · have := ih x hx; exact ⟨this.1, by simp; omega⟩
    · rw [if_neg hb] at hx
      cases h : splitC c s with
      | nil => exact absurd h (splitC_ne c s)
      | cons y ys =>
        rw [h] at hx ih
        rcases List.mem_cons.1 hx with rfl | hx
        · have := ih y (by simp)
          refine ⟨fun hm => ?_, by simp; omega⟩
          rcases List.mem_cons.1 hm with e | hm
          · exact hb e.symm
          · exact this.1 hm
        · have := ih x (List.mem_cons_of_mem _ hx); exact ⟨this.1, by simp; omega⟩
end Go.Proofs.YthlkidohpiebiaaDoor


/- The arguments of a law, as the statement's reading hands them over, as data of the machine: any type. -/
namespace Go.Proofs.YthlkidohpiebiaaDoor
set_option linter.unusedVariables false
set_option linter.unusedSimpArgs false
open Go Go.RowKit Go.ChangeShapes Go.WideShapes
/-- Nothing is longer than Go lets it be. -/
def FitG (RR : (i : RC) → i.den → Prop) : (t : Ty) → t.den → Prop
  | .u8, _ => True
  | .int k, x => (Lit.int k x).wf = true
  | .bool, _ => True
  | .str, x => x.length ≤ maxLen
  | .sl t, xs => xs.length ≤ maxLen ∧ ∀ x ∈ xs, FitG RR t x
  | .pr a b, x => FitG RR a x.1 ∧ FitG RR b x.2
  | .un, _ => True
  | .mp _, _ => True
  | .ptr _, _ => True
  | .np _, _ => True
  | .clo _ _, _ => True
  | .rc i, x => RR i x
def FitR (i : RC) (x : i.den) : Prop := ∀ RR : (i : RC) → i.den → Prop, (∀ j y, FitG RR j.body (j.un y) → RR j y) → RR i x
def Fit : (t : Ty) → t.den → Prop := FitG FitR
theorem FitG.mono {RR RR' : (i : RC) → i.den → Prop} (hR : ∀ i x, RR i x → RR' i x) : ∀ (t : Ty) (x : t.den), FitG RR t x → FitG RR' t x
  | .u8, _, h => h
  | .int _, _, h => h
  | .bool, _, h => h
  | .str, _, h => h
  | .sl t, _, h => ⟨h.1, fun x hx => FitG.mono hR t x (h.2 x hx)⟩
  | .pr a b, _, h => ⟨FitG.mono hR a _ h.1, FitG.mono hR b _ h.2⟩
  | .un, _, h => h
  | .mp _, _, h => h
  | .ptr _, _, h => h
  | .np _, _, h => h
  | .clo _ _, _, h => h
  | .rc i, x, h => hR i x h
theorem FitR.intro {i : RC} {x : i.den} (h : Fit i.body (i.un x)) : FitR i x :=
  fun RR hc => hc i x (FitG.mono (fun j y hy => hy RR hc) _ _ h)
theorem FitR.elim {i : RC} {x : i.den} (h : FitR i x) : Fit i.body (i.un x) :=
  h (fun j y => Fit j.body (j.un y)) fun _ _ hy => FitG.mono (fun _ _ h => FitR.intro h) _ _ hy
mutual
/-- A type of the program is this one, down to its parts. -/
inductive Deep (P : Program) (R : RC → Option TypeId) : Ty → TypeId → Prop where
  | u8 {T : TypeId} : P.underlying T = some (.int .u8) → Deep P R .u8 T
  | int {T : TypeId} {k : IntKind} : P.underlying T = some (.int k) → Deep P R (.int k) T
  | bool {T : TypeId} : P.underlying T = some .bool → Deep P R .bool T
  | str {T : TypeId} : P.underlying T = some .string → Deep P R .str T
  | sl {T e : TypeId} {t : Ty} : P.underlying T = some (.slice e) → P.cellsOf e = t.sz → Deep P R t e → Deep P R (.sl t) T
  | st {T : TypeId} {t : Ty} {fs : Array Field} : P.underlying T = some (.struct fs) → P.cellsOf T = t.sz → t.isAgg = true → DeepF P R t fs.toList 0 → Deep P R t T
  | rc {T : TypeId} {i : RC} : R i = some T → Deep P R (.rc i) T
/-- The same, of fields from a place on. -/
inductive DeepF (P : Program) (R : RC → Option TypeId) : Ty → List Field → Nat → Prop where
  | nil {o : Nat} : DeepF P R .un [] o
  | one {t : Ty} {f : Field} {o : Nat} : f.offset = o → P.cellsOf f.type = t.sz → Deep P R t f.type → DeepF P R t [f] o
  | single {t : Ty} {f : Field} {o : Nat} : f.offset = o → P.cellsOf f.type = t.sz → Deep P R t f.type → DeepF P R (.pr t .un) [f] o
  | cons {a b : Ty} {f : Field} {fs : List Field} {o : Nat} : f.offset = o → P.cellsOf f.type = a.sz → Deep P R a f.type → DeepF P R b fs (o + a.sz) → DeepF P R (.pr a b) (f :: fs) o
end
def RcOk (P : Program) (R : RC → Option TypeId) : Prop := ∀ i T, R i = some T → ∃ fs, P.underlying T = some (.struct fs) ∧ P.cellsOf T = i.sz ∧ DeepF P R i.body fs.toList 0
abbrev M00 : Nat → Nat → Prop := fun _ _ => False
section
variable {H : Type} {enc : TypeId × Value → H} {P : Program} {w : World} {spare : Nat → Bool} {held : Bool} {R : RC → Option TypeId}
theorem choose_list {α : Type} {p : Nat → α → Prop} : ∀ n, (∀ i, i < n → ∃ x, p i x) → ∃ l : List α, l.length = n ∧ ∀ i (h : i < l.length), p i l[i]
  | 0, _ => ⟨[], rfl, fun i h => absurd h (Nat.not_lt_zero _)⟩
  | n + 1, h => by
    obtain ⟨l, hl, hp⟩ := choose_list n fun i hi => h i (Nat.lt_succ_of_lt hi)
    obtain ⟨x, hx⟩ := h n (Nat.lt_succ_self _)
    refine ⟨l ++ [x], by simp [hl], fun i hi => ?_⟩
    rcases Nat.lt_or_ge i l.length with h' | h'
    · rw [List.getElem_append_left h']; exact hp i h'
    · have : i = l.length := by simp at hi; omega
      subst this
      simp [hl, hx]
theorem pl_of_cells {a : Addr} {n : Nat} {cs : List Value} (h : w.cells? 0 a n = some cs) : Pl M00 w a cs := by
  intro j u hu
  refine ⟨?_, id⟩
  unfold World.cells? at h
  rw [if_pos (Nat.zero_le _)] at h
  have hl := mapM_some_length h
  have hj : j < n := by
    rcases Nat.lt_or_ge j cs.length with h' | h'
    · rw [hl, List.length_range] at h'; exact h'
    · rw [List.getElem?_eq_none h'] at hu; cases hu
  have := mapM_some_get h j j (by rw [List.getElem?_range hj])
  rw [this]; exact hu
end
/-- A law is called. -/
theorem law_run {P : Program} {f : FuncId} {ps : List Sl} {F : SV ps → BV [] → Option Bool} {out : Bool → SV [.v .bool] × BV []} (hout : ∀ z, (out z).1 = (z, ())) (hs : Sound P GW B0G f ⟨ps, [], [.v .bool], [], Bool, out, F⟩)
    {W : World} {vs : List Value} {x : SV ps} (hg : GW W) (ha : All2 (RepD0 M00 W g0) (lays id ps x) vs) (hf : F x () = some true) : Calls P f vs.toArray W fun e W' => e = .returned (.bool true) ∧ Ext W W' := by
  refine (hs.2 M00 W g0 vs x () true hg (GW_size hg) { args := ha, res := fun r blk h => (by cases h), dom := fun r gx h => (by cases h), inj := fun _ _ _ _ _ h => (by cases h), low := fun _ _ _ h => (by cases h), chg := fun _ _ _ _ h => (by cases h), mlt := fun b o h => h.elim, row := fun _ _ _ h => (by cases h) } hf).mono fun e W' hp => ?_
  obtain ⟨vs', g', he, hE, _, hF, _⟩ := hp
  refine ⟨?_, hE.ext fun b hb => ?_⟩
  · have := hF.args
    rw [hout] at this
    match vs', this with
    | [v], ⟨h1, _⟩ =>
      have h2 := RepV.plain (t := .bool) rfl h1
      have h3 : [v] = [.bool true] := h2
      injection h3 with h3
      rw [he, h3]
      rfl
  · obtain ⟨r, x, h, _⟩ := hb
    cases h
end Go.Proofs.YthlkidohpiebiaaDoor

