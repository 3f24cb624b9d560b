/- What functions of the program compute, as plain functions (printed). -/
import Derived.Test.YthlkidohpiebiaaDoorQBmMk
namespace Go.Proofs.YthlkidohpiebiaaDoor
open Go Go.RowKit
set_option maxRecDepth 100000
set_option linter.unusedVariables false
noncomputable section
def ref1_inside_L0T (N : Nat) (x0 : List (Str × Bool × List UInt8)) (x1 : Str) (k0 : Option Bool) (self : Int → Option Bool) (s5 : Int) : Option Bool :=
  br (decide (s5 < (x1.length : Int)))
    (bnd (geti x1 s5) fun t14 =>
    br (t14 == (47 : UInt8))
      (bnd (slc x1 (0 : Int) s5) fun t20 =>
      bnd (ref1_there N x0 t20) fun t21 =>
      br (t21)
        (some true)
        (self (IntKind.i64.wrap (s5 + (1 : Int)))))
      (self (IntKind.i64.wrap (s5 + (1 : Int)))))
    (k0)
def ref1_inside_L0 (N : Nat) (x0 : List (Str × Bool × List UInt8)) (x1 : Str) (k0 : Option Bool) : Nat → Int → Option Bool
  | 0, _ => none
  | n + 1, s5 => ref1_inside_L0T N x0 x1 k0 (ref1_inside_L0 N x0 x1 k0 n) s5
def ref1_inside (N : Nat) (x0 : List (Str × Bool × List UInt8)) (x1 : Str) : Option Bool :=
  ref1_inside_L0 N x0 x1 (some false) N (0 : Int)
abbrev ref1_inside_sg (f : SV [.v (.sl (.pr .str (.pr .bool (.sl .u8)))), .v .str] → BV [] → Option (Bool)) : AF := { ps := [.v (.sl (.pr .str (.pr .bool (.sl .u8)))), .v .str], bs := [], rs := [.v .bool], cs := [], R := Bool, out := fun z => ((z, ()), ()), f := f }
abbrev ref1_inside_pk : SV [.v .bool] → BV [] → Bool := fun x _ => x.1
def ref1_inside_fn (N : Nat) : FuncId → Option Tmp → Option AF := fun f _ =>
  match f with
    | 104 => some (ref1_there_sg fun x _ => ref1_there N x.1 x.2.1)
    | _ => none
theorem ref1_inside_fn_ok (N : Nat) : ∀ f q F, ref1_inside_fn N f q = some F → Sound Tryd.prog GW B0G f F := by
  intro f q F h
  unfold ref1_inside_fn at h
  split at h
  · cases h; exact ref1_there_sound N
  · cases h
def ref1_inside_h : Nat → Hint := fun i =>
  match i with
  | 0 => ⟨[], [0, 1, 5], [], [], [], []⟩
  | _ => ⟨[], [], [], [], [], []⟩
abbrev ref1_inside_E (N : Nat) : Env := mkE ref1_inside_h (ref1_inside_fn N) (fun _ => false) (fun _ => false)
abbrev ref1_inside_L0_fs : List (Nat × Sl) := [(0, .v (.sl (.pr .str (.pr .bool (.sl .u8))))), (1, .v .str), (5, .v (.int .i64))]
abbrev ref1_inside_L0_bs : List (Nat × Sb) := []
def ref1_inside_L0_hd (x0 : List (Str × Bool × List UInt8)) (x1 : Str) (s5 : Int) : St := ⟨23, [(0, .v (.sl (.pr .str (.pr .bool (.sl .u8)))) x0), (1, .v .str x1), (5, .v (.int .i64) s5)], []⟩
def ref1_inside_L0_tl0 (_x0 : List (Str × Bool × List UInt8)) (_x1 : Str) : St := ⟨23, [], []⟩
def ref1_inside_L0_G (N : Nat) (x0 : List (Str × Bool × List UInt8)) (x1 : Str) (s5 : Int) (k : Ex → St → Option Bool) : Option Bool :=
  ref1_inside_L0 N x0 x1 (k (.exit 0) (ref1_inside_L0_tl0 x0 x1)) N s5
abbrev ref1_inside_L0_F (N : Nat) : FV ref1_inside_L0_fs → HV ref1_inside_L0_bs → (Ex → St → Option Bool) → Option Bool := fun x _ k => ref1_inside_L0_G N x.1 x.2.1 x.2.2.1 k
noncomputable def ref1_inside_LP (N : Nat) : Nat → Code → St → (Ex → St → Option Bool) → Option Bool := fun i c =>
  match i with
  | 0 => (LPc 23 ref1_inside_L0_fs ref1_inside_L0_bs (ref1_inside_L0_F N) (fun st k => iter (ref1_inside_h 0) (exec (ref1_inside_E N) N c 0) N st k))
  | i => fun st k => iter (ref1_inside_h i) (exec (ref1_inside_E N) N c i) N st k
theorem ref1_inside_L0_step (N : Nat) (x0 : List (Str × Bool × List UInt8)) (x1 : Str) (KX : Nat → St → Option Bool) (I : St → Option Bool) (s5 : Int) :
    execL (ref1_inside_LP N) (ref1_inside_E N) (cAt (bodyOf Tryd.f75) [true, false, true, false, false]) 0 (ref1_inside_L0_hd x0 x1 s5) (roundK (ref1_inside_h 0) I KX (resD (ref1_inside_E N) Tryd.f75 (ref1_inside_sg fun x _ => ref1_inside N x.1 x.2.1) ref1_inside_pk)) = ref1_inside_L0T N x0 x1 (KX 0 (ref1_inside_L0_tl0 x0 x1)) (fun s5 => I (ref1_inside_L0_hd x0 x1 s5)) s5 := by kernel_rfl
theorem ref1_inside_L0_ok (N : Nat) : ∀ x y k, (∀ st, k .ret st = (resD (ref1_inside_E N) Tryd.f75 (ref1_inside_sg fun x _ => ref1_inside N x.1 x.2.1) ref1_inside_pk) st) → iter (ref1_inside_h 0) (exec (ref1_inside_E N) N (cAt (bodyOf Tryd.f75) [true, false, true, false, false]) 0) N ⟨23, unF ref1_inside_L0_fs x, unH ref1_inside_L0_bs y⟩ k = ref1_inside_L0_F N x y k := fun x _ k hk =>
  iter_link (S := (Int) × Unit) (ref1_inside_h 0) _ (execL (ref1_inside_LP N) (ref1_inside_E N) (cAt (bodyOf Tryd.f75) [true, false, true, false, false]) 0) (resD (ref1_inside_E N) Tryd.f75 (ref1_inside_sg fun x _ => ref1_inside N x.1 x.2.1) ref1_inside_pk) (fun st k hk => execL_eq _ _ N _ (cAt (bodyOf Tryd.f75) [true, false, true, false, false]) 0 (show LoopsOk (ref1_inside_LP N) (ref1_inside_E N) N (resD (ref1_inside_E N) Tryd.f75 (ref1_inside_sg fun x _ => ref1_inside N x.1 x.2.1) ref1_inside_pk) [] from trivial) st k hk) (fun s => ref1_inside_L0_hd x.1 x.2.1 s.1) k hk
    (fun self s => ref1_inside_L0T N x.1 x.2.1 (k (.exit 0) (ref1_inside_L0_tl0 x.1 x.2.1)) (fun s5 => self (s5, ())) s.1) (fun n s => ref1_inside_L0 N x.1 x.2.1 (k (.exit 0) (ref1_inside_L0_tl0 x.1 x.2.1)) n s.1) (fun _ => rfl) (fun _ _ => rfl)
    (fun I s => ref1_inside_L0_step N x.1 x.2.1 (fun j => k (.exit j)) I s.1) N (x.2.2.1, ())
theorem ref1_inside_lp0 (N : Nat) : ∀ st k, (∀ st, k .ret st = (resD (ref1_inside_E N) Tryd.f75 (ref1_inside_sg fun x _ => ref1_inside N x.1 x.2.1) ref1_inside_pk) st) → ref1_inside_LP N 0 (cAt (bodyOf Tryd.f75) [true, false, true, false, false]) st k = iter (Env.hint (ref1_inside_E N) 0) (exec (ref1_inside_E N) N (cAt (bodyOf Tryd.f75) [true, false, true, false, false]) 0) N st k := fun st k hk => LPc_eq 23 ref1_inside_L0_fs ref1_inside_L0_bs _ _ (resD (ref1_inside_E N) Tryd.f75 (ref1_inside_sg fun x _ => ref1_inside N x.1 x.2.1) ref1_inside_pk) (ref1_inside_L0_ok N) _ st k hk (rfl)
theorem ref1_inside_core (N : Nat) (x : SV [.v (.sl (.pr .str (.pr .bool (.sl .u8)))), .v .str]) (y : BV []) : runL (ref1_inside_E N) Tryd.f75 (ref1_inside_sg fun x _ => ref1_inside N x.1 x.2.1) ref1_inside_pk (ref1_inside_LP N) x y = ref1_inside N x.1 x.2.1 := by kernel_rfl
theorem ref1_inside_sound (N : Nat) : Sound Tryd.prog GW B0G 75 (ref1_inside_sg fun x _ => ref1_inside N x.1 x.2.1) :=
  runD_sound (mkE_ok ref1_inside_h (ref1_inside_fn N) _ _ (ref1_inside_fn_ok N)) Tryd.func75 rfl Tryd.call75 (ref1_inside_sg fun x _ => ref1_inside N x.1 x.2.1) ref1_inside_pk (fun _ _ => rfl) N (fun x y _ h => ((runL_eq (ref1_inside_E N) N Tryd.f75 (ref1_inside_sg fun x _ => ref1_inside N x.1 x.2.1) ref1_inside_pk (ref1_inside_LP N) (show LoopsOk (ref1_inside_LP N) (ref1_inside_E N) N (resD (ref1_inside_E N) Tryd.f75 (ref1_inside_sg fun x _ => ref1_inside N x.1 x.2.1) ref1_inside_pk) [(0, (cAt (bodyOf Tryd.f75) [true, false, true, false, false]))] from ⟨ref1_inside_lp0 N, trivial⟩) x y).trans (ref1_inside_core N x y)).trans h)
def ref1_CheckFiles_L0T (N : Nat) (x0 : List (Str × Bool × List UInt8)) (k0 : Int → Option Int) (self : Int → Int → Option Int) (s3 : Int) (s4 : Int) : Option Int :=
  br (decide (s4 < (x0.length : Int)))
    (bnd (geti x0 s4) fun t17 =>
    bnd (ref1_IsPath N t17.1) fun t20 =>
    br (!t20)
      (some (3 : Int))
      (bnd (geti x0 s4) fun t24 =>
      br (decide ((t24.2.2.length : Int) > (100000 : Int)))
        (some (2 : Int))
        (br (decide (s4 > (0 : Int)))
          (bnd (geti x0 s4) fun t34 =>
          bnd (geti x0 (IntKind.i64.wrap (s4 - (1 : Int)))) fun t40 =>
          br (Op.bytesLess t34.1 t40.1 || t34.1 == t40.1)
            (some (8 : Int))
            (bnd (geti x0 s4) fun t48 =>
            self (IntKind.i64.wrap (s3 + (t48.2.2.length : Int))) (IntKind.i64.wrap (s4 + (1 : Int)))))
          (bnd (geti x0 s4) fun t48_1 =>
          self (IntKind.i64.wrap (s3 + (t48_1.2.2.length : Int))) (IntKind.i64.wrap (s4 + (1 : Int)))))))
    (k0 s3)
def ref1_CheckFiles_L0 (N : Nat) (x0 : List (Str × Bool × List UInt8)) (k0 : Int → Option Int) : Nat → Int → Int → Option Int
  | 0, _, _ => none
  | n + 1, s3, s4 => ref1_CheckFiles_L0T N x0 k0 (ref1_CheckFiles_L0 N x0 k0 n) s3 s4
def ref1_CheckFiles_L1T (N : Nat) (x0 : List (Str × Bool × List UInt8)) (k2 : Option Int) (self : Int → Option Int) (s5 : Int) : Option Int :=
  br (decide (s5 < (x0.length : Int)))
    (bnd (geti x0 s5) fun t62 =>
    bnd (ref1_inside N x0 t62.1) fun t65 =>
    br (t65)
      (some (12 : Int))
      (self (IntKind.i64.wrap (s5 + (1 : Int)))))
    (k2)
def ref1_CheckFiles_L1 (N : Nat) (x0 : List (Str × Bool × List UInt8)) (k2 : Option Int) : Nat → Int → Option Int
  | 0, _ => none
  | n + 1, s5 => ref1_CheckFiles_L1T N x0 k2 (ref1_CheckFiles_L1 N x0 k2 n) s5
def ref1_CheckFiles (N : Nat) (x0 : List (Str × Bool × List UInt8)) : Option Int :=
  br (decide ((x0.length : Int) > (1000 : Int)))
    (some (2 : Int))
    (ref1_CheckFiles_L0 N x0 (fun o0_3 =>
        ref1_CheckFiles_L1 N x0 (br (decide (o0_3 > (2000000 : Int)))
              (some (2 : Int))
              (some (0 : Int))) N (0 : Int)) N (0 : Int) (0 : Int))
abbrev ref1_CheckFiles_sg (f : SV [.v (.sl (.pr .str (.pr .bool (.sl .u8))))] → BV [] → Option (Int)) : AF := { ps := [.v (.sl (.pr .str (.pr .bool (.sl .u8))))], bs := [], rs := [.v (.int .i64)], cs := [], R := Int, out := fun z => ((z, ()), ()), f := f }
abbrev ref1_CheckFiles_pk : SV [.v (.int .i64)] → BV [] → Int := fun x _ => x.1
def ref1_CheckFiles_fn (N : Nat) : FuncId → Option Tmp → Option AF := fun f _ =>
  match f with
    | 40 => some (ref1_IsPath_sg fun x _ => ref1_IsPath N x.1)
    | 75 => some (ref1_inside_sg fun x _ => ref1_inside N x.1 x.2.1)
    | _ => none
theorem ref1_CheckFiles_fn_ok (N : Nat) : ∀ f q F, ref1_CheckFiles_fn N f q = some F → Sound Tryd.prog GW B0G f F := by
  intro f q F h
  unfold ref1_CheckFiles_fn at h
  split at h
  · cases h; exact ref1_IsPath_sound N
  · cases h; exact ref1_inside_sound N
  · cases h
def ref1_CheckFiles_h : Nat → Hint := fun i =>
  match i with
  | 0 => ⟨[], [0, 3, 4], [], [0, 3], [], []⟩
  | 2 => ⟨[], [0, 3, 5], [], [3], [], []⟩
  | _ => ⟨[], [], [], [], [], []⟩
abbrev ref1_CheckFiles_E (N : Nat) : Env := mkE ref1_CheckFiles_h (ref1_CheckFiles_fn N) (fun _ => false) (fun _ => false)
abbrev ref1_CheckFiles_L0_fs : List (Nat × Sl) := [(0, .v (.sl (.pr .str (.pr .bool (.sl .u8))))), (3, .v (.int .i64)), (4, .v (.int .i64))]
abbrev ref1_CheckFiles_L0_bs : List (Nat × Sb) := []
def ref1_CheckFiles_L0_hd (x0 : List (Str × Bool × List UInt8)) (s3 : Int) (s4 : Int) : St := ⟨68, [(0, .v (.sl (.pr .str (.pr .bool (.sl .u8)))) x0), (3, .v (.int .i64) s3), (4, .v (.int .i64) s4)], []⟩
def ref1_CheckFiles_L0_tl0 (x0 : List (Str × Bool × List UInt8)) (o0_3 : Int) : St := ⟨68, [(0, .v (.sl (.pr .str (.pr .bool (.sl .u8)))) x0), (3, .v (.int .i64) o0_3)], []⟩
def ref1_CheckFiles_L0_G (N : Nat) (x0 : List (Str × Bool × List UInt8)) (s3 : Int) (s4 : Int) (k : Ex → St → Option Int) : Option Int :=
  ref1_CheckFiles_L0 N x0 (fun o0_3 => k (.exit 0) (ref1_CheckFiles_L0_tl0 x0 o0_3)) N s3 s4
abbrev ref1_CheckFiles_L0_F (N : Nat) : FV ref1_CheckFiles_L0_fs → HV ref1_CheckFiles_L0_bs → (Ex → St → Option Int) → Option Int := fun x _ k => ref1_CheckFiles_L0_G N x.1 x.2.1 x.2.2.1 k
abbrev ref1_CheckFiles_L1_fs : List (Nat × Sl) := [(0, .v (.sl (.pr .str (.pr .bool (.sl .u8))))), (3, .v (.int .i64)), (5, .v (.int .i64))]
abbrev ref1_CheckFiles_L1_bs : List (Nat × Sb) := []
def ref1_CheckFiles_L1_hd (x0 : List (Str × Bool × List UInt8)) (o0_3 : Int) (s5 : Int) : St := ⟨68, [(0, .v (.sl (.pr .str (.pr .bool (.sl .u8)))) x0), (3, .v (.int .i64) o0_3), (5, .v (.int .i64) s5)], []⟩
def ref1_CheckFiles_L1_tl2 (_x0 : List (Str × Bool × List UInt8)) (o0_3 : Int) : St := ⟨68, [(3, .v (.int .i64) o0_3)], []⟩
def ref1_CheckFiles_L1_G (N : Nat) (x0 : List (Str × Bool × List UInt8)) (o0_3 : Int) (s5 : Int) (k : Ex → St → Option Int) : Option Int :=
  ref1_CheckFiles_L1 N x0 (k (.exit 2) (ref1_CheckFiles_L1_tl2 x0 o0_3)) N s5
abbrev ref1_CheckFiles_L1_F (N : Nat) : FV ref1_CheckFiles_L1_fs → HV ref1_CheckFiles_L1_bs → (Ex → St → Option Int) → Option Int := fun x _ k => ref1_CheckFiles_L1_G N x.1 x.2.1 x.2.2.1 k
noncomputable def ref1_CheckFiles_LP (N : Nat) : Nat → Code → St → (Ex → St → Option Int) → Option Int := fun i c =>
  match i with
  | 0 => (LPc 68 ref1_CheckFiles_L0_fs ref1_CheckFiles_L0_bs (ref1_CheckFiles_L0_F N) (fun st k => iter (ref1_CheckFiles_h 0) (exec (ref1_CheckFiles_E N) N c 0) N st k))
  | 2 => (LPc 68 ref1_CheckFiles_L1_fs ref1_CheckFiles_L1_bs (ref1_CheckFiles_L1_F N) (fun st k => iter (ref1_CheckFiles_h 2) (exec (ref1_CheckFiles_E N) N c 2) N st k))
  | i => fun st k => iter (ref1_CheckFiles_h i) (exec (ref1_CheckFiles_E N) N c i) N st k
theorem ref1_CheckFiles_L1_step (N : Nat) (x0 : List (Str × Bool × List UInt8)) (o0_3 : Int) (KX : Nat → St → Option Int) (I : St → Option Int) (s5 : Int) :
    execL (ref1_CheckFiles_LP N) (ref1_CheckFiles_E N) (cAt (bodyOf Tryd.f36) [true, true, true, true, false, true, false, false]) 2 (ref1_CheckFiles_L1_hd x0 o0_3 s5) (roundK (ref1_CheckFiles_h 2) I KX (resD (ref1_CheckFiles_E N) Tryd.f36 (ref1_CheckFiles_sg fun x _ => ref1_CheckFiles N x.1) ref1_CheckFiles_pk)) = ref1_CheckFiles_L1T N x0 (KX 2 (ref1_CheckFiles_L1_tl2 x0 o0_3)) (fun s5 => I (ref1_CheckFiles_L1_hd x0 o0_3 s5)) s5 := by kernel_rfl
theorem ref1_CheckFiles_L1_ok (N : Nat) : ∀ x y k, (∀ st, k .ret st = (resD (ref1_CheckFiles_E N) Tryd.f36 (ref1_CheckFiles_sg fun x _ => ref1_CheckFiles N x.1) ref1_CheckFiles_pk) st) → iter (ref1_CheckFiles_h 2) (exec (ref1_CheckFiles_E N) N (cAt (bodyOf Tryd.f36) [true, true, true, true, false, true, false, false]) 2) N ⟨68, unF ref1_CheckFiles_L1_fs x, unH ref1_CheckFiles_L1_bs y⟩ k = ref1_CheckFiles_L1_F N x y k := fun x _ k hk =>
  iter_link (S := (Int) × Unit) (ref1_CheckFiles_h 2) _ (execL (ref1_CheckFiles_LP N) (ref1_CheckFiles_E N) (cAt (bodyOf Tryd.f36) [true, true, true, true, false, true, false, false]) 2) (resD (ref1_CheckFiles_E N) Tryd.f36 (ref1_CheckFiles_sg fun x _ => ref1_CheckFiles N x.1) ref1_CheckFiles_pk) (fun st k hk => execL_eq _ _ N _ (cAt (bodyOf Tryd.f36) [true, true, true, true, false, true, false, false]) 2 (show LoopsOk (ref1_CheckFiles_LP N) (ref1_CheckFiles_E N) N (resD (ref1_CheckFiles_E N) Tryd.f36 (ref1_CheckFiles_sg fun x _ => ref1_CheckFiles N x.1) ref1_CheckFiles_pk) [] from trivial) st k hk) (fun s => ref1_CheckFiles_L1_hd x.1 x.2.1 s.1) k hk
    (fun self s => ref1_CheckFiles_L1T N x.1 (k (.exit 2) (ref1_CheckFiles_L1_tl2 x.1 x.2.1)) (fun s5 => self (s5, ())) s.1) (fun n s => ref1_CheckFiles_L1 N x.1 (k (.exit 2) (ref1_CheckFiles_L1_tl2 x.1 x.2.1)) n s.1) (fun _ => rfl) (fun _ _ => rfl)
    (fun I s => ref1_CheckFiles_L1_step N x.1 x.2.1 (fun j => k (.exit j)) I s.1) N (x.2.2.1, ())
theorem ref1_CheckFiles_lp2 (N : Nat) : ∀ st k, (∀ st, k .ret st = (resD (ref1_CheckFiles_E N) Tryd.f36 (ref1_CheckFiles_sg fun x _ => ref1_CheckFiles N x.1) ref1_CheckFiles_pk) st) → ref1_CheckFiles_LP N 2 (cAt (bodyOf Tryd.f36) [true, true, true, true, false, true, false, false]) st k = iter (Env.hint (ref1_CheckFiles_E N) 2) (exec (ref1_CheckFiles_E N) N (cAt (bodyOf Tryd.f36) [true, true, true, true, false, true, false, false]) 2) N st k := fun st k hk => LPc_eq 68 ref1_CheckFiles_L1_fs ref1_CheckFiles_L1_bs _ _ (resD (ref1_CheckFiles_E N) Tryd.f36 (ref1_CheckFiles_sg fun x _ => ref1_CheckFiles N x.1) ref1_CheckFiles_pk) (ref1_CheckFiles_L1_ok N) _ st k hk (rfl)
theorem ref1_CheckFiles_L0_step (N : Nat) (x0 : List (Str × Bool × List UInt8)) (KX : Nat → St → Option Int) (I : St → Option Int) (s3 : Int) (s4 : Int) :
    execL (ref1_CheckFiles_LP N) (ref1_CheckFiles_E N) (cAt (bodyOf Tryd.f36) [true, true, true, false, true, false, false]) 0 (ref1_CheckFiles_L0_hd x0 s3 s4) (roundK (ref1_CheckFiles_h 0) I KX (resD (ref1_CheckFiles_E N) Tryd.f36 (ref1_CheckFiles_sg fun x _ => ref1_CheckFiles N x.1) ref1_CheckFiles_pk)) = ref1_CheckFiles_L0T N x0 (fun o0_3 => KX 0 (ref1_CheckFiles_L0_tl0 x0 o0_3)) (fun s3 s4 => I (ref1_CheckFiles_L0_hd x0 s3 s4)) s3 s4 := by kernel_rfl
theorem ref1_CheckFiles_L0_ok (N : Nat) : ∀ x y k, (∀ st, k .ret st = (resD (ref1_CheckFiles_E N) Tryd.f36 (ref1_CheckFiles_sg fun x _ => ref1_CheckFiles N x.1) ref1_CheckFiles_pk) st) → iter (ref1_CheckFiles_h 0) (exec (ref1_CheckFiles_E N) N (cAt (bodyOf Tryd.f36) [true, true, true, false, true, false, false]) 0) N ⟨68, unF ref1_CheckFiles_L0_fs x, unH ref1_CheckFiles_L0_bs y⟩ k = ref1_CheckFiles_L0_F N x y k := fun x _ k hk =>
  iter_link (S := (Int) × (Int) × Unit) (ref1_CheckFiles_h 0) _ (execL (ref1_CheckFiles_LP N) (ref1_CheckFiles_E N) (cAt (bodyOf Tryd.f36) [true, true, true, false, true, false, false]) 0) (resD (ref1_CheckFiles_E N) Tryd.f36 (ref1_CheckFiles_sg fun x _ => ref1_CheckFiles N x.1) ref1_CheckFiles_pk) (fun st k hk => execL_eq _ _ N _ (cAt (bodyOf Tryd.f36) [true, true, true, false, true, false, false]) 0 (show LoopsOk (ref1_CheckFiles_LP N) (ref1_CheckFiles_E N) N (resD (ref1_CheckFiles_E N) Tryd.f36 (ref1_CheckFiles_sg fun x _ => ref1_CheckFiles N x.1) ref1_CheckFiles_pk) [] from trivial) st k hk) (fun s => ref1_CheckFiles_L0_hd x.1 s.1 s.2.1) k hk
    (fun self s => ref1_CheckFiles_L0T N x.1 (fun o0_3 => k (.exit 0) (ref1_CheckFiles_L0_tl0 x.1 o0_3)) (fun s3 s4 => self (s3, s4, ())) s.1 s.2.1) (fun n s => ref1_CheckFiles_L0 N x.1 (fun o0_3 => k (.exit 0) (ref1_CheckFiles_L0_tl0 x.1 o0_3)) n s.1 s.2.1) (fun _ => rfl) (fun _ _ => rfl)
    (fun I s => ref1_CheckFiles_L0_step N x.1 (fun j => k (.exit j)) I s.1 s.2.1) N (x.2.1, x.2.2.1, ())
theorem ref1_CheckFiles_lp0 (N : Nat) : ∀ st k, (∀ st, k .ret st = (resD (ref1_CheckFiles_E N) Tryd.f36 (ref1_CheckFiles_sg fun x _ => ref1_CheckFiles N x.1) ref1_CheckFiles_pk) st) → ref1_CheckFiles_LP N 0 (cAt (bodyOf Tryd.f36) [true, true, true, false, true, false, false]) st k = iter (Env.hint (ref1_CheckFiles_E N) 0) (exec (ref1_CheckFiles_E N) N (cAt (bodyOf Tryd.f36) [true, true, true, false, true, false, false]) 0) N st k := fun st k hk => LPc_eq 68 ref1_CheckFiles_L0_fs ref1_CheckFiles_L0_bs _ _ (resD (ref1_CheckFiles_E N) Tryd.f36 (ref1_CheckFiles_sg fun x _ => ref1_CheckFiles N x.1) ref1_CheckFiles_pk) (ref1_CheckFiles_L0_ok N) _ st k hk (rfl)
theorem ref1_CheckFiles_core (N : Nat) (x : SV [.v (.sl (.pr .str (.pr .bool (.sl .u8))))]) (y : BV []) : runL (ref1_CheckFiles_E N) Tryd.f36 (ref1_CheckFiles_sg fun x _ => ref1_CheckFiles N x.1) ref1_CheckFiles_pk (ref1_CheckFiles_LP N) x y = ref1_CheckFiles N x.1 := by kernel_rfl
theorem ref1_CheckFiles_sound (N : Nat) : Sound Tryd.prog GW B0G 36 (ref1_CheckFiles_sg fun x _ => ref1_CheckFiles N x.1) :=
  runD_sound (mkE_ok ref1_CheckFiles_h (ref1_CheckFiles_fn N) _ _ (ref1_CheckFiles_fn_ok N)) Tryd.func36 rfl Tryd.call36 (ref1_CheckFiles_sg fun x _ => ref1_CheckFiles N x.1) ref1_CheckFiles_pk (fun _ _ => rfl) N (fun x y _ h => ((runL_eq (ref1_CheckFiles_E N) N Tryd.f36 (ref1_CheckFiles_sg fun x _ => ref1_CheckFiles N x.1) ref1_CheckFiles_pk (ref1_CheckFiles_LP N) (show LoopsOk (ref1_CheckFiles_LP N) (ref1_CheckFiles_E N) N (resD (ref1_CheckFiles_E N) Tryd.f36 (ref1_CheckFiles_sg fun x _ => ref1_CheckFiles N x.1) ref1_CheckFiles_pk) [(0, (cAt (bodyOf Tryd.f36) [true, true, true, false, true, false, false])), (2, (cAt (bodyOf Tryd.f36) [true, true, true, true, false, true, false, false]))] from ⟨ref1_CheckFiles_lp0 N, ref1_CheckFiles_lp2 N, trivial⟩) x y).trans (ref1_CheckFiles_core N x y)).trans h)
def slices_Equal_string_string_L0T (_N : Nat) (x0 : List Str) (x1 : List Str) (c12 : Int) (k0 : Option Bool) (self : Int → Option Bool) (s13 : Int) : Option Bool :=
  br (decide (s13 < c12))
    (bnd (geti x0 s13) fun t18 =>
    bnd (geti x1 s13) fun t22 =>
    br (!(t18 == t22))
      (some false)
      (self (IntKind.i64.wrap (s13 + (1 : Int)))))
    (k0)
def slices_Equal_string_string_L0 (N : Nat) (x0 : List Str) (x1 : List Str) (c12 : Int) (k0 : Option Bool) : Nat → Int → Option Bool
  | 0, _ => none
  | n + 1, s13 => slices_Equal_string_string_L0T N x0 x1 c12 k0 (slices_Equal_string_string_L0 N x0 x1 c12 k0 n) s13
def slices_Equal_string_string (N : Nat) (x0 : List Str) (x1 : List Str) : Option Bool :=
  br ((x0.length : Int) != (x1.length : Int))
    (some false)
    (slices_Equal_string_string_L0 N x0 x1 (x0.length : Int) (some true) N (0 : Int))
abbrev slices_Equal_string_string_sg (f : SV [.v (.sl .str), .v (.sl .str)] → BV [] → Option (Bool)) : AF := { ps := [.v (.sl .str), .v (.sl .str)], bs := [], rs := [.v .bool], cs := [], R := Bool, out := fun z => ((z, ()), ()), f := f }
abbrev slices_Equal_string_string_pk : SV [.v .bool] → BV [] → Bool := fun x _ => x.1
def slices_Equal_string_string_fn (_N : Nat) : FuncId → Option Tmp → Option AF := fun f _ =>
  match f with
    | _ => none
theorem slices_Equal_string_string_fn_ok (N : Nat) : ∀ f q F, slices_Equal_string_string_fn N f q = some F → Sound Tryd.prog GW B0G f F := by
  intro f q F h
  unfold slices_Equal_string_string_fn at h
  split at h
  · cases h
def slices_Equal_string_string_h : Nat → Hint := fun i =>
  match i with
  | 0 => ⟨[], [0, 1, 12, 13], [], [], [], []⟩
  | _ => ⟨[], [], [], [], [], []⟩
abbrev slices_Equal_string_string_E (N : Nat) : Env := mkE slices_Equal_string_string_h (slices_Equal_string_string_fn N) (fun _ => false) (fun _ => false)
abbrev slices_Equal_string_string_L0_fs : List (Nat × Sl) := [(0, .v (.sl .str)), (1, .v (.sl .str)), (12, .v (.int .i64)), (13, .v (.int .i64))]
abbrev slices_Equal_string_string_L0_bs : List (Nat × Sb) := []
def slices_Equal_string_string_L0_hd (x0 : List Str) (x1 : List Str) (c12 : Int) (s13 : Int) : St := ⟨26, [(0, .v (.sl .str) x0), (1, .v (.sl .str) x1), (12, .v (.int .i64) c12), (13, .v (.int .i64) s13)], []⟩
def slices_Equal_string_string_L0_tl0 (_x0 : List Str) (_x1 : List Str) (_c12 : Int) : St := ⟨26, [], []⟩
def slices_Equal_string_string_L0_G (N : Nat) (x0 : List Str) (x1 : List Str) (c12 : Int) (s13 : Int) (k : Ex → St → Option Bool) : Option Bool :=
  slices_Equal_string_string_L0 N x0 x1 c12 (k (.exit 0) (slices_Equal_string_string_L0_tl0 x0 x1 c12)) N s13
abbrev slices_Equal_string_string_L0_F (N : Nat) : FV slices_Equal_string_string_L0_fs → HV slices_Equal_string_string_L0_bs → (Ex → St → Option Bool) → Option Bool := fun x _ k => slices_Equal_string_string_L0_G N x.1 x.2.1 x.2.2.1 x.2.2.2.1 k
noncomputable def slices_Equal_string_string_LP (N : Nat) : Nat → Code → St → (Ex → St → Option Bool) → Option Bool := fun i c =>
  match i with
  | 0 => (LPc 26 slices_Equal_string_string_L0_fs slices_Equal_string_string_L0_bs (slices_Equal_string_string_L0_F N) (fun st k => iter (slices_Equal_string_string_h 0) (exec (slices_Equal_string_string_E N) N c 0) N st k))
  | i => fun st k => iter (slices_Equal_string_string_h i) (exec (slices_Equal_string_string_E N) N c i) N st k
theorem slices_Equal_string_string_L0_step (N : Nat) (x0 : List Str) (x1 : List Str) (c12 : Int) (KX : Nat → St → Option Bool) (I : St → Option Bool) (s13 : Int) :
    execL (slices_Equal_string_string_LP N) (slices_Equal_string_string_E N) (cAt (bodyOf Tryd.f21) [true, true, false, true, false, false]) 0 (slices_Equal_string_string_L0_hd x0 x1 c12 s13) (roundK (slices_Equal_string_string_h 0) I KX (resD (slices_Equal_string_string_E N) Tryd.f21 (slices_Equal_string_string_sg fun x _ => slices_Equal_string_string N x.1 x.2.1) slices_Equal_string_string_pk)) = slices_Equal_string_string_L0T N x0 x1 c12 (KX 0 (slices_Equal_string_string_L0_tl0 x0 x1 c12)) (fun s13 => I (slices_Equal_string_string_L0_hd x0 x1 c12 s13)) s13 := by kernel_rfl
theorem slices_Equal_string_string_L0_ok (N : Nat) : ∀ x y k, (∀ st, k .ret st = (resD (slices_Equal_string_string_E N) Tryd.f21 (slices_Equal_string_string_sg fun x _ => slices_Equal_string_string N x.1 x.2.1) slices_Equal_string_string_pk) st) → iter (slices_Equal_string_string_h 0) (exec (slices_Equal_string_string_E N) N (cAt (bodyOf Tryd.f21) [true, true, false, true, false, false]) 0) N ⟨26, unF slices_Equal_string_string_L0_fs x, unH slices_Equal_string_string_L0_bs y⟩ k = slices_Equal_string_string_L0_F N x y k := fun x _ k hk =>
  iter_link (S := (Int) × Unit) (slices_Equal_string_string_h 0) _ (execL (slices_Equal_string_string_LP N) (slices_Equal_string_string_E N) (cAt (bodyOf Tryd.f21) [true, true, false, true, false, false]) 0) (resD (slices_Equal_string_string_E N) Tryd.f21 (slices_Equal_string_string_sg fun x _ => slices_Equal_string_string N x.1 x.2.1) slices_Equal_string_string_pk) (fun st k hk => execL_eq _ _ N _ (cAt (bodyOf Tryd.f21) [true, true, false, true, false, false]) 0 (show LoopsOk (slices_Equal_string_string_LP N) (slices_Equal_string_string_E N) N (resD (slices_Equal_string_string_E N) Tryd.f21 (slices_Equal_string_string_sg fun x _ => slices_Equal_string_string N x.1 x.2.1) slices_Equal_string_string_pk) [] from trivial) st k hk) (fun s => slices_Equal_string_string_L0_hd x.1 x.2.1 x.2.2.1 s.1) k hk
    (fun self s => slices_Equal_string_string_L0T N x.1 x.2.1 x.2.2.1 (k (.exit 0) (slices_Equal_string_string_L0_tl0 x.1 x.2.1 x.2.2.1)) (fun s13 => self (s13, ())) s.1) (fun n s => slices_Equal_string_string_L0 N x.1 x.2.1 x.2.2.1 (k (.exit 0) (slices_Equal_string_string_L0_tl0 x.1 x.2.1 x.2.2.1)) n s.1) (fun _ => rfl) (fun _ _ => rfl)
    (fun I s => slices_Equal_string_string_L0_step N x.1 x.2.1 x.2.2.1 (fun j => k (.exit j)) I s.1) N (x.2.2.2.1, ())
theorem slices_Equal_string_string_lp0 (N : Nat) : ∀ st k, (∀ st, k .ret st = (resD (slices_Equal_string_string_E N) Tryd.f21 (slices_Equal_string_string_sg fun x _ => slices_Equal_string_string N x.1 x.2.1) slices_Equal_string_string_pk) st) → slices_Equal_string_string_LP N 0 (cAt (bodyOf Tryd.f21) [true, true, false, true, false, false]) st k = iter (Env.hint (slices_Equal_string_string_E N) 0) (exec (slices_Equal_string_string_E N) N (cAt (bodyOf Tryd.f21) [true, true, false, true, false, false]) 0) N st k := fun st k hk => LPc_eq 26 slices_Equal_string_string_L0_fs slices_Equal_string_string_L0_bs _ _ (resD (slices_Equal_string_string_E N) Tryd.f21 (slices_Equal_string_string_sg fun x _ => slices_Equal_string_string N x.1 x.2.1) slices_Equal_string_string_pk) (slices_Equal_string_string_L0_ok N) _ st k hk (rfl)
theorem slices_Equal_string_string_core (N : Nat) (x : SV [.v (.sl .str), .v (.sl .str)]) (y : BV []) : runL (slices_Equal_string_string_E N) Tryd.f21 (slices_Equal_string_string_sg fun x _ => slices_Equal_string_string N x.1 x.2.1) slices_Equal_string_string_pk (slices_Equal_string_string_LP N) x y = slices_Equal_string_string N x.1 x.2.1 := by kernel_rfl
theorem slices_Equal_string_string_sound (N : Nat) : Sound Tryd.prog GW B0G 21 (slices_Equal_string_string_sg fun x _ => slices_Equal_string_string N x.1 x.2.1) :=
  runD_sound (mkE_ok slices_Equal_string_string_h (slices_Equal_string_string_fn N) _ _ (slices_Equal_string_string_fn_ok N)) Tryd.func21 rfl Tryd.call21 (slices_Equal_string_string_sg fun x _ => slices_Equal_string_string N x.1 x.2.1) slices_Equal_string_string_pk (fun _ _ => rfl) N (fun x y _ h => ((runL_eq (slices_Equal_string_string_E N) N Tryd.f21 (slices_Equal_string_string_sg fun x _ => slices_Equal_string_string N x.1 x.2.1) slices_Equal_string_string_pk (slices_Equal_string_string_LP N) (show LoopsOk (slices_Equal_string_string_LP N) (slices_Equal_string_string_E N) N (resD (slices_Equal_string_string_E N) Tryd.f21 (slices_Equal_string_string_sg fun x _ => slices_Equal_string_string N x.1 x.2.1) slices_Equal_string_string_pk) [(0, (cAt (bodyOf Tryd.f21) [true, true, false, true, false, false]))] from ⟨slices_Equal_string_string_lp0 N, trivial⟩) x y).trans (slices_Equal_string_string_core N x y)).trans h)
def blob_byPath_L0T (_N : Nat) (x0 : List (Str × Bool × List UInt8)) (c8 : Int) (k0 : (List (Str × (Str × Bool × List UInt8))) → Option (List (Str × (Str × Bool × List UInt8)))) (self : Int → (List (Str × (Str × Bool × List UInt8))) → Option (List (Str × (Str × Bool × List UInt8)))) (s9 : Int) (m1006 : List (Str × (Str × Bool × List UInt8))) : Option (List (Str × (Str × Bool × List UInt8))) :=
  br (decide (s9 < c8))
    (bnd (geti x0 s9) fun t11 =>
    self (IntKind.i64.wrap (s9 + (1 : Int))) (mset m1006 t11.1 t11))
    (k0 m1006)
def blob_byPath_L0 (N : Nat) (x0 : List (Str × Bool × List UInt8)) (c8 : Int) (k0 : (List (Str × (Str × Bool × List UInt8))) → Option (List (Str × (Str × Bool × List UInt8)))) : Nat → Int → (List (Str × (Str × Bool × List UInt8))) → Option (List (Str × (Str × Bool × List UInt8)))
  | 0, _, _ => none
  | n + 1, s9, m1006 => blob_byPath_L0T N x0 c8 k0 (blob_byPath_L0 N x0 c8 k0 n) s9 m1006
def blob_byPath (N : Nat) (x0 : List (Str × Bool × List UInt8)) : Option (List (Str × (Str × Bool × List UInt8))) :=
  blob_byPath_L0 N x0 (x0.length : Int) (fun o0_m1006 =>
      some o0_m1006) N (0 : Int) ([] : List (Str × (Str × Bool × List UInt8)))
abbrev blob_byPath_sg (f : SV [.v (.sl (.pr .str (.pr .bool (.sl .u8))))] → BV [] → Option (List (Str × (Str × Bool × List UInt8)))) : AF := { ps := [.v (.sl (.pr .str (.pr .bool (.sl .u8))))], bs := [], rs := [.mref 0], cs := [.map (.pr .str (.pr .bool (.sl .u8)))], R := List (Str × (Str × Bool × List UInt8)), out := fun z => (((), ()), (z, ())), f := f }
abbrev blob_byPath_pk : SV [.mref 0] → BV [.map (.pr .str (.pr .bool (.sl .u8)))] → (List (Str × (Str × Bool × List UInt8))) := fun _ y => y.1
def blob_byPath_fn (_N : Nat) : FuncId → Option Tmp → Option AF := fun f _ =>
  match f with
    | _ => none
theorem blob_byPath_fn_ok (N : Nat) : ∀ f q F, blob_byPath_fn N f q = some F → Sound Tryd.prog GW B0G f F := by
  intro f q F h
  unfold blob_byPath_fn at h
  split at h
  · cases h
def blob_byPath_h : Nat → Hint := fun i =>
  match i with
  | 0 => ⟨[], [3, 7, 8, 9], [1006], [3], [1006], []⟩
  | _ => ⟨[], [], [], [], [], []⟩
abbrev blob_byPath_E (N : Nat) : Env := mkE blob_byPath_h (blob_byPath_fn N) (fun _ => false) (fun _ => false)
abbrev blob_byPath_L0_fs : List (Nat × Sl) := [(3, .mref 1006), (7, .v (.sl (.pr .str (.pr .bool (.sl .u8))))), (8, .v (.int .i64)), (9, .v (.int .i64))]
abbrev blob_byPath_L0_bs : List (Nat × Sb) := [(1006, .map (.pr .str (.pr .bool (.sl .u8))))]
def blob_byPath_L0_hd (x0 : List (Str × Bool × List UInt8)) (c8 : Int) (s9 : Int) (m1006 : List (Str × (Str × Bool × List UInt8))) : St := ⟨19, [(3, .mref 1006), (7, .v (.sl (.pr .str (.pr .bool (.sl .u8)))) x0), (8, .v (.int .i64) c8), (9, .v (.int .i64) s9)], [(1006, .map (.pr .str (.pr .bool (.sl .u8))) m1006)]⟩
def blob_byPath_L0_tl0 (_x0 : List (Str × Bool × List UInt8)) (_c8 : Int) (o0_m1006 : List (Str × (Str × Bool × List UInt8))) : St := ⟨19, [(3, .mref 1006)], [(1006, .map (.pr .str (.pr .bool (.sl .u8))) o0_m1006)]⟩
def blob_byPath_L0_G (N : Nat) (x0 : List (Str × Bool × List UInt8)) (c8 : Int) (s9 : Int) (m1006 : List (Str × (Str × Bool × List UInt8))) (k : Ex → St → Option (List (Str × (Str × Bool × List UInt8)))) : Option (List (Str × (Str × Bool × List UInt8))) :=
  blob_byPath_L0 N x0 c8 (fun o0_m1006 => k (.exit 0) (blob_byPath_L0_tl0 x0 c8 o0_m1006)) N s9 m1006
abbrev blob_byPath_L0_F (N : Nat) : FV blob_byPath_L0_fs → HV blob_byPath_L0_bs → (Ex → St → Option (List (Str × (Str × Bool × List UInt8)))) → Option (List (Str × (Str × Bool × List UInt8))) := fun x y k => blob_byPath_L0_G N x.2.1 x.2.2.1 x.2.2.2.1 y.1 k
noncomputable def blob_byPath_LP (N : Nat) : Nat → Code → St → (Ex → St → Option (List (Str × (Str × Bool × List UInt8)))) → Option (List (Str × (Str × Bool × List UInt8))) := fun i c =>
  match i with
  | 0 => (LPc 19 blob_byPath_L0_fs blob_byPath_L0_bs (blob_byPath_L0_F N) (fun st k => iter (blob_byPath_h 0) (exec (blob_byPath_E N) N c 0) N st k))
  | i => fun st k => iter (blob_byPath_h i) (exec (blob_byPath_E N) N c i) N st k
theorem blob_byPath_L0_step (N : Nat) (x0 : List (Str × Bool × List UInt8)) (c8 : Int) (KX : Nat → St → Option (List (Str × (Str × Bool × List UInt8)))) (I : St → Option (List (Str × (Str × Bool × List UInt8)))) (s9 : Int) (m1006 : List (Str × (Str × Bool × List UInt8))) :
    execL (blob_byPath_LP N) (blob_byPath_E N) (cAt (bodyOf Tryd.f52) [true, true, false, true, false, false]) 0 (blob_byPath_L0_hd x0 c8 s9 m1006) (roundK (blob_byPath_h 0) I KX (resD (blob_byPath_E N) Tryd.f52 (blob_byPath_sg fun x _ => blob_byPath N x.1) blob_byPath_pk)) = blob_byPath_L0T N x0 c8 (fun o0_m1006 => KX 0 (blob_byPath_L0_tl0 x0 c8 o0_m1006)) (fun s9 m1006 => I (blob_byPath_L0_hd x0 c8 s9 m1006)) s9 m1006 := by kernel_rfl
theorem blob_byPath_L0_ok (N : Nat) : ∀ x y k, (∀ st, k .ret st = (resD (blob_byPath_E N) Tryd.f52 (blob_byPath_sg fun x _ => blob_byPath N x.1) blob_byPath_pk) st) → iter (blob_byPath_h 0) (exec (blob_byPath_E N) N (cAt (bodyOf Tryd.f52) [true, true, false, true, false, false]) 0) N ⟨19, unF blob_byPath_L0_fs x, unH blob_byPath_L0_bs y⟩ k = blob_byPath_L0_F N x y k := fun x y k hk =>
  iter_link (S := (Int) × (List (Str × (Str × Bool × List UInt8))) × Unit) (blob_byPath_h 0) _ (execL (blob_byPath_LP N) (blob_byPath_E N) (cAt (bodyOf Tryd.f52) [true, true, false, true, false, false]) 0) (resD (blob_byPath_E N) Tryd.f52 (blob_byPath_sg fun x _ => blob_byPath N x.1) blob_byPath_pk) (fun st k hk => execL_eq _ _ N _ (cAt (bodyOf Tryd.f52) [true, true, false, true, false, false]) 0 (show LoopsOk (blob_byPath_LP N) (blob_byPath_E N) N (resD (blob_byPath_E N) Tryd.f52 (blob_byPath_sg fun x _ => blob_byPath N x.1) blob_byPath_pk) [] from trivial) st k hk) (fun s => blob_byPath_L0_hd x.2.1 x.2.2.1 s.1 s.2.1) k hk
    (fun self s => blob_byPath_L0T N x.2.1 x.2.2.1 (fun o0_m1006 => k (.exit 0) (blob_byPath_L0_tl0 x.2.1 x.2.2.1 o0_m1006)) (fun s9 m1006 => self (s9, m1006, ())) s.1 s.2.1) (fun n s => blob_byPath_L0 N x.2.1 x.2.2.1 (fun o0_m1006 => k (.exit 0) (blob_byPath_L0_tl0 x.2.1 x.2.2.1 o0_m1006)) n s.1 s.2.1) (fun _ => rfl) (fun _ _ => rfl)
    (fun I s => blob_byPath_L0_step N x.2.1 x.2.2.1 (fun j => k (.exit j)) I s.1 s.2.1) N (x.2.2.2.1, y.1, ())
theorem blob_byPath_lp0 (N : Nat) : ∀ st k, (∀ st, k .ret st = (resD (blob_byPath_E N) Tryd.f52 (blob_byPath_sg fun x _ => blob_byPath N x.1) blob_byPath_pk) st) → blob_byPath_LP N 0 (cAt (bodyOf Tryd.f52) [true, true, false, true, false, false]) st k = iter (Env.hint (blob_byPath_E N) 0) (exec (blob_byPath_E N) N (cAt (bodyOf Tryd.f52) [true, true, false, true, false, false]) 0) N st k := fun st k hk => LPc_eq 19 blob_byPath_L0_fs blob_byPath_L0_bs _ _ (resD (blob_byPath_E N) Tryd.f52 (blob_byPath_sg fun x _ => blob_byPath N x.1) blob_byPath_pk) (blob_byPath_L0_ok N) _ st k hk (rfl)
theorem blob_byPath_core (N : Nat) (x : SV [.v (.sl (.pr .str (.pr .bool (.sl .u8))))]) (y : BV []) : runL (blob_byPath_E N) Tryd.f52 (blob_byPath_sg fun x _ => blob_byPath N x.1) blob_byPath_pk (blob_byPath_LP N) x y = blob_byPath N x.1 := by kernel_rfl
theorem blob_byPath_sound (N : Nat) : Sound Tryd.prog GW B0G 52 (blob_byPath_sg fun x _ => blob_byPath N x.1) :=
  runD_sound (mkE_ok blob_byPath_h (blob_byPath_fn N) _ _ (blob_byPath_fn_ok N)) Tryd.func52 rfl Tryd.call52 (blob_byPath_sg fun x _ => blob_byPath N x.1) blob_byPath_pk (fun _ _ => rfl) N (fun x y _ h => ((runL_eq (blob_byPath_E N) N Tryd.f52 (blob_byPath_sg fun x _ => blob_byPath N x.1) blob_byPath_pk (blob_byPath_LP N) (show LoopsOk (blob_byPath_LP N) (blob_byPath_E N) N (resD (blob_byPath_E N) Tryd.f52 (blob_byPath_sg fun x _ => blob_byPath N x.1) blob_byPath_pk) [(0, (cAt (bodyOf Tryd.f52) [true, true, false, true, false, false]))] from ⟨blob_byPath_lp0 N, trivial⟩) x y).trans (blob_byPath_core N x y)).trans h)
def blob_paths_L1T (_N : Nat) (t13 : List (Str × Bool × List UInt8)) (c16 : Int) (k2 : (List (Str × Bool)) → Option (List Str)) (self : Int → (List (Str × Bool)) → Option (List Str)) (s17 : Int) (m1008_1 : List (Str × Bool)) : Option (List Str) :=
  br (decide (s17 < c16))
    (bnd (geti t13 s17) fun t19 =>
    self (IntKind.i64.wrap (s17 + (1 : Int))) (mset m1008_1 t19.1 true))
    (k2 m1008_1)
def blob_paths_L1 (N : Nat) (t13 : List (Str × Bool × List UInt8)) (c16 : Int) (k2 : (List (Str × Bool)) → Option (List Str)) : Nat → Int → (List (Str × Bool)) → Option (List Str)
  | 0, _, _ => none
  | n + 1, s17, m1008_1 => blob_paths_L1T N t13 c16 k2 (blob_paths_L1 N t13 c16 k2 n) s17 m1008_1
def blob_paths_L0T (N : Nat) (x0 : List (List (Str × Bool × List UInt8))) (c10 : Int) (k0 : (List (Str × Bool)) → Option (List Str)) (self : Int → (List (Str × Bool)) → Option (List Str)) (s11 : Int) (m1008 : List (Str × Bool)) : Option (List Str) :=
  br (decide (s11 < c10))
    (bnd (geti x0 s11) fun t13 =>
    blob_paths_L1 N t13 (t13.length : Int) (fun o1_m1008 =>
        self (IntKind.i64.wrap (s11 + (1 : Int))) o1_m1008) N (0 : Int) m1008)
    (k0 m1008)
def blob_paths_L0 (N : Nat) (x0 : List (List (Str × Bool × List UInt8))) (c10 : Int) (k0 : (List (Str × Bool)) → Option (List Str)) : Nat → Int → (List (Str × Bool)) → Option (List Str)
  | 0, _, _ => none
  | n + 1, s11, m1008 => blob_paths_L0T N x0 c10 k0 (blob_paths_L0 N x0 c10 k0 n) s11 m1008
def blob_paths (N : Nat) (x0 : List (List (Str × Bool × List UInt8))) : Option (List Str) :=
  blob_paths_L0 N x0 (x0.length : Int) (fun o0_m1008 =>
      bnd (maps_Keys_bool o0_m1008) fun t27 =>
      bnd (slices_Sorted_keys t27) fun t28 =>
      some t28.2) N (0 : Int) ([] : List (Str × Bool))
abbrev blob_paths_sg (f : SV [.v (.sl (.sl (.pr .str (.pr .bool (.sl .u8)))))] → BV [] → Option (List Str)) : AF := { ps := [.v (.sl (.sl (.pr .str (.pr .bool (.sl .u8)))))], bs := [], rs := [.row 0], cs := [.row 9 .str false], R := List Str, out := fun z => (((), ()), (z, ())), f := f }
abbrev blob_paths_pk : SV [.row 0] → BV [.row 9 .str false] → (List Str) := fun _ y => y.1
def blob_paths_fn (_N : Nat) : FuncId → Option Tmp → Option AF := fun f _ =>
  match f with
    | 71 => some (slices_Sorted_keys_sg fun _ y => slices_Sorted_keys y.2.1)
    | 72 => some (maps_Keys_bool_sg fun _ y => maps_Keys_bool y.1)
    | _ => none
theorem blob_paths_fn_ok (N : Nat) : ∀ f q F, blob_paths_fn N f q = some F → Sound Tryd.prog GW B0G f F := by
  intro f q F h
  unfold blob_paths_fn at h
  split at h
  · cases h; exact slices_Sorted_keys_sound
  · cases h; exact maps_Keys_bool_sound
  · cases h
def blob_paths_h : Nat → Hint := fun i =>
  match i with
  | 0 => ⟨[], [3, 9, 10, 11], [1008], [3], [1008], []⟩
  | 2 => ⟨[], [3, 9, 10, 11, 15, 16, 17], [1008], [3, 9, 10, 11], [1008], []⟩
  | _ => ⟨[], [], [], [], [], []⟩
abbrev blob_paths_E (N : Nat) : Env := mkE blob_paths_h (blob_paths_fn N) (fun _ => false) (fun _ => false)
abbrev blob_paths_L1_fs : List (Nat × Sl) := [(3, .mref 1008), (9, .v (.sl (.sl (.pr .str (.pr .bool (.sl .u8)))))), (10, .v (.int .i64)), (11, .v (.int .i64)), (15, .v (.sl (.pr .str (.pr .bool (.sl .u8))))), (16, .v (.int .i64)), (17, .v (.int .i64))]
abbrev blob_paths_L1_bs : List (Nat × Sb) := [(1008, .map .bool)]
def blob_paths_L1_hd (x0 : List (List (Str × Bool × List UInt8))) (c10 : Int) (s11 : Int) (t13 : List (Str × Bool × List UInt8)) (c16 : Int) (s17 : Int) (m1008_1 : List (Str × Bool)) : St := ⟨29, [(3, .mref 1008), (9, .v (.sl (.sl (.pr .str (.pr .bool (.sl .u8))))) x0), (10, .v (.int .i64) c10), (11, .v (.int .i64) s11), (15, .v (.sl (.pr .str (.pr .bool (.sl .u8)))) t13), (16, .v (.int .i64) c16), (17, .v (.int .i64) s17)], [(1008, .map .bool m1008_1)]⟩
def blob_paths_L1_tl2 (x0 : List (List (Str × Bool × List UInt8))) (c10 : Int) (s11 : Int) (_t13 : List (Str × Bool × List UInt8)) (_c16 : Int) (o1_m1008 : List (Str × Bool)) : St := ⟨29, [(3, .mref 1008), (9, .v (.sl (.sl (.pr .str (.pr .bool (.sl .u8))))) x0), (10, .v (.int .i64) c10), (11, .v (.int .i64) s11)], [(1008, .map .bool o1_m1008)]⟩
def blob_paths_L1_G (N : Nat) (x0 : List (List (Str × Bool × List UInt8))) (c10 : Int) (s11 : Int) (t13 : List (Str × Bool × List UInt8)) (c16 : Int) (s17 : Int) (m1008_1 : List (Str × Bool)) (k : Ex → St → Option (List Str)) : Option (List Str) :=
  blob_paths_L1 N t13 c16 (fun o1_m1008 => k (.exit 2) (blob_paths_L1_tl2 x0 c10 s11 t13 c16 o1_m1008)) N s17 m1008_1
abbrev blob_paths_L1_F (N : Nat) : FV blob_paths_L1_fs → HV blob_paths_L1_bs → (Ex → St → Option (List Str)) → Option (List Str) := fun x y k => blob_paths_L1_G N x.2.1 x.2.2.1 x.2.2.2.1 x.2.2.2.2.1 x.2.2.2.2.2.1 x.2.2.2.2.2.2.1 y.1 k
abbrev blob_paths_L0_fs : List (Nat × Sl) := [(3, .mref 1008), (9, .v (.sl (.sl (.pr .str (.pr .bool (.sl .u8)))))), (10, .v (.int .i64)), (11, .v (.int .i64))]
abbrev blob_paths_L0_bs : List (Nat × Sb) := [(1008, .map .bool)]
def blob_paths_L0_hd (x0 : List (List (Str × Bool × List UInt8))) (c10 : Int) (s11 : Int) (m1008 : List (Str × Bool)) : St := ⟨29, [(3, .mref 1008), (9, .v (.sl (.sl (.pr .str (.pr .bool (.sl .u8))))) x0), (10, .v (.int .i64) c10), (11, .v (.int .i64) s11)], [(1008, .map .bool m1008)]⟩
def blob_paths_L0_tl0 (_x0 : List (List (Str × Bool × List UInt8))) (_c10 : Int) (o0_m1008 : List (Str × Bool)) : St := ⟨29, [(3, .mref 1008)], [(1008, .map .bool o0_m1008)]⟩
def blob_paths_L0_G (N : Nat) (x0 : List (List (Str × Bool × List UInt8))) (c10 : Int) (s11 : Int) (m1008 : List (Str × Bool)) (k : Ex → St → Option (List Str)) : Option (List Str) :=
  blob_paths_L0 N x0 c10 (fun o0_m1008 => k (.exit 0) (blob_paths_L0_tl0 x0 c10 o0_m1008)) N s11 m1008
abbrev blob_paths_L0_F (N : Nat) : FV blob_paths_L0_fs → HV blob_paths_L0_bs → (Ex → St → Option (List Str)) → Option (List Str) := fun x y k => blob_paths_L0_G N x.2.1 x.2.2.1 x.2.2.2.1 y.1 k
noncomputable def blob_paths_LP (N : Nat) : Nat → Code → St → (Ex → St → Option (List Str)) → Option (List Str) := fun i c =>
  match i with
  | 0 => (LPc 29 blob_paths_L0_fs blob_paths_L0_bs (blob_paths_L0_F N) (fun st k => iter (blob_paths_h 0) (exec (blob_paths_E N) N c 0) N st k))
  | 2 => (LPc 29 blob_paths_L1_fs blob_paths_L1_bs (blob_paths_L1_F N) (fun st k => iter (blob_paths_h 2) (exec (blob_paths_E N) N c 2) N st k))
  | i => fun st k => iter (blob_paths_h i) (exec (blob_paths_E N) N c i) N st k
theorem blob_paths_L1_step (N : Nat) (x0 : List (List (Str × Bool × List UInt8))) (c10 : Int) (s11 : Int) (t13 : List (Str × Bool × List UInt8)) (c16 : Int) (KX : Nat → St → Option (List Str)) (I : St → Option (List Str)) (s17 : Int) (m1008_1 : List (Str × Bool)) :
    execL (blob_paths_LP N) (blob_paths_E N) (cAt (bodyOf Tryd.f53) [true, true, false, true, false, false, true, true, false, false, true, true, false, false]) 2 (blob_paths_L1_hd x0 c10 s11 t13 c16 s17 m1008_1) (roundK (blob_paths_h 2) I KX (resD (blob_paths_E N) Tryd.f53 (blob_paths_sg fun x _ => blob_paths N x.1) blob_paths_pk)) = blob_paths_L1T N t13 c16 (fun o1_m1008 => KX 2 (blob_paths_L1_tl2 x0 c10 s11 t13 c16 o1_m1008)) (fun s17 m1008_1 => I (blob_paths_L1_hd x0 c10 s11 t13 c16 s17 m1008_1)) s17 m1008_1 := by kernel_rfl
theorem blob_paths_L1_ok (N : Nat) : ∀ x y k, (∀ st, k .ret st = (resD (blob_paths_E N) Tryd.f53 (blob_paths_sg fun x _ => blob_paths N x.1) blob_paths_pk) st) → iter (blob_paths_h 2) (exec (blob_paths_E N) N (cAt (bodyOf Tryd.f53) [true, true, false, true, false, false, true, true, false, false, true, true, false, false]) 2) N ⟨29, unF blob_paths_L1_fs x, unH blob_paths_L1_bs y⟩ k = blob_paths_L1_F N x y k := fun x y k hk =>
  iter_link (S := (Int) × (List (Str × Bool)) × Unit) (blob_paths_h 2) _ (execL (blob_paths_LP N) (blob_paths_E N) (cAt (bodyOf Tryd.f53) [true, true, false, true, false, false, true, true, false, false, true, true, false, false]) 2) (resD (blob_paths_E N) Tryd.f53 (blob_paths_sg fun x _ => blob_paths N x.1) blob_paths_pk) (fun st k hk => execL_eq _ _ N _ (cAt (bodyOf Tryd.f53) [true, true, false, true, false, false, true, true, false, false, true, true, false, false]) 2 (show LoopsOk (blob_paths_LP N) (blob_paths_E N) N (resD (blob_paths_E N) Tryd.f53 (blob_paths_sg fun x _ => blob_paths N x.1) blob_paths_pk) [] from trivial) st k hk) (fun s => blob_paths_L1_hd x.2.1 x.2.2.1 x.2.2.2.1 x.2.2.2.2.1 x.2.2.2.2.2.1 s.1 s.2.1) k hk
    (fun self s => blob_paths_L1T N x.2.2.2.2.1 x.2.2.2.2.2.1 (fun o1_m1008 => k (.exit 2) (blob_paths_L1_tl2 x.2.1 x.2.2.1 x.2.2.2.1 x.2.2.2.2.1 x.2.2.2.2.2.1 o1_m1008)) (fun s17 m1008_1 => self (s17, m1008_1, ())) s.1 s.2.1) (fun n s => blob_paths_L1 N x.2.2.2.2.1 x.2.2.2.2.2.1 (fun o1_m1008 => k (.exit 2) (blob_paths_L1_tl2 x.2.1 x.2.2.1 x.2.2.2.1 x.2.2.2.2.1 x.2.2.2.2.2.1 o1_m1008)) n s.1 s.2.1) (fun _ => rfl) (fun _ _ => rfl)
    (fun I s => blob_paths_L1_step N x.2.1 x.2.2.1 x.2.2.2.1 x.2.2.2.2.1 x.2.2.2.2.2.1 (fun j => k (.exit j)) I s.1 s.2.1) N (x.2.2.2.2.2.2.1, y.1, ())
theorem blob_paths_lp2 (N : Nat) : ∀ st k, (∀ st, k .ret st = (resD (blob_paths_E N) Tryd.f53 (blob_paths_sg fun x _ => blob_paths N x.1) blob_paths_pk) st) → blob_paths_LP N 2 (cAt (bodyOf Tryd.f53) [true, true, false, true, false, false, true, true, false, false, true, true, false, false]) st k = iter (Env.hint (blob_paths_E N) 2) (exec (blob_paths_E N) N (cAt (bodyOf Tryd.f53) [true, true, false, true, false, false, true, true, false, false, true, true, false, false]) 2) N st k := fun st k hk => LPc_eq 29 blob_paths_L1_fs blob_paths_L1_bs _ _ (resD (blob_paths_E N) Tryd.f53 (blob_paths_sg fun x _ => blob_paths N x.1) blob_paths_pk) (blob_paths_L1_ok N) _ st k hk (rfl)
theorem blob_paths_L0_step (N : Nat) (x0 : List (List (Str × Bool × List UInt8))) (c10 : Int) (KX : Nat → St → Option (List Str)) (I : St → Option (List Str)) (s11 : Int) (m1008 : List (Str × Bool)) :
    execL (blob_paths_LP N) (blob_paths_E N) (cAt (bodyOf Tryd.f53) [true, true, false, true, false, false]) 0 (blob_paths_L0_hd x0 c10 s11 m1008) (roundK (blob_paths_h 0) I KX (resD (blob_paths_E N) Tryd.f53 (blob_paths_sg fun x _ => blob_paths N x.1) blob_paths_pk)) = blob_paths_L0T N x0 c10 (fun o0_m1008 => KX 0 (blob_paths_L0_tl0 x0 c10 o0_m1008)) (fun s11 m1008 => I (blob_paths_L0_hd x0 c10 s11 m1008)) s11 m1008 := by kernel_rfl
theorem blob_paths_L0_ok (N : Nat) : ∀ x y k, (∀ st, k .ret st = (resD (blob_paths_E N) Tryd.f53 (blob_paths_sg fun x _ => blob_paths N x.1) blob_paths_pk) st) → iter (blob_paths_h 0) (exec (blob_paths_E N) N (cAt (bodyOf Tryd.f53) [true, true, false, true, false, false]) 0) N ⟨29, unF blob_paths_L0_fs x, unH blob_paths_L0_bs y⟩ k = blob_paths_L0_F N x y k := fun x y k hk =>
  iter_link (S := (Int) × (List (Str × Bool)) × Unit) (blob_paths_h 0) _ (execL (blob_paths_LP N) (blob_paths_E N) (cAt (bodyOf Tryd.f53) [true, true, false, true, false, false]) 0) (resD (blob_paths_E N) Tryd.f53 (blob_paths_sg fun x _ => blob_paths N x.1) blob_paths_pk) (fun st k hk => execL_eq _ _ N _ (cAt (bodyOf Tryd.f53) [true, true, false, true, false, false]) 0 (show LoopsOk (blob_paths_LP N) (blob_paths_E N) N (resD (blob_paths_E N) Tryd.f53 (blob_paths_sg fun x _ => blob_paths N x.1) blob_paths_pk) [(2, (cAt (bodyOf Tryd.f53) [true, true, false, true, false, false, true, true, false, false, true, true, false, false]))] from ⟨blob_paths_lp2 N, trivial⟩) st k hk) (fun s => blob_paths_L0_hd x.2.1 x.2.2.1 s.1 s.2.1) k hk
    (fun self s => blob_paths_L0T N x.2.1 x.2.2.1 (fun o0_m1008 => k (.exit 0) (blob_paths_L0_tl0 x.2.1 x.2.2.1 o0_m1008)) (fun s11 m1008 => self (s11, m1008, ())) s.1 s.2.1) (fun n s => blob_paths_L0 N x.2.1 x.2.2.1 (fun o0_m1008 => k (.exit 0) (blob_paths_L0_tl0 x.2.1 x.2.2.1 o0_m1008)) n s.1 s.2.1) (fun _ => rfl) (fun _ _ => rfl)
    (fun I s => blob_paths_L0_step N x.2.1 x.2.2.1 (fun j => k (.exit j)) I s.1 s.2.1) N (x.2.2.2.1, y.1, ())
theorem blob_paths_lp0 (N : Nat) : ∀ st k, (∀ st, k .ret st = (resD (blob_paths_E N) Tryd.f53 (blob_paths_sg fun x _ => blob_paths N x.1) blob_paths_pk) st) → blob_paths_LP N 0 (cAt (bodyOf Tryd.f53) [true, true, false, true, false, false]) st k = iter (Env.hint (blob_paths_E N) 0) (exec (blob_paths_E N) N (cAt (bodyOf Tryd.f53) [true, true, false, true, false, false]) 0) N st k := fun st k hk => LPc_eq 29 blob_paths_L0_fs blob_paths_L0_bs _ _ (resD (blob_paths_E N) Tryd.f53 (blob_paths_sg fun x _ => blob_paths N x.1) blob_paths_pk) (blob_paths_L0_ok N) _ st k hk (rfl)
theorem blob_paths_core (N : Nat) (x : SV [.v (.sl (.sl (.pr .str (.pr .bool (.sl .u8)))))]) (y : BV []) : runL (blob_paths_E N) Tryd.f53 (blob_paths_sg fun x _ => blob_paths N x.1) blob_paths_pk (blob_paths_LP N) x y = blob_paths N x.1 := by kernel_rfl
theorem blob_paths_sound (N : Nat) : Sound Tryd.prog GW B0G 53 (blob_paths_sg fun x _ => blob_paths N x.1) :=
  runD_sound (mkE_ok blob_paths_h (blob_paths_fn N) _ _ (blob_paths_fn_ok N)) Tryd.func53 rfl Tryd.call53 (blob_paths_sg fun x _ => blob_paths N x.1) blob_paths_pk (fun _ _ => rfl) N (fun x y _ h => ((runL_eq (blob_paths_E N) N Tryd.f53 (blob_paths_sg fun x _ => blob_paths N x.1) blob_paths_pk (blob_paths_LP N) (show LoopsOk (blob_paths_LP N) (blob_paths_E N) N (resD (blob_paths_E N) Tryd.f53 (blob_paths_sg fun x _ => blob_paths N x.1) blob_paths_pk) [(0, (cAt (bodyOf Tryd.f53) [true, true, false, true, false, false])), (2, (cAt (bodyOf Tryd.f53) [true, true, false, true, false, false, true, true, false, false, true, true, false, false]))] from ⟨blob_paths_lp0 N, blob_paths_lp2 N, trivial⟩) x y).trans (blob_paths_core N x y)).trans h)
end
end Go.Proofs.YthlkidohpiebiaaDoor

