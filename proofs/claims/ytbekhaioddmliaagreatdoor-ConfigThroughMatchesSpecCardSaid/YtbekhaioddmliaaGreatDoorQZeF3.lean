/- What functions of the program compute, as plain functions (printed). -/
import Derived.Test.YtbekhaioddmliaaGreatDoorQZeF1
namespace Go.Proofs.YtbekhaioddmliaaGreatDoor
open Go Go.RowKit
set_option maxRecDepth 100000
set_option linter.unusedVariables false
noncomputable section
def ref3_CheckSettings_L1T (N : Nat) (c33 : List Str) (c34 : Int) (c1004_1 : List Str) (k3 : Option Int) (self : Int → Option Int) (s35 : Int) : Option Int :=
  br (decide (s35 < c34))
    (bnd (geti c33 s35) fun t38 =>
    bnd (ref3_IsWord N t38) fun t41 =>
    br (!t41)
      (some (5 : Int))
      (bnd (slc c1004_1 (0 : Int) s35) fun t46 =>
      bnd (slices_Contains_string_string N t46 t38) fun t48 =>
      br (t48)
        (some (7 : Int))
        (self (IntKind.i64.wrap (s35 + (1 : Int))))))
    (k3)
def ref3_CheckSettings_L1 (N : Nat) (c33 : List Str) (c34 : Int) (c1004_1 : List Str) (k3 : Option Int) : Nat → Int → Option Int
  | 0, _ => none
  | n + 1, s35 => ref3_CheckSettings_L1T N c33 c34 c1004_1 k3 (ref3_CheckSettings_L1 N c33 c34 c1004_1 k3 n) s35
def ref3_CheckSettings_L0T (N : Nat) (x0 : List (Str × List Str)) (c10 : List (Str × List Str)) (c11 : Int) (k0 : Option Int) (self : Int → Option Int) (s12 : Int) : Option Int :=
  br (decide (s12 < c11))
    (bnd (geti c10 s12) fun t15 =>
    bnd (ref3_IsWord N t15.1) fun t20 =>
    br (!t20)
      (some (5 : Int))
      (br ((t15.2.length : Int) == (0 : Int))
        (some (9 : Int))
        (br (decide ((t15.2.length : Int) > (20 : Int)))
          (some (2 : Int))
          (ref3_CheckSettings_L1 N t15.2 (t15.2.length : Int) t15.2 (br (decide (s12 > (0 : Int)))
                (bnd (geti x0 (IntKind.i64.wrap (s12 - (1 : Int)))) fun t58 =>
                br (Op.bytesLess t15.1 t58.1 || t15.1 == t58.1)
                  (some (8 : Int))
                  (self (IntKind.i64.wrap (s12 + (1 : Int)))))
                (self (IntKind.i64.wrap (s12 + (1 : Int))))) N (0 : Int)))))
    (k0)
def ref3_CheckSettings_L0 (N : Nat) (x0 : List (Str × List Str)) (c10 : List (Str × List Str)) (c11 : Int) (k0 : Option Int) : Nat → Int → Option Int
  | 0, _ => none
  | n + 1, s12 => ref3_CheckSettings_L0T N x0 c10 c11 k0 (ref3_CheckSettings_L0 N x0 c10 c11 k0 n) s12
def ref3_CheckSettings (N : Nat) (x0 : List (Str × List Str)) : Option Int :=
  br (decide ((x0.length : Int) > (30 : Int)))
    (some (2 : Int))
    (ref3_CheckSettings_L0 N x0 x0 (x0.length : Int) (some (0 : Int)) N (0 : Int))
abbrev ref3_CheckSettings_sg (f : SV [.v (.sl (.pr .str (.sl .str)))] → BV [] → Option (Int)) : AF := { ps := [.v (.sl (.pr .str (.sl .str)))], bs := [], rs := [.v (.int .i64)], cs := [], R := Int, out := fun z => ((z, ()), ()), f := f }
abbrev ref3_CheckSettings_pk : SV [.v (.int .i64)] → BV [] → Int := fun x _ => x.1
def ref3_CheckSettings_fn (N : Nat) : FuncId → Option Tmp → Option AF := fun f _ =>
  match f with
    | 50 => some (ref3_IsWord_sg fun x _ => ref3_IsWord N x.1)
    | 56 => some (slices_Contains_string_string_sg fun x _ => slices_Contains_string_string N x.1 x.2.1)
    | _ => none
theorem ref3_CheckSettings_fn_ok (N : Nat) : ∀ f q F, ref3_CheckSettings_fn N f q = some F → Sound Tryz.prog GW B0G f F := by
  intro f q F h
  unfold ref3_CheckSettings_fn at h
  split at h
  · cases h; exact ref3_IsWord_sound N
  · cases h; exact slices_Contains_string_string_sound N
  · cases h
def ref3_CheckSettings_h : Nat → Hint := fun i =>
  match i with
  | 0 => ⟨[], [0, 10, 11, 12], [], [], [], []⟩
  | 3 => ⟨[], [0, 3, 4, 10, 11, 12, 33, 34, 35], [1004], [0, 3, 4, 10, 11, 12], [1004], []⟩
  | _ => ⟨[], [], [], [], [], []⟩
abbrev ref3_CheckSettings_E (N : Nat) : Env := mkE ref3_CheckSettings_h (ref3_CheckSettings_fn N) (fun _ => false) (fun _ => false)
abbrev ref3_CheckSettings_L1_fs : List (Nat × Sl) := [(0, .v (.sl (.pr .str (.sl .str)))), (3, .v (.int .i64)), (4, .box 1004 0), (10, .v (.sl (.pr .str (.sl .str)))), (11, .v (.int .i64)), (12, .v (.int .i64)), (33, .v (.sl .str)), (34, .v (.int .i64)), (35, .v (.int .i64))]
abbrev ref3_CheckSettings_L1_bs : List (Nat × Sb) := [(1004, .cells [.v .str, .v (.sl .str)])]
def ref3_CheckSettings_L1_hd (x0 : List (Str × List Str)) (s12 : Int) (c10 : List (Str × List Str)) (c11 : Int) (c12 : Int) (c33 : List Str) (c34 : Int) (c1004_0 : Str) (c1004_1 : List Str) (s35 : Int) : St := ⟨64, [(0, .v (.sl (.pr .str (.sl .str))) x0), (3, .v (.int .i64) s12), (4, .box 1004 0), (10, .v (.sl (.pr .str (.sl .str))) c10), (11, .v (.int .i64) c11), (12, .v (.int .i64) c12), (33, .v (.sl .str) c33), (34, .v (.int .i64) c34), (35, .v (.int .i64) s35)], [(1004, .cells [.v .str c1004_0, .v (.sl .str) c1004_1])]⟩
def ref3_CheckSettings_L1_tl3 (x0 : List (Str × List Str)) (s12 : Int) (c10 : List (Str × List Str)) (c11 : Int) (c12 : Int) (_c33 : List Str) (_c34 : Int) (c1004_0 : Str) (c1004_1 : List Str) : St := ⟨64, [(0, .v (.sl (.pr .str (.sl .str))) x0), (3, .v (.int .i64) s12), (4, .box 1004 0), (10, .v (.sl (.pr .str (.sl .str))) c10), (11, .v (.int .i64) c11), (12, .v (.int .i64) c12)], [(1004, .cells [.v .str c1004_0, .v (.sl .str) c1004_1])]⟩
def ref3_CheckSettings_L1_G (N : Nat) (x0 : List (Str × List Str)) (s12 : Int) (c10 : List (Str × List Str)) (c11 : Int) (c12 : Int) (c33 : List Str) (c34 : Int) (c1004_0 : Str) (c1004_1 : List Str) (s35 : Int) (k : Ex → St → Option Int) : Option Int :=
  ref3_CheckSettings_L1 N c33 c34 c1004_1 (k (.exit 3) (ref3_CheckSettings_L1_tl3 x0 s12 c10 c11 c12 c33 c34 c1004_0 c1004_1)) N s35
abbrev ref3_CheckSettings_L1_F (N : Nat) : FV ref3_CheckSettings_L1_fs → HV ref3_CheckSettings_L1_bs → (Ex → St → Option Int) → Option Int := fun x y k => ref3_CheckSettings_L1_G N x.1 x.2.1 x.2.2.2.1 x.2.2.2.2.1 x.2.2.2.2.2.1 x.2.2.2.2.2.2.1 x.2.2.2.2.2.2.2.1 y.1.1 y.1.2.1 x.2.2.2.2.2.2.2.2.1 k
abbrev ref3_CheckSettings_L0_fs : List (Nat × Sl) := [(0, .v (.sl (.pr .str (.sl .str)))), (10, .v (.sl (.pr .str (.sl .str)))), (11, .v (.int .i64)), (12, .v (.int .i64))]
abbrev ref3_CheckSettings_L0_bs : List (Nat × Sb) := []
def ref3_CheckSettings_L0_hd (x0 : List (Str × List Str)) (c10 : List (Str × List Str)) (c11 : Int) (s12 : Int) : St := ⟨64, [(0, .v (.sl (.pr .str (.sl .str))) x0), (10, .v (.sl (.pr .str (.sl .str))) c10), (11, .v (.int .i64) c11), (12, .v (.int .i64) s12)], []⟩
def ref3_CheckSettings_L0_tl0 (_x0 : List (Str × List Str)) (_c10 : List (Str × List Str)) (_c11 : Int) : St := ⟨64, [], []⟩
def ref3_CheckSettings_L0_G (N : Nat) (x0 : List (Str × List Str)) (c10 : List (Str × List Str)) (c11 : Int) (s12 : Int) (k : Ex → St → Option Int) : Option Int :=
  ref3_CheckSettings_L0 N x0 c10 c11 (k (.exit 0) (ref3_CheckSettings_L0_tl0 x0 c10 c11)) N s12
abbrev ref3_CheckSettings_L0_F (N : Nat) : FV ref3_CheckSettings_L0_fs → HV ref3_CheckSettings_L0_bs → (Ex → St → Option Int) → Option Int := fun x _ k => ref3_CheckSettings_L0_G N x.1 x.2.1 x.2.2.1 x.2.2.2.1 k
noncomputable def ref3_CheckSettings_LP (N : Nat) : Nat → Code → St → (Ex → St → Option Int) → Option Int := fun i c =>
  match i with
  | 0 => (LPc 64 ref3_CheckSettings_L0_fs ref3_CheckSettings_L0_bs (ref3_CheckSettings_L0_F N) (fun st k => iter (ref3_CheckSettings_h 0) (exec (ref3_CheckSettings_E N) N c 0) N st k))
  | 3 => (LPc 64 ref3_CheckSettings_L1_fs ref3_CheckSettings_L1_bs (ref3_CheckSettings_L1_F N) (fun st k => iter (ref3_CheckSettings_h 3) (exec (ref3_CheckSettings_E N) N c 3) N st k))
  | i => fun st k => iter (ref3_CheckSettings_h i) (exec (ref3_CheckSettings_E N) N c i) N st k
theorem ref3_CheckSettings_L1_step (N : Nat) (x0 : List (Str × List Str)) (s12 : Int) (c10 : List (Str × List Str)) (c11 : Int) (c12 : Int) (c33 : List Str) (c34 : Int) (c1004_0 : Str) (c1004_1 : List Str) (KX : Nat → St → Option Int) (I : St → Option Int) (s35 : Int) :
    execL (ref3_CheckSettings_LP N) (ref3_CheckSettings_E N) (cAt (bodyOf Tryz.f49) [true, true, false, true, false, false, true, true, false, false, true, true, false, true, false, false]) 3 (ref3_CheckSettings_L1_hd x0 s12 c10 c11 c12 c33 c34 c1004_0 c1004_1 s35) (roundK (ref3_CheckSettings_h 3) I KX (resD (ref3_CheckSettings_E N) Tryz.f49 (ref3_CheckSettings_sg fun x _ => ref3_CheckSettings N x.1) ref3_CheckSettings_pk)) = ref3_CheckSettings_L1T N c33 c34 c1004_1 (KX 3 (ref3_CheckSettings_L1_tl3 x0 s12 c10 c11 c12 c33 c34 c1004_0 c1004_1)) (fun s35 => I (ref3_CheckSettings_L1_hd x0 s12 c10 c11 c12 c33 c34 c1004_0 c1004_1 s35)) s35 := by kernel_rfl
theorem ref3_CheckSettings_L1_ok (N : Nat) : ∀ x y k, (∀ st, k .ret st = (resD (ref3_CheckSettings_E N) Tryz.f49 (ref3_CheckSettings_sg fun x _ => ref3_CheckSettings N x.1) ref3_CheckSettings_pk) st) → iter (ref3_CheckSettings_h 3) (exec (ref3_CheckSettings_E N) N (cAt (bodyOf Tryz.f49) [true, true, false, true, false, false, true, true, false, false, true, true, false, true, false, false]) 3) N ⟨64, unF ref3_CheckSettings_L1_fs x, unH ref3_CheckSettings_L1_bs y⟩ k = ref3_CheckSettings_L1_F N x y k := fun x y k hk =>
  iter_link (S := (Int) × Unit) (ref3_CheckSettings_h 3) _ (execL (ref3_CheckSettings_LP N) (ref3_CheckSettings_E N) (cAt (bodyOf Tryz.f49) [true, true, false, true, false, false, true, true, false, false, true, true, false, true, false, false]) 3) (resD (ref3_CheckSettings_E N) Tryz.f49 (ref3_CheckSettings_sg fun x _ => ref3_CheckSettings N x.1) ref3_CheckSettings_pk) (fun st k hk => execL_eq _ _ N _ (cAt (bodyOf Tryz.f49) [true, true, false, true, false, false, true, true, false, false, true, true, false, true, false, false]) 3 (show LoopsOk (ref3_CheckSettings_LP N) (ref3_CheckSettings_E N) N (resD (ref3_CheckSettings_E N) Tryz.f49 (ref3_CheckSettings_sg fun x _ => ref3_CheckSettings N x.1) ref3_CheckSettings_pk) [] from trivial) st k hk) (fun s => ref3_CheckSettings_L1_hd x.1 x.2.1 x.2.2.2.1 x.2.2.2.2.1 x.2.2.2.2.2.1 x.2.2.2.2.2.2.1 x.2.2.2.2.2.2.2.1 y.1.1 y.1.2.1 s.1) k hk
    (fun self s => ref3_CheckSettings_L1T N x.2.2.2.2.2.2.1 x.2.2.2.2.2.2.2.1 y.1.2.1 (k (.exit 3) (ref3_CheckSettings_L1_tl3 x.1 x.2.1 x.2.2.2.1 x.2.2.2.2.1 x.2.2.2.2.2.1 x.2.2.2.2.2.2.1 x.2.2.2.2.2.2.2.1 y.1.1 y.1.2.1)) (fun s35 => self (s35, ())) s.1) (fun n s => ref3_CheckSettings_L1 N x.2.2.2.2.2.2.1 x.2.2.2.2.2.2.2.1 y.1.2.1 (k (.exit 3) (ref3_CheckSettings_L1_tl3 x.1 x.2.1 x.2.2.2.1 x.2.2.2.2.1 x.2.2.2.2.2.1 x.2.2.2.2.2.2.1 x.2.2.2.2.2.2.2.1 y.1.1 y.1.2.1)) n s.1) (fun _ => rfl) (fun _ _ => rfl)
    (fun I s => ref3_CheckSettings_L1_step N x.1 x.2.1 x.2.2.2.1 x.2.2.2.2.1 x.2.2.2.2.2.1 x.2.2.2.2.2.2.1 x.2.2.2.2.2.2.2.1 y.1.1 y.1.2.1 (fun j => k (.exit j)) I s.1) N (x.2.2.2.2.2.2.2.2.1, ())
theorem ref3_CheckSettings_lp3 (N : Nat) : ∀ st k, (∀ st, k .ret st = (resD (ref3_CheckSettings_E N) Tryz.f49 (ref3_CheckSettings_sg fun x _ => ref3_CheckSettings N x.1) ref3_CheckSettings_pk) st) → ref3_CheckSettings_LP N 3 (cAt (bodyOf Tryz.f49) [true, true, false, true, false, false, true, true, false, false, true, true, false, true, false, false]) st k = iter (Env.hint (ref3_CheckSettings_E N) 3) (exec (ref3_CheckSettings_E N) N (cAt (bodyOf Tryz.f49) [true, true, false, true, false, false, true, true, false, false, true, true, false, true, false, false]) 3) N st k := fun st k hk => LPc_eq 64 ref3_CheckSettings_L1_fs ref3_CheckSettings_L1_bs _ _ (resD (ref3_CheckSettings_E N) Tryz.f49 (ref3_CheckSettings_sg fun x _ => ref3_CheckSettings N x.1) ref3_CheckSettings_pk) (ref3_CheckSettings_L1_ok N) _ st k hk (rfl)
theorem ref3_CheckSettings_L0_step (N : Nat) (x0 : List (Str × List Str)) (c10 : List (Str × List Str)) (c11 : Int) (KX : Nat → St → Option Int) (I : St → Option Int) (s12 : Int) :
    execL (ref3_CheckSettings_LP N) (ref3_CheckSettings_E N) (cAt (bodyOf Tryz.f49) [true, true, false, true, false, false]) 0 (ref3_CheckSettings_L0_hd x0 c10 c11 s12) (roundK (ref3_CheckSettings_h 0) I KX (resD (ref3_CheckSettings_E N) Tryz.f49 (ref3_CheckSettings_sg fun x _ => ref3_CheckSettings N x.1) ref3_CheckSettings_pk)) = ref3_CheckSettings_L0T N x0 c10 c11 (KX 0 (ref3_CheckSettings_L0_tl0 x0 c10 c11)) (fun s12 => I (ref3_CheckSettings_L0_hd x0 c10 c11 s12)) s12 := by kernel_rfl
theorem ref3_CheckSettings_L0_ok (N : Nat) : ∀ x y k, (∀ st, k .ret st = (resD (ref3_CheckSettings_E N) Tryz.f49 (ref3_CheckSettings_sg fun x _ => ref3_CheckSettings N x.1) ref3_CheckSettings_pk) st) → iter (ref3_CheckSettings_h 0) (exec (ref3_CheckSettings_E N) N (cAt (bodyOf Tryz.f49) [true, true, false, true, false, false]) 0) N ⟨64, unF ref3_CheckSettings_L0_fs x, unH ref3_CheckSettings_L0_bs y⟩ k = ref3_CheckSettings_L0_F N x y k := fun x _ k hk =>
  iter_link (S := (Int) × Unit) (ref3_CheckSettings_h 0) _ (execL (ref3_CheckSettings_LP N) (ref3_CheckSettings_E N) (cAt (bodyOf Tryz.f49) [true, true, false, true, false, false]) 0) (resD (ref3_CheckSettings_E N) Tryz.f49 (ref3_CheckSettings_sg fun x _ => ref3_CheckSettings N x.1) ref3_CheckSettings_pk) (fun st k hk => execL_eq _ _ N _ (cAt (bodyOf Tryz.f49) [true, true, false, true, false, false]) 0 (show LoopsOk (ref3_CheckSettings_LP N) (ref3_CheckSettings_E N) N (resD (ref3_CheckSettings_E N) Tryz.f49 (ref3_CheckSettings_sg fun x _ => ref3_CheckSettings N x.1) ref3_CheckSettings_pk) [(3, (cAt (bodyOf Tryz.f49) [true, true, false, true, false, false, true, true, false, false, true, true, false, true, false, false]))] from ⟨ref3_CheckSettings_lp3 N, trivial⟩) st k hk) (fun s => ref3_CheckSettings_L0_hd x.1 x.2.1 x.2.2.1 s.1) k hk
    (fun self s => ref3_CheckSettings_L0T N x.1 x.2.1 x.2.2.1 (k (.exit 0) (ref3_CheckSettings_L0_tl0 x.1 x.2.1 x.2.2.1)) (fun s12 => self (s12, ())) s.1) (fun n s => ref3_CheckSettings_L0 N x.1 x.2.1 x.2.2.1 (k (.exit 0) (ref3_CheckSettings_L0_tl0 x.1 x.2.1 x.2.2.1)) n s.1) (fun _ => rfl) (fun _ _ => rfl)
    (fun I s => ref3_CheckSettings_L0_step N x.1 x.2.1 x.2.2.1 (fun j => k (.exit j)) I s.1) N (x.2.2.2.1, ())
theorem ref3_CheckSettings_lp0 (N : Nat) : ∀ st k, (∀ st, k .ret st = (resD (ref3_CheckSettings_E N) Tryz.f49 (ref3_CheckSettings_sg fun x _ => ref3_CheckSettings N x.1) ref3_CheckSettings_pk) st) → ref3_CheckSettings_LP N 0 (cAt (bodyOf Tryz.f49) [true, true, false, true, false, false]) st k = iter (Env.hint (ref3_CheckSettings_E N) 0) (exec (ref3_CheckSettings_E N) N (cAt (bodyOf Tryz.f49) [true, true, false, true, false, false]) 0) N st k := fun st k hk => LPc_eq 64 ref3_CheckSettings_L0_fs ref3_CheckSettings_L0_bs _ _ (resD (ref3_CheckSettings_E N) Tryz.f49 (ref3_CheckSettings_sg fun x _ => ref3_CheckSettings N x.1) ref3_CheckSettings_pk) (ref3_CheckSettings_L0_ok N) _ st k hk (rfl)
theorem ref3_CheckSettings_core (N : Nat) (x : SV [.v (.sl (.pr .str (.sl .str)))]) (y : BV []) : runL (ref3_CheckSettings_E N) Tryz.f49 (ref3_CheckSettings_sg fun x _ => ref3_CheckSettings N x.1) ref3_CheckSettings_pk (ref3_CheckSettings_LP N) x y = ref3_CheckSettings N x.1 := by kernel_rfl
theorem ref3_CheckSettings_sound (N : Nat) : Sound Tryz.prog GW B0G 49 (ref3_CheckSettings_sg fun x _ => ref3_CheckSettings N x.1) :=
  runD_sound (mkE_ok ref3_CheckSettings_h (ref3_CheckSettings_fn N) _ _ (ref3_CheckSettings_fn_ok N)) Tryz.func49 rfl Tryz.call49 (ref3_CheckSettings_sg fun x _ => ref3_CheckSettings N x.1) ref3_CheckSettings_pk (fun _ _ => rfl) N (fun x y _ h => ((runL_eq (ref3_CheckSettings_E N) N Tryz.f49 (ref3_CheckSettings_sg fun x _ => ref3_CheckSettings N x.1) ref3_CheckSettings_pk (ref3_CheckSettings_LP N) (show LoopsOk (ref3_CheckSettings_LP N) (ref3_CheckSettings_E N) N (resD (ref3_CheckSettings_E N) Tryz.f49 (ref3_CheckSettings_sg fun x _ => ref3_CheckSettings N x.1) ref3_CheckSettings_pk) [(0, (cAt (bodyOf Tryz.f49) [true, true, false, true, false, false])), (3, (cAt (bodyOf Tryz.f49) [true, true, false, true, false, false, true, true, false, false, true, true, false, true, false, false]))] from ⟨ref3_CheckSettings_lp0 N, ref3_CheckSettings_lp3 N, trivial⟩) x y).trans (ref3_CheckSettings_core N x y)).trans h)
def ref3_settingOf_L0T (_N : Nat) (x1 : Str) (x0 : List (Str × List Str)) (c9 : Int) (k0 : Option ((Str × List Str) × Bool)) (self : Int → Option ((Str × List Str) × Bool)) (s10 : Int) : Option ((Str × List Str) × Bool) :=
  br (decide (s10 < c9))
    (bnd (geti x0 s10) fun t12 =>
    br (t12.1 == x1)
      (some (t12, true))
      (self (IntKind.i64.wrap (s10 + (1 : Int)))))
    (k0)
def ref3_settingOf_L0 (N : Nat) (x1 : Str) (x0 : List (Str × List Str)) (c9 : Int) (k0 : Option ((Str × List Str) × Bool)) : Nat → Int → Option ((Str × List Str) × Bool)
  | 0, _ => none
  | n + 1, s10 => ref3_settingOf_L0T N x1 x0 c9 k0 (ref3_settingOf_L0 N x1 x0 c9 k0 n) s10
def ref3_settingOf (N : Nat) (x0 : List (Str × List Str)) (x1 : Str) : Option ((Str × List Str) × Bool) :=
  ref3_settingOf_L0 N x1 x0 (x0.length : Int) (some ((([] : Str), ([] : List Str)), false)) N (0 : Int)
abbrev ref3_settingOf_sg (f : SV [.v (.sl (.pr .str (.sl .str))), .v .str] → BV [] → Option ((Str × List Str) × Bool)) : AF := { ps := [.v (.sl (.pr .str (.sl .str))), .v .str], bs := [], rs := [.v (.pr .str (.sl .str)), .v .bool], cs := [], R := (Str × List Str) × Bool, out := fun z => ((z.1, z.2, ()), ()), f := f }
abbrev ref3_settingOf_pk : SV [.v (.pr .str (.sl .str)), .v .bool] → BV [] → ((Str × List Str) × Bool) := fun x _ => (x.1, x.2.1)
def ref3_settingOf_fn (_N : Nat) : FuncId → Option Tmp → Option AF := fun f _ =>
  match f with
    | _ => none
theorem ref3_settingOf_fn_ok (N : Nat) : ∀ f q F, ref3_settingOf_fn N f q = some F → Sound Tryz.prog GW B0G f F := by
  intro f q F h
  unfold ref3_settingOf_fn at h
  split at h
  · cases h
def ref3_settingOf_h : Nat → Hint := fun i =>
  match i with
  | 0 => ⟨[], [1, 4, 8, 9, 10], [1004], [4], [1004], []⟩
  | _ => ⟨[], [], [], [], [], []⟩
abbrev ref3_settingOf_E (N : Nat) : Env := mkE ref3_settingOf_h (ref3_settingOf_fn N) (fun _ => false) (fun _ => false)
abbrev ref3_settingOf_L0_fs : List (Nat × Sl) := [(1, .v .str), (4, .box 1004 0), (8, .v (.sl (.pr .str (.sl .str)))), (9, .v (.int .i64)), (10, .v (.int .i64))]
abbrev ref3_settingOf_L0_bs : List (Nat × Sb) := [(1004, .cells [.v .str, .nilS])]
def ref3_settingOf_L0_hd (x1 : Str) (x0 : List (Str × List Str)) (c9 : Int) (c1004_0 : Str) (s10 : Int) : St := ⟨21, [(1, .v .str x1), (4, .box 1004 0), (8, .v (.sl (.pr .str (.sl .str))) x0), (9, .v (.int .i64) c9), (10, .v (.int .i64) s10)], [(1004, .cells [.v .str c1004_0, .nilS])]⟩
def ref3_settingOf_L0_tl0 (_x1 : Str) (_x0 : List (Str × List Str)) (_c9 : Int) (c1004_0 : Str) : St := ⟨21, [(4, .box 1004 0)], [(1004, .cells [.v .str c1004_0, .nilS])]⟩
def ref3_settingOf_L0_G (N : Nat) (x1 : Str) (x0 : List (Str × List Str)) (c9 : Int) (c1004_0 : Str) (s10 : Int) (k : Ex → St → Option ((Str × List Str) × Bool)) : Option ((Str × List Str) × Bool) :=
  ref3_settingOf_L0 N x1 x0 c9 (k (.exit 0) (ref3_settingOf_L0_tl0 x1 x0 c9 c1004_0)) N s10
abbrev ref3_settingOf_L0_F (N : Nat) : FV ref3_settingOf_L0_fs → HV ref3_settingOf_L0_bs → (Ex → St → Option ((Str × List Str) × Bool)) → Option ((Str × List Str) × Bool) := fun x y k => ref3_settingOf_L0_G N x.1 x.2.2.1 x.2.2.2.1 y.1.1 x.2.2.2.2.1 k
noncomputable def ref3_settingOf_LP (N : Nat) : Nat → Code → St → (Ex → St → Option ((Str × List Str) × Bool)) → Option ((Str × List Str) × Bool) := fun i c =>
  match i with
  | 0 => (LPc 21 ref3_settingOf_L0_fs ref3_settingOf_L0_bs (ref3_settingOf_L0_F N) (fun st k => iter (ref3_settingOf_h 0) (exec (ref3_settingOf_E N) N c 0) N st k))
  | i => fun st k => iter (ref3_settingOf_h i) (exec (ref3_settingOf_E N) N c i) N st k
theorem ref3_settingOf_L0_step (N : Nat) (x1 : Str) (x0 : List (Str × List Str)) (c9 : Int) (c1004_0 : Str) (KX : Nat → St → Option ((Str × List Str) × Bool)) (I : St → Option ((Str × List Str) × Bool)) (s10 : Int) :
    execL (ref3_settingOf_LP N) (ref3_settingOf_E N) (cAt (bodyOf Tryz.f100) [true, false, true, false, false]) 0 (ref3_settingOf_L0_hd x1 x0 c9 c1004_0 s10) (roundK (ref3_settingOf_h 0) I KX (resD (ref3_settingOf_E N) Tryz.f100 (ref3_settingOf_sg fun x _ => ref3_settingOf N x.1 x.2.1) ref3_settingOf_pk)) = ref3_settingOf_L0T N x1 x0 c9 (KX 0 (ref3_settingOf_L0_tl0 x1 x0 c9 c1004_0)) (fun s10 => I (ref3_settingOf_L0_hd x1 x0 c9 c1004_0 s10)) s10 := by kernel_rfl
theorem ref3_settingOf_L0_ok (N : Nat) : ∀ x y k, (∀ st, k .ret st = (resD (ref3_settingOf_E N) Tryz.f100 (ref3_settingOf_sg fun x _ => ref3_settingOf N x.1 x.2.1) ref3_settingOf_pk) st) → iter (ref3_settingOf_h 0) (exec (ref3_settingOf_E N) N (cAt (bodyOf Tryz.f100) [true, false, true, false, false]) 0) N ⟨21, unF ref3_settingOf_L0_fs x, unH ref3_settingOf_L0_bs y⟩ k = ref3_settingOf_L0_F N x y k := fun x y k hk =>
  iter_link (S := (Int) × Unit) (ref3_settingOf_h 0) _ (execL (ref3_settingOf_LP N) (ref3_settingOf_E N) (cAt (bodyOf Tryz.f100) [true, false, true, false, false]) 0) (resD (ref3_settingOf_E N) Tryz.f100 (ref3_settingOf_sg fun x _ => ref3_settingOf N x.1 x.2.1) ref3_settingOf_pk) (fun st k hk => execL_eq _ _ N _ (cAt (bodyOf Tryz.f100) [true, false, true, false, false]) 0 (show LoopsOk (ref3_settingOf_LP N) (ref3_settingOf_E N) N (resD (ref3_settingOf_E N) Tryz.f100 (ref3_settingOf_sg fun x _ => ref3_settingOf N x.1 x.2.1) ref3_settingOf_pk) [] from trivial) st k hk) (fun s => ref3_settingOf_L0_hd x.1 x.2.2.1 x.2.2.2.1 y.1.1 s.1) k hk
    (fun self s => ref3_settingOf_L0T N x.1 x.2.2.1 x.2.2.2.1 (k (.exit 0) (ref3_settingOf_L0_tl0 x.1 x.2.2.1 x.2.2.2.1 y.1.1)) (fun s10 => self (s10, ())) s.1) (fun n s => ref3_settingOf_L0 N x.1 x.2.2.1 x.2.2.2.1 (k (.exit 0) (ref3_settingOf_L0_tl0 x.1 x.2.2.1 x.2.2.2.1 y.1.1)) n s.1) (fun _ => rfl) (fun _ _ => rfl)
    (fun I s => ref3_settingOf_L0_step N x.1 x.2.2.1 x.2.2.2.1 y.1.1 (fun j => k (.exit j)) I s.1) N (x.2.2.2.2.1, ())
theorem ref3_settingOf_lp0 (N : Nat) : ∀ st k, (∀ st, k .ret st = (resD (ref3_settingOf_E N) Tryz.f100 (ref3_settingOf_sg fun x _ => ref3_settingOf N x.1 x.2.1) ref3_settingOf_pk) st) → ref3_settingOf_LP N 0 (cAt (bodyOf Tryz.f100) [true, false, true, false, false]) st k = iter (Env.hint (ref3_settingOf_E N) 0) (exec (ref3_settingOf_E N) N (cAt (bodyOf Tryz.f100) [true, false, true, false, false]) 0) N st k := fun st k hk => LPc_eq 21 ref3_settingOf_L0_fs ref3_settingOf_L0_bs _ _ (resD (ref3_settingOf_E N) Tryz.f100 (ref3_settingOf_sg fun x _ => ref3_settingOf N x.1 x.2.1) ref3_settingOf_pk) (ref3_settingOf_L0_ok N) _ st k hk (rfl)
theorem ref3_settingOf_core (N : Nat) (x : SV [.v (.sl (.pr .str (.sl .str))), .v .str]) (y : BV []) : runL (ref3_settingOf_E N) Tryz.f100 (ref3_settingOf_sg fun x _ => ref3_settingOf N x.1 x.2.1) ref3_settingOf_pk (ref3_settingOf_LP N) x y = ref3_settingOf N x.1 x.2.1 := by kernel_rfl
theorem ref3_settingOf_sound (N : Nat) : Sound Tryz.prog GW B0G 100 (ref3_settingOf_sg fun x _ => ref3_settingOf N x.1 x.2.1) :=
  runD_sound (mkE_ok ref3_settingOf_h (ref3_settingOf_fn N) _ _ (ref3_settingOf_fn_ok N)) Tryz.func100 rfl Tryz.call100 (ref3_settingOf_sg fun x _ => ref3_settingOf N x.1 x.2.1) ref3_settingOf_pk (fun _ _ => rfl) N (fun x y _ h => ((runL_eq (ref3_settingOf_E N) N Tryz.f100 (ref3_settingOf_sg fun x _ => ref3_settingOf N x.1 x.2.1) ref3_settingOf_pk (ref3_settingOf_LP N) (show LoopsOk (ref3_settingOf_LP N) (ref3_settingOf_E N) N (resD (ref3_settingOf_E N) Tryz.f100 (ref3_settingOf_sg fun x _ => ref3_settingOf N x.1 x.2.1) ref3_settingOf_pk) [(0, (cAt (bodyOf Tryz.f100) [true, false, true, false, false]))] from ⟨ref3_settingOf_lp0 N, trivial⟩) x y).trans (ref3_settingOf_core N x y)).trans h)
def ref3_CheckConfig_L0T (N : Nat) (x0 : List (Str × List Str)) (x1 : List (Str × Str)) (c15 : List (Str × Str)) (c16 : Int) (k0 : Option Int) (self : Int → Option Int) (s17 : Int) : Option Int :=
  br (decide (s17 < c16))
    (bnd (geti c15 s17) fun t20 =>
    bnd (ref3_settingOf N x0 t20.1) fun t26 =>
    br (!t26.2)
      (some (5 : Int))
      (bnd (slices_Contains_string_string N t26.1.2 t20.2) fun t37 =>
      br (!t37)
        (some (1 : Int))
        (bnd (geti t26.1.2 (0 : Int)) fun t42 =>
        br (t42 == t20.2)
          (some (3 : Int))
          (br (decide (s17 > (0 : Int)))
            (bnd (geti x1 (IntKind.i64.wrap (s17 - (1 : Int)))) fun t56 =>
            br (Op.bytesLess t20.1 t56.1 || t20.1 == t56.1)
              (some (8 : Int))
              (self (IntKind.i64.wrap (s17 + (1 : Int)))))
            (self (IntKind.i64.wrap (s17 + (1 : Int))))))))
    (k0)
def ref3_CheckConfig_L0 (N : Nat) (x0 : List (Str × List Str)) (x1 : List (Str × Str)) (c15 : List (Str × Str)) (c16 : Int) (k0 : Option Int) : Nat → Int → Option Int
  | 0, _ => none
  | n + 1, s17 => ref3_CheckConfig_L0T N x0 x1 c15 c16 k0 (ref3_CheckConfig_L0 N x0 x1 c15 c16 k0 n) s17
def ref3_CheckConfig (N : Nat) (x0 : List (Str × List Str)) (x1 : List (Str × Str)) : Option Int :=
  bnd (ref3_CheckSettings N x0) fun t11 =>
  br (t11 != (0 : Int))
    (some t11)
    (ref3_CheckConfig_L0 N x0 x1 x1 (x1.length : Int) (some (0 : Int)) N (0 : Int))
abbrev ref3_CheckConfig_sg (f : SV [.v (.sl (.pr .str (.sl .str))), .v (.sl (.pr .str .str))] → BV [] → Option (Int)) : AF := { ps := [.v (.sl (.pr .str (.sl .str))), .v (.sl (.pr .str .str))], bs := [], rs := [.v (.int .i64)], cs := [], R := Int, out := fun z => ((z, ()), ()), f := f }
abbrev ref3_CheckConfig_pk : SV [.v (.int .i64)] → BV [] → Int := fun x _ => x.1
def ref3_CheckConfig_fn (N : Nat) : FuncId → Option Tmp → Option AF := fun f _ =>
  match f with
    | 49 => some (ref3_CheckSettings_sg fun x _ => ref3_CheckSettings N x.1)
    | 56 => some (slices_Contains_string_string_sg fun x _ => slices_Contains_string_string N x.1 x.2.1)
    | 100 => some (ref3_settingOf_sg fun x _ => ref3_settingOf N x.1 x.2.1)
    | _ => none
theorem ref3_CheckConfig_fn_ok (N : Nat) : ∀ f q F, ref3_CheckConfig_fn N f q = some F → Sound Tryz.prog GW B0G f F := by
  intro f q F h
  unfold ref3_CheckConfig_fn at h
  split at h
  · cases h; exact ref3_CheckSettings_sound N
  · cases h; exact slices_Contains_string_string_sound N
  · cases h; exact ref3_settingOf_sound N
  · cases h
def ref3_CheckConfig_h : Nat → Hint := fun i =>
  match i with
  | 0 => ⟨[], [0, 1, 15, 16, 17], [], [], [], []⟩
  | _ => ⟨[], [], [], [], [], []⟩
abbrev ref3_CheckConfig_E (N : Nat) : Env := mkE ref3_CheckConfig_h (ref3_CheckConfig_fn N) (fun _ => false) (fun _ => false)
abbrev ref3_CheckConfig_L0_fs : List (Nat × Sl) := [(0, .v (.sl (.pr .str (.sl .str)))), (1, .v (.sl (.pr .str .str))), (15, .v (.sl (.pr .str .str))), (16, .v (.int .i64)), (17, .v (.int .i64))]
abbrev ref3_CheckConfig_L0_bs : List (Nat × Sb) := []
def ref3_CheckConfig_L0_hd (x0 : List (Str × List Str)) (x1 : List (Str × Str)) (c15 : List (Str × Str)) (c16 : Int) (s17 : Int) : St := ⟨62, [(0, .v (.sl (.pr .str (.sl .str))) x0), (1, .v (.sl (.pr .str .str)) x1), (15, .v (.sl (.pr .str .str)) c15), (16, .v (.int .i64) c16), (17, .v (.int .i64) s17)], []⟩
def ref3_CheckConfig_L0_tl0 (_x0 : List (Str × List Str)) (_x1 : List (Str × Str)) (_c15 : List (Str × Str)) (_c16 : Int) : St := ⟨62, [], []⟩
def ref3_CheckConfig_L0_G (N : Nat) (x0 : List (Str × List Str)) (x1 : List (Str × Str)) (c15 : List (Str × Str)) (c16 : Int) (s17 : Int) (k : Ex → St → Option Int) : Option Int :=
  ref3_CheckConfig_L0 N x0 x1 c15 c16 (k (.exit 0) (ref3_CheckConfig_L0_tl0 x0 x1 c15 c16)) N s17
abbrev ref3_CheckConfig_L0_F (N : Nat) : FV ref3_CheckConfig_L0_fs → HV ref3_CheckConfig_L0_bs → (Ex → St → Option Int) → Option Int := fun x _ k => ref3_CheckConfig_L0_G N x.1 x.2.1 x.2.2.1 x.2.2.2.1 x.2.2.2.2.1 k
noncomputable def ref3_CheckConfig_LP (N : Nat) : Nat → Code → St → (Ex → St → Option Int) → Option Int := fun i c =>
  match i with
  | 0 => (LPc 62 ref3_CheckConfig_L0_fs ref3_CheckConfig_L0_bs (ref3_CheckConfig_L0_F N) (fun st k => iter (ref3_CheckConfig_h 0) (exec (ref3_CheckConfig_E N) N c 0) N st k))
  | i => fun st k => iter (ref3_CheckConfig_h i) (exec (ref3_CheckConfig_E N) N c i) N st k
theorem ref3_CheckConfig_L0_step (N : Nat) (x0 : List (Str × List Str)) (x1 : List (Str × Str)) (c15 : List (Str × Str)) (c16 : Int) (KX : Nat → St → Option Int) (I : St → Option Int) (s17 : Int) :
    execL (ref3_CheckConfig_LP N) (ref3_CheckConfig_E N) (cAt (bodyOf Tryz.f39) [true, true, false, true, false, false]) 0 (ref3_CheckConfig_L0_hd x0 x1 c15 c16 s17) (roundK (ref3_CheckConfig_h 0) I KX (resD (ref3_CheckConfig_E N) Tryz.f39 (ref3_CheckConfig_sg fun x _ => ref3_CheckConfig N x.1 x.2.1) ref3_CheckConfig_pk)) = ref3_CheckConfig_L0T N x0 x1 c15 c16 (KX 0 (ref3_CheckConfig_L0_tl0 x0 x1 c15 c16)) (fun s17 => I (ref3_CheckConfig_L0_hd x0 x1 c15 c16 s17)) s17 := by kernel_rfl
theorem ref3_CheckConfig_L0_ok (N : Nat) : ∀ x y k, (∀ st, k .ret st = (resD (ref3_CheckConfig_E N) Tryz.f39 (ref3_CheckConfig_sg fun x _ => ref3_CheckConfig N x.1 x.2.1) ref3_CheckConfig_pk) st) → iter (ref3_CheckConfig_h 0) (exec (ref3_CheckConfig_E N) N (cAt (bodyOf Tryz.f39) [true, true, false, true, false, false]) 0) N ⟨62, unF ref3_CheckConfig_L0_fs x, unH ref3_CheckConfig_L0_bs y⟩ k = ref3_CheckConfig_L0_F N x y k := fun x _ k hk =>
  iter_link (S := (Int) × Unit) (ref3_CheckConfig_h 0) _ (execL (ref3_CheckConfig_LP N) (ref3_CheckConfig_E N) (cAt (bodyOf Tryz.f39) [true, true, false, true, false, false]) 0) (resD (ref3_CheckConfig_E N) Tryz.f39 (ref3_CheckConfig_sg fun x _ => ref3_CheckConfig N x.1 x.2.1) ref3_CheckConfig_pk) (fun st k hk => execL_eq _ _ N _ (cAt (bodyOf Tryz.f39) [true, true, false, true, false, false]) 0 (show LoopsOk (ref3_CheckConfig_LP N) (ref3_CheckConfig_E N) N (resD (ref3_CheckConfig_E N) Tryz.f39 (ref3_CheckConfig_sg fun x _ => ref3_CheckConfig N x.1 x.2.1) ref3_CheckConfig_pk) [] from trivial) st k hk) (fun s => ref3_CheckConfig_L0_hd x.1 x.2.1 x.2.2.1 x.2.2.2.1 s.1) k hk
    (fun self s => ref3_CheckConfig_L0T N x.1 x.2.1 x.2.2.1 x.2.2.2.1 (k (.exit 0) (ref3_CheckConfig_L0_tl0 x.1 x.2.1 x.2.2.1 x.2.2.2.1)) (fun s17 => self (s17, ())) s.1) (fun n s => ref3_CheckConfig_L0 N x.1 x.2.1 x.2.2.1 x.2.2.2.1 (k (.exit 0) (ref3_CheckConfig_L0_tl0 x.1 x.2.1 x.2.2.1 x.2.2.2.1)) n s.1) (fun _ => rfl) (fun _ _ => rfl)
    (fun I s => ref3_CheckConfig_L0_step N x.1 x.2.1 x.2.2.1 x.2.2.2.1 (fun j => k (.exit j)) I s.1) N (x.2.2.2.2.1, ())
theorem ref3_CheckConfig_lp0 (N : Nat) : ∀ st k, (∀ st, k .ret st = (resD (ref3_CheckConfig_E N) Tryz.f39 (ref3_CheckConfig_sg fun x _ => ref3_CheckConfig N x.1 x.2.1) ref3_CheckConfig_pk) st) → ref3_CheckConfig_LP N 0 (cAt (bodyOf Tryz.f39) [true, true, false, true, false, false]) st k = iter (Env.hint (ref3_CheckConfig_E N) 0) (exec (ref3_CheckConfig_E N) N (cAt (bodyOf Tryz.f39) [true, true, false, true, false, false]) 0) N st k := fun st k hk => LPc_eq 62 ref3_CheckConfig_L0_fs ref3_CheckConfig_L0_bs _ _ (resD (ref3_CheckConfig_E N) Tryz.f39 (ref3_CheckConfig_sg fun x _ => ref3_CheckConfig N x.1 x.2.1) ref3_CheckConfig_pk) (ref3_CheckConfig_L0_ok N) _ st k hk (rfl)
theorem ref3_CheckConfig_core (N : Nat) (x : SV [.v (.sl (.pr .str (.sl .str))), .v (.sl (.pr .str .str))]) (y : BV []) : runL (ref3_CheckConfig_E N) Tryz.f39 (ref3_CheckConfig_sg fun x _ => ref3_CheckConfig N x.1 x.2.1) ref3_CheckConfig_pk (ref3_CheckConfig_LP N) x y = ref3_CheckConfig N x.1 x.2.1 := by kernel_rfl
theorem ref3_CheckConfig_sound (N : Nat) : Sound Tryz.prog GW B0G 39 (ref3_CheckConfig_sg fun x _ => ref3_CheckConfig N x.1 x.2.1) :=
  runD_sound (mkE_ok ref3_CheckConfig_h (ref3_CheckConfig_fn N) _ _ (ref3_CheckConfig_fn_ok N)) Tryz.func39 rfl Tryz.call39 (ref3_CheckConfig_sg fun x _ => ref3_CheckConfig N x.1 x.2.1) ref3_CheckConfig_pk (fun _ _ => rfl) N (fun x y _ h => ((runL_eq (ref3_CheckConfig_E N) N Tryz.f39 (ref3_CheckConfig_sg fun x _ => ref3_CheckConfig N x.1 x.2.1) ref3_CheckConfig_pk (ref3_CheckConfig_LP N) (show LoopsOk (ref3_CheckConfig_LP N) (ref3_CheckConfig_E N) N (resD (ref3_CheckConfig_E N) Tryz.f39 (ref3_CheckConfig_sg fun x _ => ref3_CheckConfig N x.1 x.2.1) ref3_CheckConfig_pk) [(0, (cAt (bodyOf Tryz.f39) [true, true, false, true, false, false]))] from ⟨ref3_CheckConfig_lp0 N, trivial⟩) x y).trans (ref3_CheckConfig_core N x y)).trans h)
def ref3_valueOf_L0T (_N : Nat) (x2 : Str) (x1 : List (Str × Str)) (c12 : Int) (k0 : Option Str) (self : Int → Option Str) (s13 : Int) : Option Str :=
  br (decide (s13 < c12))
    (bnd (geti x1 s13) fun t15 =>
    br (t15.1 == x2)
      (some t15.2)
      (self (IntKind.i64.wrap (s13 + (1 : Int)))))
    (k0)
def ref3_valueOf_L0 (N : Nat) (x2 : Str) (x1 : List (Str × Str)) (c12 : Int) (k0 : Option Str) : Nat → Int → Option Str
  | 0, _ => none
  | n + 1, s13 => ref3_valueOf_L0T N x2 x1 c12 k0 (ref3_valueOf_L0 N x2 x1 c12 k0 n) s13
def ref3_valueOf (N : Nat) (x0 : List (Str × List Str)) (x1 : List (Str × Str)) (x2 : Str) : Option Str :=
  ref3_valueOf_L0 N x2 x1 (x1.length : Int) (bnd (ref3_settingOf N x0 x2) fun t27 =>
      bnd (geti t27.1.2 (0 : Int)) fun t32 =>
      some t32) N (0 : Int)
abbrev ref3_valueOf_sg (f : SV [.v (.sl (.pr .str (.sl .str))), .v (.sl (.pr .str .str)), .v .str] → BV [] → Option (Str)) : AF := { ps := [.v (.sl (.pr .str (.sl .str))), .v (.sl (.pr .str .str)), .v .str], bs := [], rs := [.v .str], cs := [], R := Str, out := fun z => ((z, ()), ()), f := f }
abbrev ref3_valueOf_pk : SV [.v .str] → BV [] → Str := fun x _ => x.1
def ref3_valueOf_fn (N : Nat) : FuncId → Option Tmp → Option AF := fun f _ =>
  match f with
    | 100 => some (ref3_settingOf_sg fun x _ => ref3_settingOf N x.1 x.2.1)
    | _ => none
theorem ref3_valueOf_fn_ok (N : Nat) : ∀ f q F, ref3_valueOf_fn N f q = some F → Sound Tryz.prog GW B0G f F := by
  intro f q F h
  unfold ref3_valueOf_fn at h
  split at h
  · cases h; exact ref3_settingOf_sound N
  · cases h
def ref3_valueOf_h : Nat → Hint := fun i =>
  match i with
  | 0 => ⟨[], [0, 2, 11, 12, 13], [], [0, 2], [], []⟩
  | _ => ⟨[], [], [], [], [], []⟩
abbrev ref3_valueOf_E (N : Nat) : Env := mkE ref3_valueOf_h (ref3_valueOf_fn N) (fun _ => false) (fun _ => false)
abbrev ref3_valueOf_L0_fs : List (Nat × Sl) := [(0, .v (.sl (.pr .str (.sl .str)))), (2, .v .str), (11, .v (.sl (.pr .str .str))), (12, .v (.int .i64)), (13, .v (.int .i64))]
abbrev ref3_valueOf_L0_bs : List (Nat × Sb) := []
def ref3_valueOf_L0_hd (x0 : List (Str × List Str)) (x2 : Str) (x1 : List (Str × Str)) (c12 : Int) (s13 : Int) : St := ⟨34, [(0, .v (.sl (.pr .str (.sl .str))) x0), (2, .v .str x2), (11, .v (.sl (.pr .str .str)) x1), (12, .v (.int .i64) c12), (13, .v (.int .i64) s13)], []⟩
def ref3_valueOf_L0_tl0 (x0 : List (Str × List Str)) (x2 : Str) (_x1 : List (Str × Str)) (_c12 : Int) : St := ⟨34, [(0, .v (.sl (.pr .str (.sl .str))) x0), (2, .v .str x2)], []⟩
def ref3_valueOf_L0_G (N : Nat) (x0 : List (Str × List Str)) (x2 : Str) (x1 : List (Str × Str)) (c12 : Int) (s13 : Int) (k : Ex → St → Option Str) : Option Str :=
  ref3_valueOf_L0 N x2 x1 c12 (k (.exit 0) (ref3_valueOf_L0_tl0 x0 x2 x1 c12)) N s13
abbrev ref3_valueOf_L0_F (N : Nat) : FV ref3_valueOf_L0_fs → HV ref3_valueOf_L0_bs → (Ex → St → Option Str) → Option Str := fun x _ k => ref3_valueOf_L0_G N x.1 x.2.1 x.2.2.1 x.2.2.2.1 x.2.2.2.2.1 k
noncomputable def ref3_valueOf_LP (N : Nat) : Nat → Code → St → (Ex → St → Option Str) → Option Str := fun i c =>
  match i with
  | 0 => (LPc 34 ref3_valueOf_L0_fs ref3_valueOf_L0_bs (ref3_valueOf_L0_F N) (fun st k => iter (ref3_valueOf_h 0) (exec (ref3_valueOf_E N) N c 0) N st k))
  | i => fun st k => iter (ref3_valueOf_h i) (exec (ref3_valueOf_E N) N c i) N st k
theorem ref3_valueOf_L0_step (N : Nat) (x0 : List (Str × List Str)) (x2 : Str) (x1 : List (Str × Str)) (c12 : Int) (KX : Nat → St → Option Str) (I : St → Option Str) (s13 : Int) :
    execL (ref3_valueOf_LP N) (ref3_valueOf_E N) (cAt (bodyOf Tryz.f101) [true, false, true, false, false]) 0 (ref3_valueOf_L0_hd x0 x2 x1 c12 s13) (roundK (ref3_valueOf_h 0) I KX (resD (ref3_valueOf_E N) Tryz.f101 (ref3_valueOf_sg fun x _ => ref3_valueOf N x.1 x.2.1 x.2.2.1) ref3_valueOf_pk)) = ref3_valueOf_L0T N x2 x1 c12 (KX 0 (ref3_valueOf_L0_tl0 x0 x2 x1 c12)) (fun s13 => I (ref3_valueOf_L0_hd x0 x2 x1 c12 s13)) s13 := by kernel_rfl
theorem ref3_valueOf_L0_ok (N : Nat) : ∀ x y k, (∀ st, k .ret st = (resD (ref3_valueOf_E N) Tryz.f101 (ref3_valueOf_sg fun x _ => ref3_valueOf N x.1 x.2.1 x.2.2.1) ref3_valueOf_pk) st) → iter (ref3_valueOf_h 0) (exec (ref3_valueOf_E N) N (cAt (bodyOf Tryz.f101) [true, false, true, false, false]) 0) N ⟨34, unF ref3_valueOf_L0_fs x, unH ref3_valueOf_L0_bs y⟩ k = ref3_valueOf_L0_F N x y k := fun x _ k hk =>
  iter_link (S := (Int) × Unit) (ref3_valueOf_h 0) _ (execL (ref3_valueOf_LP N) (ref3_valueOf_E N) (cAt (bodyOf Tryz.f101) [true, false, true, false, false]) 0) (resD (ref3_valueOf_E N) Tryz.f101 (ref3_valueOf_sg fun x _ => ref3_valueOf N x.1 x.2.1 x.2.2.1) ref3_valueOf_pk) (fun st k hk => execL_eq _ _ N _ (cAt (bodyOf Tryz.f101) [true, false, true, false, false]) 0 (show LoopsOk (ref3_valueOf_LP N) (ref3_valueOf_E N) N (resD (ref3_valueOf_E N) Tryz.f101 (ref3_valueOf_sg fun x _ => ref3_valueOf N x.1 x.2.1 x.2.2.1) ref3_valueOf_pk) [] from trivial) st k hk) (fun s => ref3_valueOf_L0_hd x.1 x.2.1 x.2.2.1 x.2.2.2.1 s.1) k hk
    (fun self s => ref3_valueOf_L0T N x.2.1 x.2.2.1 x.2.2.2.1 (k (.exit 0) (ref3_valueOf_L0_tl0 x.1 x.2.1 x.2.2.1 x.2.2.2.1)) (fun s13 => self (s13, ())) s.1) (fun n s => ref3_valueOf_L0 N x.2.1 x.2.2.1 x.2.2.2.1 (k (.exit 0) (ref3_valueOf_L0_tl0 x.1 x.2.1 x.2.2.1 x.2.2.2.1)) n s.1) (fun _ => rfl) (fun _ _ => rfl)
    (fun I s => ref3_valueOf_L0_step N x.1 x.2.1 x.2.2.1 x.2.2.2.1 (fun j => k (.exit j)) I s.1) N (x.2.2.2.2.1, ())
theorem ref3_valueOf_lp0 (N : Nat) : ∀ st k, (∀ st, k .ret st = (resD (ref3_valueOf_E N) Tryz.f101 (ref3_valueOf_sg fun x _ => ref3_valueOf N x.1 x.2.1 x.2.2.1) ref3_valueOf_pk) st) → ref3_valueOf_LP N 0 (cAt (bodyOf Tryz.f101) [true, false, true, false, false]) st k = iter (Env.hint (ref3_valueOf_E N) 0) (exec (ref3_valueOf_E N) N (cAt (bodyOf Tryz.f101) [true, false, true, false, false]) 0) N st k := fun st k hk => LPc_eq 34 ref3_valueOf_L0_fs ref3_valueOf_L0_bs _ _ (resD (ref3_valueOf_E N) Tryz.f101 (ref3_valueOf_sg fun x _ => ref3_valueOf N x.1 x.2.1 x.2.2.1) ref3_valueOf_pk) (ref3_valueOf_L0_ok N) _ st k hk (rfl)
theorem ref3_valueOf_core (N : Nat) (x : SV [.v (.sl (.pr .str (.sl .str))), .v (.sl (.pr .str .str)), .v .str]) (y : BV []) : runL (ref3_valueOf_E N) Tryz.f101 (ref3_valueOf_sg fun x _ => ref3_valueOf N x.1 x.2.1 x.2.2.1) ref3_valueOf_pk (ref3_valueOf_LP N) x y = ref3_valueOf N x.1 x.2.1 x.2.2.1 := by kernel_rfl
theorem ref3_valueOf_sound (N : Nat) : Sound Tryz.prog GW B0G 101 (ref3_valueOf_sg fun x _ => ref3_valueOf N x.1 x.2.1 x.2.2.1) :=
  runD_sound (mkE_ok ref3_valueOf_h (ref3_valueOf_fn N) _ _ (ref3_valueOf_fn_ok N)) Tryz.func101 rfl Tryz.call101 (ref3_valueOf_sg fun x _ => ref3_valueOf N x.1 x.2.1 x.2.2.1) ref3_valueOf_pk (fun _ _ => rfl) N (fun x y _ h => ((runL_eq (ref3_valueOf_E N) N Tryz.f101 (ref3_valueOf_sg fun x _ => ref3_valueOf N x.1 x.2.1 x.2.2.1) ref3_valueOf_pk (ref3_valueOf_LP N) (show LoopsOk (ref3_valueOf_LP N) (ref3_valueOf_E N) N (resD (ref3_valueOf_E N) Tryz.f101 (ref3_valueOf_sg fun x _ => ref3_valueOf N x.1 x.2.1 x.2.2.1) ref3_valueOf_pk) [(0, (cAt (bodyOf Tryz.f101) [true, false, true, false, false]))] from ⟨ref3_valueOf_lp0 N, trivial⟩) x y).trans (ref3_valueOf_core N x y)).trans h)
def config_ConfigText_L0T (_N : Nat) (x1 : List (Str × Str)) (c20 : Int) (k0 : (List Str) → Option (Str × Int)) (self : Int → (List Str) → Option (Str × Int)) (s21 : Int) (w1007 : List Str) : Option (Str × Int) :=
  br (decide (s21 < c20))
    (bnd (geti x1 s21) fun t23 =>
    br (decide (t23.1.length + ([61] : Str).length ≤ 9223372036854775807))
      (br (decide ((t23.1 ++ ([61] : Str)).length + t23.2.length ≤ 9223372036854775807))
        (br (decide ((w1007.length + [(t23.1 ++ ([61] : Str)) ++ t23.2].length) * (24 * Ty.sz .str) ≤ 140737488355328))
          (self (IntKind.i64.wrap (s21 + (1 : Int))) (w1007 ++ [(t23.1 ++ ([61] : Str)) ++ t23.2]))
          none)
        none)
      none)
    (k0 w1007)
def config_ConfigText_L0 (N : Nat) (x1 : List (Str × Str)) (c20 : Int) (k0 : (List Str) → Option (Str × Int)) : Nat → Int → (List Str) → Option (Str × Int)
  | 0, _, _ => none
  | n + 1, s21, w1007 => config_ConfigText_L0T N x1 c20 k0 (config_ConfigText_L0 N x1 c20 k0 n) s21 w1007
def config_ConfigText (N : Nat) (x0 : List (Str × List Str)) (x1 : List (Str × Str)) : Option (Str × Int) :=
  bnd (config_CheckConfig N x0 x1) fun t12 =>
  br (t12 != (0 : Int))
    (some (([] : Str), t12))
    (br ((x1.length : Int) == (0 : Int))
      (some (([45] : Str), (0 : Int)))
      (config_ConfigText_L0 N x1 (x1.length : Int) (fun o0_w1007 =>
          bnd (strings_Join o0_w1007 ([44] : Str)) fun t36 =>
          some (t36, (0 : Int))) N (0 : Int) ([] : List Str)))
abbrev config_ConfigText_sg (f : SV [.v (.sl (.pr .str (.sl .str))), .v (.sl (.pr .str .str))] → BV [] → Option (Str × Int)) : AF := { ps := [.v (.sl (.pr .str (.sl .str))), .v (.sl (.pr .str .str))], bs := [], rs := [.v .str, .v (.int .i64)], cs := [], R := Str × Int, out := fun z => ((z.1, z.2, ()), ()), f := f }
abbrev config_ConfigText_pk : SV [.v .str, .v (.int .i64)] → BV [] → (Str × Int) := fun x _ => (x.1, x.2.1)
def config_ConfigText_fn (N : Nat) : FuncId → Option Tmp → Option AF := fun f _ =>
  match f with
    | 29 => some (config_CheckConfig_sg fun x _ => config_CheckConfig N x.1 x.2.1)
    | 93 => some (strings_Join_sg fun x _ => strings_Join x.1 x.2.1)
    | _ => none
theorem config_ConfigText_fn_ok (N : Nat) : ∀ f q F, config_ConfigText_fn N f q = some F → Sound Tryz.prog GW B0G f F := by
  intro f q F h
  unfold config_ConfigText_fn at h
  split at h
  · cases h; exact config_CheckConfig_sound N
  · cases h; exact strings_Join_sound
  · cases h
def config_ConfigText_h : Nat → Hint := fun i =>
  match i with
  | 0 => ⟨[], [7, 19, 20, 21], [1007], [7], [1007], []⟩
  | _ => ⟨[], [], [], [], [], []⟩
abbrev config_ConfigText_E (N : Nat) : Env := mkE config_ConfigText_h (config_ConfigText_fn N) (fun _ => false) (fun _ => false)
abbrev config_ConfigText_L0_fs : List (Nat × Sl) := [(7, .row 1007), (19, .v (.sl (.pr .str .str))), (20, .v (.int .i64)), (21, .v (.int .i64))]
abbrev config_ConfigText_L0_bs : List (Nat × Sb) := [(1007, .row 9 .str false)]
def config_ConfigText_L0_hd (x1 : List (Str × Str)) (c20 : Int) (s21 : Int) (w1007 : List Str) : St := ⟨37, [(7, .row 1007), (19, .v (.sl (.pr .str .str)) x1), (20, .v (.int .i64) c20), (21, .v (.int .i64) s21)], [(1007, .row 9 .str false w1007)]⟩
def config_ConfigText_L0_tl0 (_x1 : List (Str × Str)) (_c20 : Int) (o0_w1007 : List Str) : St := ⟨37, [(7, .row 1007)], [(1007, .row 9 .str false o0_w1007)]⟩
def config_ConfigText_L0_G (N : Nat) (x1 : List (Str × Str)) (c20 : Int) (s21 : Int) (w1007 : List Str) (k : Ex → St → Option (Str × Int)) : Option (Str × Int) :=
  config_ConfigText_L0 N x1 c20 (fun o0_w1007 => k (.exit 0) (config_ConfigText_L0_tl0 x1 c20 o0_w1007)) N s21 w1007
abbrev config_ConfigText_L0_F (N : Nat) : FV config_ConfigText_L0_fs → HV config_ConfigText_L0_bs → (Ex → St → Option (Str × Int)) → Option (Str × Int) := fun x y k => config_ConfigText_L0_G N x.2.1 x.2.2.1 x.2.2.2.1 y.1 k
noncomputable def config_ConfigText_LP (N : Nat) : Nat → Code → St → (Ex → St → Option (Str × Int)) → Option (Str × Int) := fun i c =>
  match i with
  | 0 => (LPc 37 config_ConfigText_L0_fs config_ConfigText_L0_bs (config_ConfigText_L0_F N) (fun st k => iter (config_ConfigText_h 0) (exec (config_ConfigText_E N) N c 0) N st k))
  | i => fun st k => iter (config_ConfigText_h i) (exec (config_ConfigText_E N) N c i) N st k
theorem config_ConfigText_L0_step (N : Nat) (x1 : List (Str × Str)) (c20 : Int) (KX : Nat → St → Option (Str × Int)) (I : St → Option (Str × Int)) (s21 : Int) (w1007 : List Str) :
    execL (config_ConfigText_LP N) (config_ConfigText_E N) (cAt (bodyOf Tryz.f36) [true, true, true, true, false, true, false, false]) 0 (config_ConfigText_L0_hd x1 c20 s21 w1007) (roundK (config_ConfigText_h 0) I KX (resD (config_ConfigText_E N) Tryz.f36 (config_ConfigText_sg fun x _ => config_ConfigText N x.1 x.2.1) config_ConfigText_pk)) = config_ConfigText_L0T N x1 c20 (fun o0_w1007 => KX 0 (config_ConfigText_L0_tl0 x1 c20 o0_w1007)) (fun s21 w1007 => I (config_ConfigText_L0_hd x1 c20 s21 w1007)) s21 w1007 := by kernel_rfl
theorem config_ConfigText_L0_ok (N : Nat) : ∀ x y k, (∀ st, k .ret st = (resD (config_ConfigText_E N) Tryz.f36 (config_ConfigText_sg fun x _ => config_ConfigText N x.1 x.2.1) config_ConfigText_pk) st) → iter (config_ConfigText_h 0) (exec (config_ConfigText_E N) N (cAt (bodyOf Tryz.f36) [true, true, true, true, false, true, false, false]) 0) N ⟨37, unF config_ConfigText_L0_fs x, unH config_ConfigText_L0_bs y⟩ k = config_ConfigText_L0_F N x y k := fun x y k hk =>
  iter_link (S := (Int) × (List Str) × Unit) (config_ConfigText_h 0) _ (execL (config_ConfigText_LP N) (config_ConfigText_E N) (cAt (bodyOf Tryz.f36) [true, true, true, true, false, true, false, false]) 0) (resD (config_ConfigText_E N) Tryz.f36 (config_ConfigText_sg fun x _ => config_ConfigText N x.1 x.2.1) config_ConfigText_pk) (fun st k hk => execL_eq _ _ N _ (cAt (bodyOf Tryz.f36) [true, true, true, true, false, true, false, false]) 0 (show LoopsOk (config_ConfigText_LP N) (config_ConfigText_E N) N (resD (config_ConfigText_E N) Tryz.f36 (config_ConfigText_sg fun x _ => config_ConfigText N x.1 x.2.1) config_ConfigText_pk) [] from trivial) st k hk) (fun s => config_ConfigText_L0_hd x.2.1 x.2.2.1 s.1 s.2.1) k hk
    (fun self s => config_ConfigText_L0T N x.2.1 x.2.2.1 (fun o0_w1007 => k (.exit 0) (config_ConfigText_L0_tl0 x.2.1 x.2.2.1 o0_w1007)) (fun s21 w1007 => self (s21, w1007, ())) s.1 s.2.1) (fun n s => config_ConfigText_L0 N x.2.1 x.2.2.1 (fun o0_w1007 => k (.exit 0) (config_ConfigText_L0_tl0 x.2.1 x.2.2.1 o0_w1007)) n s.1 s.2.1) (fun _ => rfl) (fun _ _ => rfl)
    (fun I s => config_ConfigText_L0_step N x.2.1 x.2.2.1 (fun j => k (.exit j)) I s.1 s.2.1) N (x.2.2.2.1, y.1, ())
theorem config_ConfigText_lp0 (N : Nat) : ∀ st k, (∀ st, k .ret st = (resD (config_ConfigText_E N) Tryz.f36 (config_ConfigText_sg fun x _ => config_ConfigText N x.1 x.2.1) config_ConfigText_pk) st) → config_ConfigText_LP N 0 (cAt (bodyOf Tryz.f36) [true, true, true, true, false, true, false, false]) st k = iter (Env.hint (config_ConfigText_E N) 0) (exec (config_ConfigText_E N) N (cAt (bodyOf Tryz.f36) [true, true, true, true, false, true, false, false]) 0) N st k := fun st k hk => LPc_eq 37 config_ConfigText_L0_fs config_ConfigText_L0_bs _ _ (resD (config_ConfigText_E N) Tryz.f36 (config_ConfigText_sg fun x _ => config_ConfigText N x.1 x.2.1) config_ConfigText_pk) (config_ConfigText_L0_ok N) _ st k hk (rfl)
theorem config_ConfigText_core (N : Nat) (x : SV [.v (.sl (.pr .str (.sl .str))), .v (.sl (.pr .str .str))]) (y : BV []) : runL (config_ConfigText_E N) Tryz.f36 (config_ConfigText_sg fun x _ => config_ConfigText N x.1 x.2.1) config_ConfigText_pk (config_ConfigText_LP N) x y = config_ConfigText N x.1 x.2.1 := by kernel_rfl
theorem config_ConfigText_sound (N : Nat) : Sound Tryz.prog GW B0G 36 (config_ConfigText_sg fun x _ => config_ConfigText N x.1 x.2.1) :=
  runD_sound (mkE_ok config_ConfigText_h (config_ConfigText_fn N) _ _ (config_ConfigText_fn_ok N)) Tryz.func36 rfl Tryz.call36 (config_ConfigText_sg fun x _ => config_ConfigText N x.1 x.2.1) config_ConfigText_pk (fun _ _ => rfl) N (fun x y _ h => ((runL_eq (config_ConfigText_E N) N Tryz.f36 (config_ConfigText_sg fun x _ => config_ConfigText N x.1 x.2.1) config_ConfigText_pk (config_ConfigText_LP N) (show LoopsOk (config_ConfigText_LP N) (config_ConfigText_E N) N (resD (config_ConfigText_E N) Tryz.f36 (config_ConfigText_sg fun x _ => config_ConfigText N x.1 x.2.1) config_ConfigText_pk) [(0, (cAt (bodyOf Tryz.f36) [true, true, true, true, false, true, false, false]))] from ⟨config_ConfigText_lp0 N, trivial⟩) x y).trans (config_ConfigText_core N x y)).trans h)
end
end Go.Proofs.YtbekhaioddmliaaGreatDoor


/- What functions of the program compute, as plain functions (printed). -/
namespace Go.Proofs.YtbekhaioddmliaaGreatDoor
open Go Go.RowKit
set_option maxRecDepth 100000
set_option linter.unusedVariables false
noncomputable section
def ref3_checkNeeds_L0T (N : Nat) (x0 : List (Str × List Str)) (x1 : List (Str × Str)) (c9 : List (Str × Str)) (c10 : Int) (k0 : Option Int) (self : Int → Option Int) (s11 : Int) : Option Int :=
  br (decide (s11 < c10))
    (bnd (geti c9 s11) fun t14 =>
    bnd (ref3_settingOf N x0 t14.1) fun t20 =>
    br (!t20.2)
      (some (5 : Int))
      (bnd (slices_Contains_string_string N t20.1.2 t14.2) fun t31 =>
      br (!t31)
        (some (1 : Int))
        (br (decide (s11 > (0 : Int)))
          (bnd (geti x1 (IntKind.i64.wrap (s11 - (1 : Int)))) fun t42 =>
          br (Op.bytesLess t14.1 t42.1 || t14.1 == t42.1)
            (some (8 : Int))
            (self (IntKind.i64.wrap (s11 + (1 : Int)))))
          (self (IntKind.i64.wrap (s11 + (1 : Int)))))))
    (k0)
def ref3_checkNeeds_L0 (N : Nat) (x0 : List (Str × List Str)) (x1 : List (Str × Str)) (c9 : List (Str × Str)) (c10 : Int) (k0 : Option Int) : Nat → Int → Option Int
  | 0, _ => none
  | n + 1, s11 => ref3_checkNeeds_L0T N x0 x1 c9 c10 k0 (ref3_checkNeeds_L0 N x0 x1 c9 c10 k0 n) s11
def ref3_checkNeeds (N : Nat) (x0 : List (Str × List Str)) (x1 : List (Str × Str)) : Option Int :=
  ref3_checkNeeds_L0 N x0 x1 x1 (x1.length : Int) (some (0 : Int)) N (0 : Int)
abbrev ref3_checkNeeds_sg (f : SV [.v (.sl (.pr .str (.sl .str))), .v (.sl (.pr .str .str))] → BV [] → Option (Int)) : AF := { ps := [.v (.sl (.pr .str (.sl .str))), .v (.sl (.pr .str .str))], bs := [], rs := [.v (.int .i64)], cs := [], R := Int, out := fun z => ((z, ()), ()), f := f }
abbrev ref3_checkNeeds_pk : SV [.v (.int .i64)] → BV [] → Int := fun x _ => x.1
def ref3_checkNeeds_fn (N : Nat) : FuncId → Option Tmp → Option AF := fun f _ =>
  match f with
    | 56 => some (slices_Contains_string_string_sg fun x _ => slices_Contains_string_string N x.1 x.2.1)
    | 100 => some (ref3_settingOf_sg fun x _ => ref3_settingOf N x.1 x.2.1)
    | _ => none
theorem ref3_checkNeeds_fn_ok (N : Nat) : ∀ f q F, ref3_checkNeeds_fn N f q = some F → Sound Tryz.prog GW B0G f F := by
  intro f q F h
  unfold ref3_checkNeeds_fn at h
  split at h
  · cases h; exact slices_Contains_string_string_sound N
  · cases h; exact ref3_settingOf_sound N
  · cases h
def ref3_checkNeeds_h : Nat → Hint := fun i =>
  match i with
  | 0 => ⟨[], [0, 1, 9, 10, 11], [], [], [], []⟩
  | _ => ⟨[], [], [], [], [], []⟩
abbrev ref3_checkNeeds_E (N : Nat) : Env := mkE ref3_checkNeeds_h (ref3_checkNeeds_fn N) (fun _ => false) (fun _ => false)
abbrev ref3_checkNeeds_L0_fs : List (Nat × Sl) := [(0, .v (.sl (.pr .str (.sl .str)))), (1, .v (.sl (.pr .str .str))), (9, .v (.sl (.pr .str .str))), (10, .v (.int .i64)), (11, .v (.int .i64))]
abbrev ref3_checkNeeds_L0_bs : List (Nat × Sb) := []
def ref3_checkNeeds_L0_hd (x0 : List (Str × List Str)) (x1 : List (Str × Str)) (c9 : List (Str × Str)) (c10 : Int) (s11 : Int) : St := ⟨48, [(0, .v (.sl (.pr .str (.sl .str))) x0), (1, .v (.sl (.pr .str .str)) x1), (9, .v (.sl (.pr .str .str)) c9), (10, .v (.int .i64) c10), (11, .v (.int .i64) s11)], []⟩
def ref3_checkNeeds_L0_tl0 (_x0 : List (Str × List Str)) (_x1 : List (Str × Str)) (_c9 : List (Str × Str)) (_c10 : Int) : St := ⟨48, [], []⟩
def ref3_checkNeeds_L0_G (N : Nat) (x0 : List (Str × List Str)) (x1 : List (Str × Str)) (c9 : List (Str × Str)) (c10 : Int) (s11 : Int) (k : Ex → St → Option Int) : Option Int :=
  ref3_checkNeeds_L0 N x0 x1 c9 c10 (k (.exit 0) (ref3_checkNeeds_L0_tl0 x0 x1 c9 c10)) N s11
abbrev ref3_checkNeeds_L0_F (N : Nat) : FV ref3_checkNeeds_L0_fs → HV ref3_checkNeeds_L0_bs → (Ex → St → Option Int) → Option Int := fun x _ k => ref3_checkNeeds_L0_G N x.1 x.2.1 x.2.2.1 x.2.2.2.1 x.2.2.2.2.1 k
noncomputable def ref3_checkNeeds_LP (N : Nat) : Nat → Code → St → (Ex → St → Option Int) → Option Int := fun i c =>
  match i with
  | 0 => (LPc 48 ref3_checkNeeds_L0_fs ref3_checkNeeds_L0_bs (ref3_checkNeeds_L0_F N) (fun st k => iter (ref3_checkNeeds_h 0) (exec (ref3_checkNeeds_E N) N c 0) N st k))
  | i => fun st k => iter (ref3_checkNeeds_h i) (exec (ref3_checkNeeds_E N) N c i) N st k
theorem ref3_checkNeeds_L0_step (N : Nat) (x0 : List (Str × List Str)) (x1 : List (Str × Str)) (c9 : List (Str × Str)) (c10 : Int) (KX : Nat → St → Option Int) (I : St → Option Int) (s11 : Int) :
    execL (ref3_checkNeeds_LP N) (ref3_checkNeeds_E N) (cAt (bodyOf Tryz.f51) [true, false, true, false, false]) 0 (ref3_checkNeeds_L0_hd x0 x1 c9 c10 s11) (roundK (ref3_checkNeeds_h 0) I KX (resD (ref3_checkNeeds_E N) Tryz.f51 (ref3_checkNeeds_sg fun x _ => ref3_checkNeeds N x.1 x.2.1) ref3_checkNeeds_pk)) = ref3_checkNeeds_L0T N x0 x1 c9 c10 (KX 0 (ref3_checkNeeds_L0_tl0 x0 x1 c9 c10)) (fun s11 => I (ref3_checkNeeds_L0_hd x0 x1 c9 c10 s11)) s11 := by kernel_rfl
theorem ref3_checkNeeds_L0_ok (N : Nat) : ∀ x y k, (∀ st, k .ret st = (resD (ref3_checkNeeds_E N) Tryz.f51 (ref3_checkNeeds_sg fun x _ => ref3_checkNeeds N x.1 x.2.1) ref3_checkNeeds_pk) st) → iter (ref3_checkNeeds_h 0) (exec (ref3_checkNeeds_E N) N (cAt (bodyOf Tryz.f51) [true, false, true, false, false]) 0) N ⟨48, unF ref3_checkNeeds_L0_fs x, unH ref3_checkNeeds_L0_bs y⟩ k = ref3_checkNeeds_L0_F N x y k := fun x _ k hk =>
  iter_link (S := (Int) × Unit) (ref3_checkNeeds_h 0) _ (execL (ref3_checkNeeds_LP N) (ref3_checkNeeds_E N) (cAt (bodyOf Tryz.f51) [true, false, true, false, false]) 0) (resD (ref3_checkNeeds_E N) Tryz.f51 (ref3_checkNeeds_sg fun x _ => ref3_checkNeeds N x.1 x.2.1) ref3_checkNeeds_pk) (fun st k hk => execL_eq _ _ N _ (cAt (bodyOf Tryz.f51) [true, false, true, false, false]) 0 (show LoopsOk (ref3_checkNeeds_LP N) (ref3_checkNeeds_E N) N (resD (ref3_checkNeeds_E N) Tryz.f51 (ref3_checkNeeds_sg fun x _ => ref3_checkNeeds N x.1 x.2.1) ref3_checkNeeds_pk) [] from trivial) st k hk) (fun s => ref3_checkNeeds_L0_hd x.1 x.2.1 x.2.2.1 x.2.2.2.1 s.1) k hk
    (fun self s => ref3_checkNeeds_L0T N x.1 x.2.1 x.2.2.1 x.2.2.2.1 (k (.exit 0) (ref3_checkNeeds_L0_tl0 x.1 x.2.1 x.2.2.1 x.2.2.2.1)) (fun s11 => self (s11, ())) s.1) (fun n s => ref3_checkNeeds_L0 N x.1 x.2.1 x.2.2.1 x.2.2.2.1 (k (.exit 0) (ref3_checkNeeds_L0_tl0 x.1 x.2.1 x.2.2.1 x.2.2.2.1)) n s.1) (fun _ => rfl) (fun _ _ => rfl)
    (fun I s => ref3_checkNeeds_L0_step N x.1 x.2.1 x.2.2.1 x.2.2.2.1 (fun j => k (.exit j)) I s.1) N (x.2.2.2.2.1, ())
theorem ref3_checkNeeds_lp0 (N : Nat) : ∀ st k, (∀ st, k .ret st = (resD (ref3_checkNeeds_E N) Tryz.f51 (ref3_checkNeeds_sg fun x _ => ref3_checkNeeds N x.1 x.2.1) ref3_checkNeeds_pk) st) → ref3_checkNeeds_LP N 0 (cAt (bodyOf Tryz.f51) [true, false, true, false, false]) st k = iter (Env.hint (ref3_checkNeeds_E N) 0) (exec (ref3_checkNeeds_E N) N (cAt (bodyOf Tryz.f51) [true, false, true, false, false]) 0) N st k := fun st k hk => LPc_eq 48 ref3_checkNeeds_L0_fs ref3_checkNeeds_L0_bs _ _ (resD (ref3_checkNeeds_E N) Tryz.f51 (ref3_checkNeeds_sg fun x _ => ref3_checkNeeds N x.1 x.2.1) ref3_checkNeeds_pk) (ref3_checkNeeds_L0_ok N) _ st k hk (rfl)
theorem ref3_checkNeeds_core (N : Nat) (x : SV [.v (.sl (.pr .str (.sl .str))), .v (.sl (.pr .str .str))]) (y : BV []) : runL (ref3_checkNeeds_E N) Tryz.f51 (ref3_checkNeeds_sg fun x _ => ref3_checkNeeds N x.1 x.2.1) ref3_checkNeeds_pk (ref3_checkNeeds_LP N) x y = ref3_checkNeeds N x.1 x.2.1 := by kernel_rfl
theorem ref3_checkNeeds_sound (N : Nat) : Sound Tryz.prog GW B0G 51 (ref3_checkNeeds_sg fun x _ => ref3_checkNeeds N x.1 x.2.1) :=
  runD_sound (mkE_ok ref3_checkNeeds_h (ref3_checkNeeds_fn N) _ _ (ref3_checkNeeds_fn_ok N)) Tryz.func51 rfl Tryz.call51 (ref3_checkNeeds_sg fun x _ => ref3_checkNeeds N x.1 x.2.1) ref3_checkNeeds_pk (fun _ _ => rfl) N (fun x y _ h => ((runL_eq (ref3_checkNeeds_E N) N Tryz.f51 (ref3_checkNeeds_sg fun x _ => ref3_checkNeeds N x.1 x.2.1) ref3_checkNeeds_pk (ref3_checkNeeds_LP N) (show LoopsOk (ref3_checkNeeds_LP N) (ref3_checkNeeds_E N) N (resD (ref3_checkNeeds_E N) Tryz.f51 (ref3_checkNeeds_sg fun x _ => ref3_checkNeeds N x.1 x.2.1) ref3_checkNeeds_pk) [(0, (cAt (bodyOf Tryz.f51) [true, false, true, false, false]))] from ⟨ref3_checkNeeds_lp0 N, trivial⟩) x y).trans (ref3_checkNeeds_core N x y)).trans h)
end
end Go.Proofs.YtbekhaioddmliaaGreatDoor

