/- What functions of the program compute, as plain functions (printed). -/
import Derived.Test.YtbekhaioddmliaaDoorCfF3
namespace Go.Proofs.YtbekhaioddmliaaDoor
open Go Go.RowKit
set_option maxRecDepth 100000
set_option linter.unusedVariables false
noncomputable section
def ref3_CheckConditions_L0T (N : Nat) (x0 : List (Str × List Str)) (x1 : List (Str × List (Str × Str) × List (Str × Str))) (c18 : List (Str × List (Str × Str) × List (Str × Str))) (c19 : Int) (k0 : Option Int) (self : Int → Option Int) (s20 : Int) : Option Int :=
  br (decide (s20 < c19))
    (bnd (geti c18 s20) fun t23 =>
    bnd (ref3_isCondition N t23.1) fun t27 =>
    br (!t27)
      (some (3 : Int))
      (br (decide ((t23.2.1.length : Int) > (30 : Int)))
        (some (2 : Int))
        (br (decide ((t23.2.2.length : Int) > (30 : Int)))
          (some (2 : Int))
          (bnd (ref3_checkNeeds N x0 t23.2.1) fun t42 =>
          br (t42 != (0 : Int))
            (some t42)
            (bnd (ref3_checkPairs N t23.2.2) fun t48 =>
            br (t48 != (0 : Int))
              (some t48)
              (br (decide (s20 > (0 : Int)))
                (bnd (geti x1 (IntKind.i64.wrap (s20 - (1 : Int)))) fun t60 =>
                br (Op.bytesLess t23.1 t60.1 || t23.1 == t60.1)
                  (some (8 : Int))
                  (self (IntKind.i64.wrap (s20 + (1 : Int)))))
                (self (IntKind.i64.wrap (s20 + (1 : Int))))))))))
    (k0)
def ref3_CheckConditions_L0 (N : Nat) (x0 : List (Str × List Str)) (x1 : List (Str × List (Str × Str) × List (Str × Str))) (c18 : List (Str × List (Str × Str) × List (Str × Str))) (c19 : Int) (k0 : Option Int) : Nat → Int → Option Int
  | 0, _ => none
  | n + 1, s20 => ref3_CheckConditions_L0T N x0 x1 c18 c19 k0 (ref3_CheckConditions_L0 N x0 x1 c18 c19 k0 n) s20
def ref3_CheckConditions (N : Nat) (x0 : List (Str × List Str)) (x1 : List (Str × List (Str × Str) × List (Str × Str))) : Option Int :=
  bnd (ref3_CheckSettings N x0) fun t11 =>
  br (t11 != (0 : Int))
    (some t11)
    (br (decide ((x1.length : Int) > (100 : Int)))
      (some (2 : Int))
      (ref3_CheckConditions_L0 N x0 x1 x1 (x1.length : Int) (some (0 : Int)) N (0 : Int)))
abbrev ref3_CheckConditions_sg (f : SV [.v (.sl (.pr .str (.sl .str))), .v (.sl (.pr .str (.pr (.sl (.pr .str .str)) (.sl (.pr .str .str)))))] → BV [] → Option (Int)) : AF := { ps := [.v (.sl (.pr .str (.sl .str))), .v (.sl (.pr .str (.pr (.sl (.pr .str .str)) (.sl (.pr .str .str)))))], bs := [], rs := [.v (.int .i64)], cs := [], R := Int, out := fun z => ((z, ()), ()), f := f }
abbrev ref3_CheckConditions_pk : SV [.v (.int .i64)] → BV [] → Int := fun x _ => x.1
def ref3_CheckConditions_fn (N : Nat) : FuncId → Option Tmp → Option AF := fun f _ =>
  match f with
    | 17 => some (ref3_CheckSettings_sg fun x _ => ref3_CheckSettings N x.1)
    | 62 => some (ref3_checkPairs_sg fun x _ => ref3_checkPairs N x.1)
    | 65 => some (ref3_isCondition_sg fun x _ => ref3_isCondition N x.1)
    | 66 => some (ref3_checkNeeds_sg fun x _ => ref3_checkNeeds N x.1 x.2.1)
    | _ => none
theorem ref3_CheckConditions_fn_ok (N : Nat) : ∀ f q F, ref3_CheckConditions_fn N f q = some F → Sound Tryd.prog GW B0G f F := by
  intro f q F h
  unfold ref3_CheckConditions_fn at h
  split at h
  · cases h; exact ref3_CheckSettings_sound N
  · cases h; exact ref3_checkPairs_sound N
  · cases h; exact ref3_isCondition_sound N
  · cases h; exact ref3_checkNeeds_sound N
  · cases h
def ref3_CheckConditions_h : Nat → Hint := fun i =>
  match i with
  | 0 => ⟨[], [0, 1, 18, 19, 20], [], [], []⟩
  | _ => ⟨[], [], [], [], []⟩
abbrev ref3_CheckConditions_E (N : Nat) : Env := mkE ref3_CheckConditions_h (ref3_CheckConditions_fn N) (fun _ => false) (fun _ => false)
abbrev ref3_CheckConditions_L0_fs : List (Nat × Sl) := [(0, .v (.sl (.pr .str (.sl .str)))), (1, .v (.sl (.pr .str (.pr (.sl (.pr .str .str)) (.sl (.pr .str .str)))))), (18, .v (.sl (.pr .str (.pr (.sl (.pr .str .str)) (.sl (.pr .str .str)))))), (19, .v (.int .i64)), (20, .v (.int .i64))]
abbrev ref3_CheckConditions_L0_bs : List (Nat × Sb) := []
def ref3_CheckConditions_L0_hd (x0 : List (Str × List Str)) (x1 : List (Str × List (Str × Str) × List (Str × Str))) (c18 : List (Str × List (Str × Str) × List (Str × Str))) (c19 : Int) (s20 : Int) : St := ⟨66, [(0, .v (.sl (.pr .str (.sl .str))) x0), (1, .v (.sl (.pr .str (.pr (.sl (.pr .str .str)) (.sl (.pr .str .str))))) x1), (18, .v (.sl (.pr .str (.pr (.sl (.pr .str .str)) (.sl (.pr .str .str))))) c18), (19, .v (.int .i64) c19), (20, .v (.int .i64) s20)], []⟩
def ref3_CheckConditions_L0_tl0 (_x0 : List (Str × List Str)) (_x1 : List (Str × List (Str × Str) × List (Str × Str))) (_c18 : List (Str × List (Str × Str) × List (Str × Str))) (_c19 : Int) : St := ⟨66, [], []⟩
def ref3_CheckConditions_L0_G (N : Nat) (x0 : List (Str × List Str)) (x1 : List (Str × List (Str × Str) × List (Str × Str))) (c18 : List (Str × List (Str × Str) × List (Str × Str))) (c19 : Int) (s20 : Int) (k : Ex → St → Option Int) : Option Int :=
  ref3_CheckConditions_L0 N x0 x1 c18 c19 (k (.exit 0) (ref3_CheckConditions_L0_tl0 x0 x1 c18 c19)) N s20
abbrev ref3_CheckConditions_L0_F (N : Nat) : FV ref3_CheckConditions_L0_fs → HV ref3_CheckConditions_L0_bs → (Ex → St → Option Int) → Option Int := fun x _ k => ref3_CheckConditions_L0_G N x.1 x.2.1 x.2.2.1 x.2.2.2.1 x.2.2.2.2.1 k
noncomputable def ref3_CheckConditions_LP (N : Nat) : Nat → Code → St → (Ex → St → Option Int) → Option Int := fun i c =>
  match i with
  | 0 => (LPc 66 ref3_CheckConditions_L0_fs ref3_CheckConditions_L0_bs (ref3_CheckConditions_L0_F N) (fun st k => iter (ref3_CheckConditions_h 0) (exec (ref3_CheckConditions_E N) N c 0) N st k))
  | i => fun st k => iter (ref3_CheckConditions_h i) (exec (ref3_CheckConditions_E N) N c i) N st k
theorem ref3_CheckConditions_L0_step (N : Nat) (x0 : List (Str × List Str)) (x1 : List (Str × List (Str × Str) × List (Str × Str))) (c18 : List (Str × List (Str × Str) × List (Str × Str))) (c19 : Int) (KX : Nat → St → Option Int) (I : St → Option Int) (s20 : Int) :
    execL (ref3_CheckConditions_LP N) (ref3_CheckConditions_E N) (cAt (bodyOf Tryd.f26) [true, true, true, false, true, false, false]) 0 (ref3_CheckConditions_L0_hd x0 x1 c18 c19 s20) (roundK (ref3_CheckConditions_h 0) I KX (resD (ref3_CheckConditions_E N) Tryd.f26 (ref3_CheckConditions_sg fun x _ => ref3_CheckConditions N x.1 x.2.1) ref3_CheckConditions_pk)) = ref3_CheckConditions_L0T N x0 x1 c18 c19 (KX 0 (ref3_CheckConditions_L0_tl0 x0 x1 c18 c19)) (fun s20 => I (ref3_CheckConditions_L0_hd x0 x1 c18 c19 s20)) s20 := by kernel_rfl
theorem ref3_CheckConditions_L0_ok (N : Nat) : ∀ x y k, (∀ st, k .ret st = (resD (ref3_CheckConditions_E N) Tryd.f26 (ref3_CheckConditions_sg fun x _ => ref3_CheckConditions N x.1 x.2.1) ref3_CheckConditions_pk) st) → iter (ref3_CheckConditions_h 0) (exec (ref3_CheckConditions_E N) N (cAt (bodyOf Tryd.f26) [true, true, true, false, true, false, false]) 0) N ⟨66, unF ref3_CheckConditions_L0_fs x, unH ref3_CheckConditions_L0_bs y⟩ k = ref3_CheckConditions_L0_F N x y k := fun x _ k hk =>
  iter_link (S := (Int) × Unit) (ref3_CheckConditions_h 0) _ (execL (ref3_CheckConditions_LP N) (ref3_CheckConditions_E N) (cAt (bodyOf Tryd.f26) [true, true, true, false, true, false, false]) 0) (resD (ref3_CheckConditions_E N) Tryd.f26 (ref3_CheckConditions_sg fun x _ => ref3_CheckConditions N x.1 x.2.1) ref3_CheckConditions_pk) (fun st k hk => execL_eq _ _ N _ (cAt (bodyOf Tryd.f26) [true, true, true, false, true, false, false]) 0 (show LoopsOk (ref3_CheckConditions_LP N) (ref3_CheckConditions_E N) N (resD (ref3_CheckConditions_E N) Tryd.f26 (ref3_CheckConditions_sg fun x _ => ref3_CheckConditions N x.1 x.2.1) ref3_CheckConditions_pk) [] from trivial) st k hk) (fun s => ref3_CheckConditions_L0_hd x.1 x.2.1 x.2.2.1 x.2.2.2.1 s.1) k hk
    (fun self s => ref3_CheckConditions_L0T N x.1 x.2.1 x.2.2.1 x.2.2.2.1 (k (.exit 0) (ref3_CheckConditions_L0_tl0 x.1 x.2.1 x.2.2.1 x.2.2.2.1)) (fun s20 => self (s20, ())) s.1) (fun n s => ref3_CheckConditions_L0 N x.1 x.2.1 x.2.2.1 x.2.2.2.1 (k (.exit 0) (ref3_CheckConditions_L0_tl0 x.1 x.2.1 x.2.2.1 x.2.2.2.1)) n s.1) (fun _ => rfl) (fun _ _ => rfl)
    (fun I s => ref3_CheckConditions_L0_step N x.1 x.2.1 x.2.2.1 x.2.2.2.1 (fun j => k (.exit j)) I s.1) N (x.2.2.2.2.1, ())
theorem ref3_CheckConditions_lp0 (N : Nat) : ∀ st k, (∀ st, k .ret st = (resD (ref3_CheckConditions_E N) Tryd.f26 (ref3_CheckConditions_sg fun x _ => ref3_CheckConditions N x.1 x.2.1) ref3_CheckConditions_pk) st) → ref3_CheckConditions_LP N 0 (cAt (bodyOf Tryd.f26) [true, true, true, false, true, false, false]) st k = iter (Env.hint (ref3_CheckConditions_E N) 0) (exec (ref3_CheckConditions_E N) N (cAt (bodyOf Tryd.f26) [true, true, true, false, true, false, false]) 0) N st k := fun st k hk => LPc_eq 66 ref3_CheckConditions_L0_fs ref3_CheckConditions_L0_bs _ _ (resD (ref3_CheckConditions_E N) Tryd.f26 (ref3_CheckConditions_sg fun x _ => ref3_CheckConditions N x.1 x.2.1) ref3_CheckConditions_pk) (ref3_CheckConditions_L0_ok N) _ st k hk (rfl)
theorem ref3_CheckConditions_core (N : Nat) (x : SV [.v (.sl (.pr .str (.sl .str))), .v (.sl (.pr .str (.pr (.sl (.pr .str .str)) (.sl (.pr .str .str)))))]) (y : BV []) : runL (ref3_CheckConditions_E N) Tryd.f26 (ref3_CheckConditions_sg fun x _ => ref3_CheckConditions N x.1 x.2.1) ref3_CheckConditions_pk (ref3_CheckConditions_LP N) x y = ref3_CheckConditions N x.1 x.2.1 := by kernel_rfl
theorem ref3_CheckConditions_sound (N : Nat) : Sound Tryd.prog GW B0G 26 (ref3_CheckConditions_sg fun x _ => ref3_CheckConditions N x.1 x.2.1) :=
  runD_sound (mkE_ok ref3_CheckConditions_h (ref3_CheckConditions_fn N) _ _ (ref3_CheckConditions_fn_ok N)) Tryd.func26 rfl Tryd.call26 (ref3_CheckConditions_sg fun x _ => ref3_CheckConditions N x.1 x.2.1) ref3_CheckConditions_pk (fun _ _ => rfl) N (fun x y _ h => ((runL_eq (ref3_CheckConditions_E N) N Tryd.f26 (ref3_CheckConditions_sg fun x _ => ref3_CheckConditions N x.1 x.2.1) ref3_CheckConditions_pk (ref3_CheckConditions_LP N) (show LoopsOk (ref3_CheckConditions_LP N) (ref3_CheckConditions_E N) N (resD (ref3_CheckConditions_E N) Tryd.f26 (ref3_CheckConditions_sg fun x _ => ref3_CheckConditions N x.1 x.2.1) ref3_CheckConditions_pk) [(0, (cAt (bodyOf Tryd.f26) [true, true, true, false, true, false, false]))] from ⟨ref3_CheckConditions_lp0 N, trivial⟩) x y).trans (ref3_CheckConditions_core N x y)).trans h)
def ref3_CheckPlatforms_L1T (_N : Nat) (t30 : List (Str × List (Str × Str))) (c31 : Int) (c1004_0 : Str) (k2 : Option Int) (self : Int → Option Int) (s32 : Int) : Option Int :=
  br (decide (s32 < c31))
    (bnd (geti t30 s32) fun t34 =>
    br (t34.1 == c1004_0)
      (some (7 : Int))
      (self (IntKind.i64.wrap (s32 + (1 : Int)))))
    (k2)
def ref3_CheckPlatforms_L1 (N : Nat) (t30 : List (Str × List (Str × Str))) (c31 : Int) (c1004_0 : Str) (k2 : Option Int) : Nat → Int → Option Int
  | 0, _ => none
  | n + 1, s32 => ref3_CheckPlatforms_L1T N t30 c31 c1004_0 k2 (ref3_CheckPlatforms_L1 N t30 c31 c1004_0 k2 n) s32
def ref3_CheckPlatforms_L0T (N : Nat) (x0 : List (Str × List (Str × Str))) (c11 : List (Str × List (Str × Str))) (c12 : Int) (k0 : Option Int) (self : Int → Option Int) (s13 : Int) : Option Int :=
  br (decide (s13 < c12))
    (bnd (geti c11 s13) fun t16 =>
    bnd (ref3_IsWord N t16.1) fun t20 =>
    br (!t20)
      (some (5 : Int))
      (bnd (ref3_checkPairs N t16.2) fun t24 =>
      br (t24 != (0 : Int))
        (some t24)
        (bnd (slc x0 (0 : Int) s13) fun t30 =>
        ref3_CheckPlatforms_L1 N t30 (t30.length : Int) t16.1 (self (IntKind.i64.wrap (s13 + (1 : Int)))) N (0 : Int))))
    (k0)
def ref3_CheckPlatforms_L0 (N : Nat) (x0 : List (Str × List (Str × Str))) (c11 : List (Str × List (Str × Str))) (c12 : Int) (k0 : Option Int) : Nat → Int → Option Int
  | 0, _ => none
  | n + 1, s13 => ref3_CheckPlatforms_L0T N x0 c11 c12 k0 (ref3_CheckPlatforms_L0 N x0 c11 c12 k0 n) s13
def ref3_CheckPlatforms (N : Nat) (x0 : List (Str × List (Str × Str))) : Option Int :=
  br (decide ((x0.length : Int) > (50 : Int)))
    (some (2 : Int))
    (ref3_CheckPlatforms_L0 N x0 x0 (x0.length : Int) (some (0 : Int)) N (0 : Int))
abbrev ref3_CheckPlatforms_sg (f : SV [.v (.sl (.pr .str (.sl (.pr .str .str))))] → BV [] → Option (Int)) : AF := { ps := [.v (.sl (.pr .str (.sl (.pr .str .str))))], bs := [], rs := [.v (.int .i64)], cs := [], R := Int, out := fun z => ((z, ()), ()), f := f }
abbrev ref3_CheckPlatforms_pk : SV [.v (.int .i64)] → BV [] → Int := fun x _ => x.1
def ref3_CheckPlatforms_fn (N : Nat) : FuncId → Option Tmp → Option AF := fun f _ =>
  match f with
    | 55 => some (ref3_IsWord_sg fun x _ => ref3_IsWord N x.1)
    | 62 => some (ref3_checkPairs_sg fun x _ => ref3_checkPairs N x.1)
    | _ => none
theorem ref3_CheckPlatforms_fn_ok (N : Nat) : ∀ f q F, ref3_CheckPlatforms_fn N f q = some F → Sound Tryd.prog GW B0G f F := by
  intro f q F h
  unfold ref3_CheckPlatforms_fn at h
  split at h
  · cases h; exact ref3_IsWord_sound N
  · cases h; exact ref3_checkPairs_sound N
  · cases h
def ref3_CheckPlatforms_h : Nat → Hint := fun i =>
  match i with
  | 0 => ⟨[], [0, 11, 12, 13], [], [], []⟩
  | 2 => ⟨[], [0, 4, 11, 12, 13, 30, 31, 32], [1004], [0, 11, 12, 13], []⟩
  | _ => ⟨[], [], [], [], []⟩
abbrev ref3_CheckPlatforms_E (N : Nat) : Env := mkE ref3_CheckPlatforms_h (ref3_CheckPlatforms_fn N) (fun _ => false) (fun _ => false)
abbrev ref3_CheckPlatforms_L1_fs : List (Nat × Sl) := [(0, .v (.sl (.pr .str (.sl (.pr .str .str))))), (4, .box 1004 0), (11, .v (.sl (.pr .str (.sl (.pr .str .str))))), (12, .v (.int .i64)), (13, .v (.int .i64)), (30, .v (.sl (.pr .str (.sl (.pr .str .str))))), (31, .v (.int .i64)), (32, .v (.int .i64))]
abbrev ref3_CheckPlatforms_L1_bs : List (Nat × Sb) := [(1004, .cells [.v .str, .v (.sl (.pr .str .str))])]
def ref3_CheckPlatforms_L1_hd (x0 : List (Str × List (Str × Str))) (c11 : List (Str × List (Str × Str))) (c12 : Int) (s13 : Int) (t30 : List (Str × List (Str × Str))) (c31 : Int) (c1004_0 : Str) (c1004_1 : List (Str × Str)) (s32 : Int) : St := ⟨43, [(0, .v (.sl (.pr .str (.sl (.pr .str .str)))) x0), (4, .box 1004 0), (11, .v (.sl (.pr .str (.sl (.pr .str .str)))) c11), (12, .v (.int .i64) c12), (13, .v (.int .i64) s13), (30, .v (.sl (.pr .str (.sl (.pr .str .str)))) t30), (31, .v (.int .i64) c31), (32, .v (.int .i64) s32)], [(1004, .cells [.v .str c1004_0, .v (.sl (.pr .str .str)) c1004_1])]⟩
def ref3_CheckPlatforms_L1_tl2 (x0 : List (Str × List (Str × Str))) (c11 : List (Str × List (Str × Str))) (c12 : Int) (s13 : Int) (_t30 : List (Str × List (Str × Str))) (_c31 : Int) (_c1004_0 : Str) (_c1004_1 : List (Str × Str)) : St := ⟨43, [(0, .v (.sl (.pr .str (.sl (.pr .str .str)))) x0), (11, .v (.sl (.pr .str (.sl (.pr .str .str)))) c11), (12, .v (.int .i64) c12), (13, .v (.int .i64) s13)], []⟩
def ref3_CheckPlatforms_L1_G (N : Nat) (x0 : List (Str × List (Str × Str))) (c11 : List (Str × List (Str × Str))) (c12 : Int) (s13 : Int) (t30 : List (Str × List (Str × Str))) (c31 : Int) (c1004_0 : Str) (c1004_1 : List (Str × Str)) (s32 : Int) (k : Ex → St → Option Int) : Option Int :=
  ref3_CheckPlatforms_L1 N t30 c31 c1004_0 (k (.exit 2) (ref3_CheckPlatforms_L1_tl2 x0 c11 c12 s13 t30 c31 c1004_0 c1004_1)) N s32
abbrev ref3_CheckPlatforms_L1_F (N : Nat) : FV ref3_CheckPlatforms_L1_fs → HV ref3_CheckPlatforms_L1_bs → (Ex → St → Option Int) → Option Int := fun x y k => ref3_CheckPlatforms_L1_G N x.1 x.2.2.1 x.2.2.2.1 x.2.2.2.2.1 x.2.2.2.2.2.1 x.2.2.2.2.2.2.1 y.1.1 y.1.2.1 x.2.2.2.2.2.2.2.1 k
abbrev ref3_CheckPlatforms_L0_fs : List (Nat × Sl) := [(0, .v (.sl (.pr .str (.sl (.pr .str .str))))), (11, .v (.sl (.pr .str (.sl (.pr .str .str))))), (12, .v (.int .i64)), (13, .v (.int .i64))]
abbrev ref3_CheckPlatforms_L0_bs : List (Nat × Sb) := []
def ref3_CheckPlatforms_L0_hd (x0 : List (Str × List (Str × Str))) (c11 : List (Str × List (Str × Str))) (c12 : Int) (s13 : Int) : St := ⟨43, [(0, .v (.sl (.pr .str (.sl (.pr .str .str)))) x0), (11, .v (.sl (.pr .str (.sl (.pr .str .str)))) c11), (12, .v (.int .i64) c12), (13, .v (.int .i64) s13)], []⟩
def ref3_CheckPlatforms_L0_tl0 (_x0 : List (Str × List (Str × Str))) (_c11 : List (Str × List (Str × Str))) (_c12 : Int) : St := ⟨43, [], []⟩
def ref3_CheckPlatforms_L0_G (N : Nat) (x0 : List (Str × List (Str × Str))) (c11 : List (Str × List (Str × Str))) (c12 : Int) (s13 : Int) (k : Ex → St → Option Int) : Option Int :=
  ref3_CheckPlatforms_L0 N x0 c11 c12 (k (.exit 0) (ref3_CheckPlatforms_L0_tl0 x0 c11 c12)) N s13
abbrev ref3_CheckPlatforms_L0_F (N : Nat) : FV ref3_CheckPlatforms_L0_fs → HV ref3_CheckPlatforms_L0_bs → (Ex → St → Option Int) → Option Int := fun x _ k => ref3_CheckPlatforms_L0_G N x.1 x.2.1 x.2.2.1 x.2.2.2.1 k
noncomputable def ref3_CheckPlatforms_LP (N : Nat) : Nat → Code → St → (Ex → St → Option Int) → Option Int := fun i c =>
  match i with
  | 0 => (LPc 43 ref3_CheckPlatforms_L0_fs ref3_CheckPlatforms_L0_bs (ref3_CheckPlatforms_L0_F N) (fun st k => iter (ref3_CheckPlatforms_h 0) (exec (ref3_CheckPlatforms_E N) N c 0) N st k))
  | 2 => (LPc 43 ref3_CheckPlatforms_L1_fs ref3_CheckPlatforms_L1_bs (ref3_CheckPlatforms_L1_F N) (fun st k => iter (ref3_CheckPlatforms_h 2) (exec (ref3_CheckPlatforms_E N) N c 2) N st k))
  | i => fun st k => iter (ref3_CheckPlatforms_h i) (exec (ref3_CheckPlatforms_E N) N c i) N st k
theorem ref3_CheckPlatforms_L1_step (N : Nat) (x0 : List (Str × List (Str × Str))) (c11 : List (Str × List (Str × Str))) (c12 : Int) (s13 : Int) (t30 : List (Str × List (Str × Str))) (c31 : Int) (c1004_0 : Str) (c1004_1 : List (Str × Str)) (KX : Nat → St → Option Int) (I : St → Option Int) (s32 : Int) :
    execL (ref3_CheckPlatforms_LP N) (ref3_CheckPlatforms_E N) (cAt (bodyOf Tryd.f24) [true, true, false, true, false, false, true, true, false, false, true, true, true, true, false, false]) 2 (ref3_CheckPlatforms_L1_hd x0 c11 c12 s13 t30 c31 c1004_0 c1004_1 s32) (roundK (ref3_CheckPlatforms_h 2) I KX (resD (ref3_CheckPlatforms_E N) Tryd.f24 (ref3_CheckPlatforms_sg fun x _ => ref3_CheckPlatforms N x.1) ref3_CheckPlatforms_pk)) = ref3_CheckPlatforms_L1T N t30 c31 c1004_0 (KX 2 (ref3_CheckPlatforms_L1_tl2 x0 c11 c12 s13 t30 c31 c1004_0 c1004_1)) (fun s32 => I (ref3_CheckPlatforms_L1_hd x0 c11 c12 s13 t30 c31 c1004_0 c1004_1 s32)) s32 := by kernel_rfl
theorem ref3_CheckPlatforms_L1_ok (N : Nat) : ∀ x y k, (∀ st, k .ret st = (resD (ref3_CheckPlatforms_E N) Tryd.f24 (ref3_CheckPlatforms_sg fun x _ => ref3_CheckPlatforms N x.1) ref3_CheckPlatforms_pk) st) → iter (ref3_CheckPlatforms_h 2) (exec (ref3_CheckPlatforms_E N) N (cAt (bodyOf Tryd.f24) [true, true, false, true, false, false, true, true, false, false, true, true, true, true, false, false]) 2) N ⟨43, unF ref3_CheckPlatforms_L1_fs x, unH ref3_CheckPlatforms_L1_bs y⟩ k = ref3_CheckPlatforms_L1_F N x y k := fun x y k hk =>
  iter_link (S := (Int) × Unit) (ref3_CheckPlatforms_h 2) _ (execL (ref3_CheckPlatforms_LP N) (ref3_CheckPlatforms_E N) (cAt (bodyOf Tryd.f24) [true, true, false, true, false, false, true, true, false, false, true, true, true, true, false, false]) 2) (resD (ref3_CheckPlatforms_E N) Tryd.f24 (ref3_CheckPlatforms_sg fun x _ => ref3_CheckPlatforms N x.1) ref3_CheckPlatforms_pk) (fun st k hk => execL_eq _ _ N _ (cAt (bodyOf Tryd.f24) [true, true, false, true, false, false, true, true, false, false, true, true, true, true, false, false]) 2 (show LoopsOk (ref3_CheckPlatforms_LP N) (ref3_CheckPlatforms_E N) N (resD (ref3_CheckPlatforms_E N) Tryd.f24 (ref3_CheckPlatforms_sg fun x _ => ref3_CheckPlatforms N x.1) ref3_CheckPlatforms_pk) [] from trivial) st k hk) (fun s => ref3_CheckPlatforms_L1_hd x.1 x.2.2.1 x.2.2.2.1 x.2.2.2.2.1 x.2.2.2.2.2.1 x.2.2.2.2.2.2.1 y.1.1 y.1.2.1 s.1) k hk
    (fun self s => ref3_CheckPlatforms_L1T N x.2.2.2.2.2.1 x.2.2.2.2.2.2.1 y.1.1 (k (.exit 2) (ref3_CheckPlatforms_L1_tl2 x.1 x.2.2.1 x.2.2.2.1 x.2.2.2.2.1 x.2.2.2.2.2.1 x.2.2.2.2.2.2.1 y.1.1 y.1.2.1)) (fun s32 => self (s32, ())) s.1) (fun n s => ref3_CheckPlatforms_L1 N x.2.2.2.2.2.1 x.2.2.2.2.2.2.1 y.1.1 (k (.exit 2) (ref3_CheckPlatforms_L1_tl2 x.1 x.2.2.1 x.2.2.2.1 x.2.2.2.2.1 x.2.2.2.2.2.1 x.2.2.2.2.2.2.1 y.1.1 y.1.2.1)) n s.1) (fun _ => rfl) (fun _ _ => rfl)
    (fun I s => ref3_CheckPlatforms_L1_step N x.1 x.2.2.1 x.2.2.2.1 x.2.2.2.2.1 x.2.2.2.2.2.1 x.2.2.2.2.2.2.1 y.1.1 y.1.2.1 (fun j => k (.exit j)) I s.1) N (x.2.2.2.2.2.2.2.1, ())
theorem ref3_CheckPlatforms_lp2 (N : Nat) : ∀ st k, (∀ st, k .ret st = (resD (ref3_CheckPlatforms_E N) Tryd.f24 (ref3_CheckPlatforms_sg fun x _ => ref3_CheckPlatforms N x.1) ref3_CheckPlatforms_pk) st) → ref3_CheckPlatforms_LP N 2 (cAt (bodyOf Tryd.f24) [true, true, false, true, false, false, true, true, false, false, true, true, true, true, false, false]) st k = iter (Env.hint (ref3_CheckPlatforms_E N) 2) (exec (ref3_CheckPlatforms_E N) N (cAt (bodyOf Tryd.f24) [true, true, false, true, false, false, true, true, false, false, true, true, true, true, false, false]) 2) N st k := fun st k hk => LPc_eq 43 ref3_CheckPlatforms_L1_fs ref3_CheckPlatforms_L1_bs _ _ (resD (ref3_CheckPlatforms_E N) Tryd.f24 (ref3_CheckPlatforms_sg fun x _ => ref3_CheckPlatforms N x.1) ref3_CheckPlatforms_pk) (ref3_CheckPlatforms_L1_ok N) _ st k hk (rfl)
theorem ref3_CheckPlatforms_L0_step (N : Nat) (x0 : List (Str × List (Str × Str))) (c11 : List (Str × List (Str × Str))) (c12 : Int) (KX : Nat → St → Option Int) (I : St → Option Int) (s13 : Int) :
    execL (ref3_CheckPlatforms_LP N) (ref3_CheckPlatforms_E N) (cAt (bodyOf Tryd.f24) [true, true, false, true, false, false]) 0 (ref3_CheckPlatforms_L0_hd x0 c11 c12 s13) (roundK (ref3_CheckPlatforms_h 0) I KX (resD (ref3_CheckPlatforms_E N) Tryd.f24 (ref3_CheckPlatforms_sg fun x _ => ref3_CheckPlatforms N x.1) ref3_CheckPlatforms_pk)) = ref3_CheckPlatforms_L0T N x0 c11 c12 (KX 0 (ref3_CheckPlatforms_L0_tl0 x0 c11 c12)) (fun s13 => I (ref3_CheckPlatforms_L0_hd x0 c11 c12 s13)) s13 := by kernel_rfl
theorem ref3_CheckPlatforms_L0_ok (N : Nat) : ∀ x y k, (∀ st, k .ret st = (resD (ref3_CheckPlatforms_E N) Tryd.f24 (ref3_CheckPlatforms_sg fun x _ => ref3_CheckPlatforms N x.1) ref3_CheckPlatforms_pk) st) → iter (ref3_CheckPlatforms_h 0) (exec (ref3_CheckPlatforms_E N) N (cAt (bodyOf Tryd.f24) [true, true, false, true, false, false]) 0) N ⟨43, unF ref3_CheckPlatforms_L0_fs x, unH ref3_CheckPlatforms_L0_bs y⟩ k = ref3_CheckPlatforms_L0_F N x y k := fun x _ k hk =>
  iter_link (S := (Int) × Unit) (ref3_CheckPlatforms_h 0) _ (execL (ref3_CheckPlatforms_LP N) (ref3_CheckPlatforms_E N) (cAt (bodyOf Tryd.f24) [true, true, false, true, false, false]) 0) (resD (ref3_CheckPlatforms_E N) Tryd.f24 (ref3_CheckPlatforms_sg fun x _ => ref3_CheckPlatforms N x.1) ref3_CheckPlatforms_pk) (fun st k hk => execL_eq _ _ N _ (cAt (bodyOf Tryd.f24) [true, true, false, true, false, false]) 0 (show LoopsOk (ref3_CheckPlatforms_LP N) (ref3_CheckPlatforms_E N) N (resD (ref3_CheckPlatforms_E N) Tryd.f24 (ref3_CheckPlatforms_sg fun x _ => ref3_CheckPlatforms N x.1) ref3_CheckPlatforms_pk) [(2, (cAt (bodyOf Tryd.f24) [true, true, false, true, false, false, true, true, false, false, true, true, true, true, false, false]))] from ⟨ref3_CheckPlatforms_lp2 N, trivial⟩) st k hk) (fun s => ref3_CheckPlatforms_L0_hd x.1 x.2.1 x.2.2.1 s.1) k hk
    (fun self s => ref3_CheckPlatforms_L0T N x.1 x.2.1 x.2.2.1 (k (.exit 0) (ref3_CheckPlatforms_L0_tl0 x.1 x.2.1 x.2.2.1)) (fun s13 => self (s13, ())) s.1) (fun n s => ref3_CheckPlatforms_L0 N x.1 x.2.1 x.2.2.1 (k (.exit 0) (ref3_CheckPlatforms_L0_tl0 x.1 x.2.1 x.2.2.1)) n s.1) (fun _ => rfl) (fun _ _ => rfl)
    (fun I s => ref3_CheckPlatforms_L0_step N x.1 x.2.1 x.2.2.1 (fun j => k (.exit j)) I s.1) N (x.2.2.2.1, ())
theorem ref3_CheckPlatforms_lp0 (N : Nat) : ∀ st k, (∀ st, k .ret st = (resD (ref3_CheckPlatforms_E N) Tryd.f24 (ref3_CheckPlatforms_sg fun x _ => ref3_CheckPlatforms N x.1) ref3_CheckPlatforms_pk) st) → ref3_CheckPlatforms_LP N 0 (cAt (bodyOf Tryd.f24) [true, true, false, true, false, false]) st k = iter (Env.hint (ref3_CheckPlatforms_E N) 0) (exec (ref3_CheckPlatforms_E N) N (cAt (bodyOf Tryd.f24) [true, true, false, true, false, false]) 0) N st k := fun st k hk => LPc_eq 43 ref3_CheckPlatforms_L0_fs ref3_CheckPlatforms_L0_bs _ _ (resD (ref3_CheckPlatforms_E N) Tryd.f24 (ref3_CheckPlatforms_sg fun x _ => ref3_CheckPlatforms N x.1) ref3_CheckPlatforms_pk) (ref3_CheckPlatforms_L0_ok N) _ st k hk (rfl)
theorem ref3_CheckPlatforms_core (N : Nat) (x : SV [.v (.sl (.pr .str (.sl (.pr .str .str))))]) (y : BV []) : runL (ref3_CheckPlatforms_E N) Tryd.f24 (ref3_CheckPlatforms_sg fun x _ => ref3_CheckPlatforms N x.1) ref3_CheckPlatforms_pk (ref3_CheckPlatforms_LP N) x y = ref3_CheckPlatforms N x.1 := by kernel_rfl
theorem ref3_CheckPlatforms_sound (N : Nat) : Sound Tryd.prog GW B0G 24 (ref3_CheckPlatforms_sg fun x _ => ref3_CheckPlatforms N x.1) :=
  runD_sound (mkE_ok ref3_CheckPlatforms_h (ref3_CheckPlatforms_fn N) _ _ (ref3_CheckPlatforms_fn_ok N)) Tryd.func24 rfl Tryd.call24 (ref3_CheckPlatforms_sg fun x _ => ref3_CheckPlatforms N x.1) ref3_CheckPlatforms_pk (fun _ _ => rfl) N (fun x y _ h => ((runL_eq (ref3_CheckPlatforms_E N) N Tryd.f24 (ref3_CheckPlatforms_sg fun x _ => ref3_CheckPlatforms N x.1) ref3_CheckPlatforms_pk (ref3_CheckPlatforms_LP N) (show LoopsOk (ref3_CheckPlatforms_LP N) (ref3_CheckPlatforms_E N) N (resD (ref3_CheckPlatforms_E N) Tryd.f24 (ref3_CheckPlatforms_sg fun x _ => ref3_CheckPlatforms N x.1) ref3_CheckPlatforms_pk) [(0, (cAt (bodyOf Tryd.f24) [true, true, false, true, false, false])), (2, (cAt (bodyOf Tryd.f24) [true, true, false, true, false, false, true, true, false, false, true, true, true, true, false, false]))] from ⟨ref3_CheckPlatforms_lp0 N, ref3_CheckPlatforms_lp2 N, trivial⟩) x y).trans (ref3_CheckPlatforms_core N x y)).trans h)
def ref3_fits_L0T (N : Nat) (x0 : List (Str × Str)) (c8 : Int) (c1003_1 : List (Str × Str)) (k0 : Option Bool) (self : Int → Option Bool) (s9 : Int) : Option Bool :=
  br (decide (s9 < c8))
    (bnd (geti x0 s9) fun t11 =>
    bnd (slices_Contains_api_Pair N c1003_1 t11) fun t16 =>
    br (!t16)
      (some false)
      (self (IntKind.i64.wrap (s9 + (1 : Int)))))
    (k0)
def ref3_fits_L0 (N : Nat) (x0 : List (Str × Str)) (c8 : Int) (c1003_1 : List (Str × Str)) (k0 : Option Bool) : Nat → Int → Option Bool
  | 0, _ => none
  | n + 1, s9 => ref3_fits_L0T N x0 c8 c1003_1 k0 (ref3_fits_L0 N x0 c8 c1003_1 k0 n) s9
def ref3_fits (N : Nat) (x0 : List (Str × Str)) (x1 : Str × List (Str × Str)) : Option Bool :=
  ref3_fits_L0 N x0 (x0.length : Int) x1.2 (some true) N (0 : Int)
abbrev ref3_fits_sg (f : SV [.v (.sl (.pr .str .str)), .v (.pr .str (.sl (.pr .str .str)))] → BV [] → Option (Bool)) : AF := { ps := [.v (.sl (.pr .str .str)), .v (.pr .str (.sl (.pr .str .str)))], bs := [], rs := [.v .bool], cs := [], R := Bool, out := fun z => ((z, ()), ()), f := f }
abbrev ref3_fits_pk : SV [.v .bool] → BV [] → Bool := fun x _ => x.1
def ref3_fits_fn (N : Nat) : FuncId → Option Tmp → Option AF := fun f _ =>
  match f with
    | 133 => some (slices_Contains_api_Pair_sg fun x _ => slices_Contains_api_Pair N x.1 x.2.1)
    | _ => none
theorem ref3_fits_fn_ok (N : Nat) : ∀ f q F, ref3_fits_fn N f q = some F → Sound Tryd.prog GW B0G f F := by
  intro f q F h
  unfold ref3_fits_fn at h
  split at h
  · cases h; exact slices_Contains_api_Pair_sound N
  · cases h
def ref3_fits_h : Nat → Hint := fun i =>
  match i with
  | 0 => ⟨[], [3, 7, 8, 9], [1003], [], []⟩
  | _ => ⟨[], [], [], [], []⟩
abbrev ref3_fits_E (N : Nat) : Env := mkE ref3_fits_h (ref3_fits_fn N) (fun _ => false) (fun _ => false)
abbrev ref3_fits_L0_fs : List (Nat × Sl) := [(3, .box 1003 0), (7, .v (.sl (.pr .str .str))), (8, .v (.int .i64)), (9, .v (.int .i64))]
abbrev ref3_fits_L0_bs : List (Nat × Sb) := [(1003, .cells [.v .str, .v (.sl (.pr .str .str))])]
def ref3_fits_L0_hd (x0 : List (Str × Str)) (c8 : Int) (c1003_0 : Str) (c1003_1 : List (Str × Str)) (s9 : Int) : St := ⟨19, [(3, .box 1003 0), (7, .v (.sl (.pr .str .str)) x0), (8, .v (.int .i64) c8), (9, .v (.int .i64) s9)], [(1003, .cells [.v .str c1003_0, .v (.sl (.pr .str .str)) c1003_1])]⟩
def ref3_fits_L0_tl0 (_x0 : List (Str × Str)) (_c8 : Int) (_c1003_0 : Str) (_c1003_1 : List (Str × Str)) : St := ⟨19, [], []⟩
def ref3_fits_L0_G (N : Nat) (x0 : List (Str × Str)) (c8 : Int) (c1003_0 : Str) (c1003_1 : List (Str × Str)) (s9 : Int) (k : Ex → St → Option Bool) : Option Bool :=
  ref3_fits_L0 N x0 c8 c1003_1 (k (.exit 0) (ref3_fits_L0_tl0 x0 c8 c1003_0 c1003_1)) N s9
abbrev ref3_fits_L0_F (N : Nat) : FV ref3_fits_L0_fs → HV ref3_fits_L0_bs → (Ex → St → Option Bool) → Option Bool := fun x y k => ref3_fits_L0_G N x.2.1 x.2.2.1 y.1.1 y.1.2.1 x.2.2.2.1 k
noncomputable def ref3_fits_LP (N : Nat) : Nat → Code → St → (Ex → St → Option Bool) → Option Bool := fun i c =>
  match i with
  | 0 => (LPc 19 ref3_fits_L0_fs ref3_fits_L0_bs (ref3_fits_L0_F N) (fun st k => iter (ref3_fits_h 0) (exec (ref3_fits_E N) N c 0) N st k))
  | i => fun st k => iter (ref3_fits_h i) (exec (ref3_fits_E N) N c i) N st k
theorem ref3_fits_L0_step (N : Nat) (x0 : List (Str × Str)) (c8 : Int) (c1003_0 : Str) (c1003_1 : List (Str × Str)) (KX : Nat → St → Option Bool) (I : St → Option Bool) (s9 : Int) :
    execL (ref3_fits_LP N) (ref3_fits_E N) (cAt (bodyOf Tryd.f96) [true, false, true, false, false]) 0 (ref3_fits_L0_hd x0 c8 c1003_0 c1003_1 s9) (roundK (ref3_fits_h 0) I KX (resD (ref3_fits_E N) Tryd.f96 (ref3_fits_sg fun x _ => ref3_fits N x.1 x.2.1) ref3_fits_pk)) = ref3_fits_L0T N x0 c8 c1003_1 (KX 0 (ref3_fits_L0_tl0 x0 c8 c1003_0 c1003_1)) (fun s9 => I (ref3_fits_L0_hd x0 c8 c1003_0 c1003_1 s9)) s9 := by kernel_rfl
theorem ref3_fits_L0_ok (N : Nat) : ∀ x y k, (∀ st, k .ret st = (resD (ref3_fits_E N) Tryd.f96 (ref3_fits_sg fun x _ => ref3_fits N x.1 x.2.1) ref3_fits_pk) st) → iter (ref3_fits_h 0) (exec (ref3_fits_E N) N (cAt (bodyOf Tryd.f96) [true, false, true, false, false]) 0) N ⟨19, unF ref3_fits_L0_fs x, unH ref3_fits_L0_bs y⟩ k = ref3_fits_L0_F N x y k := fun x y k hk =>
  iter_link (S := (Int) × Unit) (ref3_fits_h 0) _ (execL (ref3_fits_LP N) (ref3_fits_E N) (cAt (bodyOf Tryd.f96) [true, false, true, false, false]) 0) (resD (ref3_fits_E N) Tryd.f96 (ref3_fits_sg fun x _ => ref3_fits N x.1 x.2.1) ref3_fits_pk) (fun st k hk => execL_eq _ _ N _ (cAt (bodyOf Tryd.f96) [true, false, true, false, false]) 0 (show LoopsOk (ref3_fits_LP N) (ref3_fits_E N) N (resD (ref3_fits_E N) Tryd.f96 (ref3_fits_sg fun x _ => ref3_fits N x.1 x.2.1) ref3_fits_pk) [] from trivial) st k hk) (fun s => ref3_fits_L0_hd x.2.1 x.2.2.1 y.1.1 y.1.2.1 s.1) k hk
    (fun self s => ref3_fits_L0T N x.2.1 x.2.2.1 y.1.2.1 (k (.exit 0) (ref3_fits_L0_tl0 x.2.1 x.2.2.1 y.1.1 y.1.2.1)) (fun s9 => self (s9, ())) s.1) (fun n s => ref3_fits_L0 N x.2.1 x.2.2.1 y.1.2.1 (k (.exit 0) (ref3_fits_L0_tl0 x.2.1 x.2.2.1 y.1.1 y.1.2.1)) n s.1) (fun _ => rfl) (fun _ _ => rfl)
    (fun I s => ref3_fits_L0_step N x.2.1 x.2.2.1 y.1.1 y.1.2.1 (fun j => k (.exit j)) I s.1) N (x.2.2.2.1, ())
theorem ref3_fits_lp0 (N : Nat) : ∀ st k, (∀ st, k .ret st = (resD (ref3_fits_E N) Tryd.f96 (ref3_fits_sg fun x _ => ref3_fits N x.1 x.2.1) ref3_fits_pk) st) → ref3_fits_LP N 0 (cAt (bodyOf Tryd.f96) [true, false, true, false, false]) st k = iter (Env.hint (ref3_fits_E N) 0) (exec (ref3_fits_E N) N (cAt (bodyOf Tryd.f96) [true, false, true, false, false]) 0) N st k := fun st k hk => LPc_eq 19 ref3_fits_L0_fs ref3_fits_L0_bs _ _ (resD (ref3_fits_E N) Tryd.f96 (ref3_fits_sg fun x _ => ref3_fits N x.1 x.2.1) ref3_fits_pk) (ref3_fits_L0_ok N) _ st k hk (rfl)
theorem ref3_fits_core (N : Nat) (x : SV [.v (.sl (.pr .str .str)), .v (.pr .str (.sl (.pr .str .str)))]) (y : BV []) : runL (ref3_fits_E N) Tryd.f96 (ref3_fits_sg fun x _ => ref3_fits N x.1 x.2.1) ref3_fits_pk (ref3_fits_LP N) x y = ref3_fits N x.1 x.2.1 := by kernel_rfl
theorem ref3_fits_sound (N : Nat) : Sound Tryd.prog GW B0G 96 (ref3_fits_sg fun x _ => ref3_fits N x.1 x.2.1) :=
  runD_sound (mkE_ok ref3_fits_h (ref3_fits_fn N) _ _ (ref3_fits_fn_ok N)) Tryd.func96 rfl Tryd.call96 (ref3_fits_sg fun x _ => ref3_fits N x.1 x.2.1) ref3_fits_pk (fun _ _ => rfl) N (fun x y _ h => ((runL_eq (ref3_fits_E N) N Tryd.f96 (ref3_fits_sg fun x _ => ref3_fits N x.1 x.2.1) ref3_fits_pk (ref3_fits_LP N) (show LoopsOk (ref3_fits_LP N) (ref3_fits_E N) N (resD (ref3_fits_E N) Tryd.f96 (ref3_fits_sg fun x _ => ref3_fits N x.1 x.2.1) ref3_fits_pk) [(0, (cAt (bodyOf Tryd.f96) [true, false, true, false, false]))] from ⟨ref3_fits_lp0 N, trivial⟩) x y).trans (ref3_fits_core N x y)).trans h)
def ref3_holds_L0T (N : Nat) (x0 : List (Str × List Str)) (x2 : List (Str × Str)) (c12 : List (Str × Str)) (c13 : Int) (k0 : Option Bool) (self : Int → Option Bool) (s14 : Int) : Option Bool :=
  br (decide (s14 < c13))
    (bnd (geti c12 s14) fun t16 =>
    bnd (ref3_valueOf N x0 x2 t16.1) fun t22 =>
    br (!(t22 == t16.2))
      (some false)
      (self (IntKind.i64.wrap (s14 + (1 : Int)))))
    (k0)
def ref3_holds_L0 (N : Nat) (x0 : List (Str × List Str)) (x2 : List (Str × Str)) (c12 : List (Str × Str)) (c13 : Int) (k0 : Option Bool) : Nat → Int → Option Bool
  | 0, _ => none
  | n + 1, s14 => ref3_holds_L0T N x0 x2 c12 c13 k0 (ref3_holds_L0 N x0 x2 c12 c13 k0 n) s14
def ref3_holds (N : Nat) (x0 : List (Str × List Str)) (x1 : Str × List (Str × Str) × List (Str × Str)) (x2 : List (Str × Str)) (x3 : Str × List (Str × Str)) : Option Bool :=
  ref3_holds_L0 N x0 x2 x1.2.1 (x1.2.1.length : Int) (bnd (ref3_fits N x1.2.2 x3) fun t30 =>
      some t30) N (0 : Int)
abbrev ref3_holds_sg (f : SV [.v (.sl (.pr .str (.sl .str))), .v (.pr .str (.pr (.sl (.pr .str .str)) (.sl (.pr .str .str)))), .v (.sl (.pr .str .str)), .v (.pr .str (.sl (.pr .str .str)))] → BV [] → Option (Bool)) : AF := { ps := [.v (.sl (.pr .str (.sl .str))), .v (.pr .str (.pr (.sl (.pr .str .str)) (.sl (.pr .str .str)))), .v (.sl (.pr .str .str)), .v (.pr .str (.sl (.pr .str .str)))], bs := [], rs := [.v .bool], cs := [], R := Bool, out := fun z => ((z, ()), ()), f := f }
abbrev ref3_holds_pk : SV [.v .bool] → BV [] → Bool := fun x _ => x.1
def ref3_holds_fn (N : Nat) : FuncId → Option Tmp → Option AF := fun f _ =>
  match f with
    | 52 => some (ref3_valueOf_sg fun x _ => ref3_valueOf N x.1 x.2.1 x.2.2.1)
    | 96 => some (ref3_fits_sg fun x _ => ref3_fits N x.1 x.2.1)
    | _ => none
theorem ref3_holds_fn_ok (N : Nat) : ∀ f q F, ref3_holds_fn N f q = some F → Sound Tryd.prog GW B0G f F := by
  intro f q F h
  unfold ref3_holds_fn at h
  split at h
  · cases h; exact ref3_valueOf_sound N
  · cases h; exact ref3_fits_sound N
  · cases h
def ref3_holds_h : Nat → Hint := fun i =>
  match i with
  | 0 => ⟨[], [0, 2, 5, 7, 12, 13, 14], [1005, 1007], [5, 7], [1005, 1007]⟩
  | _ => ⟨[], [], [], [], []⟩
abbrev ref3_holds_E (N : Nat) : Env := mkE ref3_holds_h (ref3_holds_fn N) (fun _ => false) (fun _ => false)
abbrev ref3_holds_L0_fs : List (Nat × Sl) := [(0, .v (.sl (.pr .str (.sl .str)))), (2, .v (.sl (.pr .str .str))), (5, .box 1005 0), (7, .box 1007 0), (12, .v (.sl (.pr .str .str))), (13, .v (.int .i64)), (14, .v (.int .i64))]
abbrev ref3_holds_L0_bs : List (Nat × Sb) := [(1005, .cells [.v .str, .v (.sl (.pr .str .str)), .v (.sl (.pr .str .str))]), (1007, .cells [.v .str, .v (.sl (.pr .str .str))])]
def ref3_holds_L0_hd (x0 : List (Str × List Str)) (x2 : List (Str × Str)) (c12 : List (Str × Str)) (c13 : Int) (c1005_0 : Str) (c1005_1 : List (Str × Str)) (c1005_2 : List (Str × Str)) (c1007_0 : Str) (c1007_1 : List (Str × Str)) (s14 : Int) : St := ⟨31, [(0, .v (.sl (.pr .str (.sl .str))) x0), (2, .v (.sl (.pr .str .str)) x2), (5, .box 1005 0), (7, .box 1007 0), (12, .v (.sl (.pr .str .str)) c12), (13, .v (.int .i64) c13), (14, .v (.int .i64) s14)], [(1005, .cells [.v .str c1005_0, .v (.sl (.pr .str .str)) c1005_1, .v (.sl (.pr .str .str)) c1005_2]), (1007, .cells [.v .str c1007_0, .v (.sl (.pr .str .str)) c1007_1])]⟩
def ref3_holds_L0_tl0 (_x0 : List (Str × List Str)) (_x2 : List (Str × Str)) (_c12 : List (Str × Str)) (_c13 : Int) (c1005_0 : Str) (c1005_1 : List (Str × Str)) (c1005_2 : List (Str × Str)) (c1007_0 : Str) (c1007_1 : List (Str × Str)) : St := ⟨31, [(5, .box 1005 0), (7, .box 1007 0)], [(1005, .cells [.v .str c1005_0, .v (.sl (.pr .str .str)) c1005_1, .v (.sl (.pr .str .str)) c1005_2]), (1007, .cells [.v .str c1007_0, .v (.sl (.pr .str .str)) c1007_1])]⟩
def ref3_holds_L0_G (N : Nat) (x0 : List (Str × List Str)) (x2 : List (Str × Str)) (c12 : List (Str × Str)) (c13 : Int) (c1005_0 : Str) (c1005_1 : List (Str × Str)) (c1005_2 : List (Str × Str)) (c1007_0 : Str) (c1007_1 : List (Str × Str)) (s14 : Int) (k : Ex → St → Option Bool) : Option Bool :=
  ref3_holds_L0 N x0 x2 c12 c13 (k (.exit 0) (ref3_holds_L0_tl0 x0 x2 c12 c13 c1005_0 c1005_1 c1005_2 c1007_0 c1007_1)) N s14
abbrev ref3_holds_L0_F (N : Nat) : FV ref3_holds_L0_fs → HV ref3_holds_L0_bs → (Ex → St → Option Bool) → Option Bool := fun x y k => ref3_holds_L0_G N x.1 x.2.1 x.2.2.2.2.1 x.2.2.2.2.2.1 y.1.1 y.1.2.1 y.1.2.2.1 y.2.1.1 y.2.1.2.1 x.2.2.2.2.2.2.1 k
noncomputable def ref3_holds_LP (N : Nat) : Nat → Code → St → (Ex → St → Option Bool) → Option Bool := fun i c =>
  match i with
  | 0 => (LPc 31 ref3_holds_L0_fs ref3_holds_L0_bs (ref3_holds_L0_F N) (fun st k => iter (ref3_holds_h 0) (exec (ref3_holds_E N) N c 0) N st k))
  | i => fun st k => iter (ref3_holds_h i) (exec (ref3_holds_E N) N c i) N st k
theorem ref3_holds_L0_step (N : Nat) (x0 : List (Str × List Str)) (x2 : List (Str × Str)) (c12 : List (Str × Str)) (c13 : Int) (c1005_0 : Str) (c1005_1 : List (Str × Str)) (c1005_2 : List (Str × Str)) (c1007_0 : Str) (c1007_1 : List (Str × Str)) (KX : Nat → St → Option Bool) (I : St → Option Bool) (s14 : Int) :
    execL (ref3_holds_LP N) (ref3_holds_E N) (cAt (bodyOf Tryd.f58) [true, false, true, false, false]) 0 (ref3_holds_L0_hd x0 x2 c12 c13 c1005_0 c1005_1 c1005_2 c1007_0 c1007_1 s14) (roundK (ref3_holds_h 0) I KX (resD (ref3_holds_E N) Tryd.f58 (ref3_holds_sg fun x _ => ref3_holds N x.1 x.2.1 x.2.2.1 x.2.2.2.1) ref3_holds_pk)) = ref3_holds_L0T N x0 x2 c12 c13 (KX 0 (ref3_holds_L0_tl0 x0 x2 c12 c13 c1005_0 c1005_1 c1005_2 c1007_0 c1007_1)) (fun s14 => I (ref3_holds_L0_hd x0 x2 c12 c13 c1005_0 c1005_1 c1005_2 c1007_0 c1007_1 s14)) s14 := by kernel_rfl
theorem ref3_holds_L0_ok (N : Nat) : ∀ x y k, (∀ st, k .ret st = (resD (ref3_holds_E N) Tryd.f58 (ref3_holds_sg fun x _ => ref3_holds N x.1 x.2.1 x.2.2.1 x.2.2.2.1) ref3_holds_pk) st) → iter (ref3_holds_h 0) (exec (ref3_holds_E N) N (cAt (bodyOf Tryd.f58) [true, false, true, false, false]) 0) N ⟨31, unF ref3_holds_L0_fs x, unH ref3_holds_L0_bs y⟩ k = ref3_holds_L0_F N x y k := fun x y k hk =>
  iter_link (S := (Int) × Unit) (ref3_holds_h 0) _ (execL (ref3_holds_LP N) (ref3_holds_E N) (cAt (bodyOf Tryd.f58) [true, false, true, false, false]) 0) (resD (ref3_holds_E N) Tryd.f58 (ref3_holds_sg fun x _ => ref3_holds N x.1 x.2.1 x.2.2.1 x.2.2.2.1) ref3_holds_pk) (fun st k hk => execL_eq _ _ N _ (cAt (bodyOf Tryd.f58) [true, false, true, false, false]) 0 (show LoopsOk (ref3_holds_LP N) (ref3_holds_E N) N (resD (ref3_holds_E N) Tryd.f58 (ref3_holds_sg fun x _ => ref3_holds N x.1 x.2.1 x.2.2.1 x.2.2.2.1) ref3_holds_pk) [] from trivial) st k hk) (fun s => ref3_holds_L0_hd x.1 x.2.1 x.2.2.2.2.1 x.2.2.2.2.2.1 y.1.1 y.1.2.1 y.1.2.2.1 y.2.1.1 y.2.1.2.1 s.1) k hk
    (fun self s => ref3_holds_L0T N x.1 x.2.1 x.2.2.2.2.1 x.2.2.2.2.2.1 (k (.exit 0) (ref3_holds_L0_tl0 x.1 x.2.1 x.2.2.2.2.1 x.2.2.2.2.2.1 y.1.1 y.1.2.1 y.1.2.2.1 y.2.1.1 y.2.1.2.1)) (fun s14 => self (s14, ())) s.1) (fun n s => ref3_holds_L0 N x.1 x.2.1 x.2.2.2.2.1 x.2.2.2.2.2.1 (k (.exit 0) (ref3_holds_L0_tl0 x.1 x.2.1 x.2.2.2.2.1 x.2.2.2.2.2.1 y.1.1 y.1.2.1 y.1.2.2.1 y.2.1.1 y.2.1.2.1)) n s.1) (fun _ => rfl) (fun _ _ => rfl)
    (fun I s => ref3_holds_L0_step N x.1 x.2.1 x.2.2.2.2.1 x.2.2.2.2.2.1 y.1.1 y.1.2.1 y.1.2.2.1 y.2.1.1 y.2.1.2.1 (fun j => k (.exit j)) I s.1) N (x.2.2.2.2.2.2.1, ())
theorem ref3_holds_lp0 (N : Nat) : ∀ st k, (∀ st, k .ret st = (resD (ref3_holds_E N) Tryd.f58 (ref3_holds_sg fun x _ => ref3_holds N x.1 x.2.1 x.2.2.1 x.2.2.2.1) ref3_holds_pk) st) → ref3_holds_LP N 0 (cAt (bodyOf Tryd.f58) [true, false, true, false, false]) st k = iter (Env.hint (ref3_holds_E N) 0) (exec (ref3_holds_E N) N (cAt (bodyOf Tryd.f58) [true, false, true, false, false]) 0) N st k := fun st k hk => LPc_eq 31 ref3_holds_L0_fs ref3_holds_L0_bs _ _ (resD (ref3_holds_E N) Tryd.f58 (ref3_holds_sg fun x _ => ref3_holds N x.1 x.2.1 x.2.2.1 x.2.2.2.1) ref3_holds_pk) (ref3_holds_L0_ok N) _ st k hk (rfl)
theorem ref3_holds_core (N : Nat) (x : SV [.v (.sl (.pr .str (.sl .str))), .v (.pr .str (.pr (.sl (.pr .str .str)) (.sl (.pr .str .str)))), .v (.sl (.pr .str .str)), .v (.pr .str (.sl (.pr .str .str)))]) (y : BV []) : runL (ref3_holds_E N) Tryd.f58 (ref3_holds_sg fun x _ => ref3_holds N x.1 x.2.1 x.2.2.1 x.2.2.2.1) ref3_holds_pk (ref3_holds_LP N) x y = ref3_holds N x.1 x.2.1 x.2.2.1 x.2.2.2.1 := by kernel_rfl
theorem ref3_holds_sound (N : Nat) : Sound Tryd.prog GW B0G 58 (ref3_holds_sg fun x _ => ref3_holds N x.1 x.2.1 x.2.2.1 x.2.2.2.1) :=
  runD_sound (mkE_ok ref3_holds_h (ref3_holds_fn N) _ _ (ref3_holds_fn_ok N)) Tryd.func58 rfl Tryd.call58 (ref3_holds_sg fun x _ => ref3_holds N x.1 x.2.1 x.2.2.1 x.2.2.2.1) ref3_holds_pk (fun _ _ => rfl) N (fun x y _ h => ((runL_eq (ref3_holds_E N) N Tryd.f58 (ref3_holds_sg fun x _ => ref3_holds N x.1 x.2.1 x.2.2.1 x.2.2.2.1) ref3_holds_pk (ref3_holds_LP N) (show LoopsOk (ref3_holds_LP N) (ref3_holds_E N) N (resD (ref3_holds_E N) Tryd.f58 (ref3_holds_sg fun x _ => ref3_holds N x.1 x.2.1 x.2.2.1 x.2.2.2.1) ref3_holds_pk) [(0, (cAt (bodyOf Tryd.f58) [true, false, true, false, false]))] from ⟨ref3_holds_lp0 N, trivial⟩) x y).trans (ref3_holds_core N x y)).trans h)
def ref3_Holds (N : Nat) (x0 : List (Str × List Str)) (x1 : Str × List (Str × Str) × List (Str × Str)) (x2 : List (Str × Str)) (x3 : Str × List (Str × Str)) : Option (Bool × Int) :=
  bnd (ref3_CheckConfig N x0 x2) fun t15 =>
  br (t15 != (0 : Int))
    (some (false, t15))
    (bnd (ref3_CheckConditions N x0 [x1]) fun t22 =>
    br (t22 != (0 : Int))
      (some (false, t22))
      (bnd (ref3_CheckPlatforms N [x3]) fun t28 =>
      br (t28 != (0 : Int))
        (some (false, t28))
        (bnd (ref3_holds N x0 x1 x2 x3) fun t36 =>
        some (t36, (0 : Int)))))
abbrev ref3_Holds_sg (f : SV [.v (.sl (.pr .str (.sl .str))), .v (.pr .str (.pr (.sl (.pr .str .str)) (.sl (.pr .str .str)))), .v (.sl (.pr .str .str)), .v (.pr .str (.sl (.pr .str .str)))] → BV [] → Option (Bool × Int)) : AF := { ps := [.v (.sl (.pr .str (.sl .str))), .v (.pr .str (.pr (.sl (.pr .str .str)) (.sl (.pr .str .str)))), .v (.sl (.pr .str .str)), .v (.pr .str (.sl (.pr .str .str)))], bs := [], rs := [.v .bool, .v (.int .i64)], cs := [], R := Bool × Int, out := fun z => ((z.1, z.2, ()), ()), f := f }
abbrev ref3_Holds_pk : SV [.v .bool, .v (.int .i64)] → BV [] → (Bool × Int) := fun x _ => (x.1, x.2.1)
def ref3_Holds_fn (N : Nat) : FuncId → Option Tmp → Option AF := fun f _ =>
  match f with
    | 19 => some (ref3_CheckConfig_sg fun x _ => ref3_CheckConfig N x.1 x.2.1)
    | 24 => some (ref3_CheckPlatforms_sg fun x _ => ref3_CheckPlatforms N x.1)
    | 26 => some (ref3_CheckConditions_sg fun x _ => ref3_CheckConditions N x.1 x.2.1)
    | 58 => some (ref3_holds_sg fun x _ => ref3_holds N x.1 x.2.1 x.2.2.1 x.2.2.2.1)
    | _ => none
theorem ref3_Holds_fn_ok (N : Nat) : ∀ f q F, ref3_Holds_fn N f q = some F → Sound Tryd.prog GW B0G f F := by
  intro f q F h
  unfold ref3_Holds_fn at h
  split at h
  · cases h; exact ref3_CheckConfig_sound N
  · cases h; exact ref3_CheckPlatforms_sound N
  · cases h; exact ref3_CheckConditions_sound N
  · cases h; exact ref3_holds_sound N
  · cases h
def ref3_Holds_h : Nat → Hint := fun i =>
  match i with
  | _ => ⟨[], [], [], [], []⟩
abbrev ref3_Holds_E (N : Nat) : Env := mkE ref3_Holds_h (ref3_Holds_fn N) (fun _ => false) (fun _ => false)
noncomputable def ref3_Holds_LP (N : Nat) : Nat → Code → St → (Ex → St → Option (Bool × Int)) → Option (Bool × Int) := fun i c =>
  match i with
  | i => fun st k => iter (ref3_Holds_h i) (exec (ref3_Holds_E N) N c i) N st k
theorem ref3_Holds_core (N : Nat) (x : SV [.v (.sl (.pr .str (.sl .str))), .v (.pr .str (.pr (.sl (.pr .str .str)) (.sl (.pr .str .str)))), .v (.sl (.pr .str .str)), .v (.pr .str (.sl (.pr .str .str)))]) (y : BV []) : runL (ref3_Holds_E N) Tryd.f22 (ref3_Holds_sg fun x _ => ref3_Holds N x.1 x.2.1 x.2.2.1 x.2.2.2.1) ref3_Holds_pk (ref3_Holds_LP N) x y = ref3_Holds N x.1 x.2.1 x.2.2.1 x.2.2.2.1 := by kernel_rfl
theorem ref3_Holds_sound (N : Nat) : Sound Tryd.prog GW B0G 22 (ref3_Holds_sg fun x _ => ref3_Holds N x.1 x.2.1 x.2.2.1 x.2.2.2.1) :=
  runD_sound (mkE_ok ref3_Holds_h (ref3_Holds_fn N) _ _ (ref3_Holds_fn_ok N)) Tryd.func22 rfl Tryd.call22 (ref3_Holds_sg fun x _ => ref3_Holds N x.1 x.2.1 x.2.2.1 x.2.2.2.1) ref3_Holds_pk (fun _ _ => rfl) N (fun x y _ h => ((runL_eq (ref3_Holds_E N) N Tryd.f22 (ref3_Holds_sg fun x _ => ref3_Holds N x.1 x.2.1 x.2.2.1 x.2.2.2.1) ref3_Holds_pk (ref3_Holds_LP N) (show LoopsOk (ref3_Holds_LP N) (ref3_Holds_E N) N (resD (ref3_Holds_E N) Tryd.f22 (ref3_Holds_sg fun x _ => ref3_Holds N x.1 x.2.1 x.2.2.1 x.2.2.2.1) ref3_Holds_pk) [] from trivial) x y).trans (ref3_Holds_core N x y)).trans h)
def law3_ConfigHoldsMatchesSpec (N : Nat) (x0 : List (Str × List Str) × List (Str × List (Str × Str) × List (Str × Str)) × List (Str × List (Str × Str)) × List (Str × Str × List (Str × Str) × List (Str × Str)) × List (Str × List (Str × Str) × List Str)) (x1 : Str × List (Str × Str) × List (Str × Str)) (x2 : List (Str × Str)) (x3 : Str × List (Str × Str)) : Option Bool :=
  bnd (config_Holds N x0.1 x1 x2 x3) fun t19 =>
  bnd (ref3_Holds N x0.1 x1 x2 x3) fun t28 =>
  bnd (config_CheckPlatforms N x0.2.2.1) fun t33 =>
  bnd (ref3_CheckPlatforms N x0.2.2.1) fun t36 =>
  br (t33 == t36)
    (bnd (config_CheckConditions N x0.1 x0.2.1) fun t43 =>
    bnd (ref3_CheckConditions N x0.1 x0.2.1) fun t48 =>
    br (t43 == t48)
      (br (t19.2 == t28.2)
        (br (t19.1 == t28.1)
          (bnd (law3_awake N) fun t62 =>
          some t62)
          (some false))
        (some false))
      (some false))
    (some false)
abbrev law3_ConfigHoldsMatchesSpec_sg (f : SV [.v (.pr (.sl (.pr .str (.sl .str))) (.pr (.sl (.pr .str (.pr (.sl (.pr .str .str)) (.sl (.pr .str .str))))) (.pr (.sl (.pr .str (.sl (.pr .str .str)))) (.pr (.sl (.pr .str (.pr .str (.pr (.sl (.pr .str .str)) (.sl (.pr .str .str)))))) (.sl (.pr .str (.pr (.sl (.pr .str .str)) (.sl .str)))))))), .v (.pr .str (.pr (.sl (.pr .str .str)) (.sl (.pr .str .str)))), .v (.sl (.pr .str .str)), .v (.pr .str (.sl (.pr .str .str)))] → BV [] → Option (Bool)) : AF := { ps := [.v (.pr (.sl (.pr .str (.sl .str))) (.pr (.sl (.pr .str (.pr (.sl (.pr .str .str)) (.sl (.pr .str .str))))) (.pr (.sl (.pr .str (.sl (.pr .str .str)))) (.pr (.sl (.pr .str (.pr .str (.pr (.sl (.pr .str .str)) (.sl (.pr .str .str)))))) (.sl (.pr .str (.pr (.sl (.pr .str .str)) (.sl .str)))))))), .v (.pr .str (.pr (.sl (.pr .str .str)) (.sl (.pr .str .str)))), .v (.sl (.pr .str .str)), .v (.pr .str (.sl (.pr .str .str)))], bs := [], rs := [.v .bool], cs := [], R := Bool, out := fun z => ((z, ()), ()), f := f }
abbrev law3_ConfigHoldsMatchesSpec_pk : SV [.v .bool] → BV [] → Bool := fun x _ => x.1
def law3_ConfigHoldsMatchesSpec_fn (N : Nat) : FuncId → Option Tmp → Option AF := fun f _ =>
  match f with
    | 20 => some (law3_awake_sg fun _ _ => law3_awake N)
    | 21 => some (config_Holds_sg fun x _ => config_Holds N x.1 x.2.1 x.2.2.1 x.2.2.2.1)
    | 22 => some (ref3_Holds_sg fun x _ => ref3_Holds N x.1 x.2.1 x.2.2.1 x.2.2.2.1)
    | 23 => some (config_CheckPlatforms_sg fun x _ => config_CheckPlatforms N x.1)
    | 24 => some (ref3_CheckPlatforms_sg fun x _ => ref3_CheckPlatforms N x.1)
    | 25 => some (config_CheckConditions_sg fun x _ => config_CheckConditions N x.1 x.2.1)
    | 26 => some (ref3_CheckConditions_sg fun x _ => ref3_CheckConditions N x.1 x.2.1)
    | _ => none
theorem law3_ConfigHoldsMatchesSpec_fn_ok (N : Nat) : ∀ f q F, law3_ConfigHoldsMatchesSpec_fn N f q = some F → Sound Tryd.prog GW B0G f F := by
  intro f q F h
  unfold law3_ConfigHoldsMatchesSpec_fn at h
  split at h
  · cases h; exact law3_awake_sound N
  · cases h; exact config_Holds_sound N
  · cases h; exact ref3_Holds_sound N
  · cases h; exact config_CheckPlatforms_sound N
  · cases h; exact ref3_CheckPlatforms_sound N
  · cases h; exact config_CheckConditions_sound N
  · cases h; exact ref3_CheckConditions_sound N
  · cases h
def law3_ConfigHoldsMatchesSpec_h : Nat → Hint := fun i =>
  match i with
  | _ => ⟨[], [], [], [], []⟩
abbrev law3_ConfigHoldsMatchesSpec_E (N : Nat) : Env := mkE law3_ConfigHoldsMatchesSpec_h (law3_ConfigHoldsMatchesSpec_fn N) (fun _ => false) (fun _ => false)
noncomputable def law3_ConfigHoldsMatchesSpec_LP (N : Nat) : Nat → Code → St → (Ex → St → Option Bool) → Option Bool := fun i c =>
  match i with
  | i => fun st k => iter (law3_ConfigHoldsMatchesSpec_h i) (exec (law3_ConfigHoldsMatchesSpec_E N) N c i) N st k
theorem law3_ConfigHoldsMatchesSpec_core (N : Nat) (x : SV [.v (.pr (.sl (.pr .str (.sl .str))) (.pr (.sl (.pr .str (.pr (.sl (.pr .str .str)) (.sl (.pr .str .str))))) (.pr (.sl (.pr .str (.sl (.pr .str .str)))) (.pr (.sl (.pr .str (.pr .str (.pr (.sl (.pr .str .str)) (.sl (.pr .str .str)))))) (.sl (.pr .str (.pr (.sl (.pr .str .str)) (.sl .str)))))))), .v (.pr .str (.pr (.sl (.pr .str .str)) (.sl (.pr .str .str)))), .v (.sl (.pr .str .str)), .v (.pr .str (.sl (.pr .str .str)))]) (y : BV []) : runL (law3_ConfigHoldsMatchesSpec_E N) Tryd.f4 (law3_ConfigHoldsMatchesSpec_sg fun x _ => law3_ConfigHoldsMatchesSpec N x.1 x.2.1 x.2.2.1 x.2.2.2.1) law3_ConfigHoldsMatchesSpec_pk (law3_ConfigHoldsMatchesSpec_LP N) x y = law3_ConfigHoldsMatchesSpec N x.1 x.2.1 x.2.2.1 x.2.2.2.1 := by kernel_rfl
theorem law3_ConfigHoldsMatchesSpec_sound (N : Nat) : Sound Tryd.prog GW B0G 4 (law3_ConfigHoldsMatchesSpec_sg fun x _ => law3_ConfigHoldsMatchesSpec N x.1 x.2.1 x.2.2.1 x.2.2.2.1) :=
  runD_sound (mkE_ok law3_ConfigHoldsMatchesSpec_h (law3_ConfigHoldsMatchesSpec_fn N) _ _ (law3_ConfigHoldsMatchesSpec_fn_ok N)) Tryd.func4 rfl Tryd.call4 (law3_ConfigHoldsMatchesSpec_sg fun x _ => law3_ConfigHoldsMatchesSpec N x.1 x.2.1 x.2.2.1 x.2.2.2.1) law3_ConfigHoldsMatchesSpec_pk (fun _ _ => rfl) N (fun x y _ h => ((runL_eq (law3_ConfigHoldsMatchesSpec_E N) N Tryd.f4 (law3_ConfigHoldsMatchesSpec_sg fun x _ => law3_ConfigHoldsMatchesSpec N x.1 x.2.1 x.2.2.1 x.2.2.2.1) law3_ConfigHoldsMatchesSpec_pk (law3_ConfigHoldsMatchesSpec_LP N) (show LoopsOk (law3_ConfigHoldsMatchesSpec_LP N) (law3_ConfigHoldsMatchesSpec_E N) N (resD (law3_ConfigHoldsMatchesSpec_E N) Tryd.f4 (law3_ConfigHoldsMatchesSpec_sg fun x _ => law3_ConfigHoldsMatchesSpec N x.1 x.2.1 x.2.2.1 x.2.2.2.1) law3_ConfigHoldsMatchesSpec_pk) [] from trivial) x y).trans (law3_ConfigHoldsMatchesSpec_core N x y)).trans h)
def config_CheckTools_1 (_N : Nat) (x0 : Str × Str × List (Str × Str) × List (Str × Str)) (x1 : Str × Str × List (Str × Str) × List (Str × Str)) : Option Bool :=
  some (x0.1 == x1.1)
abbrev config_CheckTools_1_sg (f : SV [.v (.pr .str (.pr .str (.pr (.sl (.pr .str .str)) (.sl (.pr .str .str))))), .v (.ptr (.pr .str (.pr .str (.pr (.sl (.pr .str .str)) (.sl (.pr .str .str))))))] → BV [] → Option (Bool)) : AF := { ps := [.v (.pr .str (.pr .str (.pr (.sl (.pr .str .str)) (.sl (.pr .str .str))))), .v (.ptr (.pr .str (.pr .str (.pr (.sl (.pr .str .str)) (.sl (.pr .str .str))))))], bs := [], rs := [.v .bool], cs := [], R := Bool, out := fun z => ((z, ()), ()), f := f }
abbrev config_CheckTools_1_pk : SV [.v .bool] → BV [] → Bool := fun x _ => x.1
def config_CheckTools_1_fn (_N : Nat) : FuncId → Option Tmp → Option AF := fun f _ =>
  match f with
    | _ => none
theorem config_CheckTools_1_fn_ok (N : Nat) : ∀ f q F, config_CheckTools_1_fn N f q = some F → Sound Tryd.prog GW B0G f F := by
  intro f q F h
  unfold config_CheckTools_1_fn at h
  split at h
  · cases h
def config_CheckTools_1_h : Nat → Hint := fun i =>
  match i with
  | _ => ⟨[], [], [], [], []⟩
abbrev config_CheckTools_1_E (N : Nat) : Env := mkE config_CheckTools_1_h (config_CheckTools_1_fn N) (fun _ => false) (fun _ => false)
noncomputable def config_CheckTools_1_LP (N : Nat) : Nat → Code → St → (Ex → St → Option Bool) → Option Bool := fun i c =>
  match i with
  | i => fun st k => iter (config_CheckTools_1_h i) (exec (config_CheckTools_1_E N) N c i) N st k
theorem config_CheckTools_1_core (N : Nat) (x : SV [.v (.pr .str (.pr .str (.pr (.sl (.pr .str .str)) (.sl (.pr .str .str))))), .v (.ptr (.pr .str (.pr .str (.pr (.sl (.pr .str .str)) (.sl (.pr .str .str))))))]) (y : BV []) : runL (config_CheckTools_1_E N) Tryd.f71 (config_CheckTools_1_sg fun x _ => config_CheckTools_1 N x.1 x.2.1) config_CheckTools_1_pk (config_CheckTools_1_LP N) x y = config_CheckTools_1 N x.1 x.2.1 := by kernel_rfl
theorem config_CheckTools_1_sound (N : Nat) : Sound Tryd.prog GW B0G 71 (config_CheckTools_1_sg fun x _ => config_CheckTools_1 N x.1 x.2.1) :=
  runD_sound (mkE_ok config_CheckTools_1_h (config_CheckTools_1_fn N) _ _ (config_CheckTools_1_fn_ok N)) Tryd.func71 rfl Tryd.call71 (config_CheckTools_1_sg fun x _ => config_CheckTools_1 N x.1 x.2.1) config_CheckTools_1_pk (fun _ _ => rfl) N (fun x y _ h => ((runL_eq (config_CheckTools_1_E N) N Tryd.f71 (config_CheckTools_1_sg fun x _ => config_CheckTools_1 N x.1 x.2.1) config_CheckTools_1_pk (config_CheckTools_1_LP N) (show LoopsOk (config_CheckTools_1_LP N) (config_CheckTools_1_E N) N (resD (config_CheckTools_1_E N) Tryd.f71 (config_CheckTools_1_sg fun x _ => config_CheckTools_1 N x.1 x.2.1) config_CheckTools_1_pk) [] from trivial) x y).trans (config_CheckTools_1_core N x y)).trans h)
def slices_IndexFunc_api_Tool_L0T (N : Nat) (x0 : List (Str × Str × List (Str × Str) × List (Str × Str))) (x1 : (Str × Str × List (Str × Str) × List (Str × Str)) × Unit) (c7 : Int) (k0 : Option Int) (self : Int → Option Int) (s8 : Int) : Option Int :=
  br (decide (s8 < c7))
    (bnd (geti x0 s8) fun t14 =>
    bnd (config_CheckTools_1 N t14 x1.1) fun t16 =>
    br (t16)
      (some s8)
      (self (IntKind.i64.wrap (s8 + (1 : Int)))))
    (k0)
def slices_IndexFunc_api_Tool_L0 (N : Nat) (x0 : List (Str × Str × List (Str × Str) × List (Str × Str))) (x1 : (Str × Str × List (Str × Str) × List (Str × Str)) × Unit) (c7 : Int) (k0 : Option Int) : Nat → Int → Option Int
  | 0, _ => none
  | n + 1, s8 => slices_IndexFunc_api_Tool_L0T N x0 x1 c7 k0 (slices_IndexFunc_api_Tool_L0 N x0 x1 c7 k0 n) s8
def slices_IndexFunc_api_Tool (N : Nat) (x0 : List (Str × Str × List (Str × Str) × List (Str × Str))) (x1 : (Str × Str × List (Str × Str) × List (Str × Str)) × Unit) : Option Int :=
  slices_IndexFunc_api_Tool_L0 N x0 x1 (x0.length : Int) (some (-1 : Int)) N (0 : Int)
abbrev slices_IndexFunc_api_Tool_sg (f : SV [.v (.sl (.pr .str (.pr .str (.pr (.sl (.pr .str .str)) (.sl (.pr .str .str)))))), .v (.clo 71 (.pr (.ptr (.pr .str (.pr .str (.pr (.sl (.pr .str .str)) (.sl (.pr .str .str)))))) .un))] → BV [] → Option (Int)) : AF := { ps := [.v (.sl (.pr .str (.pr .str (.pr (.sl (.pr .str .str)) (.sl (.pr .str .str)))))), .v (.clo 71 (.pr (.ptr (.pr .str (.pr .str (.pr (.sl (.pr .str .str)) (.sl (.pr .str .str)))))) .un))], bs := [], rs := [.v (.int .i64)], cs := [], R := Int, out := fun z => ((z, ()), ()), f := f }
abbrev slices_IndexFunc_api_Tool_pk : SV [.v (.int .i64)] → BV [] → Int := fun x _ => x.1
def slices_IndexFunc_api_Tool_fn (N : Nat) : FuncId → Option Tmp → Option AF := fun f _ =>
  match f with
    | 71 => some (config_CheckTools_1_sg fun x _ => config_CheckTools_1 N x.1 x.2.1)
    | _ => none
theorem slices_IndexFunc_api_Tool_fn_ok (N : Nat) : ∀ f q F, slices_IndexFunc_api_Tool_fn N f q = some F → Sound Tryd.prog GW B0G f F := by
  intro f q F h
  unfold slices_IndexFunc_api_Tool_fn at h
  split at h
  · cases h; exact config_CheckTools_1_sound N
  · cases h
def slices_IndexFunc_api_Tool_h : Nat → Hint := fun i =>
  match i with
  | 0 => ⟨[], [0, 1, 7, 8], [], [], []⟩
  | _ => ⟨[], [], [], [], []⟩
abbrev slices_IndexFunc_api_Tool_E (N : Nat) : Env := mkE slices_IndexFunc_api_Tool_h (slices_IndexFunc_api_Tool_fn N) (fun _ => false) (fun _ => false)
abbrev slices_IndexFunc_api_Tool_L0_fs : List (Nat × Sl) := [(0, .v (.sl (.pr .str (.pr .str (.pr (.sl (.pr .str .str)) (.sl (.pr .str .str))))))), (1, .v (.clo 71 (.pr (.ptr (.pr .str (.pr .str (.pr (.sl (.pr .str .str)) (.sl (.pr .str .str)))))) .un))), (7, .v (.int .i64)), (8, .v (.int .i64))]
abbrev slices_IndexFunc_api_Tool_L0_bs : List (Nat × Sb) := []
def slices_IndexFunc_api_Tool_L0_hd (x0 : List (Str × Str × List (Str × Str) × List (Str × Str))) (x1 : (Str × Str × List (Str × Str) × List (Str × Str)) × Unit) (c7 : Int) (s8 : Int) : St := ⟨19, [(0, .v (.sl (.pr .str (.pr .str (.pr (.sl (.pr .str .str)) (.sl (.pr .str .str)))))) x0), (1, .v (.clo 71 (.pr (.ptr (.pr .str (.pr .str (.pr (.sl (.pr .str .str)) (.sl (.pr .str .str)))))) .un)) x1), (7, .v (.int .i64) c7), (8, .v (.int .i64) s8)], []⟩
def slices_IndexFunc_api_Tool_L0_tl0 (_x0 : List (Str × Str × List (Str × Str) × List (Str × Str))) (_x1 : (Str × Str × List (Str × Str) × List (Str × Str)) × Unit) (_c7 : Int) : St := ⟨19, [], []⟩
def slices_IndexFunc_api_Tool_L0_G (N : Nat) (x0 : List (Str × Str × List (Str × Str) × List (Str × Str))) (x1 : (Str × Str × List (Str × Str) × List (Str × Str)) × Unit) (c7 : Int) (s8 : Int) (k : Ex → St → Option Int) : Option Int :=
  slices_IndexFunc_api_Tool_L0 N x0 x1 c7 (k (.exit 0) (slices_IndexFunc_api_Tool_L0_tl0 x0 x1 c7)) N s8
abbrev slices_IndexFunc_api_Tool_L0_F (N : Nat) : FV slices_IndexFunc_api_Tool_L0_fs → HV slices_IndexFunc_api_Tool_L0_bs → (Ex → St → Option Int) → Option Int := fun x _ k => slices_IndexFunc_api_Tool_L0_G N x.1 x.2.1 x.2.2.1 x.2.2.2.1 k
noncomputable def slices_IndexFunc_api_Tool_LP (N : Nat) : Nat → Code → St → (Ex → St → Option Int) → Option Int := fun i c =>
  match i with
  | 0 => (LPc 19 slices_IndexFunc_api_Tool_L0_fs slices_IndexFunc_api_Tool_L0_bs (slices_IndexFunc_api_Tool_L0_F N) (fun st k => iter (slices_IndexFunc_api_Tool_h 0) (exec (slices_IndexFunc_api_Tool_E N) N c 0) N st k))
  | i => fun st k => iter (slices_IndexFunc_api_Tool_h i) (exec (slices_IndexFunc_api_Tool_E N) N c i) N st k
theorem slices_IndexFunc_api_Tool_L0_step (N : Nat) (x0 : List (Str × Str × List (Str × Str) × List (Str × Str))) (x1 : (Str × Str × List (Str × Str) × List (Str × Str)) × Unit) (c7 : Int) (KX : Nat → St → Option Int) (I : St → Option Int) (s8 : Int) :
    execL (slices_IndexFunc_api_Tool_LP N) (slices_IndexFunc_api_Tool_E N) (cAt (bodyOf Tryd.f99) [true, false, true, false, false]) 0 (slices_IndexFunc_api_Tool_L0_hd x0 x1 c7 s8) (roundK (slices_IndexFunc_api_Tool_h 0) I KX (resD (slices_IndexFunc_api_Tool_E N) Tryd.f99 (slices_IndexFunc_api_Tool_sg fun x _ => slices_IndexFunc_api_Tool N x.1 x.2.1) slices_IndexFunc_api_Tool_pk)) = slices_IndexFunc_api_Tool_L0T N x0 x1 c7 (KX 0 (slices_IndexFunc_api_Tool_L0_tl0 x0 x1 c7)) (fun s8 => I (slices_IndexFunc_api_Tool_L0_hd x0 x1 c7 s8)) s8 := by kernel_rfl
theorem slices_IndexFunc_api_Tool_L0_ok (N : Nat) : ∀ x y k, (∀ st, k .ret st = (resD (slices_IndexFunc_api_Tool_E N) Tryd.f99 (slices_IndexFunc_api_Tool_sg fun x _ => slices_IndexFunc_api_Tool N x.1 x.2.1) slices_IndexFunc_api_Tool_pk) st) → iter (slices_IndexFunc_api_Tool_h 0) (exec (slices_IndexFunc_api_Tool_E N) N (cAt (bodyOf Tryd.f99) [true, false, true, false, false]) 0) N ⟨19, unF slices_IndexFunc_api_Tool_L0_fs x, unH slices_IndexFunc_api_Tool_L0_bs y⟩ k = slices_IndexFunc_api_Tool_L0_F N x y k := fun x _ k hk =>
  iter_link (S := (Int) × Unit) (slices_IndexFunc_api_Tool_h 0) _ (execL (slices_IndexFunc_api_Tool_LP N) (slices_IndexFunc_api_Tool_E N) (cAt (bodyOf Tryd.f99) [true, false, true, false, false]) 0) (resD (slices_IndexFunc_api_Tool_E N) Tryd.f99 (slices_IndexFunc_api_Tool_sg fun x _ => slices_IndexFunc_api_Tool N x.1 x.2.1) slices_IndexFunc_api_Tool_pk) (fun st k hk => execL_eq _ _ N _ (cAt (bodyOf Tryd.f99) [true, false, true, false, false]) 0 (show LoopsOk (slices_IndexFunc_api_Tool_LP N) (slices_IndexFunc_api_Tool_E N) N (resD (slices_IndexFunc_api_Tool_E N) Tryd.f99 (slices_IndexFunc_api_Tool_sg fun x _ => slices_IndexFunc_api_Tool N x.1 x.2.1) slices_IndexFunc_api_Tool_pk) [] from trivial) st k hk) (fun s => slices_IndexFunc_api_Tool_L0_hd x.1 x.2.1 x.2.2.1 s.1) k hk
    (fun self s => slices_IndexFunc_api_Tool_L0T N x.1 x.2.1 x.2.2.1 (k (.exit 0) (slices_IndexFunc_api_Tool_L0_tl0 x.1 x.2.1 x.2.2.1)) (fun s8 => self (s8, ())) s.1) (fun n s => slices_IndexFunc_api_Tool_L0 N x.1 x.2.1 x.2.2.1 (k (.exit 0) (slices_IndexFunc_api_Tool_L0_tl0 x.1 x.2.1 x.2.2.1)) n s.1) (fun _ => rfl) (fun _ _ => rfl)
    (fun I s => slices_IndexFunc_api_Tool_L0_step N x.1 x.2.1 x.2.2.1 (fun j => k (.exit j)) I s.1) N (x.2.2.2.1, ())
theorem slices_IndexFunc_api_Tool_lp0 (N : Nat) : ∀ st k, (∀ st, k .ret st = (resD (slices_IndexFunc_api_Tool_E N) Tryd.f99 (slices_IndexFunc_api_Tool_sg fun x _ => slices_IndexFunc_api_Tool N x.1 x.2.1) slices_IndexFunc_api_Tool_pk) st) → slices_IndexFunc_api_Tool_LP N 0 (cAt (bodyOf Tryd.f99) [true, false, true, false, false]) st k = iter (Env.hint (slices_IndexFunc_api_Tool_E N) 0) (exec (slices_IndexFunc_api_Tool_E N) N (cAt (bodyOf Tryd.f99) [true, false, true, false, false]) 0) N st k := fun st k hk => LPc_eq 19 slices_IndexFunc_api_Tool_L0_fs slices_IndexFunc_api_Tool_L0_bs _ _ (resD (slices_IndexFunc_api_Tool_E N) Tryd.f99 (slices_IndexFunc_api_Tool_sg fun x _ => slices_IndexFunc_api_Tool N x.1 x.2.1) slices_IndexFunc_api_Tool_pk) (slices_IndexFunc_api_Tool_L0_ok N) _ st k hk (rfl)
theorem slices_IndexFunc_api_Tool_core (N : Nat) (x : SV [.v (.sl (.pr .str (.pr .str (.pr (.sl (.pr .str .str)) (.sl (.pr .str .str)))))), .v (.clo 71 (.pr (.ptr (.pr .str (.pr .str (.pr (.sl (.pr .str .str)) (.sl (.pr .str .str)))))) .un))]) (y : BV []) : runL (slices_IndexFunc_api_Tool_E N) Tryd.f99 (slices_IndexFunc_api_Tool_sg fun x _ => slices_IndexFunc_api_Tool N x.1 x.2.1) slices_IndexFunc_api_Tool_pk (slices_IndexFunc_api_Tool_LP N) x y = slices_IndexFunc_api_Tool N x.1 x.2.1 := by kernel_rfl
theorem slices_IndexFunc_api_Tool_sound (N : Nat) : Sound Tryd.prog GW B0G 99 (slices_IndexFunc_api_Tool_sg fun x _ => slices_IndexFunc_api_Tool N x.1 x.2.1) :=
  runD_sound (mkE_ok slices_IndexFunc_api_Tool_h (slices_IndexFunc_api_Tool_fn N) _ _ (slices_IndexFunc_api_Tool_fn_ok N)) Tryd.func99 rfl Tryd.call99 (slices_IndexFunc_api_Tool_sg fun x _ => slices_IndexFunc_api_Tool N x.1 x.2.1) slices_IndexFunc_api_Tool_pk (fun _ _ => rfl) N (fun x y _ h => ((runL_eq (slices_IndexFunc_api_Tool_E N) N Tryd.f99 (slices_IndexFunc_api_Tool_sg fun x _ => slices_IndexFunc_api_Tool N x.1 x.2.1) slices_IndexFunc_api_Tool_pk (slices_IndexFunc_api_Tool_LP N) (show LoopsOk (slices_IndexFunc_api_Tool_LP N) (slices_IndexFunc_api_Tool_E N) N (resD (slices_IndexFunc_api_Tool_E N) Tryd.f99 (slices_IndexFunc_api_Tool_sg fun x _ => slices_IndexFunc_api_Tool N x.1 x.2.1) slices_IndexFunc_api_Tool_pk) [(0, (cAt (bodyOf Tryd.f99) [true, false, true, false, false]))] from ⟨slices_IndexFunc_api_Tool_lp0 N, trivial⟩) x y).trans (slices_IndexFunc_api_Tool_core N x y)).trans h)
def slices_ContainsFunc_api_Tool (N : Nat) (x0 : List (Str × Str × List (Str × Str) × List (Str × Str))) (x1 : (Str × Str × List (Str × Str) × List (Str × Str)) × Unit) : Option Bool :=
  bnd (slices_IndexFunc_api_Tool N x0 x1) fun t7 =>
  some (decide (t7 ≥ (0 : Int)))
abbrev slices_ContainsFunc_api_Tool_sg (f : SV [.v (.sl (.pr .str (.pr .str (.pr (.sl (.pr .str .str)) (.sl (.pr .str .str)))))), .v (.clo 71 (.pr (.ptr (.pr .str (.pr .str (.pr (.sl (.pr .str .str)) (.sl (.pr .str .str)))))) .un))] → BV [] → Option (Bool)) : AF := { ps := [.v (.sl (.pr .str (.pr .str (.pr (.sl (.pr .str .str)) (.sl (.pr .str .str)))))), .v (.clo 71 (.pr (.ptr (.pr .str (.pr .str (.pr (.sl (.pr .str .str)) (.sl (.pr .str .str)))))) .un))], bs := [], rs := [.v .bool], cs := [], R := Bool, out := fun z => ((z, ()), ()), f := f }
abbrev slices_ContainsFunc_api_Tool_pk : SV [.v .bool] → BV [] → Bool := fun x _ => x.1
def slices_ContainsFunc_api_Tool_fn (N : Nat) : FuncId → Option Tmp → Option AF := fun f _ =>
  match f with
    | 99 => some (slices_IndexFunc_api_Tool_sg fun x _ => slices_IndexFunc_api_Tool N x.1 x.2.1)
    | _ => none
theorem slices_ContainsFunc_api_Tool_fn_ok (N : Nat) : ∀ f q F, slices_ContainsFunc_api_Tool_fn N f q = some F → Sound Tryd.prog GW B0G f F := by
  intro f q F h
  unfold slices_ContainsFunc_api_Tool_fn at h
  split at h
  · cases h; exact slices_IndexFunc_api_Tool_sound N
  · cases h
def slices_ContainsFunc_api_Tool_h : Nat → Hint := fun i =>
  match i with
  | _ => ⟨[], [], [], [], []⟩
abbrev slices_ContainsFunc_api_Tool_E (N : Nat) : Env := mkE slices_ContainsFunc_api_Tool_h (slices_ContainsFunc_api_Tool_fn N) (fun _ => false) (fun _ => false)
noncomputable def slices_ContainsFunc_api_Tool_LP (N : Nat) : Nat → Code → St → (Ex → St → Option Bool) → Option Bool := fun i c =>
  match i with
  | i => fun st k => iter (slices_ContainsFunc_api_Tool_h i) (exec (slices_ContainsFunc_api_Tool_E N) N c i) N st k
theorem slices_ContainsFunc_api_Tool_core (N : Nat) (x : SV [.v (.sl (.pr .str (.pr .str (.pr (.sl (.pr .str .str)) (.sl (.pr .str .str)))))), .v (.clo 71 (.pr (.ptr (.pr .str (.pr .str (.pr (.sl (.pr .str .str)) (.sl (.pr .str .str)))))) .un))]) (y : BV []) : runL (slices_ContainsFunc_api_Tool_E N) Tryd.f70 (slices_ContainsFunc_api_Tool_sg fun x _ => slices_ContainsFunc_api_Tool N x.1 x.2.1) slices_ContainsFunc_api_Tool_pk (slices_ContainsFunc_api_Tool_LP N) x y = slices_ContainsFunc_api_Tool N x.1 x.2.1 := by kernel_rfl
theorem slices_ContainsFunc_api_Tool_sound (N : Nat) : Sound Tryd.prog GW B0G 70 (slices_ContainsFunc_api_Tool_sg fun x _ => slices_ContainsFunc_api_Tool N x.1 x.2.1) :=
  runD_sound (mkE_ok slices_ContainsFunc_api_Tool_h (slices_ContainsFunc_api_Tool_fn N) _ _ (slices_ContainsFunc_api_Tool_fn_ok N)) Tryd.func70 rfl Tryd.call70 (slices_ContainsFunc_api_Tool_sg fun x _ => slices_ContainsFunc_api_Tool N x.1 x.2.1) slices_ContainsFunc_api_Tool_pk (fun _ _ => rfl) N (fun x y _ h => ((runL_eq (slices_ContainsFunc_api_Tool_E N) N Tryd.f70 (slices_ContainsFunc_api_Tool_sg fun x _ => slices_ContainsFunc_api_Tool N x.1 x.2.1) slices_ContainsFunc_api_Tool_pk (slices_ContainsFunc_api_Tool_LP N) (show LoopsOk (slices_ContainsFunc_api_Tool_LP N) (slices_ContainsFunc_api_Tool_E N) N (resD (slices_ContainsFunc_api_Tool_E N) Tryd.f70 (slices_ContainsFunc_api_Tool_sg fun x _ => slices_ContainsFunc_api_Tool N x.1 x.2.1) slices_ContainsFunc_api_Tool_pk) [] from trivial) x y).trans (slices_ContainsFunc_api_Tool_core N x y)).trans h)
def config_CheckTools_L0T (N : Nat) (x0 : List (Str × Str × List (Str × Str) × List (Str × Str))) (c10 : List (Str × Str × List (Str × Str) × List (Str × Str))) (c11 : Int) (k0 : Option Int) (self : Int → Option Int) (s12 : Int) : Option Int :=
  br (decide (s12 < c11))
    (bnd (geti c10 s12) fun t15 =>
    bnd (config_IsWord N t15.1) fun t19 =>
    br (!t19)
      (some (5 : Int))
      (bnd (config_IsWord N t15.2.1) fun t24 =>
      br (!t24)
        (some (5 : Int))
        (bnd (config_CheckPairs N t15.2.2.1) fun t29 =>
        br (t29 != (0 : Int))
          (some t29)
          (bnd (config_CheckPairs N t15.2.2.2) fun t35 =>
          br (t35 != (0 : Int))
            (some t35)
            (bnd (slc x0 (0 : Int) s12) fun t41 =>
            bnd (slices_ContainsFunc_api_Tool N t41 (t15, ())) fun t43 =>
            br (t43)
              (some (7 : Int))
              (self (IntKind.i64.wrap (s12 + (1 : Int)))))))))
    (k0)
def config_CheckTools_L0 (N : Nat) (x0 : List (Str × Str × List (Str × Str) × List (Str × Str))) (c10 : List (Str × Str × List (Str × Str) × List (Str × Str))) (c11 : Int) (k0 : Option Int) : Nat → Int → Option Int
  | 0, _ => none
  | n + 1, s12 => config_CheckTools_L0T N x0 c10 c11 k0 (config_CheckTools_L0 N x0 c10 c11 k0 n) s12
def config_CheckTools (N : Nat) (x0 : List (Str × Str × List (Str × Str) × List (Str × Str))) : Option Int :=
  br (decide ((x0.length : Int) > (100 : Int)))
    (some (2 : Int))
    (config_CheckTools_L0 N x0 x0 (x0.length : Int) (some (0 : Int)) N (0 : Int))
abbrev config_CheckTools_sg (f : SV [.v (.sl (.pr .str (.pr .str (.pr (.sl (.pr .str .str)) (.sl (.pr .str .str))))))] → BV [] → Option (Int)) : AF := { ps := [.v (.sl (.pr .str (.pr .str (.pr (.sl (.pr .str .str)) (.sl (.pr .str .str))))))], bs := [], rs := [.v (.int .i64)], cs := [], R := Int, out := fun z => ((z, ()), ()), f := f }
abbrev config_CheckTools_pk : SV [.v (.int .i64)] → BV [] → Int := fun x _ => x.1
def config_CheckTools_fn (N : Nat) : FuncId → Option Tmp → Option AF := fun f _ =>
  match f with
    | 53 => some (config_IsWord_sg fun x _ => config_IsWord N x.1)
    | 59 => some (config_CheckPairs_sg fun x _ => config_CheckPairs N x.1)
    | 70 => some (slices_ContainsFunc_api_Tool_sg fun x _ => slices_ContainsFunc_api_Tool N x.1 x.2.1)
    | 71 => some (noneAF [.v (.ptr (.pr .str (.pr .str (.pr (.sl (.pr .str .str)) (.sl (.pr .str .str))))))])
    | _ => none
theorem config_CheckTools_fn_ok (N : Nat) : ∀ f q F, config_CheckTools_fn N f q = some F → Sound Tryd.prog GW B0G f F := by
  intro f q F h
  unfold config_CheckTools_fn at h
  split at h
  · cases h; exact config_IsWord_sound N
  · cases h; exact config_CheckPairs_sound N
  · cases h; exact slices_ContainsFunc_api_Tool_sound N
  · cases h; exact noneAF_sound Tryd.call71 _
  · cases h
def config_CheckTools_h : Nat → Hint := fun i =>
  match i with
  | 0 => ⟨[], [0, 10, 11, 12], [], [], []⟩
  | _ => ⟨[], [], [], [], []⟩
abbrev config_CheckTools_E (N : Nat) : Env := mkE config_CheckTools_h (config_CheckTools_fn N) (fun _ => false) (fun _ => false)
abbrev config_CheckTools_L0_fs : List (Nat × Sl) := [(0, .v (.sl (.pr .str (.pr .str (.pr (.sl (.pr .str .str)) (.sl (.pr .str .str))))))), (10, .v (.sl (.pr .str (.pr .str (.pr (.sl (.pr .str .str)) (.sl (.pr .str .str))))))), (11, .v (.int .i64)), (12, .v (.int .i64))]
abbrev config_CheckTools_L0_bs : List (Nat × Sb) := []
def config_CheckTools_L0_hd (x0 : List (Str × Str × List (Str × Str) × List (Str × Str))) (c10 : List (Str × Str × List (Str × Str) × List (Str × Str))) (c11 : Int) (s12 : Int) : St := ⟨45, [(0, .v (.sl (.pr .str (.pr .str (.pr (.sl (.pr .str .str)) (.sl (.pr .str .str)))))) x0), (10, .v (.sl (.pr .str (.pr .str (.pr (.sl (.pr .str .str)) (.sl (.pr .str .str)))))) c10), (11, .v (.int .i64) c11), (12, .v (.int .i64) s12)], []⟩
def config_CheckTools_L0_tl0 (_x0 : List (Str × Str × List (Str × Str) × List (Str × Str))) (_c10 : List (Str × Str × List (Str × Str) × List (Str × Str))) (_c11 : Int) : St := ⟨45, [], []⟩
def config_CheckTools_L0_G (N : Nat) (x0 : List (Str × Str × List (Str × Str) × List (Str × Str))) (c10 : List (Str × Str × List (Str × Str) × List (Str × Str))) (c11 : Int) (s12 : Int) (k : Ex → St → Option Int) : Option Int :=
  config_CheckTools_L0 N x0 c10 c11 (k (.exit 0) (config_CheckTools_L0_tl0 x0 c10 c11)) N s12
abbrev config_CheckTools_L0_F (N : Nat) : FV config_CheckTools_L0_fs → HV config_CheckTools_L0_bs → (Ex → St → Option Int) → Option Int := fun x _ k => config_CheckTools_L0_G N x.1 x.2.1 x.2.2.1 x.2.2.2.1 k
noncomputable def config_CheckTools_LP (N : Nat) : Nat → Code → St → (Ex → St → Option Int) → Option Int := fun i c =>
  match i with
  | 0 => (LPc 45 config_CheckTools_L0_fs config_CheckTools_L0_bs (config_CheckTools_L0_F N) (fun st k => iter (config_CheckTools_h 0) (exec (config_CheckTools_E N) N c 0) N st k))
  | i => fun st k => iter (config_CheckTools_h i) (exec (config_CheckTools_E N) N c i) N st k
theorem config_CheckTools_L0_step (N : Nat) (x0 : List (Str × Str × List (Str × Str) × List (Str × Str))) (c10 : List (Str × Str × List (Str × Str) × List (Str × Str))) (c11 : Int) (KX : Nat → St → Option Int) (I : St → Option Int) (s12 : Int) :
    execL (config_CheckTools_LP N) (config_CheckTools_E N) (cAt (bodyOf Tryd.f29) [true, true, false, true, false, false]) 0 (config_CheckTools_L0_hd x0 c10 c11 s12) (roundK (config_CheckTools_h 0) I KX (resD (config_CheckTools_E N) Tryd.f29 (config_CheckTools_sg fun x _ => config_CheckTools N x.1) config_CheckTools_pk)) = config_CheckTools_L0T N x0 c10 c11 (KX 0 (config_CheckTools_L0_tl0 x0 c10 c11)) (fun s12 => I (config_CheckTools_L0_hd x0 c10 c11 s12)) s12 := by kernel_rfl
theorem config_CheckTools_L0_ok (N : Nat) : ∀ x y k, (∀ st, k .ret st = (resD (config_CheckTools_E N) Tryd.f29 (config_CheckTools_sg fun x _ => config_CheckTools N x.1) config_CheckTools_pk) st) → iter (config_CheckTools_h 0) (exec (config_CheckTools_E N) N (cAt (bodyOf Tryd.f29) [true, true, false, true, false, false]) 0) N ⟨45, unF config_CheckTools_L0_fs x, unH config_CheckTools_L0_bs y⟩ k = config_CheckTools_L0_F N x y k := fun x _ k hk =>
  iter_link (S := (Int) × Unit) (config_CheckTools_h 0) _ (execL (config_CheckTools_LP N) (config_CheckTools_E N) (cAt (bodyOf Tryd.f29) [true, true, false, true, false, false]) 0) (resD (config_CheckTools_E N) Tryd.f29 (config_CheckTools_sg fun x _ => config_CheckTools N x.1) config_CheckTools_pk) (fun st k hk => execL_eq _ _ N _ (cAt (bodyOf Tryd.f29) [true, true, false, true, false, false]) 0 (show LoopsOk (config_CheckTools_LP N) (config_CheckTools_E N) N (resD (config_CheckTools_E N) Tryd.f29 (config_CheckTools_sg fun x _ => config_CheckTools N x.1) config_CheckTools_pk) [] from trivial) st k hk) (fun s => config_CheckTools_L0_hd x.1 x.2.1 x.2.2.1 s.1) k hk
    (fun self s => config_CheckTools_L0T N x.1 x.2.1 x.2.2.1 (k (.exit 0) (config_CheckTools_L0_tl0 x.1 x.2.1 x.2.2.1)) (fun s12 => self (s12, ())) s.1) (fun n s => config_CheckTools_L0 N x.1 x.2.1 x.2.2.1 (k (.exit 0) (config_CheckTools_L0_tl0 x.1 x.2.1 x.2.2.1)) n s.1) (fun _ => rfl) (fun _ _ => rfl)
    (fun I s => config_CheckTools_L0_step N x.1 x.2.1 x.2.2.1 (fun j => k (.exit j)) I s.1) N (x.2.2.2.1, ())
theorem config_CheckTools_lp0 (N : Nat) : ∀ st k, (∀ st, k .ret st = (resD (config_CheckTools_E N) Tryd.f29 (config_CheckTools_sg fun x _ => config_CheckTools N x.1) config_CheckTools_pk) st) → config_CheckTools_LP N 0 (cAt (bodyOf Tryd.f29) [true, true, false, true, false, false]) st k = iter (Env.hint (config_CheckTools_E N) 0) (exec (config_CheckTools_E N) N (cAt (bodyOf Tryd.f29) [true, true, false, true, false, false]) 0) N st k := fun st k hk => LPc_eq 45 config_CheckTools_L0_fs config_CheckTools_L0_bs _ _ (resD (config_CheckTools_E N) Tryd.f29 (config_CheckTools_sg fun x _ => config_CheckTools N x.1) config_CheckTools_pk) (config_CheckTools_L0_ok N) _ st k hk (rfl)
theorem config_CheckTools_core (N : Nat) (x : SV [.v (.sl (.pr .str (.pr .str (.pr (.sl (.pr .str .str)) (.sl (.pr .str .str))))))]) (y : BV []) : runL (config_CheckTools_E N) Tryd.f29 (config_CheckTools_sg fun x _ => config_CheckTools N x.1) config_CheckTools_pk (config_CheckTools_LP N) x y = config_CheckTools N x.1 := by kernel_rfl
theorem config_CheckTools_sound (N : Nat) : Sound Tryd.prog GW B0G 29 (config_CheckTools_sg fun x _ => config_CheckTools N x.1) :=
  runD_sound (mkE_ok config_CheckTools_h (config_CheckTools_fn N) _ _ (config_CheckTools_fn_ok N)) Tryd.func29 rfl Tryd.call29 (config_CheckTools_sg fun x _ => config_CheckTools N x.1) config_CheckTools_pk (fun _ _ => rfl) N (fun x y _ h => ((runL_eq (config_CheckTools_E N) N Tryd.f29 (config_CheckTools_sg fun x _ => config_CheckTools N x.1) config_CheckTools_pk (config_CheckTools_LP N) (show LoopsOk (config_CheckTools_LP N) (config_CheckTools_E N) N (resD (config_CheckTools_E N) Tryd.f29 (config_CheckTools_sg fun x _ => config_CheckTools N x.1) config_CheckTools_pk) [(0, (cAt (bodyOf Tryd.f29) [true, true, false, true, false, false]))] from ⟨config_CheckTools_lp0 N, trivial⟩) x y).trans (config_CheckTools_core N x y)).trans h)
end
end Go.Proofs.YtbekhaioddmliaaDoor
