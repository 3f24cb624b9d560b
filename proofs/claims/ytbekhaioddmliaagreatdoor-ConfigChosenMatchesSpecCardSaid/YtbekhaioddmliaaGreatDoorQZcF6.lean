/- What functions of the program compute, as plain functions (printed). -/
import Derived.Test.YtbekhaioddmliaaGreatDoorQZcF3
namespace Go.Proofs.YtbekhaioddmliaaGreatDoor
open Go Go.RowKit
set_option maxRecDepth 100000
set_option linter.unusedVariables false
noncomputable section
def z28L1T (_N : Nat) (t30 : List (Str × List (Str × Str))) (c31 : Int) (c1004_0 : Str) (k2 : Option Int) (self : Int → Option Int) (s32 : Int) : Option Int :=
  br (decide (s32 < c31))
    (bnd (geti t30 s32) fun t34 =>
    br (t34.1 == c1004_0)
      (some (7 : Int))
      (self (IntKind.i64.wrap (s32 + (1 : Int)))))
    (k2)
def z28L1 (N : Nat) (t30 : List (Str × List (Str × Str))) (c31 : Int) (c1004_0 : Str) (k2 : Option Int) : Nat → Int → Option Int
  | 0, _ => none
  | n + 1, s32 => z28L1T N t30 c31 c1004_0 k2 (z28L1 N t30 c31 c1004_0 k2 n) s32
def z28L0T (N : Nat) (x0 : List (Str × List (Str × Str))) (c11 : List (Str × List (Str × Str))) (c12 : Int) (k0 : Option Int) (self : Int → Option Int) (s13 : Int) : Option Int :=
  br (decide (s13 < c12))
    (bnd (geti c11 s13) fun t16 =>
    bnd (ref3_IsWord N t16.1) fun t20 =>
    br (!t20)
      (some (5 : Int))
      (bnd (ref3_checkPairs N t16.2) fun t24 =>
      br (t24 != (0 : Int))
        (some t24)
        (bnd (slc x0 (0 : Int) s13) fun t30 =>
        z28L1 N t30 (t30.length : Int) t16.1 (self (IntKind.i64.wrap (s13 + (1 : Int)))) N (0 : Int))))
    (k0)
def z28L0 (N : Nat) (x0 : List (Str × List (Str × Str))) (c11 : List (Str × List (Str × Str))) (c12 : Int) (k0 : Option Int) : Nat → Int → Option Int
  | 0, _ => none
  | n + 1, s13 => z28L0T N x0 c11 c12 k0 (z28L0 N x0 c11 c12 k0 n) s13
def ref3_CheckPlatforms (N : Nat) (x0 : List (Str × List (Str × Str))) : Option Int :=
  br (decide ((x0.length : Int) > (50 : Int)))
    (some (2 : Int))
    (z28L0 N x0 x0 (x0.length : Int) (some (0 : Int)) N (0 : Int))
abbrev z28sg (f : SV [.v (.sl (.pr .str (.sl (.pr .str .str))))] → BV [] → Option (Int)) : AF := { ps := [.v (.sl (.pr .str (.sl (.pr .str .str))))], bs := [], rs := [.v (.int .i64)], cs := [], R := Int, out := fun z => ((z, ()), ()), f := f }
abbrev z28pk : SV [.v (.int .i64)] → BV [] → Int := fun x _ => x.1
def z28fn (N : Nat) : FuncId → Option Tmp → Option AF := fun f _ =>
  match f with
    | 50 => some (z79sg fun x _ => ref3_IsWord N x.1)
    | 125 => some (z54sg fun x _ => ref3_checkPairs N x.1)
    | _ => none
theorem z28fn_ok (N : Nat) : ∀ f q F, z28fn N f q = some F → Sound Tryz.prog GW B0G f F := by
  intro f q F h
  unfold z28fn at h
  split at h
  · cases h; exact z79sound N
  · cases h; exact z54sound N
  · cases h
def z28h : Nat → Hint := fun i =>
  match i with
  | 0 => ⟨[], [0, 11, 12, 13], [], [], [], []⟩
  | 2 => ⟨[], [0, 4, 11, 12, 13, 30, 31, 32], [1004], [0, 11, 12, 13], [], []⟩
  | _ => ⟨[], [], [], [], [], []⟩
abbrev z28E (N : Nat) : Env := mkE z28h (z28fn N) (fun _ => false) (fun _ => false)
abbrev z28L1_fs : List (Nat × Sl) := [(0, .v (.sl (.pr .str (.sl (.pr .str .str))))), (4, .box 1004 0), (11, .v (.sl (.pr .str (.sl (.pr .str .str))))), (12, .v (.int .i64)), (13, .v (.int .i64)), (30, .v (.sl (.pr .str (.sl (.pr .str .str))))), (31, .v (.int .i64)), (32, .v (.int .i64))]
abbrev z28L1_bs : List (Nat × Sb) := [(1004, .cells [.v .str, .v (.sl (.pr .str .str))])]
def z28L1_hd (x0 : List (Str × List (Str × Str))) (c11 : List (Str × List (Str × Str))) (c12 : Int) (s13 : Int) (t30 : List (Str × List (Str × Str))) (c31 : Int) (c1004_0 : Str) (c1004_1 : List (Str × Str)) (s32 : Int) : St := ⟨43, [(0, .v (.sl (.pr .str (.sl (.pr .str .str)))) x0), (4, .box 1004 0), (11, .v (.sl (.pr .str (.sl (.pr .str .str)))) c11), (12, .v (.int .i64) c12), (13, .v (.int .i64) s13), (30, .v (.sl (.pr .str (.sl (.pr .str .str)))) t30), (31, .v (.int .i64) c31), (32, .v (.int .i64) s32)], [(1004, .cells [.v .str c1004_0, .v (.sl (.pr .str .str)) c1004_1])]⟩
def z28L1_tl2 (x0 : List (Str × List (Str × Str))) (c11 : List (Str × List (Str × Str))) (c12 : Int) (s13 : Int) (_t30 : List (Str × List (Str × Str))) (_c31 : Int) (_c1004_0 : Str) (_c1004_1 : List (Str × Str)) : St := ⟨43, [(0, .v (.sl (.pr .str (.sl (.pr .str .str)))) x0), (11, .v (.sl (.pr .str (.sl (.pr .str .str)))) c11), (12, .v (.int .i64) c12), (13, .v (.int .i64) s13)], []⟩
def z28L1_G (N : Nat) (x0 : List (Str × List (Str × Str))) (c11 : List (Str × List (Str × Str))) (c12 : Int) (s13 : Int) (t30 : List (Str × List (Str × Str))) (c31 : Int) (c1004_0 : Str) (c1004_1 : List (Str × Str)) (s32 : Int) (k : Ex → St → Option Int) : Option Int :=
  z28L1 N t30 c31 c1004_0 (k (.exit 2) (z28L1_tl2 x0 c11 c12 s13 t30 c31 c1004_0 c1004_1)) N s32
abbrev z28L1_F (N : Nat) : FV z28L1_fs → HV z28L1_bs → (Ex → St → Option Int) → Option Int := fun x y k => z28L1_G N x.1 x.2.2.1 x.2.2.2.1 x.2.2.2.2.1 x.2.2.2.2.2.1 x.2.2.2.2.2.2.1 y.1.1 y.1.2.1 x.2.2.2.2.2.2.2.1 k
abbrev z28L0_fs : List (Nat × Sl) := [(0, .v (.sl (.pr .str (.sl (.pr .str .str))))), (11, .v (.sl (.pr .str (.sl (.pr .str .str))))), (12, .v (.int .i64)), (13, .v (.int .i64))]
abbrev z28L0_bs : List (Nat × Sb) := []
def z28L0_hd (x0 : List (Str × List (Str × Str))) (c11 : List (Str × List (Str × Str))) (c12 : Int) (s13 : Int) : St := ⟨43, [(0, .v (.sl (.pr .str (.sl (.pr .str .str)))) x0), (11, .v (.sl (.pr .str (.sl (.pr .str .str)))) c11), (12, .v (.int .i64) c12), (13, .v (.int .i64) s13)], []⟩
def z28L0_tl0 (_x0 : List (Str × List (Str × Str))) (_c11 : List (Str × List (Str × Str))) (_c12 : Int) : St := ⟨43, [], []⟩
def z28L0_G (N : Nat) (x0 : List (Str × List (Str × Str))) (c11 : List (Str × List (Str × Str))) (c12 : Int) (s13 : Int) (k : Ex → St → Option Int) : Option Int :=
  z28L0 N x0 c11 c12 (k (.exit 0) (z28L0_tl0 x0 c11 c12)) N s13
abbrev z28L0_F (N : Nat) : FV z28L0_fs → HV z28L0_bs → (Ex → St → Option Int) → Option Int := fun x _ k => z28L0_G N x.1 x.2.1 x.2.2.1 x.2.2.2.1 k
noncomputable def z28LP (N : Nat) : Nat → Code → St → (Ex → St → Option Int) → Option Int := fun i c =>
  match i with
  | 0 => (LPc 43 z28L0_fs z28L0_bs (z28L0_F N) (fun st k => iter (z28h 0) (exec (z28E N) N c 0) N st k))
  | 2 => (LPc 43 z28L1_fs z28L1_bs (z28L1_F N) (fun st k => iter (z28h 2) (exec (z28E N) N c 2) N st k))
  | i => fun st k => iter (z28h i) (exec (z28E N) N c i) N st k
theorem z28L1_step (N : Nat) (x0 : List (Str × List (Str × Str))) (c11 : List (Str × List (Str × Str))) (c12 : Int) (s13 : Int) (t30 : List (Str × List (Str × Str))) (c31 : Int) (c1004_0 : Str) (c1004_1 : List (Str × Str)) (KX : Nat → St → Option Int) (I : St → Option Int) (s32 : Int) :
    execL (z28LP N) (z28E N) (cAt (bodyOf Tryz.f86) [true, true, false, true, false, false, true, true, false, false, true, true, true, true, false, false]) 2 (z28L1_hd x0 c11 c12 s13 t30 c31 c1004_0 c1004_1 s32) (roundK (z28h 2) I KX (resD (z28E N) Tryz.f86 (z28sg fun x _ => ref3_CheckPlatforms N x.1) z28pk)) = z28L1T N t30 c31 c1004_0 (KX 2 (z28L1_tl2 x0 c11 c12 s13 t30 c31 c1004_0 c1004_1)) (fun s32 => I (z28L1_hd x0 c11 c12 s13 t30 c31 c1004_0 c1004_1 s32)) s32 := by kernel_rfl
theorem z28L1_ok (N : Nat) : ∀ x y k, (∀ st, k .ret st = (resD (z28E N) Tryz.f86 (z28sg fun x _ => ref3_CheckPlatforms N x.1) z28pk) st) → iter (z28h 2) (exec (z28E N) N (cAt (bodyOf Tryz.f86) [true, true, false, true, false, false, true, true, false, false, true, true, true, true, false, false]) 2) N ⟨43, unF z28L1_fs x, unH z28L1_bs y⟩ k = z28L1_F N x y k := fun x y k hk =>
  iter_link (S := (Int) × Unit) (z28h 2) _ (execL (z28LP N) (z28E N) (cAt (bodyOf Tryz.f86) [true, true, false, true, false, false, true, true, false, false, true, true, true, true, false, false]) 2) (resD (z28E N) Tryz.f86 (z28sg fun x _ => ref3_CheckPlatforms N x.1) z28pk) (fun st k hk => execL_eq _ _ N _ (cAt (bodyOf Tryz.f86) [true, true, false, true, false, false, true, true, false, false, true, true, true, true, false, false]) 2 (show LoopsOk (z28LP N) (z28E N) N (resD (z28E N) Tryz.f86 (z28sg fun x _ => ref3_CheckPlatforms N x.1) z28pk) [] from trivial) st k hk) (fun s => z28L1_hd x.1 x.2.2.1 x.2.2.2.1 x.2.2.2.2.1 x.2.2.2.2.2.1 x.2.2.2.2.2.2.1 y.1.1 y.1.2.1 s.1) k hk
    (fun self s => z28L1T N x.2.2.2.2.2.1 x.2.2.2.2.2.2.1 y.1.1 (k (.exit 2) (z28L1_tl2 x.1 x.2.2.1 x.2.2.2.1 x.2.2.2.2.1 x.2.2.2.2.2.1 x.2.2.2.2.2.2.1 y.1.1 y.1.2.1)) (fun s32 => self (s32, ())) s.1) (fun n s => z28L1 N x.2.2.2.2.2.1 x.2.2.2.2.2.2.1 y.1.1 (k (.exit 2) (z28L1_tl2 x.1 x.2.2.1 x.2.2.2.1 x.2.2.2.2.1 x.2.2.2.2.2.1 x.2.2.2.2.2.2.1 y.1.1 y.1.2.1)) n s.1) (fun _ => rfl) (fun _ _ => rfl)
    (fun I s => z28L1_step N x.1 x.2.2.1 x.2.2.2.1 x.2.2.2.2.1 x.2.2.2.2.2.1 x.2.2.2.2.2.2.1 y.1.1 y.1.2.1 (fun j => k (.exit j)) I s.1) N (x.2.2.2.2.2.2.2.1, ())
theorem z28lp2 (N : Nat) : ∀ st k, (∀ st, k .ret st = (resD (z28E N) Tryz.f86 (z28sg fun x _ => ref3_CheckPlatforms N x.1) z28pk) st) → z28LP N 2 (cAt (bodyOf Tryz.f86) [true, true, false, true, false, false, true, true, false, false, true, true, true, true, false, false]) st k = iter (Env.hint (z28E N) 2) (exec (z28E N) N (cAt (bodyOf Tryz.f86) [true, true, false, true, false, false, true, true, false, false, true, true, true, true, false, false]) 2) N st k := fun st k hk => LPc_eq 43 z28L1_fs z28L1_bs _ _ (resD (z28E N) Tryz.f86 (z28sg fun x _ => ref3_CheckPlatforms N x.1) z28pk) (z28L1_ok N) _ st k hk (rfl)
theorem z28L0_step (N : Nat) (x0 : List (Str × List (Str × Str))) (c11 : List (Str × List (Str × Str))) (c12 : Int) (KX : Nat → St → Option Int) (I : St → Option Int) (s13 : Int) :
    execL (z28LP N) (z28E N) (cAt (bodyOf Tryz.f86) [true, true, false, true, false, false]) 0 (z28L0_hd x0 c11 c12 s13) (roundK (z28h 0) I KX (resD (z28E N) Tryz.f86 (z28sg fun x _ => ref3_CheckPlatforms N x.1) z28pk)) = z28L0T N x0 c11 c12 (KX 0 (z28L0_tl0 x0 c11 c12)) (fun s13 => I (z28L0_hd x0 c11 c12 s13)) s13 := by kernel_rfl
theorem z28L0_ok (N : Nat) : ∀ x y k, (∀ st, k .ret st = (resD (z28E N) Tryz.f86 (z28sg fun x _ => ref3_CheckPlatforms N x.1) z28pk) st) → iter (z28h 0) (exec (z28E N) N (cAt (bodyOf Tryz.f86) [true, true, false, true, false, false]) 0) N ⟨43, unF z28L0_fs x, unH z28L0_bs y⟩ k = z28L0_F N x y k := fun x _ k hk =>
  iter_link (S := (Int) × Unit) (z28h 0) _ (execL (z28LP N) (z28E N) (cAt (bodyOf Tryz.f86) [true, true, false, true, false, false]) 0) (resD (z28E N) Tryz.f86 (z28sg fun x _ => ref3_CheckPlatforms N x.1) z28pk) (fun st k hk => execL_eq _ _ N _ (cAt (bodyOf Tryz.f86) [true, true, false, true, false, false]) 0 (show LoopsOk (z28LP N) (z28E N) N (resD (z28E N) Tryz.f86 (z28sg fun x _ => ref3_CheckPlatforms N x.1) z28pk) [(2, (cAt (bodyOf Tryz.f86) [true, true, false, true, false, false, true, true, false, false, true, true, true, true, false, false]))] from ⟨z28lp2 N, trivial⟩) st k hk) (fun s => z28L0_hd x.1 x.2.1 x.2.2.1 s.1) k hk
    (fun self s => z28L0T N x.1 x.2.1 x.2.2.1 (k (.exit 0) (z28L0_tl0 x.1 x.2.1 x.2.2.1)) (fun s13 => self (s13, ())) s.1) (fun n s => z28L0 N x.1 x.2.1 x.2.2.1 (k (.exit 0) (z28L0_tl0 x.1 x.2.1 x.2.2.1)) n s.1) (fun _ => rfl) (fun _ _ => rfl)
    (fun I s => z28L0_step N x.1 x.2.1 x.2.2.1 (fun j => k (.exit j)) I s.1) N (x.2.2.2.1, ())
theorem z28lp0 (N : Nat) : ∀ st k, (∀ st, k .ret st = (resD (z28E N) Tryz.f86 (z28sg fun x _ => ref3_CheckPlatforms N x.1) z28pk) st) → z28LP N 0 (cAt (bodyOf Tryz.f86) [true, true, false, true, false, false]) st k = iter (Env.hint (z28E N) 0) (exec (z28E N) N (cAt (bodyOf Tryz.f86) [true, true, false, true, false, false]) 0) N st k := fun st k hk => LPc_eq 43 z28L0_fs z28L0_bs _ _ (resD (z28E N) Tryz.f86 (z28sg fun x _ => ref3_CheckPlatforms N x.1) z28pk) (z28L0_ok N) _ st k hk (rfl)
theorem z28core (N : Nat) (x : SV [.v (.sl (.pr .str (.sl (.pr .str .str))))]) (y : BV []) : runL (z28E N) Tryz.f86 (z28sg fun x _ => ref3_CheckPlatforms N x.1) z28pk (z28LP N) x y = ref3_CheckPlatforms N x.1 := by kernel_rfl
theorem z28sound (N : Nat) : Sound Tryz.prog GW B0G 86 (z28sg fun x _ => ref3_CheckPlatforms N x.1) :=
  runD_sound (mkE_ok z28h (z28fn N) _ _ (z28fn_ok N)) Tryz.func86 rfl Tryz.call86 (z28sg fun x _ => ref3_CheckPlatforms N x.1) z28pk (fun _ _ => rfl) N (fun x y _ h => ((runL_eq (z28E N) N Tryz.f86 (z28sg fun x _ => ref3_CheckPlatforms N x.1) z28pk (z28LP N) (show LoopsOk (z28LP N) (z28E N) N (resD (z28E N) Tryz.f86 (z28sg fun x _ => ref3_CheckPlatforms N x.1) z28pk) [(0, (cAt (bodyOf Tryz.f86) [true, true, false, true, false, false])), (2, (cAt (bodyOf Tryz.f86) [true, true, false, true, false, false, true, true, false, false, true, true, true, true, false, false]))] from ⟨z28lp0 N, z28lp2 N, trivial⟩) x y).trans (z28core N x y)).trans h)
def z87L0T (N : Nat) (x0 : List (Str × Str)) (c8 : Int) (c1003_1 : List (Str × Str)) (k0 : Option Bool) (self : Int → Option Bool) (s9 : Int) : Option Bool :=
  br (decide (s9 < c8))
    (bnd (geti x0 s9) fun t11 =>
    bnd (slices_Contains_api_Pair N c1003_1 t11) fun t16 =>
    br (!t16)
      (some false)
      (self (IntKind.i64.wrap (s9 + (1 : Int)))))
    (k0)
def z87L0 (N : Nat) (x0 : List (Str × Str)) (c8 : Int) (c1003_1 : List (Str × Str)) (k0 : Option Bool) : Nat → Int → Option Bool
  | 0, _ => none
  | n + 1, s9 => z87L0T N x0 c8 c1003_1 k0 (z87L0 N x0 c8 c1003_1 k0 n) s9
def ref3_fits (N : Nat) (x0 : List (Str × Str)) (x1 : Str × List (Str × Str)) : Option Bool :=
  z87L0 N x0 (x0.length : Int) x1.2 (some true) N (0 : Int)
abbrev z87sg (f : SV [.v (.sl (.pr .str .str)), .v (.pr .str (.sl (.pr .str .str)))] → BV [] → Option (Bool)) : AF := { ps := [.v (.sl (.pr .str .str)), .v (.pr .str (.sl (.pr .str .str)))], bs := [], rs := [.v .bool], cs := [], R := Bool, out := fun z => ((z, ()), ()), f := f }
abbrev z87pk : SV [.v .bool] → BV [] → Bool := fun x _ => x.1
def z87fn (N : Nat) : FuncId → Option Tmp → Option AF := fun f _ =>
  match f with
    | 185 => some (z19sg fun x _ => slices_Contains_api_Pair N x.1 x.2.1)
    | _ => none
theorem z87fn_ok (N : Nat) : ∀ f q F, z87fn N f q = some F → Sound Tryz.prog GW B0G f F := by
  intro f q F h
  unfold z87fn at h
  split at h
  · cases h; exact z19sound N
  · cases h
def z87h : Nat → Hint := fun i =>
  match i with
  | 0 => ⟨[], [3, 7, 8, 9], [1003], [], [], []⟩
  | _ => ⟨[], [], [], [], [], []⟩
abbrev z87E (N : Nat) : Env := mkE z87h (z87fn N) (fun _ => false) (fun _ => false)
abbrev z87L0_fs : List (Nat × Sl) := [(3, .box 1003 0), (7, .v (.sl (.pr .str .str))), (8, .v (.int .i64)), (9, .v (.int .i64))]
abbrev z87L0_bs : List (Nat × Sb) := [(1003, .cells [.v .str, .v (.sl (.pr .str .str))])]
def z87L0_hd (x0 : List (Str × Str)) (c8 : Int) (c1003_0 : Str) (c1003_1 : List (Str × Str)) (s9 : Int) : St := ⟨19, [(3, .box 1003 0), (7, .v (.sl (.pr .str .str)) x0), (8, .v (.int .i64) c8), (9, .v (.int .i64) s9)], [(1003, .cells [.v .str c1003_0, .v (.sl (.pr .str .str)) c1003_1])]⟩
def z87L0_tl0 (_x0 : List (Str × Str)) (_c8 : Int) (_c1003_0 : Str) (_c1003_1 : List (Str × Str)) : St := ⟨19, [], []⟩
def z87L0_G (N : Nat) (x0 : List (Str × Str)) (c8 : Int) (c1003_0 : Str) (c1003_1 : List (Str × Str)) (s9 : Int) (k : Ex → St → Option Bool) : Option Bool :=
  z87L0 N x0 c8 c1003_1 (k (.exit 0) (z87L0_tl0 x0 c8 c1003_0 c1003_1)) N s9
abbrev z87L0_F (N : Nat) : FV z87L0_fs → HV z87L0_bs → (Ex → St → Option Bool) → Option Bool := fun x y k => z87L0_G N x.2.1 x.2.2.1 y.1.1 y.1.2.1 x.2.2.2.1 k
noncomputable def z87LP (N : Nat) : Nat → Code → St → (Ex → St → Option Bool) → Option Bool := fun i c =>
  match i with
  | 0 => (LPc 19 z87L0_fs z87L0_bs (z87L0_F N) (fun st k => iter (z87h 0) (exec (z87E N) N c 0) N st k))
  | i => fun st k => iter (z87h i) (exec (z87E N) N c i) N st k
theorem z87L0_step (N : Nat) (x0 : List (Str × Str)) (c8 : Int) (c1003_0 : Str) (c1003_1 : List (Str × Str)) (KX : Nat → St → Option Bool) (I : St → Option Bool) (s9 : Int) :
    execL (z87LP N) (z87E N) (cAt (bodyOf Tryz.f138) [true, false, true, false, false]) 0 (z87L0_hd x0 c8 c1003_0 c1003_1 s9) (roundK (z87h 0) I KX (resD (z87E N) Tryz.f138 (z87sg fun x _ => ref3_fits N x.1 x.2.1) z87pk)) = z87L0T N x0 c8 c1003_1 (KX 0 (z87L0_tl0 x0 c8 c1003_0 c1003_1)) (fun s9 => I (z87L0_hd x0 c8 c1003_0 c1003_1 s9)) s9 := by kernel_rfl
theorem z87L0_ok (N : Nat) : ∀ x y k, (∀ st, k .ret st = (resD (z87E N) Tryz.f138 (z87sg fun x _ => ref3_fits N x.1 x.2.1) z87pk) st) → iter (z87h 0) (exec (z87E N) N (cAt (bodyOf Tryz.f138) [true, false, true, false, false]) 0) N ⟨19, unF z87L0_fs x, unH z87L0_bs y⟩ k = z87L0_F N x y k := fun x y k hk =>
  iter_link (S := (Int) × Unit) (z87h 0) _ (execL (z87LP N) (z87E N) (cAt (bodyOf Tryz.f138) [true, false, true, false, false]) 0) (resD (z87E N) Tryz.f138 (z87sg fun x _ => ref3_fits N x.1 x.2.1) z87pk) (fun st k hk => execL_eq _ _ N _ (cAt (bodyOf Tryz.f138) [true, false, true, false, false]) 0 (show LoopsOk (z87LP N) (z87E N) N (resD (z87E N) Tryz.f138 (z87sg fun x _ => ref3_fits N x.1 x.2.1) z87pk) [] from trivial) st k hk) (fun s => z87L0_hd x.2.1 x.2.2.1 y.1.1 y.1.2.1 s.1) k hk
    (fun self s => z87L0T N x.2.1 x.2.2.1 y.1.2.1 (k (.exit 0) (z87L0_tl0 x.2.1 x.2.2.1 y.1.1 y.1.2.1)) (fun s9 => self (s9, ())) s.1) (fun n s => z87L0 N x.2.1 x.2.2.1 y.1.2.1 (k (.exit 0) (z87L0_tl0 x.2.1 x.2.2.1 y.1.1 y.1.2.1)) n s.1) (fun _ => rfl) (fun _ _ => rfl)
    (fun I s => z87L0_step N x.2.1 x.2.2.1 y.1.1 y.1.2.1 (fun j => k (.exit j)) I s.1) N (x.2.2.2.1, ())
theorem z87lp0 (N : Nat) : ∀ st k, (∀ st, k .ret st = (resD (z87E N) Tryz.f138 (z87sg fun x _ => ref3_fits N x.1 x.2.1) z87pk) st) → z87LP N 0 (cAt (bodyOf Tryz.f138) [true, false, true, false, false]) st k = iter (Env.hint (z87E N) 0) (exec (z87E N) N (cAt (bodyOf Tryz.f138) [true, false, true, false, false]) 0) N st k := fun st k hk => LPc_eq 19 z87L0_fs z87L0_bs _ _ (resD (z87E N) Tryz.f138 (z87sg fun x _ => ref3_fits N x.1 x.2.1) z87pk) (z87L0_ok N) _ st k hk (rfl)
theorem z87core (N : Nat) (x : SV [.v (.sl (.pr .str .str)), .v (.pr .str (.sl (.pr .str .str)))]) (y : BV []) : runL (z87E N) Tryz.f138 (z87sg fun x _ => ref3_fits N x.1 x.2.1) z87pk (z87LP N) x y = ref3_fits N x.1 x.2.1 := by kernel_rfl
theorem z87sound (N : Nat) : Sound Tryz.prog GW B0G 138 (z87sg fun x _ => ref3_fits N x.1 x.2.1) :=
  runD_sound (mkE_ok z87h (z87fn N) _ _ (z87fn_ok N)) Tryz.func138 rfl Tryz.call138 (z87sg fun x _ => ref3_fits N x.1 x.2.1) z87pk (fun _ _ => rfl) N (fun x y _ h => ((runL_eq (z87E N) N Tryz.f138 (z87sg fun x _ => ref3_fits N x.1 x.2.1) z87pk (z87LP N) (show LoopsOk (z87LP N) (z87E N) N (resD (z87E N) Tryz.f138 (z87sg fun x _ => ref3_fits N x.1 x.2.1) z87pk) [(0, (cAt (bodyOf Tryz.f138) [true, false, true, false, false]))] from ⟨z87lp0 N, trivial⟩) x y).trans (z87core N x y)).trans h)
def z85L0T (N : Nat) (x0 : List (Str × List Str)) (x2 : List (Str × Str)) (c12 : List (Str × Str)) (c13 : Int) (k0 : Option Bool) (self : Int → Option Bool) (s14 : Int) : Option Bool :=
  br (decide (s14 < c13))
    (bnd (geti c12 s14) fun t16 =>
    bnd (ref3_valueOf N x0 x2 t16.1) fun t22 =>
    br (!(t22 == t16.2))
      (some false)
      (self (IntKind.i64.wrap (s14 + (1 : Int)))))
    (k0)
def z85L0 (N : Nat) (x0 : List (Str × List Str)) (x2 : List (Str × Str)) (c12 : List (Str × Str)) (c13 : Int) (k0 : Option Bool) : Nat → Int → Option Bool
  | 0, _ => none
  | n + 1, s14 => z85L0T N x0 x2 c12 c13 k0 (z85L0 N x0 x2 c12 c13 k0 n) s14
def ref3_holds (N : Nat) (x0 : List (Str × List Str)) (x1 : Str × List (Str × Str) × List (Str × Str)) (x2 : List (Str × Str)) (x3 : Str × List (Str × Str)) : Option Bool :=
  z85L0 N x0 x2 x1.2.1 (x1.2.1.length : Int) (bnd (ref3_fits N x1.2.2 x3) fun t30 =>
      some t30) N (0 : Int)
abbrev z85sg (f : SV [.v (.sl (.pr .str (.sl .str))), .v (.pr .str (.pr (.sl (.pr .str .str)) (.sl (.pr .str .str)))), .v (.sl (.pr .str .str)), .v (.pr .str (.sl (.pr .str .str)))] → BV [] → Option (Bool)) : AF := { ps := [.v (.sl (.pr .str (.sl .str))), .v (.pr .str (.pr (.sl (.pr .str .str)) (.sl (.pr .str .str)))), .v (.sl (.pr .str .str)), .v (.pr .str (.sl (.pr .str .str)))], bs := [], rs := [.v .bool], cs := [], R := Bool, out := fun z => ((z, ()), ()), f := f }
abbrev z85pk : SV [.v .bool] → BV [] → Bool := fun x _ => x.1
def z85fn (N : Nat) : FuncId → Option Tmp → Option AF := fun f _ =>
  match f with
    | 101 => some (z70sg fun x _ => ref3_valueOf N x.1 x.2.1 x.2.2.1)
    | 138 => some (z87sg fun x _ => ref3_fits N x.1 x.2.1)
    | _ => none
theorem z85fn_ok (N : Nat) : ∀ f q F, z85fn N f q = some F → Sound Tryz.prog GW B0G f F := by
  intro f q F h
  unfold z85fn at h
  split at h
  · cases h; exact z70sound N
  · cases h; exact z87sound N
  · cases h
def z85h : Nat → Hint := fun i =>
  match i with
  | 0 => ⟨[], [0, 2, 5, 7, 12, 13, 14], [1005, 1007], [5, 7], [1005, 1007], []⟩
  | _ => ⟨[], [], [], [], [], []⟩
abbrev z85E (N : Nat) : Env := mkE z85h (z85fn N) (fun _ => false) (fun _ => false)
abbrev z85L0_fs : List (Nat × Sl) := [(0, .v (.sl (.pr .str (.sl .str)))), (2, .v (.sl (.pr .str .str))), (5, .box 1005 0), (7, .box 1007 0), (12, .v (.sl (.pr .str .str))), (13, .v (.int .i64)), (14, .v (.int .i64))]
abbrev z85L0_bs : List (Nat × Sb) := [(1005, .cells [.v .str, .v (.sl (.pr .str .str)), .v (.sl (.pr .str .str))]), (1007, .cells [.v .str, .v (.sl (.pr .str .str))])]
def z85L0_hd (x0 : List (Str × List Str)) (x2 : List (Str × Str)) (c12 : List (Str × Str)) (c13 : Int) (c1005_0 : Str) (c1005_1 : List (Str × Str)) (c1005_2 : List (Str × Str)) (c1007_0 : Str) (c1007_1 : List (Str × Str)) (s14 : Int) : St := ⟨31, [(0, .v (.sl (.pr .str (.sl .str))) x0), (2, .v (.sl (.pr .str .str)) x2), (5, .box 1005 0), (7, .box 1007 0), (12, .v (.sl (.pr .str .str)) c12), (13, .v (.int .i64) c13), (14, .v (.int .i64) s14)], [(1005, .cells [.v .str c1005_0, .v (.sl (.pr .str .str)) c1005_1, .v (.sl (.pr .str .str)) c1005_2]), (1007, .cells [.v .str c1007_0, .v (.sl (.pr .str .str)) c1007_1])]⟩
def z85L0_tl0 (_x0 : List (Str × List Str)) (_x2 : List (Str × Str)) (_c12 : List (Str × Str)) (_c13 : Int) (c1005_0 : Str) (c1005_1 : List (Str × Str)) (c1005_2 : List (Str × Str)) (c1007_0 : Str) (c1007_1 : List (Str × Str)) : St := ⟨31, [(5, .box 1005 0), (7, .box 1007 0)], [(1005, .cells [.v .str c1005_0, .v (.sl (.pr .str .str)) c1005_1, .v (.sl (.pr .str .str)) c1005_2]), (1007, .cells [.v .str c1007_0, .v (.sl (.pr .str .str)) c1007_1])]⟩
def z85L0_G (N : Nat) (x0 : List (Str × List Str)) (x2 : List (Str × Str)) (c12 : List (Str × Str)) (c13 : Int) (c1005_0 : Str) (c1005_1 : List (Str × Str)) (c1005_2 : List (Str × Str)) (c1007_0 : Str) (c1007_1 : List (Str × Str)) (s14 : Int) (k : Ex → St → Option Bool) : Option Bool :=
  z85L0 N x0 x2 c12 c13 (k (.exit 0) (z85L0_tl0 x0 x2 c12 c13 c1005_0 c1005_1 c1005_2 c1007_0 c1007_1)) N s14
abbrev z85L0_F (N : Nat) : FV z85L0_fs → HV z85L0_bs → (Ex → St → Option Bool) → Option Bool := fun x y k => z85L0_G N x.1 x.2.1 x.2.2.2.2.1 x.2.2.2.2.2.1 y.1.1 y.1.2.1 y.1.2.2.1 y.2.1.1 y.2.1.2.1 x.2.2.2.2.2.2.1 k
noncomputable def z85LP (N : Nat) : Nat → Code → St → (Ex → St → Option Bool) → Option Bool := fun i c =>
  match i with
  | 0 => (LPc 31 z85L0_fs z85L0_bs (z85L0_F N) (fun st k => iter (z85h 0) (exec (z85E N) N c 0) N st k))
  | i => fun st k => iter (z85h i) (exec (z85E N) N c i) N st k
theorem z85L0_step (N : Nat) (x0 : List (Str × List Str)) (x2 : List (Str × Str)) (c12 : List (Str × Str)) (c13 : Int) (c1005_0 : Str) (c1005_1 : List (Str × Str)) (c1005_2 : List (Str × Str)) (c1007_0 : Str) (c1007_1 : List (Str × Str)) (KX : Nat → St → Option Bool) (I : St → Option Bool) (s14 : Int) :
    execL (z85LP N) (z85E N) (cAt (bodyOf Tryz.f91) [true, false, true, false, false]) 0 (z85L0_hd x0 x2 c12 c13 c1005_0 c1005_1 c1005_2 c1007_0 c1007_1 s14) (roundK (z85h 0) I KX (resD (z85E N) Tryz.f91 (z85sg fun x _ => ref3_holds N x.1 x.2.1 x.2.2.1 x.2.2.2.1) z85pk)) = z85L0T N x0 x2 c12 c13 (KX 0 (z85L0_tl0 x0 x2 c12 c13 c1005_0 c1005_1 c1005_2 c1007_0 c1007_1)) (fun s14 => I (z85L0_hd x0 x2 c12 c13 c1005_0 c1005_1 c1005_2 c1007_0 c1007_1 s14)) s14 := by kernel_rfl
theorem z85L0_ok (N : Nat) : ∀ x y k, (∀ st, k .ret st = (resD (z85E N) Tryz.f91 (z85sg fun x _ => ref3_holds N x.1 x.2.1 x.2.2.1 x.2.2.2.1) z85pk) st) → iter (z85h 0) (exec (z85E N) N (cAt (bodyOf Tryz.f91) [true, false, true, false, false]) 0) N ⟨31, unF z85L0_fs x, unH z85L0_bs y⟩ k = z85L0_F N x y k := fun x y k hk =>
  iter_link (S := (Int) × Unit) (z85h 0) _ (execL (z85LP N) (z85E N) (cAt (bodyOf Tryz.f91) [true, false, true, false, false]) 0) (resD (z85E N) Tryz.f91 (z85sg fun x _ => ref3_holds N x.1 x.2.1 x.2.2.1 x.2.2.2.1) z85pk) (fun st k hk => execL_eq _ _ N _ (cAt (bodyOf Tryz.f91) [true, false, true, false, false]) 0 (show LoopsOk (z85LP N) (z85E N) N (resD (z85E N) Tryz.f91 (z85sg fun x _ => ref3_holds N x.1 x.2.1 x.2.2.1 x.2.2.2.1) z85pk) [] from trivial) st k hk) (fun s => z85L0_hd x.1 x.2.1 x.2.2.2.2.1 x.2.2.2.2.2.1 y.1.1 y.1.2.1 y.1.2.2.1 y.2.1.1 y.2.1.2.1 s.1) k hk
    (fun self s => z85L0T N x.1 x.2.1 x.2.2.2.2.1 x.2.2.2.2.2.1 (k (.exit 0) (z85L0_tl0 x.1 x.2.1 x.2.2.2.2.1 x.2.2.2.2.2.1 y.1.1 y.1.2.1 y.1.2.2.1 y.2.1.1 y.2.1.2.1)) (fun s14 => self (s14, ())) s.1) (fun n s => z85L0 N x.1 x.2.1 x.2.2.2.2.1 x.2.2.2.2.2.1 (k (.exit 0) (z85L0_tl0 x.1 x.2.1 x.2.2.2.2.1 x.2.2.2.2.2.1 y.1.1 y.1.2.1 y.1.2.2.1 y.2.1.1 y.2.1.2.1)) n s.1) (fun _ => rfl) (fun _ _ => rfl)
    (fun I s => z85L0_step N x.1 x.2.1 x.2.2.2.2.1 x.2.2.2.2.2.1 y.1.1 y.1.2.1 y.1.2.2.1 y.2.1.1 y.2.1.2.1 (fun j => k (.exit j)) I s.1) N (x.2.2.2.2.2.2.1, ())
theorem z85lp0 (N : Nat) : ∀ st k, (∀ st, k .ret st = (resD (z85E N) Tryz.f91 (z85sg fun x _ => ref3_holds N x.1 x.2.1 x.2.2.1 x.2.2.2.1) z85pk) st) → z85LP N 0 (cAt (bodyOf Tryz.f91) [true, false, true, false, false]) st k = iter (Env.hint (z85E N) 0) (exec (z85E N) N (cAt (bodyOf Tryz.f91) [true, false, true, false, false]) 0) N st k := fun st k hk => LPc_eq 31 z85L0_fs z85L0_bs _ _ (resD (z85E N) Tryz.f91 (z85sg fun x _ => ref3_holds N x.1 x.2.1 x.2.2.1 x.2.2.2.1) z85pk) (z85L0_ok N) _ st k hk (rfl)
theorem z85core (N : Nat) (x : SV [.v (.sl (.pr .str (.sl .str))), .v (.pr .str (.pr (.sl (.pr .str .str)) (.sl (.pr .str .str)))), .v (.sl (.pr .str .str)), .v (.pr .str (.sl (.pr .str .str)))]) (y : BV []) : runL (z85E N) Tryz.f91 (z85sg fun x _ => ref3_holds N x.1 x.2.1 x.2.2.1 x.2.2.2.1) z85pk (z85LP N) x y = ref3_holds N x.1 x.2.1 x.2.2.1 x.2.2.2.1 := by kernel_rfl
theorem z85sound (N : Nat) : Sound Tryz.prog GW B0G 91 (z85sg fun x _ => ref3_holds N x.1 x.2.1 x.2.2.1 x.2.2.2.1) :=
  runD_sound (mkE_ok z85h (z85fn N) _ _ (z85fn_ok N)) Tryz.func91 rfl Tryz.call91 (z85sg fun x _ => ref3_holds N x.1 x.2.1 x.2.2.1 x.2.2.2.1) z85pk (fun _ _ => rfl) N (fun x y _ h => ((runL_eq (z85E N) N Tryz.f91 (z85sg fun x _ => ref3_holds N x.1 x.2.1 x.2.2.1 x.2.2.2.1) z85pk (z85LP N) (show LoopsOk (z85LP N) (z85E N) N (resD (z85E N) Tryz.f91 (z85sg fun x _ => ref3_holds N x.1 x.2.1 x.2.2.1 x.2.2.2.1) z85pk) [(0, (cAt (bodyOf Tryz.f91) [true, false, true, false, false]))] from ⟨z85lp0 N, trivial⟩) x y).trans (z85core N x y)).trans h)
def z14L0T (_N : Nat) (x0 : List Str) (x1 : List Str) (c12 : Int) (k0 : Option Bool) (self : Int → Option Bool) (s13 : Int) : Option Bool :=
  br (decide (s13 < c12))
    (bnd (geti x0 s13) fun t18 =>
    bnd (geti x1 s13) fun t22 =>
    br (!(t18 == t22))
      (some false)
      (self (IntKind.i64.wrap (s13 + (1 : Int)))))
    (k0)
def z14L0 (N : Nat) (x0 : List Str) (x1 : List Str) (c12 : Int) (k0 : Option Bool) : Nat → Int → Option Bool
  | 0, _ => none
  | n + 1, s13 => z14L0T N x0 x1 c12 k0 (z14L0 N x0 x1 c12 k0 n) s13
def slices_Equal_string_string (N : Nat) (x0 : List Str) (x1 : List Str) : Option Bool :=
  br ((x0.length : Int) != (x1.length : Int))
    (some false)
    (z14L0 N x0 x1 (x0.length : Int) (some true) N (0 : Int))
abbrev z14sg (f : SV [.v (.sl .str), .v (.sl .str)] → BV [] → Option (Bool)) : AF := { ps := [.v (.sl .str), .v (.sl .str)], bs := [], rs := [.v .bool], cs := [], R := Bool, out := fun z => ((z, ()), ()), f := f }
abbrev z14pk : SV [.v .bool] → BV [] → Bool := fun x _ => x.1
def z14fn (_N : Nat) : FuncId → Option Tmp → Option AF := fun f _ =>
  match f with
    | _ => none
theorem z14fn_ok (N : Nat) : ∀ f q F, z14fn N f q = some F → Sound Tryz.prog GW B0G f F := by
  intro f q F h
  unfold z14fn at h
  split at h
  · cases h
def z14h : Nat → Hint := fun i =>
  match i with
  | 0 => ⟨[], [0, 1, 12, 13], [], [], [], []⟩
  | _ => ⟨[], [], [], [], [], []⟩
abbrev z14E (N : Nat) : Env := mkE z14h (z14fn N) (fun _ => false) (fun _ => false)
abbrev z14L0_fs : List (Nat × Sl) := [(0, .v (.sl .str)), (1, .v (.sl .str)), (12, .v (.int .i64)), (13, .v (.int .i64))]
abbrev z14L0_bs : List (Nat × Sb) := []
def z14L0_hd (x0 : List Str) (x1 : List Str) (c12 : Int) (s13 : Int) : St := ⟨26, [(0, .v (.sl .str) x0), (1, .v (.sl .str) x1), (12, .v (.int .i64) c12), (13, .v (.int .i64) s13)], []⟩
def z14L0_tl0 (_x0 : List Str) (_x1 : List Str) (_c12 : Int) : St := ⟨26, [], []⟩
def z14L0_G (N : Nat) (x0 : List Str) (x1 : List Str) (c12 : Int) (s13 : Int) (k : Ex → St → Option Bool) : Option Bool :=
  z14L0 N x0 x1 c12 (k (.exit 0) (z14L0_tl0 x0 x1 c12)) N s13
abbrev z14L0_F (N : Nat) : FV z14L0_fs → HV z14L0_bs → (Ex → St → Option Bool) → Option Bool := fun x _ k => z14L0_G N x.1 x.2.1 x.2.2.1 x.2.2.2.1 k
noncomputable def z14LP (N : Nat) : Nat → Code → St → (Ex → St → Option Bool) → Option Bool := fun i c =>
  match i with
  | 0 => (LPc 26 z14L0_fs z14L0_bs (z14L0_F N) (fun st k => iter (z14h 0) (exec (z14E N) N c 0) N st k))
  | i => fun st k => iter (z14h i) (exec (z14E N) N c i) N st k
theorem z14L0_step (N : Nat) (x0 : List Str) (x1 : List Str) (c12 : Int) (KX : Nat → St → Option Bool) (I : St → Option Bool) (s13 : Int) :
    execL (z14LP N) (z14E N) (cAt (bodyOf Tryz.f20) [true, true, false, true, false, false]) 0 (z14L0_hd x0 x1 c12 s13) (roundK (z14h 0) I KX (resD (z14E N) Tryz.f20 (z14sg fun x _ => slices_Equal_string_string N x.1 x.2.1) z14pk)) = z14L0T N x0 x1 c12 (KX 0 (z14L0_tl0 x0 x1 c12)) (fun s13 => I (z14L0_hd x0 x1 c12 s13)) s13 := by kernel_rfl
theorem z14L0_ok (N : Nat) : ∀ x y k, (∀ st, k .ret st = (resD (z14E N) Tryz.f20 (z14sg fun x _ => slices_Equal_string_string N x.1 x.2.1) z14pk) st) → iter (z14h 0) (exec (z14E N) N (cAt (bodyOf Tryz.f20) [true, true, false, true, false, false]) 0) N ⟨26, unF z14L0_fs x, unH z14L0_bs y⟩ k = z14L0_F N x y k := fun x _ k hk =>
  iter_link (S := (Int) × Unit) (z14h 0) _ (execL (z14LP N) (z14E N) (cAt (bodyOf Tryz.f20) [true, true, false, true, false, false]) 0) (resD (z14E N) Tryz.f20 (z14sg fun x _ => slices_Equal_string_string N x.1 x.2.1) z14pk) (fun st k hk => execL_eq _ _ N _ (cAt (bodyOf Tryz.f20) [true, true, false, true, false, false]) 0 (show LoopsOk (z14LP N) (z14E N) N (resD (z14E N) Tryz.f20 (z14sg fun x _ => slices_Equal_string_string N x.1 x.2.1) z14pk) [] from trivial) st k hk) (fun s => z14L0_hd x.1 x.2.1 x.2.2.1 s.1) k hk
    (fun self s => z14L0T N x.1 x.2.1 x.2.2.1 (k (.exit 0) (z14L0_tl0 x.1 x.2.1 x.2.2.1)) (fun s13 => self (s13, ())) s.1) (fun n s => z14L0 N x.1 x.2.1 x.2.2.1 (k (.exit 0) (z14L0_tl0 x.1 x.2.1 x.2.2.1)) n s.1) (fun _ => rfl) (fun _ _ => rfl)
    (fun I s => z14L0_step N x.1 x.2.1 x.2.2.1 (fun j => k (.exit j)) I s.1) N (x.2.2.2.1, ())
theorem z14lp0 (N : Nat) : ∀ st k, (∀ st, k .ret st = (resD (z14E N) Tryz.f20 (z14sg fun x _ => slices_Equal_string_string N x.1 x.2.1) z14pk) st) → z14LP N 0 (cAt (bodyOf Tryz.f20) [true, true, false, true, false, false]) st k = iter (Env.hint (z14E N) 0) (exec (z14E N) N (cAt (bodyOf Tryz.f20) [true, true, false, true, false, false]) 0) N st k := fun st k hk => LPc_eq 26 z14L0_fs z14L0_bs _ _ (resD (z14E N) Tryz.f20 (z14sg fun x _ => slices_Equal_string_string N x.1 x.2.1) z14pk) (z14L0_ok N) _ st k hk (rfl)
theorem z14core (N : Nat) (x : SV [.v (.sl .str), .v (.sl .str)]) (y : BV []) : runL (z14E N) Tryz.f20 (z14sg fun x _ => slices_Equal_string_string N x.1 x.2.1) z14pk (z14LP N) x y = slices_Equal_string_string N x.1 x.2.1 := by kernel_rfl
theorem z14sound (N : Nat) : Sound Tryz.prog GW B0G 20 (z14sg fun x _ => slices_Equal_string_string N x.1 x.2.1) :=
  runD_sound (mkE_ok z14h (z14fn N) _ _ (z14fn_ok N)) Tryz.func20 rfl Tryz.call20 (z14sg fun x _ => slices_Equal_string_string N x.1 x.2.1) z14pk (fun _ _ => rfl) N (fun x y _ h => ((runL_eq (z14E N) N Tryz.f20 (z14sg fun x _ => slices_Equal_string_string N x.1 x.2.1) z14pk (z14LP N) (show LoopsOk (z14LP N) (z14E N) N (resD (z14E N) Tryz.f20 (z14sg fun x _ => slices_Equal_string_string N x.1 x.2.1) z14pk) [(0, (cAt (bodyOf Tryz.f20) [true, true, false, true, false, false]))] from ⟨z14lp0 N, trivial⟩) x y).trans (z14core N x y)).trans h)
def slices_Clone_string_string (_N : Nat) (x0 : List Str) : Option (List Str) :=
  br ((x0).isEmpty)
    (both
      (some ([] : List Str))
      (br (decide ((([] : List Str).length + x0.length) * (24 * Ty.sz .str) ≤ 140737488355328))
        (some (([] : List Str) ++ x0))
        none))
    (br (decide ((([] : List Str).length + x0.length) * (24 * Ty.sz .str) ≤ 140737488355328))
      (some (([] : List Str) ++ x0))
      none)
abbrev z13sg (f : SV [.v (.sl .str)] → BV [] → Option (List Str)) : AF := { ps := [.v (.sl .str)], bs := [], rs := [.row 0], cs := [.row 9 .str true], R := List Str, out := fun z => (((), ()), (z, ())), f := f }
abbrev z13pk : SV [.row 0] → BV [.row 9 .str true] → (List Str) := fun _ y => y.1
def z13fn (_N : Nat) : FuncId → Option Tmp → Option AF := fun f _ =>
  match f with
    | _ => none
theorem z13fn_ok (N : Nat) : ∀ f q F, z13fn N f q = some F → Sound Tryz.prog GW B0G f F := by
  intro f q F h
  unfold z13fn at h
  split at h
  · cases h
def z13h : Nat → Hint := fun i =>
  match i with
  | _ => ⟨[], [], [], [], [], []⟩
abbrev z13E (N : Nat) : Env := mkE z13h (z13fn N) (fun i => match i with | 2 => true | 5 => true | _ => false) (fun _ => false)
noncomputable def z13LP (N : Nat) : Nat → Code → St → (Ex → St → Option (List Str)) → Option (List Str) := fun i c =>
  match i with
  | i => fun st k => iter (z13h i) (exec (z13E N) N c i) N st k
theorem z13core (N : Nat) (x : SV [.v (.sl .str)]) (y : BV []) : runL (z13E N) Tryz.f55 (z13sg fun x _ => slices_Clone_string_string N x.1) z13pk (z13LP N) x y = slices_Clone_string_string N x.1 := by kernel_rfl
theorem z13sound (N : Nat) : Sound Tryz.prog GW B0G 55 (z13sg fun x _ => slices_Clone_string_string N x.1) :=
  runD_sound (mkE_ok z13h (z13fn N) _ _ (z13fn_ok N)) Tryz.func55 rfl Tryz.call55 (z13sg fun x _ => slices_Clone_string_string N x.1) z13pk (fun _ _ => rfl) N (fun x y _ h => ((runL_eq (z13E N) N Tryz.f55 (z13sg fun x _ => slices_Clone_string_string N x.1) z13pk (z13LP N) (show LoopsOk (z13LP N) (z13E N) N (resD (z13E N) Tryz.f55 (z13sg fun x _ => slices_Clone_string_string N x.1) z13pk) [] from trivial) x y).trans (z13core N x y)).trans h)
end
end Go.Proofs.YtbekhaioddmliaaGreatDoor


/- What functions of the program compute, as plain functions (printed). -/
namespace Go.Proofs.YtbekhaioddmliaaGreatDoor
open Go Go.RowKit
set_option maxRecDepth 100000
set_option linter.unusedVariables false
noncomputable section
end
end Go.Proofs.YtbekhaioddmliaaGreatDoor


/- What functions of the program compute, as plain functions (printed). -/
namespace Go.Proofs.YtbekhaioddmliaaGreatDoor
open Go Go.RowKit
set_option maxRecDepth 100000
set_option linter.unusedVariables false
noncomputable section
def config_checkChoice (N : Nat) (x0 : List (Str × List Str) × List (Str × List (Str × Str) × List (Str × Str)) × List (Str × List (Str × Str)) × List (Str × Str × List (Str × Str) × List (Str × Str)) × List (Str × List (Str × Str) × List Str)) (x1 : List (Str × Str)) (x2 : Str × List (Str × Str)) : Option Int :=
  bnd (config_CheckConditions N x0.1 x0.2.1) fun t13 =>
  br (t13 != (0 : Int))
    (some t13)
    (bnd (config_CheckConfig N x0.1 x1) fun t20 =>
    br (t20 != (0 : Int))
      (some t20)
      (bnd (config_CheckPlatforms N [x2]) fun t26 =>
      some t26))
abbrev z34sg (f : SV [.v (.pr (.sl (.pr .str (.sl .str))) (.pr (.sl (.pr .str (.pr (.sl (.pr .str .str)) (.sl (.pr .str .str))))) (.pr (.sl (.pr .str (.sl (.pr .str .str)))) (.pr (.sl (.pr .str (.pr .str (.pr (.sl (.pr .str .str)) (.sl (.pr .str .str)))))) (.sl (.pr .str (.pr (.sl (.pr .str .str)) (.sl .str)))))))), .v (.sl (.pr .str .str)), .v (.pr .str (.sl (.pr .str .str)))] → BV [] → Option (Int)) : AF := { ps := [.v (.pr (.sl (.pr .str (.sl .str))) (.pr (.sl (.pr .str (.pr (.sl (.pr .str .str)) (.sl (.pr .str .str))))) (.pr (.sl (.pr .str (.sl (.pr .str .str)))) (.pr (.sl (.pr .str (.pr .str (.pr (.sl (.pr .str .str)) (.sl (.pr .str .str)))))) (.sl (.pr .str (.pr (.sl (.pr .str .str)) (.sl .str)))))))), .v (.sl (.pr .str .str)), .v (.pr .str (.sl (.pr .str .str)))], bs := [], rs := [.v (.int .i64)], cs := [], R := Int, out := fun z => ((z, ()), ()), f := f }
abbrev z34pk : SV [.v (.int .i64)] → BV [] → Int := fun x _ => x.1
def z34fn (N : Nat) : FuncId → Option Tmp → Option AF := fun f _ =>
  match f with
    | 29 => some (z33sg fun x _ => config_CheckConfig N x.1 x.2.1)
    | 64 => some (z21sg fun x _ => config_CheckConditions N x.1 x.2.1)
    | 75 => some (z22sg fun x _ => config_CheckPlatforms N x.1)
    | _ => none
theorem z34fn_ok (N : Nat) : ∀ f q F, z34fn N f q = some F → Sound Tryz.prog GW B0G f F := by
  intro f q F h
  unfold z34fn at h
  split at h
  · cases h; exact z33sound N
  · cases h; exact z21sound N
  · cases h; exact z22sound N
  · cases h
def z34h : Nat → Hint := fun i =>
  match i with
  | _ => ⟨[], [], [], [], [], []⟩
abbrev z34E (N : Nat) : Env := mkE z34h (z34fn N) (fun _ => false) (fun _ => false)
noncomputable def z34LP (N : Nat) : Nat → Code → St → (Ex → St → Option Int) → Option Int := fun i c =>
  match i with
  | i => fun st k => iter (z34h i) (exec (z34E N) N c i) N st k
theorem z34core (N : Nat) (x : SV [.v (.pr (.sl (.pr .str (.sl .str))) (.pr (.sl (.pr .str (.pr (.sl (.pr .str .str)) (.sl (.pr .str .str))))) (.pr (.sl (.pr .str (.sl (.pr .str .str)))) (.pr (.sl (.pr .str (.pr .str (.pr (.sl (.pr .str .str)) (.sl (.pr .str .str)))))) (.sl (.pr .str (.pr (.sl (.pr .str .str)) (.sl .str)))))))), .v (.sl (.pr .str .str)), .v (.pr .str (.sl (.pr .str .str)))]) (y : BV []) : runL (z34E N) Tryz.f30 (z34sg fun x _ => config_checkChoice N x.1 x.2.1 x.2.2.1) z34pk (z34LP N) x y = config_checkChoice N x.1 x.2.1 x.2.2.1 := by kernel_rfl
theorem z34sound (N : Nat) : Sound Tryz.prog GW B0G 30 (z34sg fun x _ => config_checkChoice N x.1 x.2.1 x.2.2.1) :=
  runD_sound (mkE_ok z34h (z34fn N) _ _ (z34fn_ok N)) Tryz.func30 rfl Tryz.call30 (z34sg fun x _ => config_checkChoice N x.1 x.2.1 x.2.2.1) z34pk (fun _ _ => rfl) N (fun x y _ h => ((runL_eq (z34E N) N Tryz.f30 (z34sg fun x _ => config_checkChoice N x.1 x.2.1 x.2.2.1) z34pk (z34LP N) (show LoopsOk (z34LP N) (z34E N) N (resD (z34E N) Tryz.f30 (z34sg fun x _ => config_checkChoice N x.1 x.2.1 x.2.2.1) z34pk) [] from trivial) x y).trans (z34core N x y)).trans h)
def script_CheckValue_1 (_N : Nat) (x0 : Str) : Option Bool :=
  some (decide ((x0.length : Int) > (1000 : Int)))
abbrev z29sg (f : SV [.v .str] → BV [] → Option (Bool)) : AF := { ps := [.v .str], bs := [], rs := [.v .bool], cs := [], R := Bool, out := fun z => ((z, ()), ()), f := f }
abbrev z29pk : SV [.v .bool] → BV [] → Bool := fun x _ => x.1
def z29fn (_N : Nat) : FuncId → Option Tmp → Option AF := fun f _ =>
  match f with
    | _ => none
theorem z29fn_ok (N : Nat) : ∀ f q F, z29fn N f q = some F → Sound Tryz.prog GW B0G f F := by
  intro f q F h
  unfold z29fn at h
  split at h
  · cases h
def z29h : Nat → Hint := fun i =>
  match i with
  | _ => ⟨[], [], [], [], [], []⟩
abbrev z29E (N : Nat) : Env := mkE z29h (z29fn N) (fun _ => false) (fun _ => false)
noncomputable def z29LP (N : Nat) : Nat → Code → St → (Ex → St → Option Bool) → Option Bool := fun i c =>
  match i with
  | i => fun st k => iter (z29h i) (exec (z29E N) N c i) N st k
theorem z29core (N : Nat) (x : SV [.v .str]) (y : BV []) : runL (z29E N) Tryz.f76 (z29sg fun x _ => script_CheckValue_1 N x.1) z29pk (z29LP N) x y = script_CheckValue_1 N x.1 := by kernel_rfl
theorem z29sound (N : Nat) : Sound Tryz.prog GW B0G 76 (z29sg fun x _ => script_CheckValue_1 N x.1) :=
  runD_sound (mkE_ok z29h (z29fn N) _ _ (z29fn_ok N)) Tryz.func76 rfl Tryz.call76 (z29sg fun x _ => script_CheckValue_1 N x.1) z29pk (fun _ _ => rfl) N (fun x y _ h => ((runL_eq (z29E N) N Tryz.f76 (z29sg fun x _ => script_CheckValue_1 N x.1) z29pk (z29LP N) (show LoopsOk (z29LP N) (z29E N) N (resD (z29E N) Tryz.f76 (z29sg fun x _ => script_CheckValue_1 N x.1) z29pk) [] from trivial) x y).trans (z29core N x y)).trans h)
def z67L0T (_N : Nat) (x0 : Str) (c5 : Int) (k0 : Option Bool) (self : Int → Option Bool) (s6 : Int) : Option Bool :=
  br (decide (s6 < c5))
    (bnd (geti x0 s6) fun t11 =>
    br (t11 != (10 : UInt8))
      (bnd (geti x0 s6) fun t16 =>
      br (decide (t16 < (32 : UInt8)))
        (some false)
        (bnd (geti x0 s6) fun t21 =>
        br (decide (t21 > (126 : UInt8)))
          (some false)
          (self (IntKind.i64.wrap (s6 + (1 : Int))))))
      (self (IntKind.i64.wrap (s6 + (1 : Int)))))
    (k0)
def z67L0 (N : Nat) (x0 : Str) (c5 : Int) (k0 : Option Bool) : Nat → Int → Option Bool
  | 0, _ => none
  | n + 1, s6 => z67L0T N x0 c5 k0 (z67L0 N x0 c5 k0 n) s6
def script_isText (N : Nat) (x0 : Str) : Option Bool :=
  z67L0 N x0 (x0.length : Int) (some true) N (0 : Int)
abbrev z67sg (f : SV [.v .str] → BV [] → Option (Bool)) : AF := { ps := [.v .str], bs := [], rs := [.v .bool], cs := [], R := Bool, out := fun z => ((z, ()), ()), f := f }
abbrev z67pk : SV [.v .bool] → BV [] → Bool := fun x _ => x.1
def z67fn (_N : Nat) : FuncId → Option Tmp → Option AF := fun f _ =>
  match f with
    | _ => none
theorem z67fn_ok (N : Nat) : ∀ f q F, z67fn N f q = some F → Sound Tryz.prog GW B0G f F := by
  intro f q F h
  unfold z67fn at h
  split at h
  · cases h
def z67h : Nat → Hint := fun i =>
  match i with
  | 0 => ⟨[], [0, 5, 6], [], [], [], []⟩
  | _ => ⟨[], [], [], [], [], []⟩
abbrev z67E (N : Nat) : Env := mkE z67h (z67fn N) (fun _ => false) (fun _ => false)
abbrev z67L0_fs : List (Nat × Sl) := [(0, .v .str), (5, .v (.int .i64)), (6, .v (.int .i64))]
abbrev z67L0_bs : List (Nat × Sb) := []
def z67L0_hd (x0 : Str) (c5 : Int) (s6 : Int) : St := ⟨26, [(0, .v .str x0), (5, .v (.int .i64) c5), (6, .v (.int .i64) s6)], []⟩
def z67L0_tl0 (_x0 : Str) (_c5 : Int) : St := ⟨26, [], []⟩
def z67L0_G (N : Nat) (x0 : Str) (c5 : Int) (s6 : Int) (k : Ex → St → Option Bool) : Option Bool :=
  z67L0 N x0 c5 (k (.exit 0) (z67L0_tl0 x0 c5)) N s6
abbrev z67L0_F (N : Nat) : FV z67L0_fs → HV z67L0_bs → (Ex → St → Option Bool) → Option Bool := fun x _ k => z67L0_G N x.1 x.2.1 x.2.2.1 k
noncomputable def z67LP (N : Nat) : Nat → Code → St → (Ex → St → Option Bool) → Option Bool := fun i c =>
  match i with
  | 0 => (LPc 26 z67L0_fs z67L0_bs (z67L0_F N) (fun st k => iter (z67h 0) (exec (z67E N) N c 0) N st k))
  | i => fun st k => iter (z67h i) (exec (z67E N) N c i) N st k
theorem z67L0_step (N : Nat) (x0 : Str) (c5 : Int) (KX : Nat → St → Option Bool) (I : St → Option Bool) (s6 : Int) :
    execL (z67LP N) (z67E N) (cAt (bodyOf Tryz.f77) [true, false, true, false, false]) 0 (z67L0_hd x0 c5 s6) (roundK (z67h 0) I KX (resD (z67E N) Tryz.f77 (z67sg fun x _ => script_isText N x.1) z67pk)) = z67L0T N x0 c5 (KX 0 (z67L0_tl0 x0 c5)) (fun s6 => I (z67L0_hd x0 c5 s6)) s6 := by kernel_rfl
theorem z67L0_ok (N : Nat) : ∀ x y k, (∀ st, k .ret st = (resD (z67E N) Tryz.f77 (z67sg fun x _ => script_isText N x.1) z67pk) st) → iter (z67h 0) (exec (z67E N) N (cAt (bodyOf Tryz.f77) [true, false, true, false, false]) 0) N ⟨26, unF z67L0_fs x, unH z67L0_bs y⟩ k = z67L0_F N x y k := fun x _ k hk =>
  iter_link (S := (Int) × Unit) (z67h 0) _ (execL (z67LP N) (z67E N) (cAt (bodyOf Tryz.f77) [true, false, true, false, false]) 0) (resD (z67E N) Tryz.f77 (z67sg fun x _ => script_isText N x.1) z67pk) (fun st k hk => execL_eq _ _ N _ (cAt (bodyOf Tryz.f77) [true, false, true, false, false]) 0 (show LoopsOk (z67LP N) (z67E N) N (resD (z67E N) Tryz.f77 (z67sg fun x _ => script_isText N x.1) z67pk) [] from trivial) st k hk) (fun s => z67L0_hd x.1 x.2.1 s.1) k hk
    (fun self s => z67L0T N x.1 x.2.1 (k (.exit 0) (z67L0_tl0 x.1 x.2.1)) (fun s6 => self (s6, ())) s.1) (fun n s => z67L0 N x.1 x.2.1 (k (.exit 0) (z67L0_tl0 x.1 x.2.1)) n s.1) (fun _ => rfl) (fun _ _ => rfl)
    (fun I s => z67L0_step N x.1 x.2.1 (fun j => k (.exit j)) I s.1) N (x.2.2.1, ())
theorem z67lp0 (N : Nat) : ∀ st k, (∀ st, k .ret st = (resD (z67E N) Tryz.f77 (z67sg fun x _ => script_isText N x.1) z67pk) st) → z67LP N 0 (cAt (bodyOf Tryz.f77) [true, false, true, false, false]) st k = iter (Env.hint (z67E N) 0) (exec (z67E N) N (cAt (bodyOf Tryz.f77) [true, false, true, false, false]) 0) N st k := fun st k hk => LPc_eq 26 z67L0_fs z67L0_bs _ _ (resD (z67E N) Tryz.f77 (z67sg fun x _ => script_isText N x.1) z67pk) (z67L0_ok N) _ st k hk (rfl)
theorem z67core (N : Nat) (x : SV [.v .str]) (y : BV []) : runL (z67E N) Tryz.f77 (z67sg fun x _ => script_isText N x.1) z67pk (z67LP N) x y = script_isText N x.1 := by kernel_rfl
theorem z67sound (N : Nat) : Sound Tryz.prog GW B0G 77 (z67sg fun x _ => script_isText N x.1) :=
  runD_sound (mkE_ok z67h (z67fn N) _ _ (z67fn_ok N)) Tryz.func77 rfl Tryz.call77 (z67sg fun x _ => script_isText N x.1) z67pk (fun _ _ => rfl) N (fun x y _ h => ((runL_eq (z67E N) N Tryz.f77 (z67sg fun x _ => script_isText N x.1) z67pk (z67LP N) (show LoopsOk (z67LP N) (z67E N) N (resD (z67E N) Tryz.f77 (z67sg fun x _ => script_isText N x.1) z67pk) [(0, (cAt (bodyOf Tryz.f77) [true, false, true, false, false]))] from ⟨z67lp0 N, trivial⟩) x y).trans (z67core N x y)).trans h)
def script_CheckValue_2 (N : Nat) (x0 : Str) : Option Bool :=
  bnd (script_isText N x0) fun t4 =>
  some (!t4)
abbrev z30sg (f : SV [.v .str] → BV [] → Option (Bool)) : AF := { ps := [.v .str], bs := [], rs := [.v .bool], cs := [], R := Bool, out := fun z => ((z, ()), ()), f := f }
abbrev z30pk : SV [.v .bool] → BV [] → Bool := fun x _ => x.1
def z30fn (N : Nat) : FuncId → Option Tmp → Option AF := fun f _ =>
  match f with
    | 77 => some (z67sg fun x _ => script_isText N x.1)
    | _ => none
theorem z30fn_ok (N : Nat) : ∀ f q F, z30fn N f q = some F → Sound Tryz.prog GW B0G f F := by
  intro f q F h
  unfold z30fn at h
  split at h
  · cases h; exact z67sound N
  · cases h
def z30h : Nat → Hint := fun i =>
  match i with
  | _ => ⟨[], [], [], [], [], []⟩
abbrev z30E (N : Nat) : Env := mkE z30h (z30fn N) (fun _ => false) (fun _ => false)
noncomputable def z30LP (N : Nat) : Nat → Code → St → (Ex → St → Option Bool) → Option Bool := fun i c =>
  match i with
  | i => fun st k => iter (z30h i) (exec (z30E N) N c i) N st k
theorem z30core (N : Nat) (x : SV [.v .str]) (y : BV []) : runL (z30E N) Tryz.f78 (z30sg fun x _ => script_CheckValue_2 N x.1) z30pk (z30LP N) x y = script_CheckValue_2 N x.1 := by kernel_rfl
theorem z30sound (N : Nat) : Sound Tryz.prog GW B0G 78 (z30sg fun x _ => script_CheckValue_2 N x.1) :=
  runD_sound (mkE_ok z30h (z30fn N) _ _ (z30fn_ok N)) Tryz.func78 rfl Tryz.call78 (z30sg fun x _ => script_CheckValue_2 N x.1) z30pk (fun _ _ => rfl) N (fun x y _ h => ((runL_eq (z30E N) N Tryz.f78 (z30sg fun x _ => script_CheckValue_2 N x.1) z30pk (z30LP N) (show LoopsOk (z30LP N) (z30E N) N (resD (z30E N) Tryz.f78 (z30sg fun x _ => script_CheckValue_2 N x.1) z30pk) [] from trivial) x y).trans (z30core N x y)).trans h)
def script_checkText (N : Nat) (x0 : Str) : Option Int :=
  br (decide ((x0.length : Int) > (1000 : Int)))
    (some (2 : Int))
    (bnd (script_isText N x0) fun t7 =>
    br (!t7)
      (some (3 : Int))
      (some (0 : Int)))
abbrev z48sg (f : SV [.v .str] → BV [] → Option (Int)) : AF := { ps := [.v .str], bs := [], rs := [.v (.int .i64)], cs := [], R := Int, out := fun z => ((z, ()), ()), f := f }
abbrev z48pk : SV [.v (.int .i64)] → BV [] → Int := fun x _ => x.1
def z48fn (N : Nat) : FuncId → Option Tmp → Option AF := fun f _ =>
  match f with
    | 77 => some (z67sg fun x _ => script_isText N x.1)
    | _ => none
theorem z48fn_ok (N : Nat) : ∀ f q F, z48fn N f q = some F → Sound Tryz.prog GW B0G f F := by
  intro f q F h
  unfold z48fn at h
  split at h
  · cases h; exact z67sound N
  · cases h
def z48h : Nat → Hint := fun i =>
  match i with
  | _ => ⟨[], [], [], [], [], []⟩
abbrev z48E (N : Nat) : Env := mkE z48h (z48fn N) (fun _ => false) (fun _ => false)
noncomputable def z48LP (N : Nat) : Nat → Code → St → (Ex → St → Option Int) → Option Int := fun i c =>
  match i with
  | i => fun st k => iter (z48h i) (exec (z48E N) N c i) N st k
theorem z48core (N : Nat) (x : SV [.v .str]) (y : BV []) : runL (z48E N) Tryz.f130 (z48sg fun x _ => script_checkText N x.1) z48pk (z48LP N) x y = script_checkText N x.1 := by kernel_rfl
theorem z48sound (N : Nat) : Sound Tryz.prog GW B0G 130 (z48sg fun x _ => script_checkText N x.1) :=
  runD_sound (mkE_ok z48h (z48fn N) _ _ (z48fn_ok N)) Tryz.func130 rfl Tryz.call130 (z48sg fun x _ => script_checkText N x.1) z48pk (fun _ _ => rfl) N (fun x y _ h => ((runL_eq (z48E N) N Tryz.f130 (z48sg fun x _ => script_checkText N x.1) z48pk (z48LP N) (show LoopsOk (z48LP N) (z48E N) N (resD (z48E N) Tryz.f130 (z48sg fun x _ => script_checkText N x.1) z48pk) [] from trivial) x y).trans (z48core N x y)).trans h)
def script_checkCases_1 (_N : Nat) (x0 : Str × GValue) (x1 : Str × GValue) : Option Bool :=
  some (x0.1 == x1.1)
abbrev z31sg (f : SV [.v (.pr .str (.rc .value)), .v (.ptr (.pr .str (.rc .value)))] → BV [] → Option (Bool)) : AF := { ps := [.v (.pr .str (.rc .value)), .v (.ptr (.pr .str (.rc .value)))], bs := [], rs := [.v .bool], cs := [], R := Bool, out := fun z => ((z, ()), ()), f := f }
abbrev z31pk : SV [.v .bool] → BV [] → Bool := fun x _ => x.1
def z31fn (_N : Nat) : FuncId → Option Tmp → Option AF := fun f _ =>
  match f with
    | _ => none
theorem z31fn_ok (N : Nat) : ∀ f q F, z31fn N f q = some F → Sound Tryz.prog GW B0G f F := by
  intro f q F h
  unfold z31fn at h
  split at h
  · cases h
def z31h : Nat → Hint := fun i =>
  match i with
  | _ => ⟨[], [], [], [], [], []⟩
abbrev z31E (N : Nat) : Env := mkE z31h (z31fn N) (fun _ => false) (fun _ => false)
noncomputable def z31LP (N : Nat) : Nat → Code → St → (Ex → St → Option Bool) → Option Bool := fun i c =>
  match i with
  | i => fun st k => iter (z31h i) (exec (z31E N) N c i) N st k
theorem z31core (N : Nat) (x : SV [.v (.pr .str (.rc .value)), .v (.ptr (.pr .str (.rc .value)))]) (y : BV []) : runL (z31E N) Tryz.f132 (z31sg fun x _ => script_checkCases_1 N x.1 x.2.1) z31pk (z31LP N) x y = script_checkCases_1 N x.1 x.2.1 := by kernel_rfl
theorem z31sound (N : Nat) : Sound Tryz.prog GW B0G 132 (z31sg fun x _ => script_checkCases_1 N x.1 x.2.1) :=
  runD_sound (mkE_ok z31h (z31fn N) _ _ (z31fn_ok N)) Tryz.func132 rfl Tryz.call132 (z31sg fun x _ => script_checkCases_1 N x.1 x.2.1) z31pk (fun _ _ => rfl) N (fun x y _ h => ((runL_eq (z31E N) N Tryz.f132 (z31sg fun x _ => script_checkCases_1 N x.1 x.2.1) z31pk (z31LP N) (show LoopsOk (z31LP N) (z31E N) N (resD (z31E N) Tryz.f132 (z31sg fun x _ => script_checkCases_1 N x.1 x.2.1) z31pk) [] from trivial) x y).trans (z31core N x y)).trans h)
def z17L0T (N : Nat) (x0 : List (Str × GValue)) (x1 : (Str × GValue) × Unit) (c7 : Int) (k0 : Option Int) (self : Int → Option Int) (s8 : Int) : Option Int :=
  br (decide (s8 < c7))
    (bnd (geti x0 s8) fun t14 =>
    bnd (script_checkCases_1 N t14 x1.1) fun t16 =>
    br (t16)
      (some s8)
      (self (IntKind.i64.wrap (s8 + (1 : Int)))))
    (k0)
def z17L0 (N : Nat) (x0 : List (Str × GValue)) (x1 : (Str × GValue) × Unit) (c7 : Int) (k0 : Option Int) : Nat → Int → Option Int
  | 0, _ => none
  | n + 1, s8 => z17L0T N x0 x1 c7 k0 (z17L0 N x0 x1 c7 k0 n) s8
def slices_IndexFunc_api_Case (N : Nat) (x0 : List (Str × GValue)) (x1 : (Str × GValue) × Unit) : Option Int :=
  z17L0 N x0 x1 (x0.length : Int) (some (-1 : Int)) N (0 : Int)
abbrev z17sg (f : SV [.v (.sl (.pr .str (.rc .value))), .v (.clo 132 (.pr (.ptr (.pr .str (.rc .value))) .un))] → BV [] → Option (Int)) : AF := { ps := [.v (.sl (.pr .str (.rc .value))), .v (.clo 132 (.pr (.ptr (.pr .str (.rc .value))) .un))], bs := [], rs := [.v (.int .i64)], cs := [], R := Int, out := fun z => ((z, ()), ()), f := f }
abbrev z17pk : SV [.v (.int .i64)] → BV [] → Int := fun x _ => x.1
def z17fn (N : Nat) : FuncId → Option Tmp → Option AF := fun f _ =>
  match f with
    | 132 => some (z31sg fun x _ => script_checkCases_1 N x.1 x.2.1)
    | _ => none
theorem z17fn_ok (N : Nat) : ∀ f q F, z17fn N f q = some F → Sound Tryz.prog GW B0G f F := by
  intro f q F h
  unfold z17fn at h
  split at h
  · cases h; exact z31sound N
  · cases h
def z17h : Nat → Hint := fun i =>
  match i with
  | 0 => ⟨[], [0, 1, 7, 8], [], [], [], []⟩
  | _ => ⟨[], [], [], [], [], []⟩
abbrev z17E (N : Nat) : Env := mkE z17h (z17fn N) (fun _ => false) (fun _ => false)
abbrev z17L0_fs : List (Nat × Sl) := [(0, .v (.sl (.pr .str (.rc .value)))), (1, .v (.clo 132 (.pr (.ptr (.pr .str (.rc .value))) .un))), (7, .v (.int .i64)), (8, .v (.int .i64))]
abbrev z17L0_bs : List (Nat × Sb) := []
def z17L0_hd (x0 : List (Str × GValue)) (x1 : (Str × GValue) × Unit) (c7 : Int) (s8 : Int) : St := ⟨19, [(0, .v (.sl (.pr .str (.rc .value))) x0), (1, .v (.clo 132 (.pr (.ptr (.pr .str (.rc .value))) .un)) x1), (7, .v (.int .i64) c7), (8, .v (.int .i64) s8)], []⟩
def z17L0_tl0 (_x0 : List (Str × GValue)) (_x1 : (Str × GValue) × Unit) (_c7 : Int) : St := ⟨19, [], []⟩
def z17L0_G (N : Nat) (x0 : List (Str × GValue)) (x1 : (Str × GValue) × Unit) (c7 : Int) (s8 : Int) (k : Ex → St → Option Int) : Option Int :=
  z17L0 N x0 x1 c7 (k (.exit 0) (z17L0_tl0 x0 x1 c7)) N s8
abbrev z17L0_F (N : Nat) : FV z17L0_fs → HV z17L0_bs → (Ex → St → Option Int) → Option Int := fun x _ k => z17L0_G N x.1 x.2.1 x.2.2.1 x.2.2.2.1 k
noncomputable def z17LP (N : Nat) : Nat → Code → St → (Ex → St → Option Int) → Option Int := fun i c =>
  match i with
  | 0 => (LPc 19 z17L0_fs z17L0_bs (z17L0_F N) (fun st k => iter (z17h 0) (exec (z17E N) N c 0) N st k))
  | i => fun st k => iter (z17h i) (exec (z17E N) N c i) N st k
theorem z17L0_step (N : Nat) (x0 : List (Str × GValue)) (x1 : (Str × GValue) × Unit) (c7 : Int) (KX : Nat → St → Option Int) (I : St → Option Int) (s8 : Int) :
    execL (z17LP N) (z17E N) (cAt (bodyOf Tryz.f82) [true, false, true, false, false]) 0 (z17L0_hd x0 x1 c7 s8) (roundK (z17h 0) I KX (resD (z17E N) Tryz.f82 (z17sg fun x _ => slices_IndexFunc_api_Case N x.1 x.2.1) z17pk)) = z17L0T N x0 x1 c7 (KX 0 (z17L0_tl0 x0 x1 c7)) (fun s8 => I (z17L0_hd x0 x1 c7 s8)) s8 := by kernel_rfl
theorem z17L0_ok (N : Nat) : ∀ x y k, (∀ st, k .ret st = (resD (z17E N) Tryz.f82 (z17sg fun x _ => slices_IndexFunc_api_Case N x.1 x.2.1) z17pk) st) → iter (z17h 0) (exec (z17E N) N (cAt (bodyOf Tryz.f82) [true, false, true, false, false]) 0) N ⟨19, unF z17L0_fs x, unH z17L0_bs y⟩ k = z17L0_F N x y k := fun x _ k hk =>
  iter_link (S := (Int) × Unit) (z17h 0) _ (execL (z17LP N) (z17E N) (cAt (bodyOf Tryz.f82) [true, false, true, false, false]) 0) (resD (z17E N) Tryz.f82 (z17sg fun x _ => slices_IndexFunc_api_Case N x.1 x.2.1) z17pk) (fun st k hk => execL_eq _ _ N _ (cAt (bodyOf Tryz.f82) [true, false, true, false, false]) 0 (show LoopsOk (z17LP N) (z17E N) N (resD (z17E N) Tryz.f82 (z17sg fun x _ => slices_IndexFunc_api_Case N x.1 x.2.1) z17pk) [] from trivial) st k hk) (fun s => z17L0_hd x.1 x.2.1 x.2.2.1 s.1) k hk
    (fun self s => z17L0T N x.1 x.2.1 x.2.2.1 (k (.exit 0) (z17L0_tl0 x.1 x.2.1 x.2.2.1)) (fun s8 => self (s8, ())) s.1) (fun n s => z17L0 N x.1 x.2.1 x.2.2.1 (k (.exit 0) (z17L0_tl0 x.1 x.2.1 x.2.2.1)) n s.1) (fun _ => rfl) (fun _ _ => rfl)
    (fun I s => z17L0_step N x.1 x.2.1 x.2.2.1 (fun j => k (.exit j)) I s.1) N (x.2.2.2.1, ())
theorem z17lp0 (N : Nat) : ∀ st k, (∀ st, k .ret st = (resD (z17E N) Tryz.f82 (z17sg fun x _ => slices_IndexFunc_api_Case N x.1 x.2.1) z17pk) st) → z17LP N 0 (cAt (bodyOf Tryz.f82) [true, false, true, false, false]) st k = iter (Env.hint (z17E N) 0) (exec (z17E N) N (cAt (bodyOf Tryz.f82) [true, false, true, false, false]) 0) N st k := fun st k hk => LPc_eq 19 z17L0_fs z17L0_bs _ _ (resD (z17E N) Tryz.f82 (z17sg fun x _ => slices_IndexFunc_api_Case N x.1 x.2.1) z17pk) (z17L0_ok N) _ st k hk (rfl)
theorem z17core (N : Nat) (x : SV [.v (.sl (.pr .str (.rc .value))), .v (.clo 132 (.pr (.ptr (.pr .str (.rc .value))) .un))]) (y : BV []) : runL (z17E N) Tryz.f82 (z17sg fun x _ => slices_IndexFunc_api_Case N x.1 x.2.1) z17pk (z17LP N) x y = slices_IndexFunc_api_Case N x.1 x.2.1 := by kernel_rfl
theorem z17sound (N : Nat) : Sound Tryz.prog GW B0G 82 (z17sg fun x _ => slices_IndexFunc_api_Case N x.1 x.2.1) :=
  runD_sound (mkE_ok z17h (z17fn N) _ _ (z17fn_ok N)) Tryz.func82 rfl Tryz.call82 (z17sg fun x _ => slices_IndexFunc_api_Case N x.1 x.2.1) z17pk (fun _ _ => rfl) N (fun x y _ h => ((runL_eq (z17E N) N Tryz.f82 (z17sg fun x _ => slices_IndexFunc_api_Case N x.1 x.2.1) z17pk (z17LP N) (show LoopsOk (z17LP N) (z17E N) N (resD (z17E N) Tryz.f82 (z17sg fun x _ => slices_IndexFunc_api_Case N x.1 x.2.1) z17pk) [(0, (cAt (bodyOf Tryz.f82) [true, false, true, false, false]))] from ⟨z17lp0 N, trivial⟩) x y).trans (z17core N x y)).trans h)
def slices_ContainsFunc_api_Case (N : Nat) (x0 : List (Str × GValue)) (x1 : (Str × GValue) × Unit) : Option Bool :=
  bnd (slices_IndexFunc_api_Case N x0 x1) fun t7 =>
  some (decide (t7 ≥ (0 : Int)))
abbrev z10sg (f : SV [.v (.sl (.pr .str (.rc .value))), .v (.clo 132 (.pr (.ptr (.pr .str (.rc .value))) .un))] → BV [] → Option (Bool)) : AF := { ps := [.v (.sl (.pr .str (.rc .value))), .v (.clo 132 (.pr (.ptr (.pr .str (.rc .value))) .un))], bs := [], rs := [.v .bool], cs := [], R := Bool, out := fun z => ((z, ()), ()), f := f }
abbrev z10pk : SV [.v .bool] → BV [] → Bool := fun x _ => x.1
def z10fn (N : Nat) : FuncId → Option Tmp → Option AF := fun f _ =>
  match f with
    | 82 => some (z17sg fun x _ => slices_IndexFunc_api_Case N x.1 x.2.1)
    | _ => none
theorem z10fn_ok (N : Nat) : ∀ f q F, z10fn N f q = some F → Sound Tryz.prog GW B0G f F := by
  intro f q F h
  unfold z10fn at h
  split at h
  · cases h; exact z17sound N
  · cases h
def z10h : Nat → Hint := fun i =>
  match i with
  | _ => ⟨[], [], [], [], [], []⟩
abbrev z10E (N : Nat) : Env := mkE z10h (z10fn N) (fun _ => false) (fun _ => false)
noncomputable def z10LP (N : Nat) : Nat → Code → St → (Ex → St → Option Bool) → Option Bool := fun i c =>
  match i with
  | i => fun st k => iter (z10h i) (exec (z10E N) N c i) N st k
theorem z10core (N : Nat) (x : SV [.v (.sl (.pr .str (.rc .value))), .v (.clo 132 (.pr (.ptr (.pr .str (.rc .value))) .un))]) (y : BV []) : runL (z10E N) Tryz.f131 (z10sg fun x _ => slices_ContainsFunc_api_Case N x.1 x.2.1) z10pk (z10LP N) x y = slices_ContainsFunc_api_Case N x.1 x.2.1 := by kernel_rfl
theorem z10sound (N : Nat) : Sound Tryz.prog GW B0G 131 (z10sg fun x _ => slices_ContainsFunc_api_Case N x.1 x.2.1) :=
  runD_sound (mkE_ok z10h (z10fn N) _ _ (z10fn_ok N)) Tryz.func131 rfl Tryz.call131 (z10sg fun x _ => slices_ContainsFunc_api_Case N x.1 x.2.1) z10pk (fun _ _ => rfl) N (fun x y _ h => ((runL_eq (z10E N) N Tryz.f131 (z10sg fun x _ => slices_ContainsFunc_api_Case N x.1 x.2.1) z10pk (z10LP N) (show LoopsOk (z10LP N) (z10E N) N (resD (z10E N) Tryz.f131 (z10sg fun x _ => slices_ContainsFunc_api_Case N x.1 x.2.1) z10pk) [] from trivial) x y).trans (z10core N x y)).trans h)
def z6L0T (N : Nat) (x0 : List Str) (c7 : Int) (k0 : Option Int) (self : Int → Option Int) (s8 : Int) : Option Int :=
  br (decide (s8 < c7))
    (bnd (geti x0 s8) fun t14 =>
    bnd (script_CheckValue_1 N t14) fun t16 =>
    br (t16)
      (some s8)
      (self (IntKind.i64.wrap (s8 + (1 : Int)))))
    (k0)
def z6L0 (N : Nat) (x0 : List Str) (c7 : Int) (k0 : Option Int) : Nat → Int → Option Int
  | 0, _ => none
  | n + 1, s8 => z6L0T N x0 c7 k0 (z6L0 N x0 c7 k0 n) s8
def slices_IndexFunc_string_string (N : Nat) (x0 : List Str) (_x1 : Unit) : Option Int :=
  z6L0 N x0 (x0.length : Int) (some (-1 : Int)) N (0 : Int)
abbrev z6sg (f : SV [.v (.sl .str), .v (.clo 76 .un)] → BV [] → Option (Int)) : AF := { ps := [.v (.sl .str), .v (.clo 76 .un)], bs := [], rs := [.v (.int .i64)], cs := [], R := Int, out := fun z => ((z, ()), ()), f := f }
abbrev z6pk : SV [.v (.int .i64)] → BV [] → Int := fun x _ => x.1
def z6fn (N : Nat) : FuncId → Option Tmp → Option AF := fun f _ =>
  match f with
    | 76 => some (z29sg fun x _ => script_CheckValue_1 N x.1)
    | _ => none
theorem z6fn_ok (N : Nat) : ∀ f q F, z6fn N f q = some F → Sound Tryz.prog GW B0G f F := by
  intro f q F h
  unfold z6fn at h
  split at h
  · cases h; exact z29sound N
  · cases h
def z6h : Nat → Hint := fun i =>
  match i with
  | 0 => ⟨[], [0, 1, 7, 8], [], [], [], []⟩
  | _ => ⟨[], [], [], [], [], []⟩
abbrev z6E (N : Nat) : Env := mkE z6h (z6fn N) (fun _ => false) (fun _ => false)
abbrev z6L0_fs : List (Nat × Sl) := [(0, .v (.sl .str)), (1, .v (.clo 76 .un)), (7, .v (.int .i64)), (8, .v (.int .i64))]
abbrev z6L0_bs : List (Nat × Sb) := []
def z6L0_hd (x0 : List Str) (x1 : Unit) (c7 : Int) (s8 : Int) : St := ⟨19, [(0, .v (.sl .str) x0), (1, .v (.clo 76 .un) x1), (7, .v (.int .i64) c7), (8, .v (.int .i64) s8)], []⟩
def z6L0_tl0 (_x0 : List Str) (_x1 : Unit) (_c7 : Int) : St := ⟨19, [], []⟩
def z6L0_G (N : Nat) (x0 : List Str) (x1 : Unit) (c7 : Int) (s8 : Int) (k : Ex → St → Option Int) : Option Int :=
  z6L0 N x0 c7 (k (.exit 0) (z6L0_tl0 x0 x1 c7)) N s8
abbrev z6L0_F (N : Nat) : FV z6L0_fs → HV z6L0_bs → (Ex → St → Option Int) → Option Int := fun x _ k => z6L0_G N x.1 x.2.1 x.2.2.1 x.2.2.2.1 k
noncomputable def z6LP (N : Nat) : Nat → Code → St → (Ex → St → Option Int) → Option Int := fun i c =>
  match i with
  | 0 => (LPc 19 z6L0_fs z6L0_bs (z6L0_F N) (fun st k => iter (z6h 0) (exec (z6E N) N c 0) N st k))
  | i => fun st k => iter (z6h i) (exec (z6E N) N c i) N st k
theorem z6L0_step (N : Nat) (x0 : List Str) (x1 : Unit) (c7 : Int) (KX : Nat → St → Option Int) (I : St → Option Int) (s8 : Int) :
    execL (z6LP N) (z6E N) (cAt (bodyOf Tryz.f103) [true, false, true, false, false]) 0 (z6L0_hd x0 x1 c7 s8) (roundK (z6h 0) I KX (resD (z6E N) Tryz.f103 (z6sg fun x _ => slices_IndexFunc_string_string N x.1 x.2.1) z6pk)) = z6L0T N x0 c7 (KX 0 (z6L0_tl0 x0 x1 c7)) (fun s8 => I (z6L0_hd x0 x1 c7 s8)) s8 := by kernel_rfl
theorem z6L0_ok (N : Nat) : ∀ x y k, (∀ st, k .ret st = (resD (z6E N) Tryz.f103 (z6sg fun x _ => slices_IndexFunc_string_string N x.1 x.2.1) z6pk) st) → iter (z6h 0) (exec (z6E N) N (cAt (bodyOf Tryz.f103) [true, false, true, false, false]) 0) N ⟨19, unF z6L0_fs x, unH z6L0_bs y⟩ k = z6L0_F N x y k := fun x _ k hk =>
  iter_link (S := (Int) × Unit) (z6h 0) _ (execL (z6LP N) (z6E N) (cAt (bodyOf Tryz.f103) [true, false, true, false, false]) 0) (resD (z6E N) Tryz.f103 (z6sg fun x _ => slices_IndexFunc_string_string N x.1 x.2.1) z6pk) (fun st k hk => execL_eq _ _ N _ (cAt (bodyOf Tryz.f103) [true, false, true, false, false]) 0 (show LoopsOk (z6LP N) (z6E N) N (resD (z6E N) Tryz.f103 (z6sg fun x _ => slices_IndexFunc_string_string N x.1 x.2.1) z6pk) [] from trivial) st k hk) (fun s => z6L0_hd x.1 x.2.1 x.2.2.1 s.1) k hk
    (fun self s => z6L0T N x.1 x.2.2.1 (k (.exit 0) (z6L0_tl0 x.1 x.2.1 x.2.2.1)) (fun s8 => self (s8, ())) s.1) (fun n s => z6L0 N x.1 x.2.2.1 (k (.exit 0) (z6L0_tl0 x.1 x.2.1 x.2.2.1)) n s.1) (fun _ => rfl) (fun _ _ => rfl)
    (fun I s => z6L0_step N x.1 x.2.1 x.2.2.1 (fun j => k (.exit j)) I s.1) N (x.2.2.2.1, ())
theorem z6lp0 (N : Nat) : ∀ st k, (∀ st, k .ret st = (resD (z6E N) Tryz.f103 (z6sg fun x _ => slices_IndexFunc_string_string N x.1 x.2.1) z6pk) st) → z6LP N 0 (cAt (bodyOf Tryz.f103) [true, false, true, false, false]) st k = iter (Env.hint (z6E N) 0) (exec (z6E N) N (cAt (bodyOf Tryz.f103) [true, false, true, false, false]) 0) N st k := fun st k hk => LPc_eq 19 z6L0_fs z6L0_bs _ _ (resD (z6E N) Tryz.f103 (z6sg fun x _ => slices_IndexFunc_string_string N x.1 x.2.1) z6pk) (z6L0_ok N) _ st k hk (rfl)
theorem z6core (N : Nat) (x : SV [.v (.sl .str), .v (.clo 76 .un)]) (y : BV []) : runL (z6E N) Tryz.f103 (z6sg fun x _ => slices_IndexFunc_string_string N x.1 x.2.1) z6pk (z6LP N) x y = slices_IndexFunc_string_string N x.1 x.2.1 := by kernel_rfl
theorem z6sound (N : Nat) : Sound Tryz.prog GW B0G 103 (z6sg fun x _ => slices_IndexFunc_string_string N x.1 x.2.1) :=
  runD_sound (mkE_ok z6h (z6fn N) _ _ (z6fn_ok N)) Tryz.func103 rfl Tryz.call103 (z6sg fun x _ => slices_IndexFunc_string_string N x.1 x.2.1) z6pk (fun _ _ => rfl) N (fun x y _ h => ((runL_eq (z6E N) N Tryz.f103 (z6sg fun x _ => slices_IndexFunc_string_string N x.1 x.2.1) z6pk (z6LP N) (show LoopsOk (z6LP N) (z6E N) N (resD (z6E N) Tryz.f103 (z6sg fun x _ => slices_IndexFunc_string_string N x.1 x.2.1) z6pk) [(0, (cAt (bodyOf Tryz.f103) [true, false, true, false, false]))] from ⟨z6lp0 N, trivial⟩) x y).trans (z6core N x y)).trans h)
def slices_ContainsFunc_string_string (N : Nat) (x0 : List Str) (x1 : Unit) : Option Bool :=
  bnd (slices_IndexFunc_string_string N x0 x1) fun t7 =>
  some (decide (t7 ≥ (0 : Int)))
abbrev z2sg (f : SV [.v (.sl .str), .v (.clo 76 .un)] → BV [] → Option (Bool)) : AF := { ps := [.v (.sl .str), .v (.clo 76 .un)], bs := [], rs := [.v .bool], cs := [], R := Bool, out := fun z => ((z, ()), ()), f := f }
abbrev z2pk : SV [.v .bool] → BV [] → Bool := fun x _ => x.1
def z2fn (N : Nat) : FuncId → Option Tmp → Option AF := fun f _ =>
  match f with
    | 103 => some (z6sg fun x _ => slices_IndexFunc_string_string N x.1 x.2.1)
    | _ => none
theorem z2fn_ok (N : Nat) : ∀ f q F, z2fn N f q = some F → Sound Tryz.prog GW B0G f F := by
  intro f q F h
  unfold z2fn at h
  split at h
  · cases h; exact z6sound N
  · cases h
def z2h : Nat → Hint := fun i =>
  match i with
  | _ => ⟨[], [], [], [], [], []⟩
abbrev z2E (N : Nat) : Env := mkE z2h (z2fn N) (fun _ => false) (fun _ => false)
noncomputable def z2LP (N : Nat) : Nat → Code → St → (Ex → St → Option Bool) → Option Bool := fun i c =>
  match i with
  | i => fun st k => iter (z2h i) (exec (z2E N) N c i) N st k
theorem z2core (N : Nat) (x : SV [.v (.sl .str), .v (.clo 76 .un)]) (y : BV []) : runL (z2E N) Tryz.f46 (z2sg fun x _ => slices_ContainsFunc_string_string N x.1 x.2.1) z2pk (z2LP N) x y = slices_ContainsFunc_string_string N x.1 x.2.1 := by kernel_rfl
theorem z2sound (N : Nat) : Sound Tryz.prog GW B0G 46 (z2sg fun x _ => slices_ContainsFunc_string_string N x.1 x.2.1) :=
  runD_sound (mkE_ok z2h (z2fn N) _ _ (z2fn_ok N)) Tryz.func46 rfl Tryz.call46 (z2sg fun x _ => slices_ContainsFunc_string_string N x.1 x.2.1) z2pk (fun _ _ => rfl) N (fun x y _ h => ((runL_eq (z2E N) N Tryz.f46 (z2sg fun x _ => slices_ContainsFunc_string_string N x.1 x.2.1) z2pk (z2LP N) (show LoopsOk (z2LP N) (z2E N) N (resD (z2E N) Tryz.f46 (z2sg fun x _ => slices_ContainsFunc_string_string N x.1 x.2.1) z2pk) [] from trivial) x y).trans (z2core N x y)).trans h)
end
end Go.Proofs.YtbekhaioddmliaaGreatDoor

