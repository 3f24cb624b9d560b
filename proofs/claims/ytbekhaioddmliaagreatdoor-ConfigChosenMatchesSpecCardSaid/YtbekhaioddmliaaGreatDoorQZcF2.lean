/- What functions of the program compute, as plain functions (printed). -/
import Derived.Test.YtbekhaioddmliaaGreatDoorQZcF1
namespace Go.Proofs.YtbekhaioddmliaaGreatDoor
open Go Go.RowKit
set_option maxRecDepth 100000
set_option linter.unusedVariables false
noncomputable section
def z36L1T (N : Nat) (c33 : List Str) (c34 : Int) (c1004_1 : List Str) (k3 : Option Int) (self : Int → Option Int) (s35 : Int) : Option Int :=
  br (decide (s35 < c34))
    (bnd (geti c33 s35) fun t38 =>
    bnd (ref3_IsWord N t38) fun t41 =>
    br (!t41)
      (some (5 : Int))
      (bnd (slc c1004_1 (0 : Int) s35) fun t46 =>
      bnd (slices_Contains_string_string N t46 t38) fun t48 =>
      br (t48)
        (some (7 : Int))
        (self (IntKind.i64.wrap (s35 + (1 : Int))))))
    (k3)
def z36L1 (N : Nat) (c33 : List Str) (c34 : Int) (c1004_1 : List Str) (k3 : Option Int) : Nat → Int → Option Int
  | 0, _ => none
  | n + 1, s35 => z36L1T N c33 c34 c1004_1 k3 (z36L1 N c33 c34 c1004_1 k3 n) s35
def z36L0T (N : Nat) (x0 : List (Str × List Str)) (c10 : List (Str × List Str)) (c11 : Int) (k0 : Option Int) (self : Int → Option Int) (s12 : Int) : Option Int :=
  br (decide (s12 < c11))
    (bnd (geti c10 s12) fun t15 =>
    bnd (ref3_IsWord N t15.1) fun t20 =>
    br (!t20)
      (some (5 : Int))
      (br ((t15.2.length : Int) == (0 : Int))
        (some (9 : Int))
        (br (decide ((t15.2.length : Int) > (20 : Int)))
          (some (2 : Int))
          (z36L1 N t15.2 (t15.2.length : Int) t15.2 (br (decide (s12 > (0 : Int)))
                (bnd (geti x0 (IntKind.i64.wrap (s12 - (1 : Int)))) fun t58 =>
                br (Op.bytesLess t15.1 t58.1 || t15.1 == t58.1)
                  (some (8 : Int))
                  (self (IntKind.i64.wrap (s12 + (1 : Int)))))
                (self (IntKind.i64.wrap (s12 + (1 : Int))))) N (0 : Int)))))
    (k0)
def z36L0 (N : Nat) (x0 : List (Str × List Str)) (c10 : List (Str × List Str)) (c11 : Int) (k0 : Option Int) : Nat → Int → Option Int
  | 0, _ => none
  | n + 1, s12 => z36L0T N x0 c10 c11 k0 (z36L0 N x0 c10 c11 k0 n) s12
def ref3_CheckSettings (N : Nat) (x0 : List (Str × List Str)) : Option Int :=
  br (decide ((x0.length : Int) > (30 : Int)))
    (some (2 : Int))
    (z36L0 N x0 x0 (x0.length : Int) (some (0 : Int)) N (0 : Int))
abbrev z36sg (f : SV [.v (.sl (.pr .str (.sl .str)))] → BV [] → Option (Int)) : AF := { ps := [.v (.sl (.pr .str (.sl .str)))], bs := [], rs := [.v (.int .i64)], cs := [], R := Int, out := fun z => ((z, ()), ()), f := f }
abbrev z36pk : SV [.v (.int .i64)] → BV [] → Int := fun x _ => x.1
def z36fn (N : Nat) : FuncId → Option Tmp → Option AF := fun f _ =>
  match f with
    | 50 => some (z79sg fun x _ => ref3_IsWord N x.1)
    | 56 => some (z7sg fun x _ => slices_Contains_string_string N x.1 x.2.1)
    | _ => none
theorem z36fn_ok (N : Nat) : ∀ f q F, z36fn N f q = some F → Sound Tryz.prog GW B0G f F := by
  intro f q F h
  unfold z36fn at h
  split at h
  · cases h; exact z79sound N
  · cases h; exact z7sound N
  · cases h
def z36h : Nat → Hint := fun i =>
  match i with
  | 0 => ⟨[], [0, 10, 11, 12], [], [], [], []⟩
  | 3 => ⟨[], [0, 3, 4, 10, 11, 12, 33, 34, 35], [1004], [0, 3, 4, 10, 11, 12], [1004], []⟩
  | _ => ⟨[], [], [], [], [], []⟩
abbrev z36E (N : Nat) : Env := mkE z36h (z36fn N) (fun _ => false) (fun _ => false)
abbrev z36L1_fs : List (Nat × Sl) := [(0, .v (.sl (.pr .str (.sl .str)))), (3, .v (.int .i64)), (4, .box 1004 0), (10, .v (.sl (.pr .str (.sl .str)))), (11, .v (.int .i64)), (12, .v (.int .i64)), (33, .v (.sl .str)), (34, .v (.int .i64)), (35, .v (.int .i64))]
abbrev z36L1_bs : List (Nat × Sb) := [(1004, .cells [.v .str, .v (.sl .str)])]
def z36L1_hd (x0 : List (Str × List Str)) (s12 : Int) (c10 : List (Str × List Str)) (c11 : Int) (c12 : Int) (c33 : List Str) (c34 : Int) (c1004_0 : Str) (c1004_1 : List Str) (s35 : Int) : St := ⟨64, [(0, .v (.sl (.pr .str (.sl .str))) x0), (3, .v (.int .i64) s12), (4, .box 1004 0), (10, .v (.sl (.pr .str (.sl .str))) c10), (11, .v (.int .i64) c11), (12, .v (.int .i64) c12), (33, .v (.sl .str) c33), (34, .v (.int .i64) c34), (35, .v (.int .i64) s35)], [(1004, .cells [.v .str c1004_0, .v (.sl .str) c1004_1])]⟩
def z36L1_tl3 (x0 : List (Str × List Str)) (s12 : Int) (c10 : List (Str × List Str)) (c11 : Int) (c12 : Int) (_c33 : List Str) (_c34 : Int) (c1004_0 : Str) (c1004_1 : List Str) : St := ⟨64, [(0, .v (.sl (.pr .str (.sl .str))) x0), (3, .v (.int .i64) s12), (4, .box 1004 0), (10, .v (.sl (.pr .str (.sl .str))) c10), (11, .v (.int .i64) c11), (12, .v (.int .i64) c12)], [(1004, .cells [.v .str c1004_0, .v (.sl .str) c1004_1])]⟩
def z36L1_G (N : Nat) (x0 : List (Str × List Str)) (s12 : Int) (c10 : List (Str × List Str)) (c11 : Int) (c12 : Int) (c33 : List Str) (c34 : Int) (c1004_0 : Str) (c1004_1 : List Str) (s35 : Int) (k : Ex → St → Option Int) : Option Int :=
  z36L1 N c33 c34 c1004_1 (k (.exit 3) (z36L1_tl3 x0 s12 c10 c11 c12 c33 c34 c1004_0 c1004_1)) N s35
abbrev z36L1_F (N : Nat) : FV z36L1_fs → HV z36L1_bs → (Ex → St → Option Int) → Option Int := fun x y k => z36L1_G N x.1 x.2.1 x.2.2.2.1 x.2.2.2.2.1 x.2.2.2.2.2.1 x.2.2.2.2.2.2.1 x.2.2.2.2.2.2.2.1 y.1.1 y.1.2.1 x.2.2.2.2.2.2.2.2.1 k
abbrev z36L0_fs : List (Nat × Sl) := [(0, .v (.sl (.pr .str (.sl .str)))), (10, .v (.sl (.pr .str (.sl .str)))), (11, .v (.int .i64)), (12, .v (.int .i64))]
abbrev z36L0_bs : List (Nat × Sb) := []
def z36L0_hd (x0 : List (Str × List Str)) (c10 : List (Str × List Str)) (c11 : Int) (s12 : Int) : St := ⟨64, [(0, .v (.sl (.pr .str (.sl .str))) x0), (10, .v (.sl (.pr .str (.sl .str))) c10), (11, .v (.int .i64) c11), (12, .v (.int .i64) s12)], []⟩
def z36L0_tl0 (_x0 : List (Str × List Str)) (_c10 : List (Str × List Str)) (_c11 : Int) : St := ⟨64, [], []⟩
def z36L0_G (N : Nat) (x0 : List (Str × List Str)) (c10 : List (Str × List Str)) (c11 : Int) (s12 : Int) (k : Ex → St → Option Int) : Option Int :=
  z36L0 N x0 c10 c11 (k (.exit 0) (z36L0_tl0 x0 c10 c11)) N s12
abbrev z36L0_F (N : Nat) : FV z36L0_fs → HV z36L0_bs → (Ex → St → Option Int) → Option Int := fun x _ k => z36L0_G N x.1 x.2.1 x.2.2.1 x.2.2.2.1 k
noncomputable def z36LP (N : Nat) : Nat → Code → St → (Ex → St → Option Int) → Option Int := fun i c =>
  match i with
  | 0 => (LPc 64 z36L0_fs z36L0_bs (z36L0_F N) (fun st k => iter (z36h 0) (exec (z36E N) N c 0) N st k))
  | 3 => (LPc 64 z36L1_fs z36L1_bs (z36L1_F N) (fun st k => iter (z36h 3) (exec (z36E N) N c 3) N st k))
  | i => fun st k => iter (z36h i) (exec (z36E N) N c i) N st k
theorem z36L1_step (N : Nat) (x0 : List (Str × List Str)) (s12 : Int) (c10 : List (Str × List Str)) (c11 : Int) (c12 : Int) (c33 : List Str) (c34 : Int) (c1004_0 : Str) (c1004_1 : List Str) (KX : Nat → St → Option Int) (I : St → Option Int) (s35 : Int) :
    execL (z36LP N) (z36E N) (cAt (bodyOf Tryz.f49) [true, true, false, true, false, false, true, true, false, false, true, true, false, true, false, false]) 3 (z36L1_hd x0 s12 c10 c11 c12 c33 c34 c1004_0 c1004_1 s35) (roundK (z36h 3) I KX (resD (z36E N) Tryz.f49 (z36sg fun x _ => ref3_CheckSettings N x.1) z36pk)) = z36L1T N c33 c34 c1004_1 (KX 3 (z36L1_tl3 x0 s12 c10 c11 c12 c33 c34 c1004_0 c1004_1)) (fun s35 => I (z36L1_hd x0 s12 c10 c11 c12 c33 c34 c1004_0 c1004_1 s35)) s35 := by kernel_rfl
theorem z36L1_ok (N : Nat) : ∀ x y k, (∀ st, k .ret st = (resD (z36E N) Tryz.f49 (z36sg fun x _ => ref3_CheckSettings N x.1) z36pk) st) → iter (z36h 3) (exec (z36E N) N (cAt (bodyOf Tryz.f49) [true, true, false, true, false, false, true, true, false, false, true, true, false, true, false, false]) 3) N ⟨64, unF z36L1_fs x, unH z36L1_bs y⟩ k = z36L1_F N x y k := fun x y k hk =>
  iter_link (S := (Int) × Unit) (z36h 3) _ (execL (z36LP N) (z36E N) (cAt (bodyOf Tryz.f49) [true, true, false, true, false, false, true, true, false, false, true, true, false, true, false, false]) 3) (resD (z36E N) Tryz.f49 (z36sg fun x _ => ref3_CheckSettings N x.1) z36pk) (fun st k hk => execL_eq _ _ N _ (cAt (bodyOf Tryz.f49) [true, true, false, true, false, false, true, true, false, false, true, true, false, true, false, false]) 3 (show LoopsOk (z36LP N) (z36E N) N (resD (z36E N) Tryz.f49 (z36sg fun x _ => ref3_CheckSettings N x.1) z36pk) [] from trivial) st k hk) (fun s => z36L1_hd x.1 x.2.1 x.2.2.2.1 x.2.2.2.2.1 x.2.2.2.2.2.1 x.2.2.2.2.2.2.1 x.2.2.2.2.2.2.2.1 y.1.1 y.1.2.1 s.1) k hk
    (fun self s => z36L1T N x.2.2.2.2.2.2.1 x.2.2.2.2.2.2.2.1 y.1.2.1 (k (.exit 3) (z36L1_tl3 x.1 x.2.1 x.2.2.2.1 x.2.2.2.2.1 x.2.2.2.2.2.1 x.2.2.2.2.2.2.1 x.2.2.2.2.2.2.2.1 y.1.1 y.1.2.1)) (fun s35 => self (s35, ())) s.1) (fun n s => z36L1 N x.2.2.2.2.2.2.1 x.2.2.2.2.2.2.2.1 y.1.2.1 (k (.exit 3) (z36L1_tl3 x.1 x.2.1 x.2.2.2.1 x.2.2.2.2.1 x.2.2.2.2.2.1 x.2.2.2.2.2.2.1 x.2.2.2.2.2.2.2.1 y.1.1 y.1.2.1)) n s.1) (fun _ => rfl) (fun _ _ => rfl)
    (fun I s => z36L1_step N x.1 x.2.1 x.2.2.2.1 x.2.2.2.2.1 x.2.2.2.2.2.1 x.2.2.2.2.2.2.1 x.2.2.2.2.2.2.2.1 y.1.1 y.1.2.1 (fun j => k (.exit j)) I s.1) N (x.2.2.2.2.2.2.2.2.1, ())
theorem z36lp3 (N : Nat) : ∀ st k, (∀ st, k .ret st = (resD (z36E N) Tryz.f49 (z36sg fun x _ => ref3_CheckSettings N x.1) z36pk) st) → z36LP N 3 (cAt (bodyOf Tryz.f49) [true, true, false, true, false, false, true, true, false, false, true, true, false, true, false, false]) st k = iter (Env.hint (z36E N) 3) (exec (z36E N) N (cAt (bodyOf Tryz.f49) [true, true, false, true, false, false, true, true, false, false, true, true, false, true, false, false]) 3) N st k := fun st k hk => LPc_eq 64 z36L1_fs z36L1_bs _ _ (resD (z36E N) Tryz.f49 (z36sg fun x _ => ref3_CheckSettings N x.1) z36pk) (z36L1_ok N) _ st k hk (rfl)
theorem z36L0_step (N : Nat) (x0 : List (Str × List Str)) (c10 : List (Str × List Str)) (c11 : Int) (KX : Nat → St → Option Int) (I : St → Option Int) (s12 : Int) :
    execL (z36LP N) (z36E N) (cAt (bodyOf Tryz.f49) [true, true, false, true, false, false]) 0 (z36L0_hd x0 c10 c11 s12) (roundK (z36h 0) I KX (resD (z36E N) Tryz.f49 (z36sg fun x _ => ref3_CheckSettings N x.1) z36pk)) = z36L0T N x0 c10 c11 (KX 0 (z36L0_tl0 x0 c10 c11)) (fun s12 => I (z36L0_hd x0 c10 c11 s12)) s12 := by kernel_rfl
theorem z36L0_ok (N : Nat) : ∀ x y k, (∀ st, k .ret st = (resD (z36E N) Tryz.f49 (z36sg fun x _ => ref3_CheckSettings N x.1) z36pk) st) → iter (z36h 0) (exec (z36E N) N (cAt (bodyOf Tryz.f49) [true, true, false, true, false, false]) 0) N ⟨64, unF z36L0_fs x, unH z36L0_bs y⟩ k = z36L0_F N x y k := fun x _ k hk =>
  iter_link (S := (Int) × Unit) (z36h 0) _ (execL (z36LP N) (z36E N) (cAt (bodyOf Tryz.f49) [true, true, false, true, false, false]) 0) (resD (z36E N) Tryz.f49 (z36sg fun x _ => ref3_CheckSettings N x.1) z36pk) (fun st k hk => execL_eq _ _ N _ (cAt (bodyOf Tryz.f49) [true, true, false, true, false, false]) 0 (show LoopsOk (z36LP N) (z36E N) N (resD (z36E N) Tryz.f49 (z36sg fun x _ => ref3_CheckSettings N x.1) z36pk) [(3, (cAt (bodyOf Tryz.f49) [true, true, false, true, false, false, true, true, false, false, true, true, false, true, false, false]))] from ⟨z36lp3 N, trivial⟩) st k hk) (fun s => z36L0_hd x.1 x.2.1 x.2.2.1 s.1) k hk
    (fun self s => z36L0T N x.1 x.2.1 x.2.2.1 (k (.exit 0) (z36L0_tl0 x.1 x.2.1 x.2.2.1)) (fun s12 => self (s12, ())) s.1) (fun n s => z36L0 N x.1 x.2.1 x.2.2.1 (k (.exit 0) (z36L0_tl0 x.1 x.2.1 x.2.2.1)) n s.1) (fun _ => rfl) (fun _ _ => rfl)
    (fun I s => z36L0_step N x.1 x.2.1 x.2.2.1 (fun j => k (.exit j)) I s.1) N (x.2.2.2.1, ())
theorem z36lp0 (N : Nat) : ∀ st k, (∀ st, k .ret st = (resD (z36E N) Tryz.f49 (z36sg fun x _ => ref3_CheckSettings N x.1) z36pk) st) → z36LP N 0 (cAt (bodyOf Tryz.f49) [true, true, false, true, false, false]) st k = iter (Env.hint (z36E N) 0) (exec (z36E N) N (cAt (bodyOf Tryz.f49) [true, true, false, true, false, false]) 0) N st k := fun st k hk => LPc_eq 64 z36L0_fs z36L0_bs _ _ (resD (z36E N) Tryz.f49 (z36sg fun x _ => ref3_CheckSettings N x.1) z36pk) (z36L0_ok N) _ st k hk (rfl)
theorem z36core (N : Nat) (x : SV [.v (.sl (.pr .str (.sl .str)))]) (y : BV []) : runL (z36E N) Tryz.f49 (z36sg fun x _ => ref3_CheckSettings N x.1) z36pk (z36LP N) x y = ref3_CheckSettings N x.1 := by kernel_rfl
theorem z36sound (N : Nat) : Sound Tryz.prog GW B0G 49 (z36sg fun x _ => ref3_CheckSettings N x.1) :=
  runD_sound (mkE_ok z36h (z36fn N) _ _ (z36fn_ok N)) Tryz.func49 rfl Tryz.call49 (z36sg fun x _ => ref3_CheckSettings N x.1) z36pk (fun _ _ => rfl) N (fun x y _ h => ((runL_eq (z36E N) N Tryz.f49 (z36sg fun x _ => ref3_CheckSettings N x.1) z36pk (z36LP N) (show LoopsOk (z36LP N) (z36E N) N (resD (z36E N) Tryz.f49 (z36sg fun x _ => ref3_CheckSettings N x.1) z36pk) [(0, (cAt (bodyOf Tryz.f49) [true, true, false, true, false, false])), (3, (cAt (bodyOf Tryz.f49) [true, true, false, true, false, false, true, true, false, false, true, true, false, true, false, false]))] from ⟨z36lp0 N, z36lp3 N, trivial⟩) x y).trans (z36core N x y)).trans h)
def z59L0T (_N : Nat) (x1 : Str) (x0 : List (Str × List Str)) (c9 : Int) (k0 : Option ((Str × List Str) × Bool)) (self : Int → Option ((Str × List Str) × Bool)) (s10 : Int) : Option ((Str × List Str) × Bool) :=
  br (decide (s10 < c9))
    (bnd (geti x0 s10) fun t12 =>
    br (t12.1 == x1)
      (some (t12, true))
      (self (IntKind.i64.wrap (s10 + (1 : Int)))))
    (k0)
def z59L0 (N : Nat) (x1 : Str) (x0 : List (Str × List Str)) (c9 : Int) (k0 : Option ((Str × List Str) × Bool)) : Nat → Int → Option ((Str × List Str) × Bool)
  | 0, _ => none
  | n + 1, s10 => z59L0T N x1 x0 c9 k0 (z59L0 N x1 x0 c9 k0 n) s10
def ref3_settingOf (N : Nat) (x0 : List (Str × List Str)) (x1 : Str) : Option ((Str × List Str) × Bool) :=
  z59L0 N x1 x0 (x0.length : Int) (some ((([] : Str), ([] : List Str)), false)) N (0 : Int)
abbrev z59sg (f : SV [.v (.sl (.pr .str (.sl .str))), .v .str] → BV [] → Option ((Str × List Str) × Bool)) : AF := { ps := [.v (.sl (.pr .str (.sl .str))), .v .str], bs := [], rs := [.v (.pr .str (.sl .str)), .v .bool], cs := [], R := (Str × List Str) × Bool, out := fun z => ((z.1, z.2, ()), ()), f := f }
abbrev z59pk : SV [.v (.pr .str (.sl .str)), .v .bool] → BV [] → ((Str × List Str) × Bool) := fun x _ => (x.1, x.2.1)
def z59fn (_N : Nat) : FuncId → Option Tmp → Option AF := fun f _ =>
  match f with
    | _ => none
theorem z59fn_ok (N : Nat) : ∀ f q F, z59fn N f q = some F → Sound Tryz.prog GW B0G f F := by
  intro f q F h
  unfold z59fn at h
  split at h
  · cases h
def z59h : Nat → Hint := fun i =>
  match i with
  | 0 => ⟨[], [1, 4, 8, 9, 10], [1004], [4], [1004], []⟩
  | _ => ⟨[], [], [], [], [], []⟩
abbrev z59E (N : Nat) : Env := mkE z59h (z59fn N) (fun _ => false) (fun _ => false)
abbrev z59L0_fs : List (Nat × Sl) := [(1, .v .str), (4, .box 1004 0), (8, .v (.sl (.pr .str (.sl .str)))), (9, .v (.int .i64)), (10, .v (.int .i64))]
abbrev z59L0_bs : List (Nat × Sb) := [(1004, .cells [.v .str, .nilS])]
def z59L0_hd (x1 : Str) (x0 : List (Str × List Str)) (c9 : Int) (c1004_0 : Str) (s10 : Int) : St := ⟨21, [(1, .v .str x1), (4, .box 1004 0), (8, .v (.sl (.pr .str (.sl .str))) x0), (9, .v (.int .i64) c9), (10, .v (.int .i64) s10)], [(1004, .cells [.v .str c1004_0, .nilS])]⟩
def z59L0_tl0 (_x1 : Str) (_x0 : List (Str × List Str)) (_c9 : Int) (c1004_0 : Str) : St := ⟨21, [(4, .box 1004 0)], [(1004, .cells [.v .str c1004_0, .nilS])]⟩
def z59L0_G (N : Nat) (x1 : Str) (x0 : List (Str × List Str)) (c9 : Int) (c1004_0 : Str) (s10 : Int) (k : Ex → St → Option ((Str × List Str) × Bool)) : Option ((Str × List Str) × Bool) :=
  z59L0 N x1 x0 c9 (k (.exit 0) (z59L0_tl0 x1 x0 c9 c1004_0)) N s10
abbrev z59L0_F (N : Nat) : FV z59L0_fs → HV z59L0_bs → (Ex → St → Option ((Str × List Str) × Bool)) → Option ((Str × List Str) × Bool) := fun x y k => z59L0_G N x.1 x.2.2.1 x.2.2.2.1 y.1.1 x.2.2.2.2.1 k
noncomputable def z59LP (N : Nat) : Nat → Code → St → (Ex → St → Option ((Str × List Str) × Bool)) → Option ((Str × List Str) × Bool) := fun i c =>
  match i with
  | 0 => (LPc 21 z59L0_fs z59L0_bs (z59L0_F N) (fun st k => iter (z59h 0) (exec (z59E N) N c 0) N st k))
  | i => fun st k => iter (z59h i) (exec (z59E N) N c i) N st k
theorem z59L0_step (N : Nat) (x1 : Str) (x0 : List (Str × List Str)) (c9 : Int) (c1004_0 : Str) (KX : Nat → St → Option ((Str × List Str) × Bool)) (I : St → Option ((Str × List Str) × Bool)) (s10 : Int) :
    execL (z59LP N) (z59E N) (cAt (bodyOf Tryz.f100) [true, false, true, false, false]) 0 (z59L0_hd x1 x0 c9 c1004_0 s10) (roundK (z59h 0) I KX (resD (z59E N) Tryz.f100 (z59sg fun x _ => ref3_settingOf N x.1 x.2.1) z59pk)) = z59L0T N x1 x0 c9 (KX 0 (z59L0_tl0 x1 x0 c9 c1004_0)) (fun s10 => I (z59L0_hd x1 x0 c9 c1004_0 s10)) s10 := by kernel_rfl
theorem z59L0_ok (N : Nat) : ∀ x y k, (∀ st, k .ret st = (resD (z59E N) Tryz.f100 (z59sg fun x _ => ref3_settingOf N x.1 x.2.1) z59pk) st) → iter (z59h 0) (exec (z59E N) N (cAt (bodyOf Tryz.f100) [true, false, true, false, false]) 0) N ⟨21, unF z59L0_fs x, unH z59L0_bs y⟩ k = z59L0_F N x y k := fun x y k hk =>
  iter_link (S := (Int) × Unit) (z59h 0) _ (execL (z59LP N) (z59E N) (cAt (bodyOf Tryz.f100) [true, false, true, false, false]) 0) (resD (z59E N) Tryz.f100 (z59sg fun x _ => ref3_settingOf N x.1 x.2.1) z59pk) (fun st k hk => execL_eq _ _ N _ (cAt (bodyOf Tryz.f100) [true, false, true, false, false]) 0 (show LoopsOk (z59LP N) (z59E N) N (resD (z59E N) Tryz.f100 (z59sg fun x _ => ref3_settingOf N x.1 x.2.1) z59pk) [] from trivial) st k hk) (fun s => z59L0_hd x.1 x.2.2.1 x.2.2.2.1 y.1.1 s.1) k hk
    (fun self s => z59L0T N x.1 x.2.2.1 x.2.2.2.1 (k (.exit 0) (z59L0_tl0 x.1 x.2.2.1 x.2.2.2.1 y.1.1)) (fun s10 => self (s10, ())) s.1) (fun n s => z59L0 N x.1 x.2.2.1 x.2.2.2.1 (k (.exit 0) (z59L0_tl0 x.1 x.2.2.1 x.2.2.2.1 y.1.1)) n s.1) (fun _ => rfl) (fun _ _ => rfl)
    (fun I s => z59L0_step N x.1 x.2.2.1 x.2.2.2.1 y.1.1 (fun j => k (.exit j)) I s.1) N (x.2.2.2.2.1, ())
theorem z59lp0 (N : Nat) : ∀ st k, (∀ st, k .ret st = (resD (z59E N) Tryz.f100 (z59sg fun x _ => ref3_settingOf N x.1 x.2.1) z59pk) st) → z59LP N 0 (cAt (bodyOf Tryz.f100) [true, false, true, false, false]) st k = iter (Env.hint (z59E N) 0) (exec (z59E N) N (cAt (bodyOf Tryz.f100) [true, false, true, false, false]) 0) N st k := fun st k hk => LPc_eq 21 z59L0_fs z59L0_bs _ _ (resD (z59E N) Tryz.f100 (z59sg fun x _ => ref3_settingOf N x.1 x.2.1) z59pk) (z59L0_ok N) _ st k hk (rfl)
theorem z59core (N : Nat) (x : SV [.v (.sl (.pr .str (.sl .str))), .v .str]) (y : BV []) : runL (z59E N) Tryz.f100 (z59sg fun x _ => ref3_settingOf N x.1 x.2.1) z59pk (z59LP N) x y = ref3_settingOf N x.1 x.2.1 := by kernel_rfl
theorem z59sound (N : Nat) : Sound Tryz.prog GW B0G 100 (z59sg fun x _ => ref3_settingOf N x.1 x.2.1) :=
  runD_sound (mkE_ok z59h (z59fn N) _ _ (z59fn_ok N)) Tryz.func100 rfl Tryz.call100 (z59sg fun x _ => ref3_settingOf N x.1 x.2.1) z59pk (fun _ _ => rfl) N (fun x y _ h => ((runL_eq (z59E N) N Tryz.f100 (z59sg fun x _ => ref3_settingOf N x.1 x.2.1) z59pk (z59LP N) (show LoopsOk (z59LP N) (z59E N) N (resD (z59E N) Tryz.f100 (z59sg fun x _ => ref3_settingOf N x.1 x.2.1) z59pk) [(0, (cAt (bodyOf Tryz.f100) [true, false, true, false, false]))] from ⟨z59lp0 N, trivial⟩) x y).trans (z59core N x y)).trans h)
def z44L0T (N : Nat) (x0 : List (Str × List Str)) (x1 : List (Str × Str)) (c15 : List (Str × Str)) (c16 : Int) (k0 : Option Int) (self : Int → Option Int) (s17 : Int) : Option Int :=
  br (decide (s17 < c16))
    (bnd (geti c15 s17) fun t20 =>
    bnd (ref3_settingOf N x0 t20.1) fun t26 =>
    br (!t26.2)
      (some (5 : Int))
      (bnd (slices_Contains_string_string N t26.1.2 t20.2) fun t37 =>
      br (!t37)
        (some (1 : Int))
        (bnd (geti t26.1.2 (0 : Int)) fun t42 =>
        br (t42 == t20.2)
          (some (3 : Int))
          (br (decide (s17 > (0 : Int)))
            (bnd (geti x1 (IntKind.i64.wrap (s17 - (1 : Int)))) fun t56 =>
            br (Op.bytesLess t20.1 t56.1 || t20.1 == t56.1)
              (some (8 : Int))
              (self (IntKind.i64.wrap (s17 + (1 : Int)))))
            (self (IntKind.i64.wrap (s17 + (1 : Int))))))))
    (k0)
def z44L0 (N : Nat) (x0 : List (Str × List Str)) (x1 : List (Str × Str)) (c15 : List (Str × Str)) (c16 : Int) (k0 : Option Int) : Nat → Int → Option Int
  | 0, _ => none
  | n + 1, s17 => z44L0T N x0 x1 c15 c16 k0 (z44L0 N x0 x1 c15 c16 k0 n) s17
def ref3_CheckConfig (N : Nat) (x0 : List (Str × List Str)) (x1 : List (Str × Str)) : Option Int :=
  bnd (ref3_CheckSettings N x0) fun t11 =>
  br (t11 != (0 : Int))
    (some t11)
    (z44L0 N x0 x1 x1 (x1.length : Int) (some (0 : Int)) N (0 : Int))
abbrev z44sg (f : SV [.v (.sl (.pr .str (.sl .str))), .v (.sl (.pr .str .str))] → BV [] → Option (Int)) : AF := { ps := [.v (.sl (.pr .str (.sl .str))), .v (.sl (.pr .str .str))], bs := [], rs := [.v (.int .i64)], cs := [], R := Int, out := fun z => ((z, ()), ()), f := f }
abbrev z44pk : SV [.v (.int .i64)] → BV [] → Int := fun x _ => x.1
def z44fn (N : Nat) : FuncId → Option Tmp → Option AF := fun f _ =>
  match f with
    | 49 => some (z36sg fun x _ => ref3_CheckSettings N x.1)
    | 56 => some (z7sg fun x _ => slices_Contains_string_string N x.1 x.2.1)
    | 100 => some (z59sg fun x _ => ref3_settingOf N x.1 x.2.1)
    | _ => none
theorem z44fn_ok (N : Nat) : ∀ f q F, z44fn N f q = some F → Sound Tryz.prog GW B0G f F := by
  intro f q F h
  unfold z44fn at h
  split at h
  · cases h; exact z36sound N
  · cases h; exact z7sound N
  · cases h; exact z59sound N
  · cases h
def z44h : Nat → Hint := fun i =>
  match i with
  | 0 => ⟨[], [0, 1, 15, 16, 17], [], [], [], []⟩
  | _ => ⟨[], [], [], [], [], []⟩
abbrev z44E (N : Nat) : Env := mkE z44h (z44fn N) (fun _ => false) (fun _ => false)
abbrev z44L0_fs : List (Nat × Sl) := [(0, .v (.sl (.pr .str (.sl .str)))), (1, .v (.sl (.pr .str .str))), (15, .v (.sl (.pr .str .str))), (16, .v (.int .i64)), (17, .v (.int .i64))]
abbrev z44L0_bs : List (Nat × Sb) := []
def z44L0_hd (x0 : List (Str × List Str)) (x1 : List (Str × Str)) (c15 : List (Str × Str)) (c16 : Int) (s17 : Int) : St := ⟨62, [(0, .v (.sl (.pr .str (.sl .str))) x0), (1, .v (.sl (.pr .str .str)) x1), (15, .v (.sl (.pr .str .str)) c15), (16, .v (.int .i64) c16), (17, .v (.int .i64) s17)], []⟩
def z44L0_tl0 (_x0 : List (Str × List Str)) (_x1 : List (Str × Str)) (_c15 : List (Str × Str)) (_c16 : Int) : St := ⟨62, [], []⟩
def z44L0_G (N : Nat) (x0 : List (Str × List Str)) (x1 : List (Str × Str)) (c15 : List (Str × Str)) (c16 : Int) (s17 : Int) (k : Ex → St → Option Int) : Option Int :=
  z44L0 N x0 x1 c15 c16 (k (.exit 0) (z44L0_tl0 x0 x1 c15 c16)) N s17
abbrev z44L0_F (N : Nat) : FV z44L0_fs → HV z44L0_bs → (Ex → St → Option Int) → Option Int := fun x _ k => z44L0_G N x.1 x.2.1 x.2.2.1 x.2.2.2.1 x.2.2.2.2.1 k
noncomputable def z44LP (N : Nat) : Nat → Code → St → (Ex → St → Option Int) → Option Int := fun i c =>
  match i with
  | 0 => (LPc 62 z44L0_fs z44L0_bs (z44L0_F N) (fun st k => iter (z44h 0) (exec (z44E N) N c 0) N st k))
  | i => fun st k => iter (z44h i) (exec (z44E N) N c i) N st k
theorem z44L0_step (N : Nat) (x0 : List (Str × List Str)) (x1 : List (Str × Str)) (c15 : List (Str × Str)) (c16 : Int) (KX : Nat → St → Option Int) (I : St → Option Int) (s17 : Int) :
    execL (z44LP N) (z44E N) (cAt (bodyOf Tryz.f39) [true, true, false, true, false, false]) 0 (z44L0_hd x0 x1 c15 c16 s17) (roundK (z44h 0) I KX (resD (z44E N) Tryz.f39 (z44sg fun x _ => ref3_CheckConfig N x.1 x.2.1) z44pk)) = z44L0T N x0 x1 c15 c16 (KX 0 (z44L0_tl0 x0 x1 c15 c16)) (fun s17 => I (z44L0_hd x0 x1 c15 c16 s17)) s17 := by kernel_rfl
theorem z44L0_ok (N : Nat) : ∀ x y k, (∀ st, k .ret st = (resD (z44E N) Tryz.f39 (z44sg fun x _ => ref3_CheckConfig N x.1 x.2.1) z44pk) st) → iter (z44h 0) (exec (z44E N) N (cAt (bodyOf Tryz.f39) [true, true, false, true, false, false]) 0) N ⟨62, unF z44L0_fs x, unH z44L0_bs y⟩ k = z44L0_F N x y k := fun x _ k hk =>
  iter_link (S := (Int) × Unit) (z44h 0) _ (execL (z44LP N) (z44E N) (cAt (bodyOf Tryz.f39) [true, true, false, true, false, false]) 0) (resD (z44E N) Tryz.f39 (z44sg fun x _ => ref3_CheckConfig N x.1 x.2.1) z44pk) (fun st k hk => execL_eq _ _ N _ (cAt (bodyOf Tryz.f39) [true, true, false, true, false, false]) 0 (show LoopsOk (z44LP N) (z44E N) N (resD (z44E N) Tryz.f39 (z44sg fun x _ => ref3_CheckConfig N x.1 x.2.1) z44pk) [] from trivial) st k hk) (fun s => z44L0_hd x.1 x.2.1 x.2.2.1 x.2.2.2.1 s.1) k hk
    (fun self s => z44L0T N x.1 x.2.1 x.2.2.1 x.2.2.2.1 (k (.exit 0) (z44L0_tl0 x.1 x.2.1 x.2.2.1 x.2.2.2.1)) (fun s17 => self (s17, ())) s.1) (fun n s => z44L0 N x.1 x.2.1 x.2.2.1 x.2.2.2.1 (k (.exit 0) (z44L0_tl0 x.1 x.2.1 x.2.2.1 x.2.2.2.1)) n s.1) (fun _ => rfl) (fun _ _ => rfl)
    (fun I s => z44L0_step N x.1 x.2.1 x.2.2.1 x.2.2.2.1 (fun j => k (.exit j)) I s.1) N (x.2.2.2.2.1, ())
theorem z44lp0 (N : Nat) : ∀ st k, (∀ st, k .ret st = (resD (z44E N) Tryz.f39 (z44sg fun x _ => ref3_CheckConfig N x.1 x.2.1) z44pk) st) → z44LP N 0 (cAt (bodyOf Tryz.f39) [true, true, false, true, false, false]) st k = iter (Env.hint (z44E N) 0) (exec (z44E N) N (cAt (bodyOf Tryz.f39) [true, true, false, true, false, false]) 0) N st k := fun st k hk => LPc_eq 62 z44L0_fs z44L0_bs _ _ (resD (z44E N) Tryz.f39 (z44sg fun x _ => ref3_CheckConfig N x.1 x.2.1) z44pk) (z44L0_ok N) _ st k hk (rfl)
theorem z44core (N : Nat) (x : SV [.v (.sl (.pr .str (.sl .str))), .v (.sl (.pr .str .str))]) (y : BV []) : runL (z44E N) Tryz.f39 (z44sg fun x _ => ref3_CheckConfig N x.1 x.2.1) z44pk (z44LP N) x y = ref3_CheckConfig N x.1 x.2.1 := by kernel_rfl
theorem z44sound (N : Nat) : Sound Tryz.prog GW B0G 39 (z44sg fun x _ => ref3_CheckConfig N x.1 x.2.1) :=
  runD_sound (mkE_ok z44h (z44fn N) _ _ (z44fn_ok N)) Tryz.func39 rfl Tryz.call39 (z44sg fun x _ => ref3_CheckConfig N x.1 x.2.1) z44pk (fun _ _ => rfl) N (fun x y _ h => ((runL_eq (z44E N) N Tryz.f39 (z44sg fun x _ => ref3_CheckConfig N x.1 x.2.1) z44pk (z44LP N) (show LoopsOk (z44LP N) (z44E N) N (resD (z44E N) Tryz.f39 (z44sg fun x _ => ref3_CheckConfig N x.1 x.2.1) z44pk) [(0, (cAt (bodyOf Tryz.f39) [true, true, false, true, false, false]))] from ⟨z44lp0 N, trivial⟩) x y).trans (z44core N x y)).trans h)
def z70L0T (_N : Nat) (x2 : Str) (x1 : List (Str × Str)) (c12 : Int) (k0 : Option Str) (self : Int → Option Str) (s13 : Int) : Option Str :=
  br (decide (s13 < c12))
    (bnd (geti x1 s13) fun t15 =>
    br (t15.1 == x2)
      (some t15.2)
      (self (IntKind.i64.wrap (s13 + (1 : Int)))))
    (k0)
def z70L0 (N : Nat) (x2 : Str) (x1 : List (Str × Str)) (c12 : Int) (k0 : Option Str) : Nat → Int → Option Str
  | 0, _ => none
  | n + 1, s13 => z70L0T N x2 x1 c12 k0 (z70L0 N x2 x1 c12 k0 n) s13
def ref3_valueOf (N : Nat) (x0 : List (Str × List Str)) (x1 : List (Str × Str)) (x2 : Str) : Option Str :=
  z70L0 N x2 x1 (x1.length : Int) (bnd (ref3_settingOf N x0 x2) fun t27 =>
      bnd (geti t27.1.2 (0 : Int)) fun t32 =>
      some t32) N (0 : Int)
abbrev z70sg (f : SV [.v (.sl (.pr .str (.sl .str))), .v (.sl (.pr .str .str)), .v .str] → BV [] → Option (Str)) : AF := { ps := [.v (.sl (.pr .str (.sl .str))), .v (.sl (.pr .str .str)), .v .str], bs := [], rs := [.v .str], cs := [], R := Str, out := fun z => ((z, ()), ()), f := f }
abbrev z70pk : SV [.v .str] → BV [] → Str := fun x _ => x.1
def z70fn (N : Nat) : FuncId → Option Tmp → Option AF := fun f _ =>
  match f with
    | 100 => some (z59sg fun x _ => ref3_settingOf N x.1 x.2.1)
    | _ => none
theorem z70fn_ok (N : Nat) : ∀ f q F, z70fn N f q = some F → Sound Tryz.prog GW B0G f F := by
  intro f q F h
  unfold z70fn at h
  split at h
  · cases h; exact z59sound N
  · cases h
def z70h : Nat → Hint := fun i =>
  match i with
  | 0 => ⟨[], [0, 2, 11, 12, 13], [], [0, 2], [], []⟩
  | _ => ⟨[], [], [], [], [], []⟩
abbrev z70E (N : Nat) : Env := mkE z70h (z70fn N) (fun _ => false) (fun _ => false)
abbrev z70L0_fs : List (Nat × Sl) := [(0, .v (.sl (.pr .str (.sl .str)))), (2, .v .str), (11, .v (.sl (.pr .str .str))), (12, .v (.int .i64)), (13, .v (.int .i64))]
abbrev z70L0_bs : List (Nat × Sb) := []
def z70L0_hd (x0 : List (Str × List Str)) (x2 : Str) (x1 : List (Str × Str)) (c12 : Int) (s13 : Int) : St := ⟨34, [(0, .v (.sl (.pr .str (.sl .str))) x0), (2, .v .str x2), (11, .v (.sl (.pr .str .str)) x1), (12, .v (.int .i64) c12), (13, .v (.int .i64) s13)], []⟩
def z70L0_tl0 (x0 : List (Str × List Str)) (x2 : Str) (_x1 : List (Str × Str)) (_c12 : Int) : St := ⟨34, [(0, .v (.sl (.pr .str (.sl .str))) x0), (2, .v .str x2)], []⟩
def z70L0_G (N : Nat) (x0 : List (Str × List Str)) (x2 : Str) (x1 : List (Str × Str)) (c12 : Int) (s13 : Int) (k : Ex → St → Option Str) : Option Str :=
  z70L0 N x2 x1 c12 (k (.exit 0) (z70L0_tl0 x0 x2 x1 c12)) N s13
abbrev z70L0_F (N : Nat) : FV z70L0_fs → HV z70L0_bs → (Ex → St → Option Str) → Option Str := fun x _ k => z70L0_G N x.1 x.2.1 x.2.2.1 x.2.2.2.1 x.2.2.2.2.1 k
noncomputable def z70LP (N : Nat) : Nat → Code → St → (Ex → St → Option Str) → Option Str := fun i c =>
  match i with
  | 0 => (LPc 34 z70L0_fs z70L0_bs (z70L0_F N) (fun st k => iter (z70h 0) (exec (z70E N) N c 0) N st k))
  | i => fun st k => iter (z70h i) (exec (z70E N) N c i) N st k
theorem z70L0_step (N : Nat) (x0 : List (Str × List Str)) (x2 : Str) (x1 : List (Str × Str)) (c12 : Int) (KX : Nat → St → Option Str) (I : St → Option Str) (s13 : Int) :
    execL (z70LP N) (z70E N) (cAt (bodyOf Tryz.f101) [true, false, true, false, false]) 0 (z70L0_hd x0 x2 x1 c12 s13) (roundK (z70h 0) I KX (resD (z70E N) Tryz.f101 (z70sg fun x _ => ref3_valueOf N x.1 x.2.1 x.2.2.1) z70pk)) = z70L0T N x2 x1 c12 (KX 0 (z70L0_tl0 x0 x2 x1 c12)) (fun s13 => I (z70L0_hd x0 x2 x1 c12 s13)) s13 := by kernel_rfl
theorem z70L0_ok (N : Nat) : ∀ x y k, (∀ st, k .ret st = (resD (z70E N) Tryz.f101 (z70sg fun x _ => ref3_valueOf N x.1 x.2.1 x.2.2.1) z70pk) st) → iter (z70h 0) (exec (z70E N) N (cAt (bodyOf Tryz.f101) [true, false, true, false, false]) 0) N ⟨34, unF z70L0_fs x, unH z70L0_bs y⟩ k = z70L0_F N x y k := fun x _ k hk =>
  iter_link (S := (Int) × Unit) (z70h 0) _ (execL (z70LP N) (z70E N) (cAt (bodyOf Tryz.f101) [true, false, true, false, false]) 0) (resD (z70E N) Tryz.f101 (z70sg fun x _ => ref3_valueOf N x.1 x.2.1 x.2.2.1) z70pk) (fun st k hk => execL_eq _ _ N _ (cAt (bodyOf Tryz.f101) [true, false, true, false, false]) 0 (show LoopsOk (z70LP N) (z70E N) N (resD (z70E N) Tryz.f101 (z70sg fun x _ => ref3_valueOf N x.1 x.2.1 x.2.2.1) z70pk) [] from trivial) st k hk) (fun s => z70L0_hd x.1 x.2.1 x.2.2.1 x.2.2.2.1 s.1) k hk
    (fun self s => z70L0T N x.2.1 x.2.2.1 x.2.2.2.1 (k (.exit 0) (z70L0_tl0 x.1 x.2.1 x.2.2.1 x.2.2.2.1)) (fun s13 => self (s13, ())) s.1) (fun n s => z70L0 N x.2.1 x.2.2.1 x.2.2.2.1 (k (.exit 0) (z70L0_tl0 x.1 x.2.1 x.2.2.1 x.2.2.2.1)) n s.1) (fun _ => rfl) (fun _ _ => rfl)
    (fun I s => z70L0_step N x.1 x.2.1 x.2.2.1 x.2.2.2.1 (fun j => k (.exit j)) I s.1) N (x.2.2.2.2.1, ())
theorem z70lp0 (N : Nat) : ∀ st k, (∀ st, k .ret st = (resD (z70E N) Tryz.f101 (z70sg fun x _ => ref3_valueOf N x.1 x.2.1 x.2.2.1) z70pk) st) → z70LP N 0 (cAt (bodyOf Tryz.f101) [true, false, true, false, false]) st k = iter (Env.hint (z70E N) 0) (exec (z70E N) N (cAt (bodyOf Tryz.f101) [true, false, true, false, false]) 0) N st k := fun st k hk => LPc_eq 34 z70L0_fs z70L0_bs _ _ (resD (z70E N) Tryz.f101 (z70sg fun x _ => ref3_valueOf N x.1 x.2.1 x.2.2.1) z70pk) (z70L0_ok N) _ st k hk (rfl)
theorem z70core (N : Nat) (x : SV [.v (.sl (.pr .str (.sl .str))), .v (.sl (.pr .str .str)), .v .str]) (y : BV []) : runL (z70E N) Tryz.f101 (z70sg fun x _ => ref3_valueOf N x.1 x.2.1 x.2.2.1) z70pk (z70LP N) x y = ref3_valueOf N x.1 x.2.1 x.2.2.1 := by kernel_rfl
theorem z70sound (N : Nat) : Sound Tryz.prog GW B0G 101 (z70sg fun x _ => ref3_valueOf N x.1 x.2.1 x.2.2.1) :=
  runD_sound (mkE_ok z70h (z70fn N) _ _ (z70fn_ok N)) Tryz.func101 rfl Tryz.call101 (z70sg fun x _ => ref3_valueOf N x.1 x.2.1 x.2.2.1) z70pk (fun _ _ => rfl) N (fun x y _ h => ((runL_eq (z70E N) N Tryz.f101 (z70sg fun x _ => ref3_valueOf N x.1 x.2.1 x.2.2.1) z70pk (z70LP N) (show LoopsOk (z70LP N) (z70E N) N (resD (z70E N) Tryz.f101 (z70sg fun x _ => ref3_valueOf N x.1 x.2.1 x.2.2.1) z70pk) [(0, (cAt (bodyOf Tryz.f101) [true, false, true, false, false]))] from ⟨z70lp0 N, trivial⟩) x y).trans (z70core N x y)).trans h)
def z38L0T (_N : Nat) (x1 : List (Str × Str)) (c20 : Int) (k0 : (List Str) → Option (Str × Int)) (self : Int → (List Str) → Option (Str × Int)) (s21 : Int) (w1007 : List Str) : Option (Str × Int) :=
  br (decide (s21 < c20))
    (bnd (geti x1 s21) fun t23 =>
    br (decide (t23.1.length + ([61] : Str).length ≤ 9223372036854775807))
      (br (decide ((t23.1 ++ ([61] : Str)).length + t23.2.length ≤ 9223372036854775807))
        (br (decide ((w1007.length + [(t23.1 ++ ([61] : Str)) ++ t23.2].length) * (24 * Ty.sz .str) ≤ 140737488355328))
          (self (IntKind.i64.wrap (s21 + (1 : Int))) (w1007 ++ [(t23.1 ++ ([61] : Str)) ++ t23.2]))
          none)
        none)
      none)
    (k0 w1007)
def z38L0 (N : Nat) (x1 : List (Str × Str)) (c20 : Int) (k0 : (List Str) → Option (Str × Int)) : Nat → Int → (List Str) → Option (Str × Int)
  | 0, _, _ => none
  | n + 1, s21, w1007 => z38L0T N x1 c20 k0 (z38L0 N x1 c20 k0 n) s21 w1007
def config_ConfigText (N : Nat) (x0 : List (Str × List Str)) (x1 : List (Str × Str)) : Option (Str × Int) :=
  bnd (config_CheckConfig N x0 x1) fun t12 =>
  br (t12 != (0 : Int))
    (some (([] : Str), t12))
    (br ((x1.length : Int) == (0 : Int))
      (some (([45] : Str), (0 : Int)))
      (z38L0 N x1 (x1.length : Int) (fun o0_w1007 =>
          bnd (strings_Join o0_w1007 ([44] : Str)) fun t36 =>
          some (t36, (0 : Int))) N (0 : Int) ([] : List Str)))
abbrev z38sg (f : SV [.v (.sl (.pr .str (.sl .str))), .v (.sl (.pr .str .str))] → BV [] → Option (Str × Int)) : AF := { ps := [.v (.sl (.pr .str (.sl .str))), .v (.sl (.pr .str .str))], bs := [], rs := [.v .str, .v (.int .i64)], cs := [], R := Str × Int, out := fun z => ((z.1, z.2, ()), ()), f := f }
abbrev z38pk : SV [.v .str, .v (.int .i64)] → BV [] → (Str × Int) := fun x _ => (x.1, x.2.1)
def z38fn (N : Nat) : FuncId → Option Tmp → Option AF := fun f _ =>
  match f with
    | 29 => some (z33sg fun x _ => config_CheckConfig N x.1 x.2.1)
    | 93 => some (z73sg fun x _ => strings_Join x.1 x.2.1)
    | _ => none
theorem z38fn_ok (N : Nat) : ∀ f q F, z38fn N f q = some F → Sound Tryz.prog GW B0G f F := by
  intro f q F h
  unfold z38fn at h
  split at h
  · cases h; exact z33sound N
  · cases h; exact z73sound
  · cases h
def z38h : Nat → Hint := fun i =>
  match i with
  | 0 => ⟨[], [7, 19, 20, 21], [1007], [7], [1007], []⟩
  | _ => ⟨[], [], [], [], [], []⟩
abbrev z38E (N : Nat) : Env := mkE z38h (z38fn N) (fun _ => false) (fun _ => false)
abbrev z38L0_fs : List (Nat × Sl) := [(7, .row 1007), (19, .v (.sl (.pr .str .str))), (20, .v (.int .i64)), (21, .v (.int .i64))]
abbrev z38L0_bs : List (Nat × Sb) := [(1007, .row 9 .str false)]
def z38L0_hd (x1 : List (Str × Str)) (c20 : Int) (s21 : Int) (w1007 : List Str) : St := ⟨37, [(7, .row 1007), (19, .v (.sl (.pr .str .str)) x1), (20, .v (.int .i64) c20), (21, .v (.int .i64) s21)], [(1007, .row 9 .str false w1007)]⟩
def z38L0_tl0 (_x1 : List (Str × Str)) (_c20 : Int) (o0_w1007 : List Str) : St := ⟨37, [(7, .row 1007)], [(1007, .row 9 .str false o0_w1007)]⟩
def z38L0_G (N : Nat) (x1 : List (Str × Str)) (c20 : Int) (s21 : Int) (w1007 : List Str) (k : Ex → St → Option (Str × Int)) : Option (Str × Int) :=
  z38L0 N x1 c20 (fun o0_w1007 => k (.exit 0) (z38L0_tl0 x1 c20 o0_w1007)) N s21 w1007
abbrev z38L0_F (N : Nat) : FV z38L0_fs → HV z38L0_bs → (Ex → St → Option (Str × Int)) → Option (Str × Int) := fun x y k => z38L0_G N x.2.1 x.2.2.1 x.2.2.2.1 y.1 k
noncomputable def z38LP (N : Nat) : Nat → Code → St → (Ex → St → Option (Str × Int)) → Option (Str × Int) := fun i c =>
  match i with
  | 0 => (LPc 37 z38L0_fs z38L0_bs (z38L0_F N) (fun st k => iter (z38h 0) (exec (z38E N) N c 0) N st k))
  | i => fun st k => iter (z38h i) (exec (z38E N) N c i) N st k
theorem z38L0_step (N : Nat) (x1 : List (Str × Str)) (c20 : Int) (KX : Nat → St → Option (Str × Int)) (I : St → Option (Str × Int)) (s21 : Int) (w1007 : List Str) :
    execL (z38LP N) (z38E N) (cAt (bodyOf Tryz.f36) [true, true, true, true, false, true, false, false]) 0 (z38L0_hd x1 c20 s21 w1007) (roundK (z38h 0) I KX (resD (z38E N) Tryz.f36 (z38sg fun x _ => config_ConfigText N x.1 x.2.1) z38pk)) = z38L0T N x1 c20 (fun o0_w1007 => KX 0 (z38L0_tl0 x1 c20 o0_w1007)) (fun s21 w1007 => I (z38L0_hd x1 c20 s21 w1007)) s21 w1007 := by kernel_rfl
theorem z38L0_ok (N : Nat) : ∀ x y k, (∀ st, k .ret st = (resD (z38E N) Tryz.f36 (z38sg fun x _ => config_ConfigText N x.1 x.2.1) z38pk) st) → iter (z38h 0) (exec (z38E N) N (cAt (bodyOf Tryz.f36) [true, true, true, true, false, true, false, false]) 0) N ⟨37, unF z38L0_fs x, unH z38L0_bs y⟩ k = z38L0_F N x y k := fun x y k hk =>
  iter_link (S := (Int) × (List Str) × Unit) (z38h 0) _ (execL (z38LP N) (z38E N) (cAt (bodyOf Tryz.f36) [true, true, true, true, false, true, false, false]) 0) (resD (z38E N) Tryz.f36 (z38sg fun x _ => config_ConfigText N x.1 x.2.1) z38pk) (fun st k hk => execL_eq _ _ N _ (cAt (bodyOf Tryz.f36) [true, true, true, true, false, true, false, false]) 0 (show LoopsOk (z38LP N) (z38E N) N (resD (z38E N) Tryz.f36 (z38sg fun x _ => config_ConfigText N x.1 x.2.1) z38pk) [] from trivial) st k hk) (fun s => z38L0_hd x.2.1 x.2.2.1 s.1 s.2.1) k hk
    (fun self s => z38L0T N x.2.1 x.2.2.1 (fun o0_w1007 => k (.exit 0) (z38L0_tl0 x.2.1 x.2.2.1 o0_w1007)) (fun s21 w1007 => self (s21, w1007, ())) s.1 s.2.1) (fun n s => z38L0 N x.2.1 x.2.2.1 (fun o0_w1007 => k (.exit 0) (z38L0_tl0 x.2.1 x.2.2.1 o0_w1007)) n s.1 s.2.1) (fun _ => rfl) (fun _ _ => rfl)
    (fun I s => z38L0_step N x.2.1 x.2.2.1 (fun j => k (.exit j)) I s.1 s.2.1) N (x.2.2.2.1, y.1, ())
theorem z38lp0 (N : Nat) : ∀ st k, (∀ st, k .ret st = (resD (z38E N) Tryz.f36 (z38sg fun x _ => config_ConfigText N x.1 x.2.1) z38pk) st) → z38LP N 0 (cAt (bodyOf Tryz.f36) [true, true, true, true, false, true, false, false]) st k = iter (Env.hint (z38E N) 0) (exec (z38E N) N (cAt (bodyOf Tryz.f36) [true, true, true, true, false, true, false, false]) 0) N st k := fun st k hk => LPc_eq 37 z38L0_fs z38L0_bs _ _ (resD (z38E N) Tryz.f36 (z38sg fun x _ => config_ConfigText N x.1 x.2.1) z38pk) (z38L0_ok N) _ st k hk (rfl)
theorem z38core (N : Nat) (x : SV [.v (.sl (.pr .str (.sl .str))), .v (.sl (.pr .str .str))]) (y : BV []) : runL (z38E N) Tryz.f36 (z38sg fun x _ => config_ConfigText N x.1 x.2.1) z38pk (z38LP N) x y = config_ConfigText N x.1 x.2.1 := by kernel_rfl
theorem z38sound (N : Nat) : Sound Tryz.prog GW B0G 36 (z38sg fun x _ => config_ConfigText N x.1 x.2.1) :=
  runD_sound (mkE_ok z38h (z38fn N) _ _ (z38fn_ok N)) Tryz.func36 rfl Tryz.call36 (z38sg fun x _ => config_ConfigText N x.1 x.2.1) z38pk (fun _ _ => rfl) N (fun x y _ h => ((runL_eq (z38E N) N Tryz.f36 (z38sg fun x _ => config_ConfigText N x.1 x.2.1) z38pk (z38LP N) (show LoopsOk (z38LP N) (z38E N) N (resD (z38E N) Tryz.f36 (z38sg fun x _ => config_ConfigText N x.1 x.2.1) z38pk) [(0, (cAt (bodyOf Tryz.f36) [true, true, true, true, false, true, false, false]))] from ⟨z38lp0 N, trivial⟩) x y).trans (z38core N x y)).trans h)
def law3_awake (N : Nat) : Option Bool :=
  bnd (config_ConfigText N [(([109] : Str), [([97] : Str), ([98] : Str)])] [(([109] : Str), ([98] : Str))]) fun t9 =>
  br (t9.2 == (0 : Int))
    (some (t9.1 == ([109, 61, 98] : Str)))
    (some false)
abbrev z84sg (f : SV [] → BV [] → Option (Bool)) : AF := { ps := [], bs := [], rs := [.v .bool], cs := [], R := Bool, out := fun z => ((z, ()), ()), f := f }
abbrev z84pk : SV [.v .bool] → BV [] → Bool := fun x _ => x.1
def z84fn (N : Nat) : FuncId → Option Tmp → Option AF := fun f _ =>
  match f with
    | 36 => some (z38sg fun x _ => config_ConfigText N x.1 x.2.1)
    | _ => none
theorem z84fn_ok (N : Nat) : ∀ f q F, z84fn N f q = some F → Sound Tryz.prog GW B0G f F := by
  intro f q F h
  unfold z84fn at h
  split at h
  · cases h; exact z38sound N
  · cases h
def z84h : Nat → Hint := fun i =>
  match i with
  | _ => ⟨[], [], [], [], [], []⟩
abbrev z84E (N : Nat) : Env := mkE z84h (z84fn N) (fun _ => false) (fun _ => false)
noncomputable def z84LP (N : Nat) : Nat → Code → St → (Ex → St → Option Bool) → Option Bool := fun i c =>
  match i with
  | i => fun st k => iter (z84h i) (exec (z84E N) N c i) N st k
theorem z84core (N : Nat) (x : SV []) (y : BV []) : runL (z84E N) Tryz.f11 (z84sg fun _ _ => law3_awake N) z84pk (z84LP N) x y = law3_awake N := by kernel_rfl
theorem z84sound (N : Nat) : Sound Tryz.prog GW B0G 11 (z84sg fun _ _ => law3_awake N) :=
  runD_sound (mkE_ok z84h (z84fn N) _ _ (z84fn_ok N)) Tryz.func11 rfl Tryz.call11 (z84sg fun _ _ => law3_awake N) z84pk (fun _ _ => rfl) N (fun x y _ h => ((runL_eq (z84E N) N Tryz.f11 (z84sg fun _ _ => law3_awake N) z84pk (z84LP N) (show LoopsOk (z84LP N) (z84E N) N (resD (z84E N) Tryz.f11 (z84sg fun _ _ => law3_awake N) z84pk) [] from trivial) x y).trans (z84core N x y)).trans h)
def config_CheckConditions_1 (_N : Nat) (x0 : Int) : Option Bool :=
  br (decide (x0 < (32 : Int)))
    (some true)
    (some (decide (x0 > (126 : Int))))
abbrev z18sg (f : SV [.v (.int .i32)] → BV [] → Option (Bool)) : AF := { ps := [.v (.int .i32)], bs := [], rs := [.v .bool], cs := [], R := Bool, out := fun z => ((z, ()), ()), f := f }
abbrev z18pk : SV [.v .bool] → BV [] → Bool := fun x _ => x.1
def z18fn (_N : Nat) : FuncId → Option Tmp → Option AF := fun f _ =>
  match f with
    | _ => none
theorem z18fn_ok (N : Nat) : ∀ f q F, z18fn N f q = some F → Sound Tryz.prog GW B0G f F := by
  intro f q F h
  unfold z18fn at h
  split at h
  · cases h
def z18h : Nat → Hint := fun i =>
  match i with
  | _ => ⟨[], [], [], [], [], []⟩
abbrev z18E (N : Nat) : Env := mkE z18h (z18fn N) (fun _ => false) (fun _ => false)
noncomputable def z18LP (N : Nat) : Nat → Code → St → (Ex → St → Option Bool) → Option Bool := fun i c =>
  match i with
  | i => fun st k => iter (z18h i) (exec (z18E N) N c i) N st k
theorem z18core (N : Nat) (x : SV [.v (.int .i32)]) (y : BV []) : runL (z18E N) Tryz.f118 (z18sg fun x _ => config_CheckConditions_1 N x.1) z18pk (z18LP N) x y = config_CheckConditions_1 N x.1 := by kernel_rfl
theorem z18sound (N : Nat) : Sound Tryz.prog GW B0G 118 (z18sg fun x _ => config_CheckConditions_1 N x.1) :=
  runD_sound (mkE_ok z18h (z18fn N) _ _ (z18fn_ok N)) Tryz.func118 rfl Tryz.call118 (z18sg fun x _ => config_CheckConditions_1 N x.1) z18pk (fun _ _ => rfl) N (fun x y _ h => ((runL_eq (z18E N) N Tryz.f118 (z18sg fun x _ => config_CheckConditions_1 N x.1) z18pk (z18LP N) (show LoopsOk (z18LP N) (z18E N) N (resD (z18E N) Tryz.f118 (z18sg fun x _ => config_CheckConditions_1 N x.1) z18pk) [] from trivial) x y).trans (z18core N x y)).trans h)
def z37L0T (N : Nat) (x0 : List (Str × Str)) (c8 : List (Str × Str)) (c9 : Int) (k0 : Option Int) (self : Int → Option Int) (s10 : Int) : Option Int :=
  br (decide (s10 < c9))
    (bnd (geti c8 s10) fun t13 =>
    bnd (config_IsWord N t13.1) fun t18 =>
    br (!t18)
      (some (5 : Int))
      (bnd (config_IsWord N t13.2) fun t23 =>
      br (!t23)
        (some (1 : Int))
        (br (decide (s10 > (0 : Int)))
          (bnd (geti x0 (IntKind.i64.wrap (s10 - (1 : Int)))) fun t34 =>
          br (Op.bytesLess t13.1 t34.1 || t13.1 == t34.1)
            (some (8 : Int))
            (self (IntKind.i64.wrap (s10 + (1 : Int)))))
          (self (IntKind.i64.wrap (s10 + (1 : Int)))))))
    (k0)
def z37L0 (N : Nat) (x0 : List (Str × Str)) (c8 : List (Str × Str)) (c9 : Int) (k0 : Option Int) : Nat → Int → Option Int
  | 0, _ => none
  | n + 1, s10 => z37L0T N x0 c8 c9 k0 (z37L0 N x0 c8 c9 k0 n) s10
def config_CheckPairs (N : Nat) (x0 : List (Str × Str)) : Option Int :=
  br (decide ((x0.length : Int) > (30 : Int)))
    (some (2 : Int))
    (z37L0 N x0 x0 (x0.length : Int) (some (0 : Int)) N (0 : Int))
abbrev z37sg (f : SV [.v (.sl (.pr .str .str))] → BV [] → Option (Int)) : AF := { ps := [.v (.sl (.pr .str .str))], bs := [], rs := [.v (.int .i64)], cs := [], R := Int, out := fun z => ((z, ()), ()), f := f }
abbrev z37pk : SV [.v (.int .i64)] → BV [] → Int := fun x _ => x.1
def z37fn (N : Nat) : FuncId → Option Tmp → Option AF := fun f _ =>
  match f with
    | 43 => some (z62sg fun x _ => config_IsWord N x.1)
    | _ => none
theorem z37fn_ok (N : Nat) : ∀ f q F, z37fn N f q = some F → Sound Tryz.prog GW B0G f F := by
  intro f q F h
  unfold z37fn at h
  split at h
  · cases h; exact z62sound N
  · cases h
def z37h : Nat → Hint := fun i =>
  match i with
  | 0 => ⟨[], [0, 8, 9, 10], [], [], [], []⟩
  | _ => ⟨[], [], [], [], [], []⟩
abbrev z37E (N : Nat) : Env := mkE z37h (z37fn N) (fun _ => false) (fun _ => false)
abbrev z37L0_fs : List (Nat × Sl) := [(0, .v (.sl (.pr .str .str))), (8, .v (.sl (.pr .str .str))), (9, .v (.int .i64)), (10, .v (.int .i64))]
abbrev z37L0_bs : List (Nat × Sb) := []
def z37L0_hd (x0 : List (Str × Str)) (c8 : List (Str × Str)) (c9 : Int) (s10 : Int) : St := ⟨40, [(0, .v (.sl (.pr .str .str)) x0), (8, .v (.sl (.pr .str .str)) c8), (9, .v (.int .i64) c9), (10, .v (.int .i64) s10)], []⟩
def z37L0_tl0 (_x0 : List (Str × Str)) (_c8 : List (Str × Str)) (_c9 : Int) : St := ⟨40, [], []⟩
def z37L0_G (N : Nat) (x0 : List (Str × Str)) (c8 : List (Str × Str)) (c9 : Int) (s10 : Int) (k : Ex → St → Option Int) : Option Int :=
  z37L0 N x0 c8 c9 (k (.exit 0) (z37L0_tl0 x0 c8 c9)) N s10
abbrev z37L0_F (N : Nat) : FV z37L0_fs → HV z37L0_bs → (Ex → St → Option Int) → Option Int := fun x _ k => z37L0_G N x.1 x.2.1 x.2.2.1 x.2.2.2.1 k
noncomputable def z37LP (N : Nat) : Nat → Code → St → (Ex → St → Option Int) → Option Int := fun i c =>
  match i with
  | 0 => (LPc 40 z37L0_fs z37L0_bs (z37L0_F N) (fun st k => iter (z37h 0) (exec (z37E N) N c 0) N st k))
  | i => fun st k => iter (z37h i) (exec (z37E N) N c i) N st k
theorem z37L0_step (N : Nat) (x0 : List (Str × Str)) (c8 : List (Str × Str)) (c9 : Int) (KX : Nat → St → Option Int) (I : St → Option Int) (s10 : Int) :
    execL (z37LP N) (z37E N) (cAt (bodyOf Tryz.f119) [true, true, false, true, false, false]) 0 (z37L0_hd x0 c8 c9 s10) (roundK (z37h 0) I KX (resD (z37E N) Tryz.f119 (z37sg fun x _ => config_CheckPairs N x.1) z37pk)) = z37L0T N x0 c8 c9 (KX 0 (z37L0_tl0 x0 c8 c9)) (fun s10 => I (z37L0_hd x0 c8 c9 s10)) s10 := by kernel_rfl
theorem z37L0_ok (N : Nat) : ∀ x y k, (∀ st, k .ret st = (resD (z37E N) Tryz.f119 (z37sg fun x _ => config_CheckPairs N x.1) z37pk) st) → iter (z37h 0) (exec (z37E N) N (cAt (bodyOf Tryz.f119) [true, true, false, true, false, false]) 0) N ⟨40, unF z37L0_fs x, unH z37L0_bs y⟩ k = z37L0_F N x y k := fun x _ k hk =>
  iter_link (S := (Int) × Unit) (z37h 0) _ (execL (z37LP N) (z37E N) (cAt (bodyOf Tryz.f119) [true, true, false, true, false, false]) 0) (resD (z37E N) Tryz.f119 (z37sg fun x _ => config_CheckPairs N x.1) z37pk) (fun st k hk => execL_eq _ _ N _ (cAt (bodyOf Tryz.f119) [true, true, false, true, false, false]) 0 (show LoopsOk (z37LP N) (z37E N) N (resD (z37E N) Tryz.f119 (z37sg fun x _ => config_CheckPairs N x.1) z37pk) [] from trivial) st k hk) (fun s => z37L0_hd x.1 x.2.1 x.2.2.1 s.1) k hk
    (fun self s => z37L0T N x.1 x.2.1 x.2.2.1 (k (.exit 0) (z37L0_tl0 x.1 x.2.1 x.2.2.1)) (fun s10 => self (s10, ())) s.1) (fun n s => z37L0 N x.1 x.2.1 x.2.2.1 (k (.exit 0) (z37L0_tl0 x.1 x.2.1 x.2.2.1)) n s.1) (fun _ => rfl) (fun _ _ => rfl)
    (fun I s => z37L0_step N x.1 x.2.1 x.2.2.1 (fun j => k (.exit j)) I s.1) N (x.2.2.2.1, ())
theorem z37lp0 (N : Nat) : ∀ st k, (∀ st, k .ret st = (resD (z37E N) Tryz.f119 (z37sg fun x _ => config_CheckPairs N x.1) z37pk) st) → z37LP N 0 (cAt (bodyOf Tryz.f119) [true, true, false, true, false, false]) st k = iter (Env.hint (z37E N) 0) (exec (z37E N) N (cAt (bodyOf Tryz.f119) [true, true, false, true, false, false]) 0) N st k := fun st k hk => LPc_eq 40 z37L0_fs z37L0_bs _ _ (resD (z37E N) Tryz.f119 (z37sg fun x _ => config_CheckPairs N x.1) z37pk) (z37L0_ok N) _ st k hk (rfl)
theorem z37core (N : Nat) (x : SV [.v (.sl (.pr .str .str))]) (y : BV []) : runL (z37E N) Tryz.f119 (z37sg fun x _ => config_CheckPairs N x.1) z37pk (z37LP N) x y = config_CheckPairs N x.1 := by kernel_rfl
theorem z37sound (N : Nat) : Sound Tryz.prog GW B0G 119 (z37sg fun x _ => config_CheckPairs N x.1) :=
  runD_sound (mkE_ok z37h (z37fn N) _ _ (z37fn_ok N)) Tryz.func119 rfl Tryz.call119 (z37sg fun x _ => config_CheckPairs N x.1) z37pk (fun _ _ => rfl) N (fun x y _ h => ((runL_eq (z37E N) N Tryz.f119 (z37sg fun x _ => config_CheckPairs N x.1) z37pk (z37LP N) (show LoopsOk (z37LP N) (z37E N) N (resD (z37E N) Tryz.f119 (z37sg fun x _ => config_CheckPairs N x.1) z37pk) [(0, (cAt (bodyOf Tryz.f119) [true, true, false, true, false, false]))] from ⟨z37lp0 N, trivial⟩) x y).trans (z37core N x y)).trans h)
abbrev z0sg (f : SV [.v .str, .v (.clo 118 .un)] → BV [] → Option (Bool)) : AF := { ps := [.v .str, .v (.clo 118 .un)], bs := [], rs := [.v .bool], cs := [], R := Bool, out := fun z => ((z, ()), ()), f := f }
def strings_ContainsFunc_config_CheckConditions_1 (N : Nat) (x : Str) (_u : Unit) : Option Bool := some (decide (0 ≤ Lib.idxFunc (fun n => (config_CheckConditions_1 N (n : Int)).getD false) true ⟨x.toArray⟩))
theorem z0sound (N : Nat) : Sound Tryz.prog GW B0G 117 (z0sg fun x y => strings_ContainsFunc_config_CheckConditions_1 N x.1 x.2.1) := strings_ContainsFunc_ext (ho := fun _ => rfl) (z18sound N) (fun n _ => by unfold config_CheckConditions_1; simp only [br_ite]; rfl)

def z21L0T (N : Nat) (x0 : List (Str × List Str)) (x1 : List (Str × List (Str × Str) × List (Str × Str))) (c18 : List (Str × List (Str × Str) × List (Str × Str))) (c19 : Int) (k0 : Option Int) (self : Int → Option Int) (s20 : Int) : Option Int :=
  br (decide (s20 < c19))
    (bnd (geti c18 s20) fun t23 =>
    br (decide ((t23.1.length : Int) < (1 : Int)))
      (some (3 : Int))
      (br (decide ((t23.1.length : Int) > (1000 : Int)))
        (some (3 : Int))
        (br (t23.1 == ([100, 101, 102, 97, 117, 108, 116] : Str))
          (some (3 : Int))
          (bnd (strings_ContainsFunc_config_CheckConditions_1 N t23.1 ()) fun t43 =>
          br (t43)
            (some (3 : Int))
            (br (decide ((t23.2.1.length : Int) > (30 : Int)))
              (some (2 : Int))
              (br (decide ((t23.2.2.length : Int) > (30 : Int)))
                (some (2 : Int))
                (bnd (config_checkSet N x0 t23.2.1 false) fun t58 =>
                br (t58 != (0 : Int))
                  (some t58)
                  (bnd (config_CheckPairs N t23.2.2) fun t64 =>
                  br (t64 != (0 : Int))
                    (some t64)
                    (br (decide (s20 > (0 : Int)))
                      (bnd (geti x1 (IntKind.i64.wrap (s20 - (1 : Int)))) fun t76 =>
                      br (Op.bytesLess t23.1 t76.1 || t23.1 == t76.1)
                        (some (8 : Int))
                        (self (IntKind.i64.wrap (s20 + (1 : Int)))))
                      (self (IntKind.i64.wrap (s20 + (1 : Int)))))))))))))
    (k0)
def z21L0 (N : Nat) (x0 : List (Str × List Str)) (x1 : List (Str × List (Str × Str) × List (Str × Str))) (c18 : List (Str × List (Str × Str) × List (Str × Str))) (c19 : Int) (k0 : Option Int) : Nat → Int → Option Int
  | 0, _ => none
  | n + 1, s20 => z21L0T N x0 x1 c18 c19 k0 (z21L0 N x0 x1 c18 c19 k0 n) s20
def config_CheckConditions (N : Nat) (x0 : List (Str × List Str)) (x1 : List (Str × List (Str × Str) × List (Str × Str))) : Option Int :=
  bnd (config_CheckSettings N x0) fun t11 =>
  br (t11 != (0 : Int))
    (some t11)
    (br (decide ((x1.length : Int) > (100 : Int)))
      (some (2 : Int))
      (z21L0 N x0 x1 x1 (x1.length : Int) (some (0 : Int)) N (0 : Int)))
abbrev z21sg (f : SV [.v (.sl (.pr .str (.sl .str))), .v (.sl (.pr .str (.pr (.sl (.pr .str .str)) (.sl (.pr .str .str)))))] → BV [] → Option (Int)) : AF := { ps := [.v (.sl (.pr .str (.sl .str))), .v (.sl (.pr .str (.pr (.sl (.pr .str .str)) (.sl (.pr .str .str)))))], bs := [], rs := [.v (.int .i64)], cs := [], R := Int, out := fun z => ((z, ()), ()), f := f }
abbrev z21pk : SV [.v (.int .i64)] → BV [] → Int := fun x _ => x.1
def z21fn (N : Nat) : FuncId → Option Tmp → Option AF := fun f _ =>
  match f with
    | 42 => some (z25sg fun x _ => config_CheckSettings N x.1)
    | 44 => some (z49sg fun x _ => config_checkSet N x.1 x.2.1 x.2.2.1)
    | 117 => some (z0sg fun x _ => strings_ContainsFunc_config_CheckConditions_1 N x.1 x.2.1)
    | 119 => some (z37sg fun x _ => config_CheckPairs N x.1)
    | _ => none
theorem z21fn_ok (N : Nat) : ∀ f q F, z21fn N f q = some F → Sound Tryz.prog GW B0G f F := by
  intro f q F h
  unfold z21fn at h
  split at h
  · cases h; exact z25sound N
  · cases h; exact z49sound N
  · cases h; exact z0sound N
  · cases h; exact z37sound N
  · cases h
def z21h : Nat → Hint := fun i =>
  match i with
  | 0 => ⟨[], [0, 1, 18, 19, 20], [], [], [], []⟩
  | _ => ⟨[], [], [], [], [], []⟩
abbrev z21E (N : Nat) : Env := mkE z21h (z21fn N) (fun _ => false) (fun _ => false)
abbrev z21L0_fs : List (Nat × Sl) := [(0, .v (.sl (.pr .str (.sl .str)))), (1, .v (.sl (.pr .str (.pr (.sl (.pr .str .str)) (.sl (.pr .str .str)))))), (18, .v (.sl (.pr .str (.pr (.sl (.pr .str .str)) (.sl (.pr .str .str)))))), (19, .v (.int .i64)), (20, .v (.int .i64))]
abbrev z21L0_bs : List (Nat × Sb) := []
def z21L0_hd (x0 : List (Str × List Str)) (x1 : List (Str × List (Str × Str) × List (Str × Str))) (c18 : List (Str × List (Str × Str) × List (Str × Str))) (c19 : Int) (s20 : Int) : St := ⟨82, [(0, .v (.sl (.pr .str (.sl .str))) x0), (1, .v (.sl (.pr .str (.pr (.sl (.pr .str .str)) (.sl (.pr .str .str))))) x1), (18, .v (.sl (.pr .str (.pr (.sl (.pr .str .str)) (.sl (.pr .str .str))))) c18), (19, .v (.int .i64) c19), (20, .v (.int .i64) s20)], []⟩
def z21L0_tl0 (_x0 : List (Str × List Str)) (_x1 : List (Str × List (Str × Str) × List (Str × Str))) (_c18 : List (Str × List (Str × Str) × List (Str × Str))) (_c19 : Int) : St := ⟨82, [], []⟩
def z21L0_G (N : Nat) (x0 : List (Str × List Str)) (x1 : List (Str × List (Str × Str) × List (Str × Str))) (c18 : List (Str × List (Str × Str) × List (Str × Str))) (c19 : Int) (s20 : Int) (k : Ex → St → Option Int) : Option Int :=
  z21L0 N x0 x1 c18 c19 (k (.exit 0) (z21L0_tl0 x0 x1 c18 c19)) N s20
abbrev z21L0_F (N : Nat) : FV z21L0_fs → HV z21L0_bs → (Ex → St → Option Int) → Option Int := fun x _ k => z21L0_G N x.1 x.2.1 x.2.2.1 x.2.2.2.1 x.2.2.2.2.1 k
noncomputable def z21LP (N : Nat) : Nat → Code → St → (Ex → St → Option Int) → Option Int := fun i c =>
  match i with
  | 0 => (LPc 82 z21L0_fs z21L0_bs (z21L0_F N) (fun st k => iter (z21h 0) (exec (z21E N) N c 0) N st k))
  | i => fun st k => iter (z21h i) (exec (z21E N) N c i) N st k
theorem z21L0_step (N : Nat) (x0 : List (Str × List Str)) (x1 : List (Str × List (Str × Str) × List (Str × Str))) (c18 : List (Str × List (Str × Str) × List (Str × Str))) (c19 : Int) (KX : Nat → St → Option Int) (I : St → Option Int) (s20 : Int) :
    execL (z21LP N) (z21E N) (cAt (bodyOf Tryz.f64) [true, true, true, false, true, false, false]) 0 (z21L0_hd x0 x1 c18 c19 s20) (roundK (z21h 0) I KX (resD (z21E N) Tryz.f64 (z21sg fun x _ => config_CheckConditions N x.1 x.2.1) z21pk)) = z21L0T N x0 x1 c18 c19 (KX 0 (z21L0_tl0 x0 x1 c18 c19)) (fun s20 => I (z21L0_hd x0 x1 c18 c19 s20)) s20 := by kernel_rfl
theorem z21L0_ok (N : Nat) : ∀ x y k, (∀ st, k .ret st = (resD (z21E N) Tryz.f64 (z21sg fun x _ => config_CheckConditions N x.1 x.2.1) z21pk) st) → iter (z21h 0) (exec (z21E N) N (cAt (bodyOf Tryz.f64) [true, true, true, false, true, false, false]) 0) N ⟨82, unF z21L0_fs x, unH z21L0_bs y⟩ k = z21L0_F N x y k := fun x _ k hk =>
  iter_link (S := (Int) × Unit) (z21h 0) _ (execL (z21LP N) (z21E N) (cAt (bodyOf Tryz.f64) [true, true, true, false, true, false, false]) 0) (resD (z21E N) Tryz.f64 (z21sg fun x _ => config_CheckConditions N x.1 x.2.1) z21pk) (fun st k hk => execL_eq _ _ N _ (cAt (bodyOf Tryz.f64) [true, true, true, false, true, false, false]) 0 (show LoopsOk (z21LP N) (z21E N) N (resD (z21E N) Tryz.f64 (z21sg fun x _ => config_CheckConditions N x.1 x.2.1) z21pk) [] from trivial) st k hk) (fun s => z21L0_hd x.1 x.2.1 x.2.2.1 x.2.2.2.1 s.1) k hk
    (fun self s => z21L0T N x.1 x.2.1 x.2.2.1 x.2.2.2.1 (k (.exit 0) (z21L0_tl0 x.1 x.2.1 x.2.2.1 x.2.2.2.1)) (fun s20 => self (s20, ())) s.1) (fun n s => z21L0 N x.1 x.2.1 x.2.2.1 x.2.2.2.1 (k (.exit 0) (z21L0_tl0 x.1 x.2.1 x.2.2.1 x.2.2.2.1)) n s.1) (fun _ => rfl) (fun _ _ => rfl)
    (fun I s => z21L0_step N x.1 x.2.1 x.2.2.1 x.2.2.2.1 (fun j => k (.exit j)) I s.1) N (x.2.2.2.2.1, ())
theorem z21lp0 (N : Nat) : ∀ st k, (∀ st, k .ret st = (resD (z21E N) Tryz.f64 (z21sg fun x _ => config_CheckConditions N x.1 x.2.1) z21pk) st) → z21LP N 0 (cAt (bodyOf Tryz.f64) [true, true, true, false, true, false, false]) st k = iter (Env.hint (z21E N) 0) (exec (z21E N) N (cAt (bodyOf Tryz.f64) [true, true, true, false, true, false, false]) 0) N st k := fun st k hk => LPc_eq 82 z21L0_fs z21L0_bs _ _ (resD (z21E N) Tryz.f64 (z21sg fun x _ => config_CheckConditions N x.1 x.2.1) z21pk) (z21L0_ok N) _ st k hk (rfl)
theorem z21core (N : Nat) (x : SV [.v (.sl (.pr .str (.sl .str))), .v (.sl (.pr .str (.pr (.sl (.pr .str .str)) (.sl (.pr .str .str)))))]) (y : BV []) : runL (z21E N) Tryz.f64 (z21sg fun x _ => config_CheckConditions N x.1 x.2.1) z21pk (z21LP N) x y = config_CheckConditions N x.1 x.2.1 := by kernel_rfl
theorem z21sound (N : Nat) : Sound Tryz.prog GW B0G 64 (z21sg fun x _ => config_CheckConditions N x.1 x.2.1) :=
  runD_sound (mkE_ok z21h (z21fn N) _ _ (z21fn_ok N)) Tryz.func64 rfl Tryz.call64 (z21sg fun x _ => config_CheckConditions N x.1 x.2.1) z21pk (fun _ _ => rfl) N (fun x y _ h => ((runL_eq (z21E N) N Tryz.f64 (z21sg fun x _ => config_CheckConditions N x.1 x.2.1) z21pk (z21LP N) (show LoopsOk (z21LP N) (z21E N) N (resD (z21E N) Tryz.f64 (z21sg fun x _ => config_CheckConditions N x.1 x.2.1) z21pk) [(0, (cAt (bodyOf Tryz.f64) [true, true, true, false, true, false, false]))] from ⟨z21lp0 N, trivial⟩) x y).trans (z21core N x y)).trans h)
def config_CheckPlatforms_1 (_N : Nat) (x0 : Str × List (Str × Str)) (x1 : Str × List (Str × Str)) : Option Bool :=
  some (x0.1 == x1.1)
abbrev z20sg (f : SV [.v (.pr .str (.sl (.pr .str .str))), .v (.ptr (.pr .str (.sl (.pr .str .str))))] → BV [] → Option (Bool)) : AF := { ps := [.v (.pr .str (.sl (.pr .str .str))), .v (.ptr (.pr .str (.sl (.pr .str .str))))], bs := [], rs := [.v .bool], cs := [], R := Bool, out := fun z => ((z, ()), ()), f := f }
abbrev z20pk : SV [.v .bool] → BV [] → Bool := fun x _ => x.1
def z20fn (_N : Nat) : FuncId → Option Tmp → Option AF := fun f _ =>
  match f with
    | _ => none
theorem z20fn_ok (N : Nat) : ∀ f q F, z20fn N f q = some F → Sound Tryz.prog GW B0G f F := by
  intro f q F h
  unfold z20fn at h
  split at h
  · cases h
def z20h : Nat → Hint := fun i =>
  match i with
  | _ => ⟨[], [], [], [], [], []⟩
abbrev z20E (N : Nat) : Env := mkE z20h (z20fn N) (fun _ => false) (fun _ => false)
noncomputable def z20LP (N : Nat) : Nat → Code → St → (Ex → St → Option Bool) → Option Bool := fun i c =>
  match i with
  | i => fun st k => iter (z20h i) (exec (z20E N) N c i) N st k
theorem z20core (N : Nat) (x : SV [.v (.pr .str (.sl (.pr .str .str))), .v (.ptr (.pr .str (.sl (.pr .str .str))))]) (y : BV []) : runL (z20E N) Tryz.f129 (z20sg fun x _ => config_CheckPlatforms_1 N x.1 x.2.1) z20pk (z20LP N) x y = config_CheckPlatforms_1 N x.1 x.2.1 := by kernel_rfl
theorem z20sound (N : Nat) : Sound Tryz.prog GW B0G 129 (z20sg fun x _ => config_CheckPlatforms_1 N x.1 x.2.1) :=
  runD_sound (mkE_ok z20h (z20fn N) _ _ (z20fn_ok N)) Tryz.func129 rfl Tryz.call129 (z20sg fun x _ => config_CheckPlatforms_1 N x.1 x.2.1) z20pk (fun _ _ => rfl) N (fun x y _ h => ((runL_eq (z20E N) N Tryz.f129 (z20sg fun x _ => config_CheckPlatforms_1 N x.1 x.2.1) z20pk (z20LP N) (show LoopsOk (z20LP N) (z20E N) N (resD (z20E N) Tryz.f129 (z20sg fun x _ => config_CheckPlatforms_1 N x.1 x.2.1) z20pk) [] from trivial) x y).trans (z20core N x y)).trans h)
end
end Go.Proofs.YtbekhaioddmliaaGreatDoor

