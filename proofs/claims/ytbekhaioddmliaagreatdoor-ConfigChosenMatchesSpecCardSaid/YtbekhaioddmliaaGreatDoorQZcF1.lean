/- What functions of the program compute, as plain functions (printed). -/
import Derived.Test.YtbekhaioddmliaaGreatDoorQZcT
namespace Go.Proofs.YtbekhaioddmliaaGreatDoor
open Go Go.RowKit
set_option maxRecDepth 100000
set_option linter.unusedVariables false
noncomputable section
def config_IsWord (_N : Nat) (x0 : Str) : Option Bool :=
  br (decide ((x0.length : Int) < (1 : Int)))
    (some false)
    (br (decide ((x0.length : Int) > (40 : Int)))
      (some false)
      (bnd (geti x0 (0 : Int)) fun t13 =>
      br (decide (t13 < (97 : UInt8)))
        (some false)
        (bnd (geti x0 (0 : Int)) fun t18 =>
        br (decide (t18 > (122 : UInt8)))
          (some false)
          (bnd (strings_Trim x0 ([97, 98, 99, 100, 101, 102, 103, 104, 105, 106, 107, 108, 109, 110, 111, 112, 113, 114, 115, 116, 117, 118, 119, 120, 121, 122, 48, 49, 50, 51, 52, 53, 54, 55, 56, 57, 95, 45] : Str)) fun t22 =>
          some (t22 == ([] : Str))))))
abbrev z62sg (f : SV [.v .str] → BV [] → Option (Bool)) : AF := { ps := [.v .str], bs := [], rs := [.v .bool], cs := [], R := Bool, out := fun z => ((z, ()), ()), f := f }
abbrev z62pk : SV [.v .bool] → BV [] → Bool := fun x _ => x.1
def z62fn (_N : Nat) : FuncId → Option Tmp → Option AF := fun f _ =>
  match f with
    | 102 => some (z74sg fun x _ => strings_Trim x.1 x.2.1)
    | _ => none
theorem z62fn_ok (N : Nat) : ∀ f q F, z62fn N f q = some F → Sound Tryz.prog GW B0G f F := by
  intro f q F h
  unfold z62fn at h
  split at h
  · cases h; exact z74sound
  · cases h
def z62h : Nat → Hint := fun i =>
  match i with
  | _ => ⟨[], [], [], [], [], []⟩
abbrev z62E (N : Nat) : Env := mkE z62h (z62fn N) (fun _ => false) (fun _ => false)
noncomputable def z62LP (N : Nat) : Nat → Code → St → (Ex → St → Option Bool) → Option Bool := fun i c =>
  match i with
  | i => fun st k => iter (z62h i) (exec (z62E N) N c i) N st k
theorem z62core (N : Nat) (x : SV [.v .str]) (y : BV []) : runL (z62E N) Tryz.f43 (z62sg fun x _ => config_IsWord N x.1) z62pk (z62LP N) x y = config_IsWord N x.1 := by kernel_rfl
theorem z62sound (N : Nat) : Sound Tryz.prog GW B0G 43 (z62sg fun x _ => config_IsWord N x.1) :=
  runD_sound (mkE_ok z62h (z62fn N) _ _ (z62fn_ok N)) Tryz.func43 rfl Tryz.call43 (z62sg fun x _ => config_IsWord N x.1) z62pk (fun _ _ => rfl) N (fun x y _ h => ((runL_eq (z62E N) N Tryz.f43 (z62sg fun x _ => config_IsWord N x.1) z62pk (z62LP N) (show LoopsOk (z62LP N) (z62E N) N (resD (z62E N) Tryz.f43 (z62sg fun x _ => config_IsWord N x.1) z62pk) [] from trivial) x y).trans (z62core N x y)).trans h)
def z15L0T (_N : Nat) (x0 : List Str) (x1 : Str) (c7 : Int) (k0 : Option Int) (self : Int → Option Int) (s8 : Int) : Option Int :=
  br (decide (s8 < c7))
    (bnd (geti x0 s8) fun t14 =>
    br (x1 == t14)
      (some s8)
      (self (IntKind.i64.wrap (s8 + (1 : Int)))))
    (k0)
def z15L0 (N : Nat) (x0 : List Str) (x1 : Str) (c7 : Int) (k0 : Option Int) : Nat → Int → Option Int
  | 0, _ => none
  | n + 1, s8 => z15L0T N x0 x1 c7 k0 (z15L0 N x0 x1 c7 k0 n) s8
def slices_Index_string_string (N : Nat) (x0 : List Str) (x1 : Str) : Option Int :=
  z15L0 N x0 x1 (x0.length : Int) (some (-1 : Int)) N (0 : Int)
abbrev z15sg (f : SV [.v (.sl .str), .v .str] → BV [] → Option (Int)) : AF := { ps := [.v (.sl .str), .v .str], bs := [], rs := [.v (.int .i64)], cs := [], R := Int, out := fun z => ((z, ()), ()), f := f }
abbrev z15pk : SV [.v (.int .i64)] → BV [] → Int := fun x _ => x.1
def z15fn (_N : Nat) : FuncId → Option Tmp → Option AF := fun f _ =>
  match f with
    | _ => none
theorem z15fn_ok (N : Nat) : ∀ f q F, z15fn N f q = some F → Sound Tryz.prog GW B0G f F := by
  intro f q F h
  unfold z15fn at h
  split at h
  · cases h
def z15h : Nat → Hint := fun i =>
  match i with
  | 0 => ⟨[], [0, 1, 7, 8], [], [], [], []⟩
  | _ => ⟨[], [], [], [], [], []⟩
abbrev z15E (N : Nat) : Env := mkE z15h (z15fn N) (fun _ => false) (fun _ => false)
abbrev z15L0_fs : List (Nat × Sl) := [(0, .v (.sl .str)), (1, .v .str), (7, .v (.int .i64)), (8, .v (.int .i64))]
abbrev z15L0_bs : List (Nat × Sb) := []
def z15L0_hd (x0 : List Str) (x1 : Str) (c7 : Int) (s8 : Int) : St := ⟨19, [(0, .v (.sl .str) x0), (1, .v .str x1), (7, .v (.int .i64) c7), (8, .v (.int .i64) s8)], []⟩
def z15L0_tl0 (_x0 : List Str) (_x1 : Str) (_c7 : Int) : St := ⟨19, [], []⟩
def z15L0_G (N : Nat) (x0 : List Str) (x1 : Str) (c7 : Int) (s8 : Int) (k : Ex → St → Option Int) : Option Int :=
  z15L0 N x0 x1 c7 (k (.exit 0) (z15L0_tl0 x0 x1 c7)) N s8
abbrev z15L0_F (N : Nat) : FV z15L0_fs → HV z15L0_bs → (Ex → St → Option Int) → Option Int := fun x _ k => z15L0_G N x.1 x.2.1 x.2.2.1 x.2.2.2.1 k
noncomputable def z15LP (N : Nat) : Nat → Code → St → (Ex → St → Option Int) → Option Int := fun i c =>
  match i with
  | 0 => (LPc 19 z15L0_fs z15L0_bs (z15L0_F N) (fun st k => iter (z15h 0) (exec (z15E N) N c 0) N st k))
  | i => fun st k => iter (z15h i) (exec (z15E N) N c i) N st k
theorem z15L0_step (N : Nat) (x0 : List Str) (x1 : Str) (c7 : Int) (KX : Nat → St → Option Int) (I : St → Option Int) (s8 : Int) :
    execL (z15LP N) (z15E N) (cAt (bodyOf Tryz.f105) [true, false, true, false, false]) 0 (z15L0_hd x0 x1 c7 s8) (roundK (z15h 0) I KX (resD (z15E N) Tryz.f105 (z15sg fun x _ => slices_Index_string_string N x.1 x.2.1) z15pk)) = z15L0T N x0 x1 c7 (KX 0 (z15L0_tl0 x0 x1 c7)) (fun s8 => I (z15L0_hd x0 x1 c7 s8)) s8 := by kernel_rfl
theorem z15L0_ok (N : Nat) : ∀ x y k, (∀ st, k .ret st = (resD (z15E N) Tryz.f105 (z15sg fun x _ => slices_Index_string_string N x.1 x.2.1) z15pk) st) → iter (z15h 0) (exec (z15E N) N (cAt (bodyOf Tryz.f105) [true, false, true, false, false]) 0) N ⟨19, unF z15L0_fs x, unH z15L0_bs y⟩ k = z15L0_F N x y k := fun x _ k hk =>
  iter_link (S := (Int) × Unit) (z15h 0) _ (execL (z15LP N) (z15E N) (cAt (bodyOf Tryz.f105) [true, false, true, false, false]) 0) (resD (z15E N) Tryz.f105 (z15sg fun x _ => slices_Index_string_string N x.1 x.2.1) z15pk) (fun st k hk => execL_eq _ _ N _ (cAt (bodyOf Tryz.f105) [true, false, true, false, false]) 0 (show LoopsOk (z15LP N) (z15E N) N (resD (z15E N) Tryz.f105 (z15sg fun x _ => slices_Index_string_string N x.1 x.2.1) z15pk) [] from trivial) st k hk) (fun s => z15L0_hd x.1 x.2.1 x.2.2.1 s.1) k hk
    (fun self s => z15L0T N x.1 x.2.1 x.2.2.1 (k (.exit 0) (z15L0_tl0 x.1 x.2.1 x.2.2.1)) (fun s8 => self (s8, ())) s.1) (fun n s => z15L0 N x.1 x.2.1 x.2.2.1 (k (.exit 0) (z15L0_tl0 x.1 x.2.1 x.2.2.1)) n s.1) (fun _ => rfl) (fun _ _ => rfl)
    (fun I s => z15L0_step N x.1 x.2.1 x.2.2.1 (fun j => k (.exit j)) I s.1) N (x.2.2.2.1, ())
theorem z15lp0 (N : Nat) : ∀ st k, (∀ st, k .ret st = (resD (z15E N) Tryz.f105 (z15sg fun x _ => slices_Index_string_string N x.1 x.2.1) z15pk) st) → z15LP N 0 (cAt (bodyOf Tryz.f105) [true, false, true, false, false]) st k = iter (Env.hint (z15E N) 0) (exec (z15E N) N (cAt (bodyOf Tryz.f105) [true, false, true, false, false]) 0) N st k := fun st k hk => LPc_eq 19 z15L0_fs z15L0_bs _ _ (resD (z15E N) Tryz.f105 (z15sg fun x _ => slices_Index_string_string N x.1 x.2.1) z15pk) (z15L0_ok N) _ st k hk (rfl)
theorem z15core (N : Nat) (x : SV [.v (.sl .str), .v .str]) (y : BV []) : runL (z15E N) Tryz.f105 (z15sg fun x _ => slices_Index_string_string N x.1 x.2.1) z15pk (z15LP N) x y = slices_Index_string_string N x.1 x.2.1 := by kernel_rfl
theorem z15sound (N : Nat) : Sound Tryz.prog GW B0G 105 (z15sg fun x _ => slices_Index_string_string N x.1 x.2.1) :=
  runD_sound (mkE_ok z15h (z15fn N) _ _ (z15fn_ok N)) Tryz.func105 rfl Tryz.call105 (z15sg fun x _ => slices_Index_string_string N x.1 x.2.1) z15pk (fun _ _ => rfl) N (fun x y _ h => ((runL_eq (z15E N) N Tryz.f105 (z15sg fun x _ => slices_Index_string_string N x.1 x.2.1) z15pk (z15LP N) (show LoopsOk (z15LP N) (z15E N) N (resD (z15E N) Tryz.f105 (z15sg fun x _ => slices_Index_string_string N x.1 x.2.1) z15pk) [(0, (cAt (bodyOf Tryz.f105) [true, false, true, false, false]))] from ⟨z15lp0 N, trivial⟩) x y).trans (z15core N x y)).trans h)
def slices_Contains_string_string (N : Nat) (x0 : List Str) (x1 : Str) : Option Bool :=
  bnd (slices_Index_string_string N x0 x1) fun t7 =>
  some (decide (t7 ≥ (0 : Int)))
abbrev z7sg (f : SV [.v (.sl .str), .v .str] → BV [] → Option (Bool)) : AF := { ps := [.v (.sl .str), .v .str], bs := [], rs := [.v .bool], cs := [], R := Bool, out := fun z => ((z, ()), ()), f := f }
abbrev z7pk : SV [.v .bool] → BV [] → Bool := fun x _ => x.1
def z7fn (N : Nat) : FuncId → Option Tmp → Option AF := fun f _ =>
  match f with
    | 105 => some (z15sg fun x _ => slices_Index_string_string N x.1 x.2.1)
    | _ => none
theorem z7fn_ok (N : Nat) : ∀ f q F, z7fn N f q = some F → Sound Tryz.prog GW B0G f F := by
  intro f q F h
  unfold z7fn at h
  split at h
  · cases h; exact z15sound N
  · cases h
def z7h : Nat → Hint := fun i =>
  match i with
  | _ => ⟨[], [], [], [], [], []⟩
abbrev z7E (N : Nat) : Env := mkE z7h (z7fn N) (fun _ => false) (fun _ => false)
noncomputable def z7LP (N : Nat) : Nat → Code → St → (Ex → St → Option Bool) → Option Bool := fun i c =>
  match i with
  | i => fun st k => iter (z7h i) (exec (z7E N) N c i) N st k
theorem z7core (N : Nat) (x : SV [.v (.sl .str), .v .str]) (y : BV []) : runL (z7E N) Tryz.f56 (z7sg fun x _ => slices_Contains_string_string N x.1 x.2.1) z7pk (z7LP N) x y = slices_Contains_string_string N x.1 x.2.1 := by kernel_rfl
theorem z7sound (N : Nat) : Sound Tryz.prog GW B0G 56 (z7sg fun x _ => slices_Contains_string_string N x.1 x.2.1) :=
  runD_sound (mkE_ok z7h (z7fn N) _ _ (z7fn_ok N)) Tryz.func56 rfl Tryz.call56 (z7sg fun x _ => slices_Contains_string_string N x.1 x.2.1) z7pk (fun _ _ => rfl) N (fun x y _ h => ((runL_eq (z7E N) N Tryz.f56 (z7sg fun x _ => slices_Contains_string_string N x.1 x.2.1) z7pk (z7LP N) (show LoopsOk (z7LP N) (z7E N) N (resD (z7E N) Tryz.f56 (z7sg fun x _ => slices_Contains_string_string N x.1 x.2.1) z7pk) [] from trivial) x y).trans (z7core N x y)).trans h)
def z25L1T (N : Nat) (c33 : List Str) (c34 : Int) (c1004_1 : List Str) (k3 : Option Int) (self : Int → Option Int) (s35 : Int) : Option Int :=
  br (decide (s35 < c34))
    (bnd (geti c33 s35) fun t38 =>
    bnd (config_IsWord N t38) fun t41 =>
    br (!t41)
      (some (5 : Int))
      (bnd (slc c1004_1 (0 : Int) s35) fun t46 =>
      bnd (slices_Contains_string_string N t46 t38) fun t48 =>
      br (t48)
        (some (7 : Int))
        (self (IntKind.i64.wrap (s35 + (1 : Int))))))
    (k3)
def z25L1 (N : Nat) (c33 : List Str) (c34 : Int) (c1004_1 : List Str) (k3 : Option Int) : Nat → Int → Option Int
  | 0, _ => none
  | n + 1, s35 => z25L1T N c33 c34 c1004_1 k3 (z25L1 N c33 c34 c1004_1 k3 n) s35
def z25L0T (N : Nat) (x0 : List (Str × List Str)) (c10 : List (Str × List Str)) (c11 : Int) (k0 : Option Int) (self : Int → Option Int) (s12 : Int) : Option Int :=
  br (decide (s12 < c11))
    (bnd (geti c10 s12) fun t15 =>
    bnd (config_IsWord N t15.1) fun t20 =>
    br (!t20)
      (some (5 : Int))
      (br ((t15.2.length : Int) == (0 : Int))
        (some (9 : Int))
        (br (decide ((t15.2.length : Int) > (20 : Int)))
          (some (2 : Int))
          (z25L1 N t15.2 (t15.2.length : Int) t15.2 (br (decide (s12 > (0 : Int)))
                (bnd (geti x0 (IntKind.i64.wrap (s12 - (1 : Int)))) fun t58 =>
                br (Op.bytesLess t15.1 t58.1 || t15.1 == t58.1)
                  (some (8 : Int))
                  (self (IntKind.i64.wrap (s12 + (1 : Int)))))
                (self (IntKind.i64.wrap (s12 + (1 : Int))))) N (0 : Int)))))
    (k0)
def z25L0 (N : Nat) (x0 : List (Str × List Str)) (c10 : List (Str × List Str)) (c11 : Int) (k0 : Option Int) : Nat → Int → Option Int
  | 0, _ => none
  | n + 1, s12 => z25L0T N x0 c10 c11 k0 (z25L0 N x0 c10 c11 k0 n) s12
def config_CheckSettings (N : Nat) (x0 : List (Str × List Str)) : Option Int :=
  br (decide ((x0.length : Int) > (30 : Int)))
    (some (2 : Int))
    (z25L0 N x0 x0 (x0.length : Int) (some (0 : Int)) N (0 : Int))
abbrev z25sg (f : SV [.v (.sl (.pr .str (.sl .str)))] → BV [] → Option (Int)) : AF := { ps := [.v (.sl (.pr .str (.sl .str)))], bs := [], rs := [.v (.int .i64)], cs := [], R := Int, out := fun z => ((z, ()), ()), f := f }
abbrev z25pk : SV [.v (.int .i64)] → BV [] → Int := fun x _ => x.1
def z25fn (N : Nat) : FuncId → Option Tmp → Option AF := fun f _ =>
  match f with
    | 43 => some (z62sg fun x _ => config_IsWord N x.1)
    | 56 => some (z7sg fun x _ => slices_Contains_string_string N x.1 x.2.1)
    | _ => none
theorem z25fn_ok (N : Nat) : ∀ f q F, z25fn N f q = some F → Sound Tryz.prog GW B0G f F := by
  intro f q F h
  unfold z25fn at h
  split at h
  · cases h; exact z62sound N
  · cases h; exact z7sound N
  · cases h
def z25h : Nat → Hint := fun i =>
  match i with
  | 0 => ⟨[], [0, 10, 11, 12], [], [], [], []⟩
  | 3 => ⟨[], [0, 3, 4, 10, 11, 12, 33, 34, 35], [1004], [0, 3, 4, 10, 11, 12], [1004], []⟩
  | _ => ⟨[], [], [], [], [], []⟩
abbrev z25E (N : Nat) : Env := mkE z25h (z25fn N) (fun _ => false) (fun _ => false)
abbrev z25L1_fs : List (Nat × Sl) := [(0, .v (.sl (.pr .str (.sl .str)))), (3, .v (.int .i64)), (4, .box 1004 0), (10, .v (.sl (.pr .str (.sl .str)))), (11, .v (.int .i64)), (12, .v (.int .i64)), (33, .v (.sl .str)), (34, .v (.int .i64)), (35, .v (.int .i64))]
abbrev z25L1_bs : List (Nat × Sb) := [(1004, .cells [.v .str, .v (.sl .str)])]
def z25L1_hd (x0 : List (Str × List Str)) (s12 : Int) (c10 : List (Str × List Str)) (c11 : Int) (c12 : Int) (c33 : List Str) (c34 : Int) (c1004_0 : Str) (c1004_1 : List Str) (s35 : Int) : St := ⟨64, [(0, .v (.sl (.pr .str (.sl .str))) x0), (3, .v (.int .i64) s12), (4, .box 1004 0), (10, .v (.sl (.pr .str (.sl .str))) c10), (11, .v (.int .i64) c11), (12, .v (.int .i64) c12), (33, .v (.sl .str) c33), (34, .v (.int .i64) c34), (35, .v (.int .i64) s35)], [(1004, .cells [.v .str c1004_0, .v (.sl .str) c1004_1])]⟩
def z25L1_tl3 (x0 : List (Str × List Str)) (s12 : Int) (c10 : List (Str × List Str)) (c11 : Int) (c12 : Int) (_c33 : List Str) (_c34 : Int) (c1004_0 : Str) (c1004_1 : List Str) : St := ⟨64, [(0, .v (.sl (.pr .str (.sl .str))) x0), (3, .v (.int .i64) s12), (4, .box 1004 0), (10, .v (.sl (.pr .str (.sl .str))) c10), (11, .v (.int .i64) c11), (12, .v (.int .i64) c12)], [(1004, .cells [.v .str c1004_0, .v (.sl .str) c1004_1])]⟩
def z25L1_G (N : Nat) (x0 : List (Str × List Str)) (s12 : Int) (c10 : List (Str × List Str)) (c11 : Int) (c12 : Int) (c33 : List Str) (c34 : Int) (c1004_0 : Str) (c1004_1 : List Str) (s35 : Int) (k : Ex → St → Option Int) : Option Int :=
  z25L1 N c33 c34 c1004_1 (k (.exit 3) (z25L1_tl3 x0 s12 c10 c11 c12 c33 c34 c1004_0 c1004_1)) N s35
abbrev z25L1_F (N : Nat) : FV z25L1_fs → HV z25L1_bs → (Ex → St → Option Int) → Option Int := fun x y k => z25L1_G N x.1 x.2.1 x.2.2.2.1 x.2.2.2.2.1 x.2.2.2.2.2.1 x.2.2.2.2.2.2.1 x.2.2.2.2.2.2.2.1 y.1.1 y.1.2.1 x.2.2.2.2.2.2.2.2.1 k
abbrev z25L0_fs : List (Nat × Sl) := [(0, .v (.sl (.pr .str (.sl .str)))), (10, .v (.sl (.pr .str (.sl .str)))), (11, .v (.int .i64)), (12, .v (.int .i64))]
abbrev z25L0_bs : List (Nat × Sb) := []
def z25L0_hd (x0 : List (Str × List Str)) (c10 : List (Str × List Str)) (c11 : Int) (s12 : Int) : St := ⟨64, [(0, .v (.sl (.pr .str (.sl .str))) x0), (10, .v (.sl (.pr .str (.sl .str))) c10), (11, .v (.int .i64) c11), (12, .v (.int .i64) s12)], []⟩
def z25L0_tl0 (_x0 : List (Str × List Str)) (_c10 : List (Str × List Str)) (_c11 : Int) : St := ⟨64, [], []⟩
def z25L0_G (N : Nat) (x0 : List (Str × List Str)) (c10 : List (Str × List Str)) (c11 : Int) (s12 : Int) (k : Ex → St → Option Int) : Option Int :=
  z25L0 N x0 c10 c11 (k (.exit 0) (z25L0_tl0 x0 c10 c11)) N s12
abbrev z25L0_F (N : Nat) : FV z25L0_fs → HV z25L0_bs → (Ex → St → Option Int) → Option Int := fun x _ k => z25L0_G N x.1 x.2.1 x.2.2.1 x.2.2.2.1 k
noncomputable def z25LP (N : Nat) : Nat → Code → St → (Ex → St → Option Int) → Option Int := fun i c =>
  match i with
  | 0 => (LPc 64 z25L0_fs z25L0_bs (z25L0_F N) (fun st k => iter (z25h 0) (exec (z25E N) N c 0) N st k))
  | 3 => (LPc 64 z25L1_fs z25L1_bs (z25L1_F N) (fun st k => iter (z25h 3) (exec (z25E N) N c 3) N st k))
  | i => fun st k => iter (z25h i) (exec (z25E N) N c i) N st k
theorem z25L1_step (N : Nat) (x0 : List (Str × List Str)) (s12 : Int) (c10 : List (Str × List Str)) (c11 : Int) (c12 : Int) (c33 : List Str) (c34 : Int) (c1004_0 : Str) (c1004_1 : List Str) (KX : Nat → St → Option Int) (I : St → Option Int) (s35 : Int) :
    execL (z25LP N) (z25E N) (cAt (bodyOf Tryz.f42) [true, true, false, true, false, false, true, true, false, false, true, true, false, true, false, false]) 3 (z25L1_hd x0 s12 c10 c11 c12 c33 c34 c1004_0 c1004_1 s35) (roundK (z25h 3) I KX (resD (z25E N) Tryz.f42 (z25sg fun x _ => config_CheckSettings N x.1) z25pk)) = z25L1T N c33 c34 c1004_1 (KX 3 (z25L1_tl3 x0 s12 c10 c11 c12 c33 c34 c1004_0 c1004_1)) (fun s35 => I (z25L1_hd x0 s12 c10 c11 c12 c33 c34 c1004_0 c1004_1 s35)) s35 := by kernel_rfl
theorem z25L1_ok (N : Nat) : ∀ x y k, (∀ st, k .ret st = (resD (z25E N) Tryz.f42 (z25sg fun x _ => config_CheckSettings N x.1) z25pk) st) → iter (z25h 3) (exec (z25E N) N (cAt (bodyOf Tryz.f42) [true, true, false, true, false, false, true, true, false, false, true, true, false, true, false, false]) 3) N ⟨64, unF z25L1_fs x, unH z25L1_bs y⟩ k = z25L1_F N x y k := fun x y k hk =>
  iter_link (S := (Int) × Unit) (z25h 3) _ (execL (z25LP N) (z25E N) (cAt (bodyOf Tryz.f42) [true, true, false, true, false, false, true, true, false, false, true, true, false, true, false, false]) 3) (resD (z25E N) Tryz.f42 (z25sg fun x _ => config_CheckSettings N x.1) z25pk) (fun st k hk => execL_eq _ _ N _ (cAt (bodyOf Tryz.f42) [true, true, false, true, false, false, true, true, false, false, true, true, false, true, false, false]) 3 (show LoopsOk (z25LP N) (z25E N) N (resD (z25E N) Tryz.f42 (z25sg fun x _ => config_CheckSettings N x.1) z25pk) [] from trivial) st k hk) (fun s => z25L1_hd x.1 x.2.1 x.2.2.2.1 x.2.2.2.2.1 x.2.2.2.2.2.1 x.2.2.2.2.2.2.1 x.2.2.2.2.2.2.2.1 y.1.1 y.1.2.1 s.1) k hk
    (fun self s => z25L1T N x.2.2.2.2.2.2.1 x.2.2.2.2.2.2.2.1 y.1.2.1 (k (.exit 3) (z25L1_tl3 x.1 x.2.1 x.2.2.2.1 x.2.2.2.2.1 x.2.2.2.2.2.1 x.2.2.2.2.2.2.1 x.2.2.2.2.2.2.2.1 y.1.1 y.1.2.1)) (fun s35 => self (s35, ())) s.1) (fun n s => z25L1 N x.2.2.2.2.2.2.1 x.2.2.2.2.2.2.2.1 y.1.2.1 (k (.exit 3) (z25L1_tl3 x.1 x.2.1 x.2.2.2.1 x.2.2.2.2.1 x.2.2.2.2.2.1 x.2.2.2.2.2.2.1 x.2.2.2.2.2.2.2.1 y.1.1 y.1.2.1)) n s.1) (fun _ => rfl) (fun _ _ => rfl)
    (fun I s => z25L1_step N x.1 x.2.1 x.2.2.2.1 x.2.2.2.2.1 x.2.2.2.2.2.1 x.2.2.2.2.2.2.1 x.2.2.2.2.2.2.2.1 y.1.1 y.1.2.1 (fun j => k (.exit j)) I s.1) N (x.2.2.2.2.2.2.2.2.1, ())
theorem z25lp3 (N : Nat) : ∀ st k, (∀ st, k .ret st = (resD (z25E N) Tryz.f42 (z25sg fun x _ => config_CheckSettings N x.1) z25pk) st) → z25LP N 3 (cAt (bodyOf Tryz.f42) [true, true, false, true, false, false, true, true, false, false, true, true, false, true, false, false]) st k = iter (Env.hint (z25E N) 3) (exec (z25E N) N (cAt (bodyOf Tryz.f42) [true, true, false, true, false, false, true, true, false, false, true, true, false, true, false, false]) 3) N st k := fun st k hk => LPc_eq 64 z25L1_fs z25L1_bs _ _ (resD (z25E N) Tryz.f42 (z25sg fun x _ => config_CheckSettings N x.1) z25pk) (z25L1_ok N) _ st k hk (rfl)
theorem z25L0_step (N : Nat) (x0 : List (Str × List Str)) (c10 : List (Str × List Str)) (c11 : Int) (KX : Nat → St → Option Int) (I : St → Option Int) (s12 : Int) :
    execL (z25LP N) (z25E N) (cAt (bodyOf Tryz.f42) [true, true, false, true, false, false]) 0 (z25L0_hd x0 c10 c11 s12) (roundK (z25h 0) I KX (resD (z25E N) Tryz.f42 (z25sg fun x _ => config_CheckSettings N x.1) z25pk)) = z25L0T N x0 c10 c11 (KX 0 (z25L0_tl0 x0 c10 c11)) (fun s12 => I (z25L0_hd x0 c10 c11 s12)) s12 := by kernel_rfl
theorem z25L0_ok (N : Nat) : ∀ x y k, (∀ st, k .ret st = (resD (z25E N) Tryz.f42 (z25sg fun x _ => config_CheckSettings N x.1) z25pk) st) → iter (z25h 0) (exec (z25E N) N (cAt (bodyOf Tryz.f42) [true, true, false, true, false, false]) 0) N ⟨64, unF z25L0_fs x, unH z25L0_bs y⟩ k = z25L0_F N x y k := fun x _ k hk =>
  iter_link (S := (Int) × Unit) (z25h 0) _ (execL (z25LP N) (z25E N) (cAt (bodyOf Tryz.f42) [true, true, false, true, false, false]) 0) (resD (z25E N) Tryz.f42 (z25sg fun x _ => config_CheckSettings N x.1) z25pk) (fun st k hk => execL_eq _ _ N _ (cAt (bodyOf Tryz.f42) [true, true, false, true, false, false]) 0 (show LoopsOk (z25LP N) (z25E N) N (resD (z25E N) Tryz.f42 (z25sg fun x _ => config_CheckSettings N x.1) z25pk) [(3, (cAt (bodyOf Tryz.f42) [true, true, false, true, false, false, true, true, false, false, true, true, false, true, false, false]))] from ⟨z25lp3 N, trivial⟩) st k hk) (fun s => z25L0_hd x.1 x.2.1 x.2.2.1 s.1) k hk
    (fun self s => z25L0T N x.1 x.2.1 x.2.2.1 (k (.exit 0) (z25L0_tl0 x.1 x.2.1 x.2.2.1)) (fun s12 => self (s12, ())) s.1) (fun n s => z25L0 N x.1 x.2.1 x.2.2.1 (k (.exit 0) (z25L0_tl0 x.1 x.2.1 x.2.2.1)) n s.1) (fun _ => rfl) (fun _ _ => rfl)
    (fun I s => z25L0_step N x.1 x.2.1 x.2.2.1 (fun j => k (.exit j)) I s.1) N (x.2.2.2.1, ())
theorem z25lp0 (N : Nat) : ∀ st k, (∀ st, k .ret st = (resD (z25E N) Tryz.f42 (z25sg fun x _ => config_CheckSettings N x.1) z25pk) st) → z25LP N 0 (cAt (bodyOf Tryz.f42) [true, true, false, true, false, false]) st k = iter (Env.hint (z25E N) 0) (exec (z25E N) N (cAt (bodyOf Tryz.f42) [true, true, false, true, false, false]) 0) N st k := fun st k hk => LPc_eq 64 z25L0_fs z25L0_bs _ _ (resD (z25E N) Tryz.f42 (z25sg fun x _ => config_CheckSettings N x.1) z25pk) (z25L0_ok N) _ st k hk (rfl)
theorem z25core (N : Nat) (x : SV [.v (.sl (.pr .str (.sl .str)))]) (y : BV []) : runL (z25E N) Tryz.f42 (z25sg fun x _ => config_CheckSettings N x.1) z25pk (z25LP N) x y = config_CheckSettings N x.1 := by kernel_rfl
theorem z25sound (N : Nat) : Sound Tryz.prog GW B0G 42 (z25sg fun x _ => config_CheckSettings N x.1) :=
  runD_sound (mkE_ok z25h (z25fn N) _ _ (z25fn_ok N)) Tryz.func42 rfl Tryz.call42 (z25sg fun x _ => config_CheckSettings N x.1) z25pk (fun _ _ => rfl) N (fun x y _ h => ((runL_eq (z25E N) N Tryz.f42 (z25sg fun x _ => config_CheckSettings N x.1) z25pk (z25LP N) (show LoopsOk (z25LP N) (z25E N) N (resD (z25E N) Tryz.f42 (z25sg fun x _ => config_CheckSettings N x.1) z25pk) [(0, (cAt (bodyOf Tryz.f42) [true, true, false, true, false, false])), (3, (cAt (bodyOf Tryz.f42) [true, true, false, true, false, false, true, true, false, false, true, true, false, true, false, false]))] from ⟨z25lp0 N, z25lp3 N, trivial⟩) x y).trans (z25core N x y)).trans h)
def config_find_1 (_N : Nat) (x0 : Str × List Str) (x1 : Str) : Option Bool :=
  some (x0.1 == x1)
abbrev z64sg (f : SV [.v (.pr .str (.sl .str)), .v (.ptr .str)] → BV [] → Option (Bool)) : AF := { ps := [.v (.pr .str (.sl .str)), .v (.ptr .str)], bs := [], rs := [.v .bool], cs := [], R := Bool, out := fun z => ((z, ()), ()), f := f }
abbrev z64pk : SV [.v .bool] → BV [] → Bool := fun x _ => x.1
def z64fn (_N : Nat) : FuncId → Option Tmp → Option AF := fun f _ =>
  match f with
    | _ => none
theorem z64fn_ok (N : Nat) : ∀ f q F, z64fn N f q = some F → Sound Tryz.prog GW B0G f F := by
  intro f q F h
  unfold z64fn at h
  split at h
  · cases h
def z64h : Nat → Hint := fun i =>
  match i with
  | _ => ⟨[], [], [], [], [], []⟩
abbrev z64E (N : Nat) : Env := mkE z64h (z64fn N) (fun _ => false) (fun _ => false)
noncomputable def z64LP (N : Nat) : Nat → Code → St → (Ex → St → Option Bool) → Option Bool := fun i c =>
  match i with
  | i => fun st k => iter (z64h i) (exec (z64E N) N c i) N st k
theorem z64core (N : Nat) (x : SV [.v (.pr .str (.sl .str)), .v (.ptr .str)]) (y : BV []) : runL (z64E N) Tryz.f127 (z64sg fun x _ => config_find_1 N x.1 x.2.1) z64pk (z64LP N) x y = config_find_1 N x.1 x.2.1 := by kernel_rfl
theorem z64sound (N : Nat) : Sound Tryz.prog GW B0G 127 (z64sg fun x _ => config_find_1 N x.1 x.2.1) :=
  runD_sound (mkE_ok z64h (z64fn N) _ _ (z64fn_ok N)) Tryz.func127 rfl Tryz.call127 (z64sg fun x _ => config_find_1 N x.1 x.2.1) z64pk (fun _ _ => rfl) N (fun x y _ h => ((runL_eq (z64E N) N Tryz.f127 (z64sg fun x _ => config_find_1 N x.1 x.2.1) z64pk (z64LP N) (show LoopsOk (z64LP N) (z64E N) N (resD (z64E N) Tryz.f127 (z64sg fun x _ => config_find_1 N x.1 x.2.1) z64pk) [] from trivial) x y).trans (z64core N x y)).trans h)
def z11L0T (N : Nat) (x0 : List (Str × List Str)) (x1 : Str × Unit) (c7 : Int) (k0 : Option Int) (self : Int → Option Int) (s8 : Int) : Option Int :=
  br (decide (s8 < c7))
    (bnd (geti x0 s8) fun t14 =>
    bnd (config_find_1 N t14 x1.1) fun t16 =>
    br (t16)
      (some s8)
      (self (IntKind.i64.wrap (s8 + (1 : Int)))))
    (k0)
def z11L0 (N : Nat) (x0 : List (Str × List Str)) (x1 : Str × Unit) (c7 : Int) (k0 : Option Int) : Nat → Int → Option Int
  | 0, _ => none
  | n + 1, s8 => z11L0T N x0 x1 c7 k0 (z11L0 N x0 x1 c7 k0 n) s8
def slices_IndexFunc_api_Setting (N : Nat) (x0 : List (Str × List Str)) (x1 : Str × Unit) : Option Int :=
  z11L0 N x0 x1 (x0.length : Int) (some (-1 : Int)) N (0 : Int)
abbrev z11sg (f : SV [.v (.sl (.pr .str (.sl .str))), .v (.clo 127 (.pr (.ptr .str) .un))] → BV [] → Option (Int)) : AF := { ps := [.v (.sl (.pr .str (.sl .str))), .v (.clo 127 (.pr (.ptr .str) .un))], bs := [], rs := [.v (.int .i64)], cs := [], R := Int, out := fun z => ((z, ()), ()), f := f }
abbrev z11pk : SV [.v (.int .i64)] → BV [] → Int := fun x _ => x.1
def z11fn (N : Nat) : FuncId → Option Tmp → Option AF := fun f _ =>
  match f with
    | 127 => some (z64sg fun x _ => config_find_1 N x.1 x.2.1)
    | _ => none
theorem z11fn_ok (N : Nat) : ∀ f q F, z11fn N f q = some F → Sound Tryz.prog GW B0G f F := by
  intro f q F h
  unfold z11fn at h
  split at h
  · cases h; exact z64sound N
  · cases h
def z11h : Nat → Hint := fun i =>
  match i with
  | 0 => ⟨[], [0, 1, 7, 8], [], [], [], []⟩
  | _ => ⟨[], [], [], [], [], []⟩
abbrev z11E (N : Nat) : Env := mkE z11h (z11fn N) (fun _ => false) (fun _ => false)
abbrev z11L0_fs : List (Nat × Sl) := [(0, .v (.sl (.pr .str (.sl .str)))), (1, .v (.clo 127 (.pr (.ptr .str) .un))), (7, .v (.int .i64)), (8, .v (.int .i64))]
abbrev z11L0_bs : List (Nat × Sb) := []
def z11L0_hd (x0 : List (Str × List Str)) (x1 : Str × Unit) (c7 : Int) (s8 : Int) : St := ⟨19, [(0, .v (.sl (.pr .str (.sl .str))) x0), (1, .v (.clo 127 (.pr (.ptr .str) .un)) x1), (7, .v (.int .i64) c7), (8, .v (.int .i64) s8)], []⟩
def z11L0_tl0 (_x0 : List (Str × List Str)) (_x1 : Str × Unit) (_c7 : Int) : St := ⟨19, [], []⟩
def z11L0_G (N : Nat) (x0 : List (Str × List Str)) (x1 : Str × Unit) (c7 : Int) (s8 : Int) (k : Ex → St → Option Int) : Option Int :=
  z11L0 N x0 x1 c7 (k (.exit 0) (z11L0_tl0 x0 x1 c7)) N s8
abbrev z11L0_F (N : Nat) : FV z11L0_fs → HV z11L0_bs → (Ex → St → Option Int) → Option Int := fun x _ k => z11L0_G N x.1 x.2.1 x.2.2.1 x.2.2.2.1 k
noncomputable def z11LP (N : Nat) : Nat → Code → St → (Ex → St → Option Int) → Option Int := fun i c =>
  match i with
  | 0 => (LPc 19 z11L0_fs z11L0_bs (z11L0_F N) (fun st k => iter (z11h 0) (exec (z11E N) N c 0) N st k))
  | i => fun st k => iter (z11h i) (exec (z11E N) N c i) N st k
theorem z11L0_step (N : Nat) (x0 : List (Str × List Str)) (x1 : Str × Unit) (c7 : Int) (KX : Nat → St → Option Int) (I : St → Option Int) (s8 : Int) :
    execL (z11LP N) (z11E N) (cAt (bodyOf Tryz.f126) [true, false, true, false, false]) 0 (z11L0_hd x0 x1 c7 s8) (roundK (z11h 0) I KX (resD (z11E N) Tryz.f126 (z11sg fun x _ => slices_IndexFunc_api_Setting N x.1 x.2.1) z11pk)) = z11L0T N x0 x1 c7 (KX 0 (z11L0_tl0 x0 x1 c7)) (fun s8 => I (z11L0_hd x0 x1 c7 s8)) s8 := by kernel_rfl
theorem z11L0_ok (N : Nat) : ∀ x y k, (∀ st, k .ret st = (resD (z11E N) Tryz.f126 (z11sg fun x _ => slices_IndexFunc_api_Setting N x.1 x.2.1) z11pk) st) → iter (z11h 0) (exec (z11E N) N (cAt (bodyOf Tryz.f126) [true, false, true, false, false]) 0) N ⟨19, unF z11L0_fs x, unH z11L0_bs y⟩ k = z11L0_F N x y k := fun x _ k hk =>
  iter_link (S := (Int) × Unit) (z11h 0) _ (execL (z11LP N) (z11E N) (cAt (bodyOf Tryz.f126) [true, false, true, false, false]) 0) (resD (z11E N) Tryz.f126 (z11sg fun x _ => slices_IndexFunc_api_Setting N x.1 x.2.1) z11pk) (fun st k hk => execL_eq _ _ N _ (cAt (bodyOf Tryz.f126) [true, false, true, false, false]) 0 (show LoopsOk (z11LP N) (z11E N) N (resD (z11E N) Tryz.f126 (z11sg fun x _ => slices_IndexFunc_api_Setting N x.1 x.2.1) z11pk) [] from trivial) st k hk) (fun s => z11L0_hd x.1 x.2.1 x.2.2.1 s.1) k hk
    (fun self s => z11L0T N x.1 x.2.1 x.2.2.1 (k (.exit 0) (z11L0_tl0 x.1 x.2.1 x.2.2.1)) (fun s8 => self (s8, ())) s.1) (fun n s => z11L0 N x.1 x.2.1 x.2.2.1 (k (.exit 0) (z11L0_tl0 x.1 x.2.1 x.2.2.1)) n s.1) (fun _ => rfl) (fun _ _ => rfl)
    (fun I s => z11L0_step N x.1 x.2.1 x.2.2.1 (fun j => k (.exit j)) I s.1) N (x.2.2.2.1, ())
theorem z11lp0 (N : Nat) : ∀ st k, (∀ st, k .ret st = (resD (z11E N) Tryz.f126 (z11sg fun x _ => slices_IndexFunc_api_Setting N x.1 x.2.1) z11pk) st) → z11LP N 0 (cAt (bodyOf Tryz.f126) [true, false, true, false, false]) st k = iter (Env.hint (z11E N) 0) (exec (z11E N) N (cAt (bodyOf Tryz.f126) [true, false, true, false, false]) 0) N st k := fun st k hk => LPc_eq 19 z11L0_fs z11L0_bs _ _ (resD (z11E N) Tryz.f126 (z11sg fun x _ => slices_IndexFunc_api_Setting N x.1 x.2.1) z11pk) (z11L0_ok N) _ st k hk (rfl)
theorem z11core (N : Nat) (x : SV [.v (.sl (.pr .str (.sl .str))), .v (.clo 127 (.pr (.ptr .str) .un))]) (y : BV []) : runL (z11E N) Tryz.f126 (z11sg fun x _ => slices_IndexFunc_api_Setting N x.1 x.2.1) z11pk (z11LP N) x y = slices_IndexFunc_api_Setting N x.1 x.2.1 := by kernel_rfl
theorem z11sound (N : Nat) : Sound Tryz.prog GW B0G 126 (z11sg fun x _ => slices_IndexFunc_api_Setting N x.1 x.2.1) :=
  runD_sound (mkE_ok z11h (z11fn N) _ _ (z11fn_ok N)) Tryz.func126 rfl Tryz.call126 (z11sg fun x _ => slices_IndexFunc_api_Setting N x.1 x.2.1) z11pk (fun _ _ => rfl) N (fun x y _ h => ((runL_eq (z11E N) N Tryz.f126 (z11sg fun x _ => slices_IndexFunc_api_Setting N x.1 x.2.1) z11pk (z11LP N) (show LoopsOk (z11LP N) (z11E N) N (resD (z11E N) Tryz.f126 (z11sg fun x _ => slices_IndexFunc_api_Setting N x.1 x.2.1) z11pk) [(0, (cAt (bodyOf Tryz.f126) [true, false, true, false, false]))] from ⟨z11lp0 N, trivial⟩) x y).trans (z11core N x y)).trans h)
def config_find (N : Nat) (x0 : List (Str × List Str)) (x1 : Str) : Option Int :=
  bnd (slices_IndexFunc_api_Setting N x0 (x1, ())) fun t7 =>
  some t7
abbrev z75sg (f : SV [.v (.sl (.pr .str (.sl .str))), .v .str] → BV [] → Option (Int)) : AF := { ps := [.v (.sl (.pr .str (.sl .str))), .v .str], bs := [], rs := [.v (.int .i64)], cs := [], R := Int, out := fun z => ((z, ()), ()), f := f }
abbrev z75pk : SV [.v (.int .i64)] → BV [] → Int := fun x _ => x.1
def z75fn (N : Nat) : FuncId → Option Tmp → Option AF := fun f _ =>
  match f with
    | 126 => some (z11sg fun x _ => slices_IndexFunc_api_Setting N x.1 x.2.1)
    | 127 => some (noneAF [.v (.ptr .str)])
    | _ => none
theorem z75fn_ok (N : Nat) : ∀ f q F, z75fn N f q = some F → Sound Tryz.prog GW B0G f F := by
  intro f q F h
  unfold z75fn at h
  split at h
  · cases h; exact z11sound N
  · cases h; exact noneAF_sound Tryz.call127 _
  · cases h
def z75h : Nat → Hint := fun i =>
  match i with
  | _ => ⟨[], [], [], [], [], []⟩
abbrev z75E (N : Nat) : Env := mkE z75h (z75fn N) (fun _ => false) (fun _ => false)
noncomputable def z75LP (N : Nat) : Nat → Code → St → (Ex → St → Option Int) → Option Int := fun i c =>
  match i with
  | i => fun st k => iter (z75h i) (exec (z75E N) N c i) N st k
theorem z75core (N : Nat) (x : SV [.v (.sl (.pr .str (.sl .str))), .v .str]) (y : BV []) : runL (z75E N) Tryz.f73 (z75sg fun x _ => config_find N x.1 x.2.1) z75pk (z75LP N) x y = config_find N x.1 x.2.1 := by kernel_rfl
theorem z75sound (N : Nat) : Sound Tryz.prog GW B0G 73 (z75sg fun x _ => config_find N x.1 x.2.1) :=
  runD_sound (mkE_ok z75h (z75fn N) _ _ (z75fn_ok N)) Tryz.func73 rfl Tryz.call73 (z75sg fun x _ => config_find N x.1 x.2.1) z75pk (fun _ _ => rfl) N (fun x y _ h => ((runL_eq (z75E N) N Tryz.f73 (z75sg fun x _ => config_find N x.1 x.2.1) z75pk (z75LP N) (show LoopsOk (z75LP N) (z75E N) N (resD (z75E N) Tryz.f73 (z75sg fun x _ => config_find N x.1 x.2.1) z75pk) [] from trivial) x y).trans (z75core N x y)).trans h)
def z49L0T (N : Nat) (x0 : List (Str × List Str)) (x1 : List (Str × Str)) (x2 : Bool) (c10 : List (Str × Str)) (c11 : Int) (k0 : Option Int) (self : Int → Option Int) (s12 : Int) : Option Int :=
  br (decide (s12 < c11))
    (bnd (geti c10 s12) fun t15 =>
    bnd (config_find N x0 t15.1) fun t20 =>
    br (decide (t20 < (0 : Int)))
      (some (5 : Int))
      (bnd (geti x0 t20) fun t27 =>
      bnd (slices_Contains_string_string N t27.2 t15.2) fun t32 =>
      br (!t32)
        (some (1 : Int))
        (br (x2)
          (bnd (geti x0 t20) fun t41 =>
          bnd (geti t41.2 (0 : Int)) fun t44 =>
          br (t15.2 == t44)
            (some (3 : Int))
            (br (decide (s12 > (0 : Int)))
              (bnd (geti x1 (IntKind.i64.wrap (s12 - (1 : Int)))) fun t57 =>
              br (Op.bytesLess t15.1 t57.1 || t15.1 == t57.1)
                (some (8 : Int))
                (self (IntKind.i64.wrap (s12 + (1 : Int)))))
              (self (IntKind.i64.wrap (s12 + (1 : Int))))))
          (br (decide (s12 > (0 : Int)))
            (bnd (geti x1 (IntKind.i64.wrap (s12 - (1 : Int)))) fun t57_1 =>
            br (Op.bytesLess t15.1 t57_1.1 || t15.1 == t57_1.1)
              (some (8 : Int))
              (self (IntKind.i64.wrap (s12 + (1 : Int)))))
            (self (IntKind.i64.wrap (s12 + (1 : Int))))))))
    (k0)
def z49L0 (N : Nat) (x0 : List (Str × List Str)) (x1 : List (Str × Str)) (x2 : Bool) (c10 : List (Str × Str)) (c11 : Int) (k0 : Option Int) : Nat → Int → Option Int
  | 0, _ => none
  | n + 1, s12 => z49L0T N x0 x1 x2 c10 c11 k0 (z49L0 N x0 x1 x2 c10 c11 k0 n) s12
def config_checkSet (N : Nat) (x0 : List (Str × List Str)) (x1 : List (Str × Str)) (x2 : Bool) : Option Int :=
  z49L0 N x0 x1 x2 x1 (x1.length : Int) (some (0 : Int)) N (0 : Int)
abbrev z49sg (f : SV [.v (.sl (.pr .str (.sl .str))), .v (.sl (.pr .str .str)), .v .bool] → BV [] → Option (Int)) : AF := { ps := [.v (.sl (.pr .str (.sl .str))), .v (.sl (.pr .str .str)), .v .bool], bs := [], rs := [.v (.int .i64)], cs := [], R := Int, out := fun z => ((z, ()), ()), f := f }
abbrev z49pk : SV [.v (.int .i64)] → BV [] → Int := fun x _ => x.1
def z49fn (N : Nat) : FuncId → Option Tmp → Option AF := fun f _ =>
  match f with
    | 56 => some (z7sg fun x _ => slices_Contains_string_string N x.1 x.2.1)
    | 73 => some (z75sg fun x _ => config_find N x.1 x.2.1)
    | _ => none
theorem z49fn_ok (N : Nat) : ∀ f q F, z49fn N f q = some F → Sound Tryz.prog GW B0G f F := by
  intro f q F h
  unfold z49fn at h
  split at h
  · cases h; exact z7sound N
  · cases h; exact z75sound N
  · cases h
def z49h : Nat → Hint := fun i =>
  match i with
  | 0 => ⟨[], [0, 1, 2, 10, 11, 12], [], [], [], []⟩
  | _ => ⟨[], [], [], [], [], []⟩
abbrev z49E (N : Nat) : Env := mkE z49h (z49fn N) (fun _ => false) (fun _ => false)
abbrev z49L0_fs : List (Nat × Sl) := [(0, .v (.sl (.pr .str (.sl .str)))), (1, .v (.sl (.pr .str .str))), (2, .v .bool), (10, .v (.sl (.pr .str .str))), (11, .v (.int .i64)), (12, .v (.int .i64))]
abbrev z49L0_bs : List (Nat × Sb) := []
def z49L0_hd (x0 : List (Str × List Str)) (x1 : List (Str × Str)) (x2 : Bool) (c10 : List (Str × Str)) (c11 : Int) (s12 : Int) : St := ⟨63, [(0, .v (.sl (.pr .str (.sl .str))) x0), (1, .v (.sl (.pr .str .str)) x1), (2, .v .bool x2), (10, .v (.sl (.pr .str .str)) c10), (11, .v (.int .i64) c11), (12, .v (.int .i64) s12)], []⟩
def z49L0_tl0 (_x0 : List (Str × List Str)) (_x1 : List (Str × Str)) (_x2 : Bool) (_c10 : List (Str × Str)) (_c11 : Int) : St := ⟨63, [], []⟩
def z49L0_G (N : Nat) (x0 : List (Str × List Str)) (x1 : List (Str × Str)) (x2 : Bool) (c10 : List (Str × Str)) (c11 : Int) (s12 : Int) (k : Ex → St → Option Int) : Option Int :=
  z49L0 N x0 x1 x2 c10 c11 (k (.exit 0) (z49L0_tl0 x0 x1 x2 c10 c11)) N s12
abbrev z49L0_F (N : Nat) : FV z49L0_fs → HV z49L0_bs → (Ex → St → Option Int) → Option Int := fun x _ k => z49L0_G N x.1 x.2.1 x.2.2.1 x.2.2.2.1 x.2.2.2.2.1 x.2.2.2.2.2.1 k
noncomputable def z49LP (N : Nat) : Nat → Code → St → (Ex → St → Option Int) → Option Int := fun i c =>
  match i with
  | 0 => (LPc 63 z49L0_fs z49L0_bs (z49L0_F N) (fun st k => iter (z49h 0) (exec (z49E N) N c 0) N st k))
  | i => fun st k => iter (z49h i) (exec (z49E N) N c i) N st k
theorem z49L0_step (N : Nat) (x0 : List (Str × List Str)) (x1 : List (Str × Str)) (x2 : Bool) (c10 : List (Str × Str)) (c11 : Int) (KX : Nat → St → Option Int) (I : St → Option Int) (s12 : Int) :
    execL (z49LP N) (z49E N) (cAt (bodyOf Tryz.f44) [true, false, true, false, false]) 0 (z49L0_hd x0 x1 x2 c10 c11 s12) (roundK (z49h 0) I KX (resD (z49E N) Tryz.f44 (z49sg fun x _ => config_checkSet N x.1 x.2.1 x.2.2.1) z49pk)) = z49L0T N x0 x1 x2 c10 c11 (KX 0 (z49L0_tl0 x0 x1 x2 c10 c11)) (fun s12 => I (z49L0_hd x0 x1 x2 c10 c11 s12)) s12 := by kernel_rfl
theorem z49L0_ok (N : Nat) : ∀ x y k, (∀ st, k .ret st = (resD (z49E N) Tryz.f44 (z49sg fun x _ => config_checkSet N x.1 x.2.1 x.2.2.1) z49pk) st) → iter (z49h 0) (exec (z49E N) N (cAt (bodyOf Tryz.f44) [true, false, true, false, false]) 0) N ⟨63, unF z49L0_fs x, unH z49L0_bs y⟩ k = z49L0_F N x y k := fun x _ k hk =>
  iter_link (S := (Int) × Unit) (z49h 0) _ (execL (z49LP N) (z49E N) (cAt (bodyOf Tryz.f44) [true, false, true, false, false]) 0) (resD (z49E N) Tryz.f44 (z49sg fun x _ => config_checkSet N x.1 x.2.1 x.2.2.1) z49pk) (fun st k hk => execL_eq _ _ N _ (cAt (bodyOf Tryz.f44) [true, false, true, false, false]) 0 (show LoopsOk (z49LP N) (z49E N) N (resD (z49E N) Tryz.f44 (z49sg fun x _ => config_checkSet N x.1 x.2.1 x.2.2.1) z49pk) [] from trivial) st k hk) (fun s => z49L0_hd x.1 x.2.1 x.2.2.1 x.2.2.2.1 x.2.2.2.2.1 s.1) k hk
    (fun self s => z49L0T N x.1 x.2.1 x.2.2.1 x.2.2.2.1 x.2.2.2.2.1 (k (.exit 0) (z49L0_tl0 x.1 x.2.1 x.2.2.1 x.2.2.2.1 x.2.2.2.2.1)) (fun s12 => self (s12, ())) s.1) (fun n s => z49L0 N x.1 x.2.1 x.2.2.1 x.2.2.2.1 x.2.2.2.2.1 (k (.exit 0) (z49L0_tl0 x.1 x.2.1 x.2.2.1 x.2.2.2.1 x.2.2.2.2.1)) n s.1) (fun _ => rfl) (fun _ _ => rfl)
    (fun I s => z49L0_step N x.1 x.2.1 x.2.2.1 x.2.2.2.1 x.2.2.2.2.1 (fun j => k (.exit j)) I s.1) N (x.2.2.2.2.2.1, ())
theorem z49lp0 (N : Nat) : ∀ st k, (∀ st, k .ret st = (resD (z49E N) Tryz.f44 (z49sg fun x _ => config_checkSet N x.1 x.2.1 x.2.2.1) z49pk) st) → z49LP N 0 (cAt (bodyOf Tryz.f44) [true, false, true, false, false]) st k = iter (Env.hint (z49E N) 0) (exec (z49E N) N (cAt (bodyOf Tryz.f44) [true, false, true, false, false]) 0) N st k := fun st k hk => LPc_eq 63 z49L0_fs z49L0_bs _ _ (resD (z49E N) Tryz.f44 (z49sg fun x _ => config_checkSet N x.1 x.2.1 x.2.2.1) z49pk) (z49L0_ok N) _ st k hk (rfl)
theorem z49core (N : Nat) (x : SV [.v (.sl (.pr .str (.sl .str))), .v (.sl (.pr .str .str)), .v .bool]) (y : BV []) : runL (z49E N) Tryz.f44 (z49sg fun x _ => config_checkSet N x.1 x.2.1 x.2.2.1) z49pk (z49LP N) x y = config_checkSet N x.1 x.2.1 x.2.2.1 := by kernel_rfl
theorem z49sound (N : Nat) : Sound Tryz.prog GW B0G 44 (z49sg fun x _ => config_checkSet N x.1 x.2.1 x.2.2.1) :=
  runD_sound (mkE_ok z49h (z49fn N) _ _ (z49fn_ok N)) Tryz.func44 rfl Tryz.call44 (z49sg fun x _ => config_checkSet N x.1 x.2.1 x.2.2.1) z49pk (fun _ _ => rfl) N (fun x y _ h => ((runL_eq (z49E N) N Tryz.f44 (z49sg fun x _ => config_checkSet N x.1 x.2.1 x.2.2.1) z49pk (z49LP N) (show LoopsOk (z49LP N) (z49E N) N (resD (z49E N) Tryz.f44 (z49sg fun x _ => config_checkSet N x.1 x.2.1 x.2.2.1) z49pk) [(0, (cAt (bodyOf Tryz.f44) [true, false, true, false, false]))] from ⟨z49lp0 N, trivial⟩) x y).trans (z49core N x y)).trans h)
def config_CheckConfig (N : Nat) (x0 : List (Str × List Str)) (x1 : List (Str × Str)) : Option Int :=
  bnd (config_CheckSettings N x0) fun t7 =>
  br (t7 != (0 : Int))
    (some t7)
    (bnd (config_checkSet N x0 x1 true) fun t13 =>
    some t13)
abbrev z33sg (f : SV [.v (.sl (.pr .str (.sl .str))), .v (.sl (.pr .str .str))] → BV [] → Option (Int)) : AF := { ps := [.v (.sl (.pr .str (.sl .str))), .v (.sl (.pr .str .str))], bs := [], rs := [.v (.int .i64)], cs := [], R := Int, out := fun z => ((z, ()), ()), f := f }
abbrev z33pk : SV [.v (.int .i64)] → BV [] → Int := fun x _ => x.1
def z33fn (N : Nat) : FuncId → Option Tmp → Option AF := fun f _ =>
  match f with
    | 42 => some (z25sg fun x _ => config_CheckSettings N x.1)
    | 44 => some (z49sg fun x _ => config_checkSet N x.1 x.2.1 x.2.2.1)
    | _ => none
theorem z33fn_ok (N : Nat) : ∀ f q F, z33fn N f q = some F → Sound Tryz.prog GW B0G f F := by
  intro f q F h
  unfold z33fn at h
  split at h
  · cases h; exact z25sound N
  · cases h; exact z49sound N
  · cases h
def z33h : Nat → Hint := fun i =>
  match i with
  | _ => ⟨[], [], [], [], [], []⟩
abbrev z33E (N : Nat) : Env := mkE z33h (z33fn N) (fun _ => false) (fun _ => false)
noncomputable def z33LP (N : Nat) : Nat → Code → St → (Ex → St → Option Int) → Option Int := fun i c =>
  match i with
  | i => fun st k => iter (z33h i) (exec (z33E N) N c i) N st k
theorem z33core (N : Nat) (x : SV [.v (.sl (.pr .str (.sl .str))), .v (.sl (.pr .str .str))]) (y : BV []) : runL (z33E N) Tryz.f29 (z33sg fun x _ => config_CheckConfig N x.1 x.2.1) z33pk (z33LP N) x y = config_CheckConfig N x.1 x.2.1 := by kernel_rfl
theorem z33sound (N : Nat) : Sound Tryz.prog GW B0G 29 (z33sg fun x _ => config_CheckConfig N x.1 x.2.1) :=
  runD_sound (mkE_ok z33h (z33fn N) _ _ (z33fn_ok N)) Tryz.func29 rfl Tryz.call29 (z33sg fun x _ => config_CheckConfig N x.1 x.2.1) z33pk (fun _ _ => rfl) N (fun x y _ h => ((runL_eq (z33E N) N Tryz.f29 (z33sg fun x _ => config_CheckConfig N x.1 x.2.1) z33pk (z33LP N) (show LoopsOk (z33LP N) (z33E N) N (resD (z33E N) Tryz.f29 (z33sg fun x _ => config_CheckConfig N x.1 x.2.1) z33pk) [] from trivial) x y).trans (z33core N x y)).trans h)
def z66L0T (_N : Nat) (x1 : Str) (x0 : List (Str × Str)) (c9 : Int) (k0 : Option (Str × Bool)) (self : Int → Option (Str × Bool)) (s10 : Int) : Option (Str × Bool) :=
  br (decide (s10 < c9))
    (bnd (geti x0 s10) fun t12 =>
    br (t12.1 == x1)
      (some (t12.2, true))
      (self (IntKind.i64.wrap (s10 + (1 : Int)))))
    (k0)
def z66L0 (N : Nat) (x1 : Str) (x0 : List (Str × Str)) (c9 : Int) (k0 : Option (Str × Bool)) : Nat → Int → Option (Str × Bool)
  | 0, _ => none
  | n + 1, s10 => z66L0T N x1 x0 c9 k0 (z66L0 N x1 x0 c9 k0 n) s10
def config_pairOf (N : Nat) (x0 : List (Str × Str)) (x1 : Str) : Option (Str × Bool) :=
  z66L0 N x1 x0 (x0.length : Int) (some (([] : Str), false)) N (0 : Int)
abbrev z66sg (f : SV [.v (.sl (.pr .str .str)), .v .str] → BV [] → Option (Str × Bool)) : AF := { ps := [.v (.sl (.pr .str .str)), .v .str], bs := [], rs := [.v .str, .v .bool], cs := [], R := Str × Bool, out := fun z => ((z.1, z.2, ()), ()), f := f }
abbrev z66pk : SV [.v .str, .v .bool] → BV [] → (Str × Bool) := fun x _ => (x.1, x.2.1)
def z66fn (_N : Nat) : FuncId → Option Tmp → Option AF := fun f _ =>
  match f with
    | _ => none
theorem z66fn_ok (N : Nat) : ∀ f q F, z66fn N f q = some F → Sound Tryz.prog GW B0G f F := by
  intro f q F h
  unfold z66fn at h
  split at h
  · cases h
def z66h : Nat → Hint := fun i =>
  match i with
  | 0 => ⟨[], [1, 8, 9, 10], [], [], [], []⟩
  | _ => ⟨[], [], [], [], [], []⟩
abbrev z66E (N : Nat) : Env := mkE z66h (z66fn N) (fun _ => false) (fun _ => false)
abbrev z66L0_fs : List (Nat × Sl) := [(1, .v .str), (8, .v (.sl (.pr .str .str))), (9, .v (.int .i64)), (10, .v (.int .i64))]
abbrev z66L0_bs : List (Nat × Sb) := []
def z66L0_hd (x1 : Str) (x0 : List (Str × Str)) (c9 : Int) (s10 : Int) : St := ⟨21, [(1, .v .str x1), (8, .v (.sl (.pr .str .str)) x0), (9, .v (.int .i64) c9), (10, .v (.int .i64) s10)], []⟩
def z66L0_tl0 (_x1 : Str) (_x0 : List (Str × Str)) (_c9 : Int) : St := ⟨21, [], []⟩
def z66L0_G (N : Nat) (x1 : Str) (x0 : List (Str × Str)) (c9 : Int) (s10 : Int) (k : Ex → St → Option (Str × Bool)) : Option (Str × Bool) :=
  z66L0 N x1 x0 c9 (k (.exit 0) (z66L0_tl0 x1 x0 c9)) N s10
abbrev z66L0_F (N : Nat) : FV z66L0_fs → HV z66L0_bs → (Ex → St → Option (Str × Bool)) → Option (Str × Bool) := fun x _ k => z66L0_G N x.1 x.2.1 x.2.2.1 x.2.2.2.1 k
noncomputable def z66LP (N : Nat) : Nat → Code → St → (Ex → St → Option (Str × Bool)) → Option (Str × Bool) := fun i c =>
  match i with
  | 0 => (LPc 21 z66L0_fs z66L0_bs (z66L0_F N) (fun st k => iter (z66h 0) (exec (z66E N) N c 0) N st k))
  | i => fun st k => iter (z66h i) (exec (z66E N) N c i) N st k
theorem z66L0_step (N : Nat) (x1 : Str) (x0 : List (Str × Str)) (c9 : Int) (KX : Nat → St → Option (Str × Bool)) (I : St → Option (Str × Bool)) (s10 : Int) :
    execL (z66LP N) (z66E N) (cAt (bodyOf Tryz.f48) [true, false, true, false, false]) 0 (z66L0_hd x1 x0 c9 s10) (roundK (z66h 0) I KX (resD (z66E N) Tryz.f48 (z66sg fun x _ => config_pairOf N x.1 x.2.1) z66pk)) = z66L0T N x1 x0 c9 (KX 0 (z66L0_tl0 x1 x0 c9)) (fun s10 => I (z66L0_hd x1 x0 c9 s10)) s10 := by kernel_rfl
theorem z66L0_ok (N : Nat) : ∀ x y k, (∀ st, k .ret st = (resD (z66E N) Tryz.f48 (z66sg fun x _ => config_pairOf N x.1 x.2.1) z66pk) st) → iter (z66h 0) (exec (z66E N) N (cAt (bodyOf Tryz.f48) [true, false, true, false, false]) 0) N ⟨21, unF z66L0_fs x, unH z66L0_bs y⟩ k = z66L0_F N x y k := fun x _ k hk =>
  iter_link (S := (Int) × Unit) (z66h 0) _ (execL (z66LP N) (z66E N) (cAt (bodyOf Tryz.f48) [true, false, true, false, false]) 0) (resD (z66E N) Tryz.f48 (z66sg fun x _ => config_pairOf N x.1 x.2.1) z66pk) (fun st k hk => execL_eq _ _ N _ (cAt (bodyOf Tryz.f48) [true, false, true, false, false]) 0 (show LoopsOk (z66LP N) (z66E N) N (resD (z66E N) Tryz.f48 (z66sg fun x _ => config_pairOf N x.1 x.2.1) z66pk) [] from trivial) st k hk) (fun s => z66L0_hd x.1 x.2.1 x.2.2.1 s.1) k hk
    (fun self s => z66L0T N x.1 x.2.1 x.2.2.1 (k (.exit 0) (z66L0_tl0 x.1 x.2.1 x.2.2.1)) (fun s10 => self (s10, ())) s.1) (fun n s => z66L0 N x.1 x.2.1 x.2.2.1 (k (.exit 0) (z66L0_tl0 x.1 x.2.1 x.2.2.1)) n s.1) (fun _ => rfl) (fun _ _ => rfl)
    (fun I s => z66L0_step N x.1 x.2.1 x.2.2.1 (fun j => k (.exit j)) I s.1) N (x.2.2.2.1, ())
theorem z66lp0 (N : Nat) : ∀ st k, (∀ st, k .ret st = (resD (z66E N) Tryz.f48 (z66sg fun x _ => config_pairOf N x.1 x.2.1) z66pk) st) → z66LP N 0 (cAt (bodyOf Tryz.f48) [true, false, true, false, false]) st k = iter (Env.hint (z66E N) 0) (exec (z66E N) N (cAt (bodyOf Tryz.f48) [true, false, true, false, false]) 0) N st k := fun st k hk => LPc_eq 21 z66L0_fs z66L0_bs _ _ (resD (z66E N) Tryz.f48 (z66sg fun x _ => config_pairOf N x.1 x.2.1) z66pk) (z66L0_ok N) _ st k hk (rfl)
theorem z66core (N : Nat) (x : SV [.v (.sl (.pr .str .str)), .v .str]) (y : BV []) : runL (z66E N) Tryz.f48 (z66sg fun x _ => config_pairOf N x.1 x.2.1) z66pk (z66LP N) x y = config_pairOf N x.1 x.2.1 := by kernel_rfl
theorem z66sound (N : Nat) : Sound Tryz.prog GW B0G 48 (z66sg fun x _ => config_pairOf N x.1 x.2.1) :=
  runD_sound (mkE_ok z66h (z66fn N) _ _ (z66fn_ok N)) Tryz.func48 rfl Tryz.call48 (z66sg fun x _ => config_pairOf N x.1 x.2.1) z66pk (fun _ _ => rfl) N (fun x y _ h => ((runL_eq (z66E N) N Tryz.f48 (z66sg fun x _ => config_pairOf N x.1 x.2.1) z66pk (z66LP N) (show LoopsOk (z66LP N) (z66E N) N (resD (z66E N) Tryz.f48 (z66sg fun x _ => config_pairOf N x.1 x.2.1) z66pk) [(0, (cAt (bodyOf Tryz.f48) [true, false, true, false, false]))] from ⟨z66lp0 N, trivial⟩) x y).trans (z66core N x y)).trans h)
def config_valueOf (N : Nat) (x0 : List (Str × List Str)) (x1 : List (Str × Str)) (x2 : Str) : Option Str :=
  bnd (config_pairOf N x1 x2) fun t12 =>
  br (t12.2)
    (some t12.1)
    (bnd (config_find N x0 x2) fun t20 =>
    bnd (geti x0 t20) fun t21 =>
    bnd (geti t21.2 (0 : Int)) fun t24 =>
    some t24)
abbrev z55sg (f : SV [.v (.sl (.pr .str (.sl .str))), .v (.sl (.pr .str .str)), .v .str] → BV [] → Option (Str)) : AF := { ps := [.v (.sl (.pr .str (.sl .str))), .v (.sl (.pr .str .str)), .v .str], bs := [], rs := [.v .str], cs := [], R := Str, out := fun z => ((z, ()), ()), f := f }
abbrev z55pk : SV [.v .str] → BV [] → Str := fun x _ => x.1
def z55fn (N : Nat) : FuncId → Option Tmp → Option AF := fun f _ =>
  match f with
    | 48 => some (z66sg fun x _ => config_pairOf N x.1 x.2.1)
    | 73 => some (z75sg fun x _ => config_find N x.1 x.2.1)
    | _ => none
theorem z55fn_ok (N : Nat) : ∀ f q F, z55fn N f q = some F → Sound Tryz.prog GW B0G f F := by
  intro f q F h
  unfold z55fn at h
  split at h
  · cases h; exact z66sound N
  · cases h; exact z75sound N
  · cases h
def z55h : Nat → Hint := fun i =>
  match i with
  | _ => ⟨[], [], [], [], [], []⟩
abbrev z55E (N : Nat) : Env := mkE z55h (z55fn N) (fun _ => false) (fun _ => false)
noncomputable def z55LP (N : Nat) : Nat → Code → St → (Ex → St → Option Str) → Option Str := fun i c =>
  match i with
  | i => fun st k => iter (z55h i) (exec (z55E N) N c i) N st k
theorem z55core (N : Nat) (x : SV [.v (.sl (.pr .str (.sl .str))), .v (.sl (.pr .str .str)), .v .str]) (y : BV []) : runL (z55E N) Tryz.f74 (z55sg fun x _ => config_valueOf N x.1 x.2.1 x.2.2.1) z55pk (z55LP N) x y = config_valueOf N x.1 x.2.1 x.2.2.1 := by kernel_rfl
theorem z55sound (N : Nat) : Sound Tryz.prog GW B0G 74 (z55sg fun x _ => config_valueOf N x.1 x.2.1 x.2.2.1) :=
  runD_sound (mkE_ok z55h (z55fn N) _ _ (z55fn_ok N)) Tryz.func74 rfl Tryz.call74 (z55sg fun x _ => config_valueOf N x.1 x.2.1 x.2.2.1) z55pk (fun _ _ => rfl) N (fun x y _ h => ((runL_eq (z55E N) N Tryz.f74 (z55sg fun x _ => config_valueOf N x.1 x.2.1 x.2.2.1) z55pk (z55LP N) (show LoopsOk (z55LP N) (z55E N) N (resD (z55E N) Tryz.f74 (z55sg fun x _ => config_valueOf N x.1 x.2.1 x.2.2.1) z55pk) [] from trivial) x y).trans (z55core N x y)).trans h)
def ref3_within (_N : Nat) (x0 : Int) (x1 : Int) (x2 : Int) : Option Bool :=
  br (decide (x1 ≤ x0))
    (some (decide (x0 ≤ x2)))
    (some false)
abbrev z82sg (f : SV [.v (.int .i64), .v (.int .i64), .v (.int .i64)] → BV [] → Option (Bool)) : AF := { ps := [.v (.int .i64), .v (.int .i64), .v (.int .i64)], bs := [], rs := [.v .bool], cs := [], R := Bool, out := fun z => ((z, ()), ()), f := f }
abbrev z82pk : SV [.v .bool] → BV [] → Bool := fun x _ => x.1
def z82fn (_N : Nat) : FuncId → Option Tmp → Option AF := fun f _ =>
  match f with
    | _ => none
theorem z82fn_ok (N : Nat) : ∀ f q F, z82fn N f q = some F → Sound Tryz.prog GW B0G f F := by
  intro f q F h
  unfold z82fn at h
  split at h
  · cases h
def z82h : Nat → Hint := fun i =>
  match i with
  | _ => ⟨[], [], [], [], [], []⟩
abbrev z82E (N : Nat) : Env := mkE z82h (z82fn N) (fun _ => false) (fun _ => false)
noncomputable def z82LP (N : Nat) : Nat → Code → St → (Ex → St → Option Bool) → Option Bool := fun i c =>
  match i with
  | i => fun st k => iter (z82h i) (exec (z82E N) N c i) N st k
theorem z82core (N : Nat) (x : SV [.v (.int .i64), .v (.int .i64), .v (.int .i64)]) (y : BV []) : runL (z82E N) Tryz.f104 (z82sg fun x _ => ref3_within N x.1 x.2.1 x.2.2.1) z82pk (z82LP N) x y = ref3_within N x.1 x.2.1 x.2.2.1 := by kernel_rfl
theorem z82sound (N : Nat) : Sound Tryz.prog GW B0G 104 (z82sg fun x _ => ref3_within N x.1 x.2.1 x.2.2.1) :=
  runD_sound (mkE_ok z82h (z82fn N) _ _ (z82fn_ok N)) Tryz.func104 rfl Tryz.call104 (z82sg fun x _ => ref3_within N x.1 x.2.1 x.2.2.1) z82pk (fun _ _ => rfl) N (fun x y _ h => ((runL_eq (z82E N) N Tryz.f104 (z82sg fun x _ => ref3_within N x.1 x.2.1 x.2.2.1) z82pk (z82LP N) (show LoopsOk (z82LP N) (z82E N) N (resD (z82E N) Tryz.f104 (z82sg fun x _ => ref3_within N x.1 x.2.1 x.2.2.1) z82pk) [] from trivial) x y).trans (z82core N x y)).trans h)
def z79L0T (_N : Nat) (x0 : Str) (c20 : Int) (k0 : Option Bool) (self : Int → Option Bool) (s21 : Int) : Option Bool :=
  br (decide (s21 < c20))
    (bnd (geti x0 s21) fun t26 =>
    br (decide (t26 < (97 : UInt8)))
      (br (decide (t26 < (48 : UInt8)))
        (br (t26 != (45 : UInt8))
          (br (t26 != (95 : UInt8))
            (some false)
            (self (IntKind.i64.wrap (s21 + (1 : Int)))))
          (self (IntKind.i64.wrap (s21 + (1 : Int)))))
        (br (decide (t26 > (57 : UInt8)))
          (br (t26 != (45 : UInt8))
            (br (t26 != (95 : UInt8))
              (some false)
              (self (IntKind.i64.wrap (s21 + (1 : Int)))))
            (self (IntKind.i64.wrap (s21 + (1 : Int)))))
          (self (IntKind.i64.wrap (s21 + (1 : Int))))))
      (br (decide (t26 > (122 : UInt8)))
        (br (decide (t26 < (48 : UInt8)))
          (br (t26 != (45 : UInt8))
            (br (t26 != (95 : UInt8))
              (some false)
              (self (IntKind.i64.wrap (s21 + (1 : Int)))))
            (self (IntKind.i64.wrap (s21 + (1 : Int)))))
          (br (decide (t26 > (57 : UInt8)))
            (br (t26 != (45 : UInt8))
              (br (t26 != (95 : UInt8))
                (some false)
                (self (IntKind.i64.wrap (s21 + (1 : Int)))))
              (self (IntKind.i64.wrap (s21 + (1 : Int)))))
            (self (IntKind.i64.wrap (s21 + (1 : Int))))))
        (self (IntKind.i64.wrap (s21 + (1 : Int))))))
    (k0)
def z79L0 (N : Nat) (x0 : Str) (c20 : Int) (k0 : Option Bool) : Nat → Int → Option Bool
  | 0, _ => none
  | n + 1, s21 => z79L0T N x0 c20 k0 (z79L0 N x0 c20 k0 n) s21
def ref3_IsWord (N : Nat) (x0 : Str) : Option Bool :=
  bnd (ref3_within N (x0.length : Int) (1 : Int) (40 : Int)) fun t7 =>
  br (!t7)
    (some false)
    (bnd (geti x0 (0 : Int)) fun t11 =>
    br (decide (t11 < (97 : UInt8)))
      (some false)
      (bnd (geti x0 (0 : Int)) fun t16 =>
      br (decide (t16 > (122 : UInt8)))
        (some false)
        (z79L0 N x0 (x0.length : Int) (some true) N (0 : Int))))
abbrev z79sg (f : SV [.v .str] → BV [] → Option (Bool)) : AF := { ps := [.v .str], bs := [], rs := [.v .bool], cs := [], R := Bool, out := fun z => ((z, ()), ()), f := f }
abbrev z79pk : SV [.v .bool] → BV [] → Bool := fun x _ => x.1
def z79fn (N : Nat) : FuncId → Option Tmp → Option AF := fun f _ =>
  match f with
    | 104 => some (z82sg fun x _ => ref3_within N x.1 x.2.1 x.2.2.1)
    | _ => none
theorem z79fn_ok (N : Nat) : ∀ f q F, z79fn N f q = some F → Sound Tryz.prog GW B0G f F := by
  intro f q F h
  unfold z79fn at h
  split at h
  · cases h; exact z82sound N
  · cases h
def z79h : Nat → Hint := fun i =>
  match i with
  | 0 => ⟨[], [0, 20, 21], [], [], [], []⟩
  | _ => ⟨[], [], [], [], [], []⟩
abbrev z79E (N : Nat) : Env := mkE z79h (z79fn N) (fun _ => false) (fun _ => false)
abbrev z79L0_fs : List (Nat × Sl) := [(0, .v .str), (20, .v (.int .i64)), (21, .v (.int .i64))]
abbrev z79L0_bs : List (Nat × Sb) := []
def z79L0_hd (x0 : Str) (c20 : Int) (s21 : Int) : St := ⟨50, [(0, .v .str x0), (20, .v (.int .i64) c20), (21, .v (.int .i64) s21)], []⟩
def z79L0_tl0 (_x0 : Str) (_c20 : Int) : St := ⟨50, [], []⟩
def z79L0_G (N : Nat) (x0 : Str) (c20 : Int) (s21 : Int) (k : Ex → St → Option Bool) : Option Bool :=
  z79L0 N x0 c20 (k (.exit 0) (z79L0_tl0 x0 c20)) N s21
abbrev z79L0_F (N : Nat) : FV z79L0_fs → HV z79L0_bs → (Ex → St → Option Bool) → Option Bool := fun x _ k => z79L0_G N x.1 x.2.1 x.2.2.1 k
noncomputable def z79LP (N : Nat) : Nat → Code → St → (Ex → St → Option Bool) → Option Bool := fun i c =>
  match i with
  | 0 => (LPc 50 z79L0_fs z79L0_bs (z79L0_F N) (fun st k => iter (z79h 0) (exec (z79E N) N c 0) N st k))
  | i => fun st k => iter (z79h i) (exec (z79E N) N c i) N st k
theorem z79L0_step (N : Nat) (x0 : Str) (c20 : Int) (KX : Nat → St → Option Bool) (I : St → Option Bool) (s21 : Int) :
    execL (z79LP N) (z79E N) (cAt (bodyOf Tryz.f50) [true, true, false, true, false, false]) 0 (z79L0_hd x0 c20 s21) (roundK (z79h 0) I KX (resD (z79E N) Tryz.f50 (z79sg fun x _ => ref3_IsWord N x.1) z79pk)) = z79L0T N x0 c20 (KX 0 (z79L0_tl0 x0 c20)) (fun s21 => I (z79L0_hd x0 c20 s21)) s21 := by kernel_rfl
theorem z79L0_ok (N : Nat) : ∀ x y k, (∀ st, k .ret st = (resD (z79E N) Tryz.f50 (z79sg fun x _ => ref3_IsWord N x.1) z79pk) st) → iter (z79h 0) (exec (z79E N) N (cAt (bodyOf Tryz.f50) [true, true, false, true, false, false]) 0) N ⟨50, unF z79L0_fs x, unH z79L0_bs y⟩ k = z79L0_F N x y k := fun x _ k hk =>
  iter_link (S := (Int) × Unit) (z79h 0) _ (execL (z79LP N) (z79E N) (cAt (bodyOf Tryz.f50) [true, true, false, true, false, false]) 0) (resD (z79E N) Tryz.f50 (z79sg fun x _ => ref3_IsWord N x.1) z79pk) (fun st k hk => execL_eq _ _ N _ (cAt (bodyOf Tryz.f50) [true, true, false, true, false, false]) 0 (show LoopsOk (z79LP N) (z79E N) N (resD (z79E N) Tryz.f50 (z79sg fun x _ => ref3_IsWord N x.1) z79pk) [] from trivial) st k hk) (fun s => z79L0_hd x.1 x.2.1 s.1) k hk
    (fun self s => z79L0T N x.1 x.2.1 (k (.exit 0) (z79L0_tl0 x.1 x.2.1)) (fun s21 => self (s21, ())) s.1) (fun n s => z79L0 N x.1 x.2.1 (k (.exit 0) (z79L0_tl0 x.1 x.2.1)) n s.1) (fun _ => rfl) (fun _ _ => rfl)
    (fun I s => z79L0_step N x.1 x.2.1 (fun j => k (.exit j)) I s.1) N (x.2.2.1, ())
theorem z79lp0 (N : Nat) : ∀ st k, (∀ st, k .ret st = (resD (z79E N) Tryz.f50 (z79sg fun x _ => ref3_IsWord N x.1) z79pk) st) → z79LP N 0 (cAt (bodyOf Tryz.f50) [true, true, false, true, false, false]) st k = iter (Env.hint (z79E N) 0) (exec (z79E N) N (cAt (bodyOf Tryz.f50) [true, true, false, true, false, false]) 0) N st k := fun st k hk => LPc_eq 50 z79L0_fs z79L0_bs _ _ (resD (z79E N) Tryz.f50 (z79sg fun x _ => ref3_IsWord N x.1) z79pk) (z79L0_ok N) _ st k hk (rfl)
theorem z79core (N : Nat) (x : SV [.v .str]) (y : BV []) : runL (z79E N) Tryz.f50 (z79sg fun x _ => ref3_IsWord N x.1) z79pk (z79LP N) x y = ref3_IsWord N x.1 := by kernel_rfl
theorem z79sound (N : Nat) : Sound Tryz.prog GW B0G 50 (z79sg fun x _ => ref3_IsWord N x.1) :=
  runD_sound (mkE_ok z79h (z79fn N) _ _ (z79fn_ok N)) Tryz.func50 rfl Tryz.call50 (z79sg fun x _ => ref3_IsWord N x.1) z79pk (fun _ _ => rfl) N (fun x y _ h => ((runL_eq (z79E N) N Tryz.f50 (z79sg fun x _ => ref3_IsWord N x.1) z79pk (z79LP N) (show LoopsOk (z79LP N) (z79E N) N (resD (z79E N) Tryz.f50 (z79sg fun x _ => ref3_IsWord N x.1) z79pk) [(0, (cAt (bodyOf Tryz.f50) [true, true, false, true, false, false]))] from ⟨z79lp0 N, trivial⟩) x y).trans (z79core N x y)).trans h)
end
end Go.Proofs.YtbekhaioddmliaaGreatDoor

