/- What functions of the program compute, as plain functions (printed). -/
import Derived.Test.YtbekhaioddmliaaGreatDoorQZeT
namespace Go.Proofs.YtbekhaioddmliaaGreatDoor
open Go Go.RowKit
set_option maxRecDepth 100000
set_option linter.unusedVariables false
noncomputable section
def config_IsWord (_N : Nat) (x0 : Str) : Option Bool :=
  br (decide ((x0.length : Int) < (1 : Int)))
    (some false)
    (br (decide ((x0.length : Int) > (40 : Int)))
      (some false)
      (bnd (geti x0 (0 : Int)) fun t13 =>
      br (decide (t13 < (97 : UInt8)))
        (some false)
        (bnd (geti x0 (0 : Int)) fun t18 =>
        br (decide (t18 > (122 : UInt8)))
          (some false)
          (bnd (strings_Trim x0 ([97, 98, 99, 100, 101, 102, 103, 104, 105, 106, 107, 108, 109, 110, 111, 112, 113, 114, 115, 116, 117, 118, 119, 120, 121, 122, 48, 49, 50, 51, 52, 53, 54, 55, 56, 57, 95, 45] : Str)) fun t22 =>
          some (t22 == ([] : Str))))))
abbrev config_IsWord_sg (f : SV [.v .str] → BV [] → Option (Bool)) : AF := { ps := [.v .str], bs := [], rs := [.v .bool], cs := [], R := Bool, out := fun z => ((z, ()), ()), f := f }
abbrev config_IsWord_pk : SV [.v .bool] → BV [] → Bool := fun x _ => x.1
def config_IsWord_fn (_N : Nat) : FuncId → Option Tmp → Option AF := fun f _ =>
  match f with
    | 102 => some (strings_Trim_sg fun x _ => strings_Trim x.1 x.2.1)
    | _ => none
theorem config_IsWord_fn_ok (N : Nat) : ∀ f q F, config_IsWord_fn N f q = some F → Sound Tryz.prog GW B0G f F := by
  intro f q F h
  unfold config_IsWord_fn at h
  split at h
  · cases h; exact strings_Trim_sound
  · cases h
def config_IsWord_h : Nat → Hint := fun i =>
  match i with
  | _ => ⟨[], [], [], [], [], []⟩
abbrev config_IsWord_E (N : Nat) : Env := mkE config_IsWord_h (config_IsWord_fn N) (fun _ => false) (fun _ => false)
noncomputable def config_IsWord_LP (N : Nat) : Nat → Code → St → (Ex → St → Option Bool) → Option Bool := fun i c =>
  match i with
  | i => fun st k => iter (config_IsWord_h i) (exec (config_IsWord_E N) N c i) N st k
theorem config_IsWord_core (N : Nat) (x : SV [.v .str]) (y : BV []) : runL (config_IsWord_E N) Tryz.f43 (config_IsWord_sg fun x _ => config_IsWord N x.1) config_IsWord_pk (config_IsWord_LP N) x y = config_IsWord N x.1 := by kernel_rfl
theorem config_IsWord_sound (N : Nat) : Sound Tryz.prog GW B0G 43 (config_IsWord_sg fun x _ => config_IsWord N x.1) :=
  runD_sound (mkE_ok config_IsWord_h (config_IsWord_fn N) _ _ (config_IsWord_fn_ok N)) Tryz.func43 rfl Tryz.call43 (config_IsWord_sg fun x _ => config_IsWord N x.1) config_IsWord_pk (fun _ _ => rfl) N (fun x y _ h => ((runL_eq (config_IsWord_E N) N Tryz.f43 (config_IsWord_sg fun x _ => config_IsWord N x.1) config_IsWord_pk (config_IsWord_LP N) (show LoopsOk (config_IsWord_LP N) (config_IsWord_E N) N (resD (config_IsWord_E N) Tryz.f43 (config_IsWord_sg fun x _ => config_IsWord N x.1) config_IsWord_pk) [] from trivial) x y).trans (config_IsWord_core N x y)).trans h)
def slices_Index_string_string_L0T (_N : Nat) (x0 : List Str) (x1 : Str) (c7 : Int) (k0 : Option Int) (self : Int → Option Int) (s8 : Int) : Option Int :=
  br (decide (s8 < c7))
    (bnd (geti x0 s8) fun t14 =>
    br (x1 == t14)
      (some s8)
      (self (IntKind.i64.wrap (s8 + (1 : Int)))))
    (k0)
def slices_Index_string_string_L0 (N : Nat) (x0 : List Str) (x1 : Str) (c7 : Int) (k0 : Option Int) : Nat → Int → Option Int
  | 0, _ => none
  | n + 1, s8 => slices_Index_string_string_L0T N x0 x1 c7 k0 (slices_Index_string_string_L0 N x0 x1 c7 k0 n) s8
def slices_Index_string_string (N : Nat) (x0 : List Str) (x1 : Str) : Option Int :=
  slices_Index_string_string_L0 N x0 x1 (x0.length : Int) (some (-1 : Int)) N (0 : Int)
abbrev slices_Index_string_string_sg (f : SV [.v (.sl .str), .v .str] → BV [] → Option (Int)) : AF := { ps := [.v (.sl .str), .v .str], bs := [], rs := [.v (.int .i64)], cs := [], R := Int, out := fun z => ((z, ()), ()), f := f }
abbrev slices_Index_string_string_pk : SV [.v (.int .i64)] → BV [] → Int := fun x _ => x.1
def slices_Index_string_string_fn (_N : Nat) : FuncId → Option Tmp → Option AF := fun f _ =>
  match f with
    | _ => none
theorem slices_Index_string_string_fn_ok (N : Nat) : ∀ f q F, slices_Index_string_string_fn N f q = some F → Sound Tryz.prog GW B0G f F := by
  intro f q F h
  unfold slices_Index_string_string_fn at h
  split at h
  · cases h
def slices_Index_string_string_h : Nat → Hint := fun i =>
  match i with
  | 0 => ⟨[], [0, 1, 7, 8], [], [], [], []⟩
  | _ => ⟨[], [], [], [], [], []⟩
abbrev slices_Index_string_string_E (N : Nat) : Env := mkE slices_Index_string_string_h (slices_Index_string_string_fn N) (fun _ => false) (fun _ => false)
abbrev slices_Index_string_string_L0_fs : List (Nat × Sl) := [(0, .v (.sl .str)), (1, .v .str), (7, .v (.int .i64)), (8, .v (.int .i64))]
abbrev slices_Index_string_string_L0_bs : List (Nat × Sb) := []
def slices_Index_string_string_L0_hd (x0 : List Str) (x1 : Str) (c7 : Int) (s8 : Int) : St := ⟨19, [(0, .v (.sl .str) x0), (1, .v .str x1), (7, .v (.int .i64) c7), (8, .v (.int .i64) s8)], []⟩
def slices_Index_string_string_L0_tl0 (_x0 : List Str) (_x1 : Str) (_c7 : Int) : St := ⟨19, [], []⟩
def slices_Index_string_string_L0_G (N : Nat) (x0 : List Str) (x1 : Str) (c7 : Int) (s8 : Int) (k : Ex → St → Option Int) : Option Int :=
  slices_Index_string_string_L0 N x0 x1 c7 (k (.exit 0) (slices_Index_string_string_L0_tl0 x0 x1 c7)) N s8
abbrev slices_Index_string_string_L0_F (N : Nat) : FV slices_Index_string_string_L0_fs → HV slices_Index_string_string_L0_bs → (Ex → St → Option Int) → Option Int := fun x _ k => slices_Index_string_string_L0_G N x.1 x.2.1 x.2.2.1 x.2.2.2.1 k
noncomputable def slices_Index_string_string_LP (N : Nat) : Nat → Code → St → (Ex → St → Option Int) → Option Int := fun i c =>
  match i with
  | 0 => (LPc 19 slices_Index_string_string_L0_fs slices_Index_string_string_L0_bs (slices_Index_string_string_L0_F N) (fun st k => iter (slices_Index_string_string_h 0) (exec (slices_Index_string_string_E N) N c 0) N st k))
  | i => fun st k => iter (slices_Index_string_string_h i) (exec (slices_Index_string_string_E N) N c i) N st k
theorem slices_Index_string_string_L0_step (N : Nat) (x0 : List Str) (x1 : Str) (c7 : Int) (KX : Nat → St → Option Int) (I : St → Option Int) (s8 : Int) :
    execL (slices_Index_string_string_LP N) (slices_Index_string_string_E N) (cAt (bodyOf Tryz.f105) [true, false, true, false, false]) 0 (slices_Index_string_string_L0_hd x0 x1 c7 s8) (roundK (slices_Index_string_string_h 0) I KX (resD (slices_Index_string_string_E N) Tryz.f105 (slices_Index_string_string_sg fun x _ => slices_Index_string_string N x.1 x.2.1) slices_Index_string_string_pk)) = slices_Index_string_string_L0T N x0 x1 c7 (KX 0 (slices_Index_string_string_L0_tl0 x0 x1 c7)) (fun s8 => I (slices_Index_string_string_L0_hd x0 x1 c7 s8)) s8 := by kernel_rfl
theorem slices_Index_string_string_L0_ok (N : Nat) : ∀ x y k, (∀ st, k .ret st = (resD (slices_Index_string_string_E N) Tryz.f105 (slices_Index_string_string_sg fun x _ => slices_Index_string_string N x.1 x.2.1) slices_Index_string_string_pk) st) → iter (slices_Index_string_string_h 0) (exec (slices_Index_string_string_E N) N (cAt (bodyOf Tryz.f105) [true, false, true, false, false]) 0) N ⟨19, unF slices_Index_string_string_L0_fs x, unH slices_Index_string_string_L0_bs y⟩ k = slices_Index_string_string_L0_F N x y k := fun x _ k hk =>
  iter_link (S := (Int) × Unit) (slices_Index_string_string_h 0) _ (execL (slices_Index_string_string_LP N) (slices_Index_string_string_E N) (cAt (bodyOf Tryz.f105) [true, false, true, false, false]) 0) (resD (slices_Index_string_string_E N) Tryz.f105 (slices_Index_string_string_sg fun x _ => slices_Index_string_string N x.1 x.2.1) slices_Index_string_string_pk) (fun st k hk => execL_eq _ _ N _ (cAt (bodyOf Tryz.f105) [true, false, true, false, false]) 0 (show LoopsOk (slices_Index_string_string_LP N) (slices_Index_string_string_E N) N (resD (slices_Index_string_string_E N) Tryz.f105 (slices_Index_string_string_sg fun x _ => slices_Index_string_string N x.1 x.2.1) slices_Index_string_string_pk) [] from trivial) st k hk) (fun s => slices_Index_string_string_L0_hd x.1 x.2.1 x.2.2.1 s.1) k hk
    (fun self s => slices_Index_string_string_L0T N x.1 x.2.1 x.2.2.1 (k (.exit 0) (slices_Index_string_string_L0_tl0 x.1 x.2.1 x.2.2.1)) (fun s8 => self (s8, ())) s.1) (fun n s => slices_Index_string_string_L0 N x.1 x.2.1 x.2.2.1 (k (.exit 0) (slices_Index_string_string_L0_tl0 x.1 x.2.1 x.2.2.1)) n s.1) (fun _ => rfl) (fun _ _ => rfl)
    (fun I s => slices_Index_string_string_L0_step N x.1 x.2.1 x.2.2.1 (fun j => k (.exit j)) I s.1) N (x.2.2.2.1, ())
theorem slices_Index_string_string_lp0 (N : Nat) : ∀ st k, (∀ st, k .ret st = (resD (slices_Index_string_string_E N) Tryz.f105 (slices_Index_string_string_sg fun x _ => slices_Index_string_string N x.1 x.2.1) slices_Index_string_string_pk) st) → slices_Index_string_string_LP N 0 (cAt (bodyOf Tryz.f105) [true, false, true, false, false]) st k = iter (Env.hint (slices_Index_string_string_E N) 0) (exec (slices_Index_string_string_E N) N (cAt (bodyOf Tryz.f105) [true, false, true, false, false]) 0) N st k := fun st k hk => LPc_eq 19 slices_Index_string_string_L0_fs slices_Index_string_string_L0_bs _ _ (resD (slices_Index_string_string_E N) Tryz.f105 (slices_Index_string_string_sg fun x _ => slices_Index_string_string N x.1 x.2.1) slices_Index_string_string_pk) (slices_Index_string_string_L0_ok N) _ st k hk (rfl)
theorem slices_Index_string_string_core (N : Nat) (x : SV [.v (.sl .str), .v .str]) (y : BV []) : runL (slices_Index_string_string_E N) Tryz.f105 (slices_Index_string_string_sg fun x _ => slices_Index_string_string N x.1 x.2.1) slices_Index_string_string_pk (slices_Index_string_string_LP N) x y = slices_Index_string_string N x.1 x.2.1 := by kernel_rfl
theorem slices_Index_string_string_sound (N : Nat) : Sound Tryz.prog GW B0G 105 (slices_Index_string_string_sg fun x _ => slices_Index_string_string N x.1 x.2.1) :=
  runD_sound (mkE_ok slices_Index_string_string_h (slices_Index_string_string_fn N) _ _ (slices_Index_string_string_fn_ok N)) Tryz.func105 rfl Tryz.call105 (slices_Index_string_string_sg fun x _ => slices_Index_string_string N x.1 x.2.1) slices_Index_string_string_pk (fun _ _ => rfl) N (fun x y _ h => ((runL_eq (slices_Index_string_string_E N) N Tryz.f105 (slices_Index_string_string_sg fun x _ => slices_Index_string_string N x.1 x.2.1) slices_Index_string_string_pk (slices_Index_string_string_LP N) (show LoopsOk (slices_Index_string_string_LP N) (slices_Index_string_string_E N) N (resD (slices_Index_string_string_E N) Tryz.f105 (slices_Index_string_string_sg fun x _ => slices_Index_string_string N x.1 x.2.1) slices_Index_string_string_pk) [(0, (cAt (bodyOf Tryz.f105) [true, false, true, false, false]))] from ⟨slices_Index_string_string_lp0 N, trivial⟩) x y).trans (slices_Index_string_string_core N x y)).trans h)
def slices_Contains_string_string (N : Nat) (x0 : List Str) (x1 : Str) : Option Bool :=
  bnd (slices_Index_string_string N x0 x1) fun t7 =>
  some (decide (t7 ≥ (0 : Int)))
abbrev slices_Contains_string_string_sg (f : SV [.v (.sl .str), .v .str] → BV [] → Option (Bool)) : AF := { ps := [.v (.sl .str), .v .str], bs := [], rs := [.v .bool], cs := [], R := Bool, out := fun z => ((z, ()), ()), f := f }
abbrev slices_Contains_string_string_pk : SV [.v .bool] → BV [] → Bool := fun x _ => x.1
def slices_Contains_string_string_fn (N : Nat) : FuncId → Option Tmp → Option AF := fun f _ =>
  match f with
    | 105 => some (slices_Index_string_string_sg fun x _ => slices_Index_string_string N x.1 x.2.1)
    | _ => none
theorem slices_Contains_string_string_fn_ok (N : Nat) : ∀ f q F, slices_Contains_string_string_fn N f q = some F → Sound Tryz.prog GW B0G f F := by
  intro f q F h
  unfold slices_Contains_string_string_fn at h
  split at h
  · cases h; exact slices_Index_string_string_sound N
  · cases h
def slices_Contains_string_string_h : Nat → Hint := fun i =>
  match i with
  | _ => ⟨[], [], [], [], [], []⟩
abbrev slices_Contains_string_string_E (N : Nat) : Env := mkE slices_Contains_string_string_h (slices_Contains_string_string_fn N) (fun _ => false) (fun _ => false)
noncomputable def slices_Contains_string_string_LP (N : Nat) : Nat → Code → St → (Ex → St → Option Bool) → Option Bool := fun i c =>
  match i with
  | i => fun st k => iter (slices_Contains_string_string_h i) (exec (slices_Contains_string_string_E N) N c i) N st k
theorem slices_Contains_string_string_core (N : Nat) (x : SV [.v (.sl .str), .v .str]) (y : BV []) : runL (slices_Contains_string_string_E N) Tryz.f56 (slices_Contains_string_string_sg fun x _ => slices_Contains_string_string N x.1 x.2.1) slices_Contains_string_string_pk (slices_Contains_string_string_LP N) x y = slices_Contains_string_string N x.1 x.2.1 := by kernel_rfl
theorem slices_Contains_string_string_sound (N : Nat) : Sound Tryz.prog GW B0G 56 (slices_Contains_string_string_sg fun x _ => slices_Contains_string_string N x.1 x.2.1) :=
  runD_sound (mkE_ok slices_Contains_string_string_h (slices_Contains_string_string_fn N) _ _ (slices_Contains_string_string_fn_ok N)) Tryz.func56 rfl Tryz.call56 (slices_Contains_string_string_sg fun x _ => slices_Contains_string_string N x.1 x.2.1) slices_Contains_string_string_pk (fun _ _ => rfl) N (fun x y _ h => ((runL_eq (slices_Contains_string_string_E N) N Tryz.f56 (slices_Contains_string_string_sg fun x _ => slices_Contains_string_string N x.1 x.2.1) slices_Contains_string_string_pk (slices_Contains_string_string_LP N) (show LoopsOk (slices_Contains_string_string_LP N) (slices_Contains_string_string_E N) N (resD (slices_Contains_string_string_E N) Tryz.f56 (slices_Contains_string_string_sg fun x _ => slices_Contains_string_string N x.1 x.2.1) slices_Contains_string_string_pk) [] from trivial) x y).trans (slices_Contains_string_string_core N x y)).trans h)
def config_CheckSettings_L1T (N : Nat) (c33 : List Str) (c34 : Int) (c1004_1 : List Str) (k3 : Option Int) (self : Int → Option Int) (s35 : Int) : Option Int :=
  br (decide (s35 < c34))
    (bnd (geti c33 s35) fun t38 =>
    bnd (config_IsWord N t38) fun t41 =>
    br (!t41)
      (some (5 : Int))
      (bnd (slc c1004_1 (0 : Int) s35) fun t46 =>
      bnd (slices_Contains_string_string N t46 t38) fun t48 =>
      br (t48)
        (some (7 : Int))
        (self (IntKind.i64.wrap (s35 + (1 : Int))))))
    (k3)
def config_CheckSettings_L1 (N : Nat) (c33 : List Str) (c34 : Int) (c1004_1 : List Str) (k3 : Option Int) : Nat → Int → Option Int
  | 0, _ => none
  | n + 1, s35 => config_CheckSettings_L1T N c33 c34 c1004_1 k3 (config_CheckSettings_L1 N c33 c34 c1004_1 k3 n) s35
def config_CheckSettings_L0T (N : Nat) (x0 : List (Str × List Str)) (c10 : List (Str × List Str)) (c11 : Int) (k0 : Option Int) (self : Int → Option Int) (s12 : Int) : Option Int :=
  br (decide (s12 < c11))
    (bnd (geti c10 s12) fun t15 =>
    bnd (config_IsWord N t15.1) fun t20 =>
    br (!t20)
      (some (5 : Int))
      (br ((t15.2.length : Int) == (0 : Int))
        (some (9 : Int))
        (br (decide ((t15.2.length : Int) > (20 : Int)))
          (some (2 : Int))
          (config_CheckSettings_L1 N t15.2 (t15.2.length : Int) t15.2 (br (decide (s12 > (0 : Int)))
                (bnd (geti x0 (IntKind.i64.wrap (s12 - (1 : Int)))) fun t58 =>
                br (Op.bytesLess t15.1 t58.1 || t15.1 == t58.1)
                  (some (8 : Int))
                  (self (IntKind.i64.wrap (s12 + (1 : Int)))))
                (self (IntKind.i64.wrap (s12 + (1 : Int))))) N (0 : Int)))))
    (k0)
def config_CheckSettings_L0 (N : Nat) (x0 : List (Str × List Str)) (c10 : List (Str × List Str)) (c11 : Int) (k0 : Option Int) : Nat → Int → Option Int
  | 0, _ => none
  | n + 1, s12 => config_CheckSettings_L0T N x0 c10 c11 k0 (config_CheckSettings_L0 N x0 c10 c11 k0 n) s12
def config_CheckSettings (N : Nat) (x0 : List (Str × List Str)) : Option Int :=
  br (decide ((x0.length : Int) > (30 : Int)))
    (some (2 : Int))
    (config_CheckSettings_L0 N x0 x0 (x0.length : Int) (some (0 : Int)) N (0 : Int))
abbrev config_CheckSettings_sg (f : SV [.v (.sl (.pr .str (.sl .str)))] → BV [] → Option (Int)) : AF := { ps := [.v (.sl (.pr .str (.sl .str)))], bs := [], rs := [.v (.int .i64)], cs := [], R := Int, out := fun z => ((z, ()), ()), f := f }
abbrev config_CheckSettings_pk : SV [.v (.int .i64)] → BV [] → Int := fun x _ => x.1
def config_CheckSettings_fn (N : Nat) : FuncId → Option Tmp → Option AF := fun f _ =>
  match f with
    | 43 => some (config_IsWord_sg fun x _ => config_IsWord N x.1)
    | 56 => some (slices_Contains_string_string_sg fun x _ => slices_Contains_string_string N x.1 x.2.1)
    | _ => none
theorem config_CheckSettings_fn_ok (N : Nat) : ∀ f q F, config_CheckSettings_fn N f q = some F → Sound Tryz.prog GW B0G f F := by
  intro f q F h
  unfold config_CheckSettings_fn at h
  split at h
  · cases h; exact config_IsWord_sound N
  · cases h; exact slices_Contains_string_string_sound N
  · cases h
def config_CheckSettings_h : Nat → Hint := fun i =>
  match i with
  | 0 => ⟨[], [0, 10, 11, 12], [], [], [], []⟩
  | 3 => ⟨[], [0, 3, 4, 10, 11, 12, 33, 34, 35], [1004], [0, 3, 4, 10, 11, 12], [1004], []⟩
  | _ => ⟨[], [], [], [], [], []⟩
abbrev config_CheckSettings_E (N : Nat) : Env := mkE config_CheckSettings_h (config_CheckSettings_fn N) (fun _ => false) (fun _ => false)
abbrev config_CheckSettings_L1_fs : List (Nat × Sl) := [(0, .v (.sl (.pr .str (.sl .str)))), (3, .v (.int .i64)), (4, .box 1004 0), (10, .v (.sl (.pr .str (.sl .str)))), (11, .v (.int .i64)), (12, .v (.int .i64)), (33, .v (.sl .str)), (34, .v (.int .i64)), (35, .v (.int .i64))]
abbrev config_CheckSettings_L1_bs : List (Nat × Sb) := [(1004, .cells [.v .str, .v (.sl .str)])]
def config_CheckSettings_L1_hd (x0 : List (Str × List Str)) (s12 : Int) (c10 : List (Str × List Str)) (c11 : Int) (c12 : Int) (c33 : List Str) (c34 : Int) (c1004_0 : Str) (c1004_1 : List Str) (s35 : Int) : St := ⟨64, [(0, .v (.sl (.pr .str (.sl .str))) x0), (3, .v (.int .i64) s12), (4, .box 1004 0), (10, .v (.sl (.pr .str (.sl .str))) c10), (11, .v (.int .i64) c11), (12, .v (.int .i64) c12), (33, .v (.sl .str) c33), (34, .v (.int .i64) c34), (35, .v (.int .i64) s35)], [(1004, .cells [.v .str c1004_0, .v (.sl .str) c1004_1])]⟩
def config_CheckSettings_L1_tl3 (x0 : List (Str × List Str)) (s12 : Int) (c10 : List (Str × List Str)) (c11 : Int) (c12 : Int) (_c33 : List Str) (_c34 : Int) (c1004_0 : Str) (c1004_1 : List Str) : St := ⟨64, [(0, .v (.sl (.pr .str (.sl .str))) x0), (3, .v (.int .i64) s12), (4, .box 1004 0), (10, .v (.sl (.pr .str (.sl .str))) c10), (11, .v (.int .i64) c11), (12, .v (.int .i64) c12)], [(1004, .cells [.v .str c1004_0, .v (.sl .str) c1004_1])]⟩
def config_CheckSettings_L1_G (N : Nat) (x0 : List (Str × List Str)) (s12 : Int) (c10 : List (Str × List Str)) (c11 : Int) (c12 : Int) (c33 : List Str) (c34 : Int) (c1004_0 : Str) (c1004_1 : List Str) (s35 : Int) (k : Ex → St → Option Int) : Option Int :=
  config_CheckSettings_L1 N c33 c34 c1004_1 (k (.exit 3) (config_CheckSettings_L1_tl3 x0 s12 c10 c11 c12 c33 c34 c1004_0 c1004_1)) N s35
abbrev config_CheckSettings_L1_F (N : Nat) : FV config_CheckSettings_L1_fs → HV config_CheckSettings_L1_bs → (Ex → St → Option Int) → Option Int := fun x y k => config_CheckSettings_L1_G N x.1 x.2.1 x.2.2.2.1 x.2.2.2.2.1 x.2.2.2.2.2.1 x.2.2.2.2.2.2.1 x.2.2.2.2.2.2.2.1 y.1.1 y.1.2.1 x.2.2.2.2.2.2.2.2.1 k
abbrev config_CheckSettings_L0_fs : List (Nat × Sl) := [(0, .v (.sl (.pr .str (.sl .str)))), (10, .v (.sl (.pr .str (.sl .str)))), (11, .v (.int .i64)), (12, .v (.int .i64))]
abbrev config_CheckSettings_L0_bs : List (Nat × Sb) := []
def config_CheckSettings_L0_hd (x0 : List (Str × List Str)) (c10 : List (Str × List Str)) (c11 : Int) (s12 : Int) : St := ⟨64, [(0, .v (.sl (.pr .str (.sl .str))) x0), (10, .v (.sl (.pr .str (.sl .str))) c10), (11, .v (.int .i64) c11), (12, .v (.int .i64) s12)], []⟩
def config_CheckSettings_L0_tl0 (_x0 : List (Str × List Str)) (_c10 : List (Str × List Str)) (_c11 : Int) : St := ⟨64, [], []⟩
def config_CheckSettings_L0_G (N : Nat) (x0 : List (Str × List Str)) (c10 : List (Str × List Str)) (c11 : Int) (s12 : Int) (k : Ex → St → Option Int) : Option Int :=
  config_CheckSettings_L0 N x0 c10 c11 (k (.exit 0) (config_CheckSettings_L0_tl0 x0 c10 c11)) N s12
abbrev config_CheckSettings_L0_F (N : Nat) : FV config_CheckSettings_L0_fs → HV config_CheckSettings_L0_bs → (Ex → St → Option Int) → Option Int := fun x _ k => config_CheckSettings_L0_G N x.1 x.2.1 x.2.2.1 x.2.2.2.1 k
noncomputable def config_CheckSettings_LP (N : Nat) : Nat → Code → St → (Ex → St → Option Int) → Option Int := fun i c =>
  match i with
  | 0 => (LPc 64 config_CheckSettings_L0_fs config_CheckSettings_L0_bs (config_CheckSettings_L0_F N) (fun st k => iter (config_CheckSettings_h 0) (exec (config_CheckSettings_E N) N c 0) N st k))
  | 3 => (LPc 64 config_CheckSettings_L1_fs config_CheckSettings_L1_bs (config_CheckSettings_L1_F N) (fun st k => iter (config_CheckSettings_h 3) (exec (config_CheckSettings_E N) N c 3) N st k))
  | i => fun st k => iter (config_CheckSettings_h i) (exec (config_CheckSettings_E N) N c i) N st k
theorem config_CheckSettings_L1_step (N : Nat) (x0 : List (Str × List Str)) (s12 : Int) (c10 : List (Str × List Str)) (c11 : Int) (c12 : Int) (c33 : List Str) (c34 : Int) (c1004_0 : Str) (c1004_1 : List Str) (KX : Nat → St → Option Int) (I : St → Option Int) (s35 : Int) :
    execL (config_CheckSettings_LP N) (config_CheckSettings_E N) (cAt (bodyOf Tryz.f42) [true, true, false, true, false, false, true, true, false, false, true, true, false, true, false, false]) 3 (config_CheckSettings_L1_hd x0 s12 c10 c11 c12 c33 c34 c1004_0 c1004_1 s35) (roundK (config_CheckSettings_h 3) I KX (resD (config_CheckSettings_E N) Tryz.f42 (config_CheckSettings_sg fun x _ => config_CheckSettings N x.1) config_CheckSettings_pk)) = config_CheckSettings_L1T N c33 c34 c1004_1 (KX 3 (config_CheckSettings_L1_tl3 x0 s12 c10 c11 c12 c33 c34 c1004_0 c1004_1)) (fun s35 => I (config_CheckSettings_L1_hd x0 s12 c10 c11 c12 c33 c34 c1004_0 c1004_1 s35)) s35 := by kernel_rfl
theorem config_CheckSettings_L1_ok (N : Nat) : ∀ x y k, (∀ st, k .ret st = (resD (config_CheckSettings_E N) Tryz.f42 (config_CheckSettings_sg fun x _ => config_CheckSettings N x.1) config_CheckSettings_pk) st) → iter (config_CheckSettings_h 3) (exec (config_CheckSettings_E N) N (cAt (bodyOf Tryz.f42) [true, true, false, true, false, false, true, true, false, false, true, true, false, true, false, false]) 3) N ⟨64, unF config_CheckSettings_L1_fs x, unH config_CheckSettings_L1_bs y⟩ k = config_CheckSettings_L1_F N x y k := fun x y k hk =>
  iter_link (S := (Int) × Unit) (config_CheckSettings_h 3) _ (execL (config_CheckSettings_LP N) (config_CheckSettings_E N) (cAt (bodyOf Tryz.f42) [true, true, false, true, false, false, true, true, false, false, true, true, false, true, false, false]) 3) (resD (config_CheckSettings_E N) Tryz.f42 (config_CheckSettings_sg fun x _ => config_CheckSettings N x.1) config_CheckSettings_pk) (fun st k hk => execL_eq _ _ N _ (cAt (bodyOf Tryz.f42) [true, true, false, true, false, false, true, true, false, false, true, true, false, true, false, false]) 3 (show LoopsOk (config_CheckSettings_LP N) (config_CheckSettings_E N) N (resD (config_CheckSettings_E N) Tryz.f42 (config_CheckSettings_sg fun x _ => config_CheckSettings N x.1) config_CheckSettings_pk) [] from trivial) st k hk) (fun s => config_CheckSettings_L1_hd x.1 x.2.1 x.2.2.2.1 x.2.2.2.2.1 x.2.2.2.2.2.1 x.2.2.2.2.2.2.1 x.2.2.2.2.2.2.2.1 y.1.1 y.1.2.1 s.1) k hk
    (fun self s => config_CheckSettings_L1T N x.2.2.2.2.2.2.1 x.2.2.2.2.2.2.2.1 y.1.2.1 (k (.exit 3) (config_CheckSettings_L1_tl3 x.1 x.2.1 x.2.2.2.1 x.2.2.2.2.1 x.2.2.2.2.2.1 x.2.2.2.2.2.2.1 x.2.2.2.2.2.2.2.1 y.1.1 y.1.2.1)) (fun s35 => self (s35, ())) s.1) (fun n s => config_CheckSettings_L1 N x.2.2.2.2.2.2.1 x.2.2.2.2.2.2.2.1 y.1.2.1 (k (.exit 3) (config_CheckSettings_L1_tl3 x.1 x.2.1 x.2.2.2.1 x.2.2.2.2.1 x.2.2.2.2.2.1 x.2.2.2.2.2.2.1 x.2.2.2.2.2.2.2.1 y.1.1 y.1.2.1)) n s.1) (fun _ => rfl) (fun _ _ => rfl)
    (fun I s => config_CheckSettings_L1_step N x.1 x.2.1 x.2.2.2.1 x.2.2.2.2.1 x.2.2.2.2.2.1 x.2.2.2.2.2.2.1 x.2.2.2.2.2.2.2.1 y.1.1 y.1.2.1 (fun j => k (.exit j)) I s.1) N (x.2.2.2.2.2.2.2.2.1, ())
theorem config_CheckSettings_lp3 (N : Nat) : ∀ st k, (∀ st, k .ret st = (resD (config_CheckSettings_E N) Tryz.f42 (config_CheckSettings_sg fun x _ => config_CheckSettings N x.1) config_CheckSettings_pk) st) → config_CheckSettings_LP N 3 (cAt (bodyOf Tryz.f42) [true, true, false, true, false, false, true, true, false, false, true, true, false, true, false, false]) st k = iter (Env.hint (config_CheckSettings_E N) 3) (exec (config_CheckSettings_E N) N (cAt (bodyOf Tryz.f42) [true, true, false, true, false, false, true, true, false, false, true, true, false, true, false, false]) 3) N st k := fun st k hk => LPc_eq 64 config_CheckSettings_L1_fs config_CheckSettings_L1_bs _ _ (resD (config_CheckSettings_E N) Tryz.f42 (config_CheckSettings_sg fun x _ => config_CheckSettings N x.1) config_CheckSettings_pk) (config_CheckSettings_L1_ok N) _ st k hk (rfl)
theorem config_CheckSettings_L0_step (N : Nat) (x0 : List (Str × List Str)) (c10 : List (Str × List Str)) (c11 : Int) (KX : Nat → St → Option Int) (I : St → Option Int) (s12 : Int) :
    execL (config_CheckSettings_LP N) (config_CheckSettings_E N) (cAt (bodyOf Tryz.f42) [true, true, false, true, false, false]) 0 (config_CheckSettings_L0_hd x0 c10 c11 s12) (roundK (config_CheckSettings_h 0) I KX (resD (config_CheckSettings_E N) Tryz.f42 (config_CheckSettings_sg fun x _ => config_CheckSettings N x.1) config_CheckSettings_pk)) = config_CheckSettings_L0T N x0 c10 c11 (KX 0 (config_CheckSettings_L0_tl0 x0 c10 c11)) (fun s12 => I (config_CheckSettings_L0_hd x0 c10 c11 s12)) s12 := by kernel_rfl
theorem config_CheckSettings_L0_ok (N : Nat) : ∀ x y k, (∀ st, k .ret st = (resD (config_CheckSettings_E N) Tryz.f42 (config_CheckSettings_sg fun x _ => config_CheckSettings N x.1) config_CheckSettings_pk) st) → iter (config_CheckSettings_h 0) (exec (config_CheckSettings_E N) N (cAt (bodyOf Tryz.f42) [true, true, false, true, false, false]) 0) N ⟨64, unF config_CheckSettings_L0_fs x, unH config_CheckSettings_L0_bs y⟩ k = config_CheckSettings_L0_F N x y k := fun x _ k hk =>
  iter_link (S := (Int) × Unit) (config_CheckSettings_h 0) _ (execL (config_CheckSettings_LP N) (config_CheckSettings_E N) (cAt (bodyOf Tryz.f42) [true, true, false, true, false, false]) 0) (resD (config_CheckSettings_E N) Tryz.f42 (config_CheckSettings_sg fun x _ => config_CheckSettings N x.1) config_CheckSettings_pk) (fun st k hk => execL_eq _ _ N _ (cAt (bodyOf Tryz.f42) [true, true, false, true, false, false]) 0 (show LoopsOk (config_CheckSettings_LP N) (config_CheckSettings_E N) N (resD (config_CheckSettings_E N) Tryz.f42 (config_CheckSettings_sg fun x _ => config_CheckSettings N x.1) config_CheckSettings_pk) [(3, (cAt (bodyOf Tryz.f42) [true, true, false, true, false, false, true, true, false, false, true, true, false, true, false, false]))] from ⟨config_CheckSettings_lp3 N, trivial⟩) st k hk) (fun s => config_CheckSettings_L0_hd x.1 x.2.1 x.2.2.1 s.1) k hk
    (fun self s => config_CheckSettings_L0T N x.1 x.2.1 x.2.2.1 (k (.exit 0) (config_CheckSettings_L0_tl0 x.1 x.2.1 x.2.2.1)) (fun s12 => self (s12, ())) s.1) (fun n s => config_CheckSettings_L0 N x.1 x.2.1 x.2.2.1 (k (.exit 0) (config_CheckSettings_L0_tl0 x.1 x.2.1 x.2.2.1)) n s.1) (fun _ => rfl) (fun _ _ => rfl)
    (fun I s => config_CheckSettings_L0_step N x.1 x.2.1 x.2.2.1 (fun j => k (.exit j)) I s.1) N (x.2.2.2.1, ())
theorem config_CheckSettings_lp0 (N : Nat) : ∀ st k, (∀ st, k .ret st = (resD (config_CheckSettings_E N) Tryz.f42 (config_CheckSettings_sg fun x _ => config_CheckSettings N x.1) config_CheckSettings_pk) st) → config_CheckSettings_LP N 0 (cAt (bodyOf Tryz.f42) [true, true, false, true, false, false]) st k = iter (Env.hint (config_CheckSettings_E N) 0) (exec (config_CheckSettings_E N) N (cAt (bodyOf Tryz.f42) [true, true, false, true, false, false]) 0) N st k := fun st k hk => LPc_eq 64 config_CheckSettings_L0_fs config_CheckSettings_L0_bs _ _ (resD (config_CheckSettings_E N) Tryz.f42 (config_CheckSettings_sg fun x _ => config_CheckSettings N x.1) config_CheckSettings_pk) (config_CheckSettings_L0_ok N) _ st k hk (rfl)
theorem config_CheckSettings_core (N : Nat) (x : SV [.v (.sl (.pr .str (.sl .str)))]) (y : BV []) : runL (config_CheckSettings_E N) Tryz.f42 (config_CheckSettings_sg fun x _ => config_CheckSettings N x.1) config_CheckSettings_pk (config_CheckSettings_LP N) x y = config_CheckSettings N x.1 := by kernel_rfl
theorem config_CheckSettings_sound (N : Nat) : Sound Tryz.prog GW B0G 42 (config_CheckSettings_sg fun x _ => config_CheckSettings N x.1) :=
  runD_sound (mkE_ok config_CheckSettings_h (config_CheckSettings_fn N) _ _ (config_CheckSettings_fn_ok N)) Tryz.func42 rfl Tryz.call42 (config_CheckSettings_sg fun x _ => config_CheckSettings N x.1) config_CheckSettings_pk (fun _ _ => rfl) N (fun x y _ h => ((runL_eq (config_CheckSettings_E N) N Tryz.f42 (config_CheckSettings_sg fun x _ => config_CheckSettings N x.1) config_CheckSettings_pk (config_CheckSettings_LP N) (show LoopsOk (config_CheckSettings_LP N) (config_CheckSettings_E N) N (resD (config_CheckSettings_E N) Tryz.f42 (config_CheckSettings_sg fun x _ => config_CheckSettings N x.1) config_CheckSettings_pk) [(0, (cAt (bodyOf Tryz.f42) [true, true, false, true, false, false])), (3, (cAt (bodyOf Tryz.f42) [true, true, false, true, false, false, true, true, false, false, true, true, false, true, false, false]))] from ⟨config_CheckSettings_lp0 N, config_CheckSettings_lp3 N, trivial⟩) x y).trans (config_CheckSettings_core N x y)).trans h)
def config_find_1 (_N : Nat) (x0 : Str × List Str) (x1 : Str) : Option Bool :=
  some (x0.1 == x1)
abbrev config_find_1_sg (f : SV [.v (.pr .str (.sl .str)), .v (.ptr .str)] → BV [] → Option (Bool)) : AF := { ps := [.v (.pr .str (.sl .str)), .v (.ptr .str)], bs := [], rs := [.v .bool], cs := [], R := Bool, out := fun z => ((z, ()), ()), f := f }
abbrev config_find_1_pk : SV [.v .bool] → BV [] → Bool := fun x _ => x.1
def config_find_1_fn (_N : Nat) : FuncId → Option Tmp → Option AF := fun f _ =>
  match f with
    | _ => none
theorem config_find_1_fn_ok (N : Nat) : ∀ f q F, config_find_1_fn N f q = some F → Sound Tryz.prog GW B0G f F := by
  intro f q F h
  unfold config_find_1_fn at h
  split at h
  · cases h
def config_find_1_h : Nat → Hint := fun i =>
  match i with
  | _ => ⟨[], [], [], [], [], []⟩
abbrev config_find_1_E (N : Nat) : Env := mkE config_find_1_h (config_find_1_fn N) (fun _ => false) (fun _ => false)
noncomputable def config_find_1_LP (N : Nat) : Nat → Code → St → (Ex → St → Option Bool) → Option Bool := fun i c =>
  match i with
  | i => fun st k => iter (config_find_1_h i) (exec (config_find_1_E N) N c i) N st k
theorem config_find_1_core (N : Nat) (x : SV [.v (.pr .str (.sl .str)), .v (.ptr .str)]) (y : BV []) : runL (config_find_1_E N) Tryz.f127 (config_find_1_sg fun x _ => config_find_1 N x.1 x.2.1) config_find_1_pk (config_find_1_LP N) x y = config_find_1 N x.1 x.2.1 := by kernel_rfl
theorem config_find_1_sound (N : Nat) : Sound Tryz.prog GW B0G 127 (config_find_1_sg fun x _ => config_find_1 N x.1 x.2.1) :=
  runD_sound (mkE_ok config_find_1_h (config_find_1_fn N) _ _ (config_find_1_fn_ok N)) Tryz.func127 rfl Tryz.call127 (config_find_1_sg fun x _ => config_find_1 N x.1 x.2.1) config_find_1_pk (fun _ _ => rfl) N (fun x y _ h => ((runL_eq (config_find_1_E N) N Tryz.f127 (config_find_1_sg fun x _ => config_find_1 N x.1 x.2.1) config_find_1_pk (config_find_1_LP N) (show LoopsOk (config_find_1_LP N) (config_find_1_E N) N (resD (config_find_1_E N) Tryz.f127 (config_find_1_sg fun x _ => config_find_1 N x.1 x.2.1) config_find_1_pk) [] from trivial) x y).trans (config_find_1_core N x y)).trans h)
def slices_IndexFunc_api_Setting_L0T (N : Nat) (x0 : List (Str × List Str)) (x1 : Str × Unit) (c7 : Int) (k0 : Option Int) (self : Int → Option Int) (s8 : Int) : Option Int :=
  br (decide (s8 < c7))
    (bnd (geti x0 s8) fun t14 =>
    bnd (config_find_1 N t14 x1.1) fun t16 =>
    br (t16)
      (some s8)
      (self (IntKind.i64.wrap (s8 + (1 : Int)))))
    (k0)
def slices_IndexFunc_api_Setting_L0 (N : Nat) (x0 : List (Str × List Str)) (x1 : Str × Unit) (c7 : Int) (k0 : Option Int) : Nat → Int → Option Int
  | 0, _ => none
  | n + 1, s8 => slices_IndexFunc_api_Setting_L0T N x0 x1 c7 k0 (slices_IndexFunc_api_Setting_L0 N x0 x1 c7 k0 n) s8
def slices_IndexFunc_api_Setting (N : Nat) (x0 : List (Str × List Str)) (x1 : Str × Unit) : Option Int :=
  slices_IndexFunc_api_Setting_L0 N x0 x1 (x0.length : Int) (some (-1 : Int)) N (0 : Int)
abbrev slices_IndexFunc_api_Setting_sg (f : SV [.v (.sl (.pr .str (.sl .str))), .v (.clo 127 (.pr (.ptr .str) .un))] → BV [] → Option (Int)) : AF := { ps := [.v (.sl (.pr .str (.sl .str))), .v (.clo 127 (.pr (.ptr .str) .un))], bs := [], rs := [.v (.int .i64)], cs := [], R := Int, out := fun z => ((z, ()), ()), f := f }
abbrev slices_IndexFunc_api_Setting_pk : SV [.v (.int .i64)] → BV [] → Int := fun x _ => x.1
def slices_IndexFunc_api_Setting_fn (N : Nat) : FuncId → Option Tmp → Option AF := fun f _ =>
  match f with
    | 127 => some (config_find_1_sg fun x _ => config_find_1 N x.1 x.2.1)
    | _ => none
theorem slices_IndexFunc_api_Setting_fn_ok (N : Nat) : ∀ f q F, slices_IndexFunc_api_Setting_fn N f q = some F → Sound Tryz.prog GW B0G f F := by
  intro f q F h
  unfold slices_IndexFunc_api_Setting_fn at h
  split at h
  · cases h; exact config_find_1_sound N
  · cases h
def slices_IndexFunc_api_Setting_h : Nat → Hint := fun i =>
  match i with
  | 0 => ⟨[], [0, 1, 7, 8], [], [], [], []⟩
  | _ => ⟨[], [], [], [], [], []⟩
abbrev slices_IndexFunc_api_Setting_E (N : Nat) : Env := mkE slices_IndexFunc_api_Setting_h (slices_IndexFunc_api_Setting_fn N) (fun _ => false) (fun _ => false)
abbrev slices_IndexFunc_api_Setting_L0_fs : List (Nat × Sl) := [(0, .v (.sl (.pr .str (.sl .str)))), (1, .v (.clo 127 (.pr (.ptr .str) .un))), (7, .v (.int .i64)), (8, .v (.int .i64))]
abbrev slices_IndexFunc_api_Setting_L0_bs : List (Nat × Sb) := []
def slices_IndexFunc_api_Setting_L0_hd (x0 : List (Str × List Str)) (x1 : Str × Unit) (c7 : Int) (s8 : Int) : St := ⟨19, [(0, .v (.sl (.pr .str (.sl .str))) x0), (1, .v (.clo 127 (.pr (.ptr .str) .un)) x1), (7, .v (.int .i64) c7), (8, .v (.int .i64) s8)], []⟩
def slices_IndexFunc_api_Setting_L0_tl0 (_x0 : List (Str × List Str)) (_x1 : Str × Unit) (_c7 : Int) : St := ⟨19, [], []⟩
def slices_IndexFunc_api_Setting_L0_G (N : Nat) (x0 : List (Str × List Str)) (x1 : Str × Unit) (c7 : Int) (s8 : Int) (k : Ex → St → Option Int) : Option Int :=
  slices_IndexFunc_api_Setting_L0 N x0 x1 c7 (k (.exit 0) (slices_IndexFunc_api_Setting_L0_tl0 x0 x1 c7)) N s8
abbrev slices_IndexFunc_api_Setting_L0_F (N : Nat) : FV slices_IndexFunc_api_Setting_L0_fs → HV slices_IndexFunc_api_Setting_L0_bs → (Ex → St → Option Int) → Option Int := fun x _ k => slices_IndexFunc_api_Setting_L0_G N x.1 x.2.1 x.2.2.1 x.2.2.2.1 k
noncomputable def slices_IndexFunc_api_Setting_LP (N : Nat) : Nat → Code → St → (Ex → St → Option Int) → Option Int := fun i c =>
  match i with
  | 0 => (LPc 19 slices_IndexFunc_api_Setting_L0_fs slices_IndexFunc_api_Setting_L0_bs (slices_IndexFunc_api_Setting_L0_F N) (fun st k => iter (slices_IndexFunc_api_Setting_h 0) (exec (slices_IndexFunc_api_Setting_E N) N c 0) N st k))
  | i => fun st k => iter (slices_IndexFunc_api_Setting_h i) (exec (slices_IndexFunc_api_Setting_E N) N c i) N st k
theorem slices_IndexFunc_api_Setting_L0_step (N : Nat) (x0 : List (Str × List Str)) (x1 : Str × Unit) (c7 : Int) (KX : Nat → St → Option Int) (I : St → Option Int) (s8 : Int) :
    execL (slices_IndexFunc_api_Setting_LP N) (slices_IndexFunc_api_Setting_E N) (cAt (bodyOf Tryz.f126) [true, false, true, false, false]) 0 (slices_IndexFunc_api_Setting_L0_hd x0 x1 c7 s8) (roundK (slices_IndexFunc_api_Setting_h 0) I KX (resD (slices_IndexFunc_api_Setting_E N) Tryz.f126 (slices_IndexFunc_api_Setting_sg fun x _ => slices_IndexFunc_api_Setting N x.1 x.2.1) slices_IndexFunc_api_Setting_pk)) = slices_IndexFunc_api_Setting_L0T N x0 x1 c7 (KX 0 (slices_IndexFunc_api_Setting_L0_tl0 x0 x1 c7)) (fun s8 => I (slices_IndexFunc_api_Setting_L0_hd x0 x1 c7 s8)) s8 := by kernel_rfl
theorem slices_IndexFunc_api_Setting_L0_ok (N : Nat) : ∀ x y k, (∀ st, k .ret st = (resD (slices_IndexFunc_api_Setting_E N) Tryz.f126 (slices_IndexFunc_api_Setting_sg fun x _ => slices_IndexFunc_api_Setting N x.1 x.2.1) slices_IndexFunc_api_Setting_pk) st) → iter (slices_IndexFunc_api_Setting_h 0) (exec (slices_IndexFunc_api_Setting_E N) N (cAt (bodyOf Tryz.f126) [true, false, true, false, false]) 0) N ⟨19, unF slices_IndexFunc_api_Setting_L0_fs x, unH slices_IndexFunc_api_Setting_L0_bs y⟩ k = slices_IndexFunc_api_Setting_L0_F N x y k := fun x _ k hk =>
  iter_link (S := (Int) × Unit) (slices_IndexFunc_api_Setting_h 0) _ (execL (slices_IndexFunc_api_Setting_LP N) (slices_IndexFunc_api_Setting_E N) (cAt (bodyOf Tryz.f126) [true, false, true, false, false]) 0) (resD (slices_IndexFunc_api_Setting_E N) Tryz.f126 (slices_IndexFunc_api_Setting_sg fun x _ => slices_IndexFunc_api_Setting N x.1 x.2.1) slices_IndexFunc_api_Setting_pk) (fun st k hk => execL_eq _ _ N _ (cAt (bodyOf Tryz.f126) [true, false, true, false, false]) 0 (show LoopsOk (slices_IndexFunc_api_Setting_LP N) (slices_IndexFunc_api_Setting_E N) N (resD (slices_IndexFunc_api_Setting_E N) Tryz.f126 (slices_IndexFunc_api_Setting_sg fun x _ => slices_IndexFunc_api_Setting N x.1 x.2.1) slices_IndexFunc_api_Setting_pk) [] from trivial) st k hk) (fun s => slices_IndexFunc_api_Setting_L0_hd x.1 x.2.1 x.2.2.1 s.1) k hk
    (fun self s => slices_IndexFunc_api_Setting_L0T N x.1 x.2.1 x.2.2.1 (k (.exit 0) (slices_IndexFunc_api_Setting_L0_tl0 x.1 x.2.1 x.2.2.1)) (fun s8 => self (s8, ())) s.1) (fun n s => slices_IndexFunc_api_Setting_L0 N x.1 x.2.1 x.2.2.1 (k (.exit 0) (slices_IndexFunc_api_Setting_L0_tl0 x.1 x.2.1 x.2.2.1)) n s.1) (fun _ => rfl) (fun _ _ => rfl)
    (fun I s => slices_IndexFunc_api_Setting_L0_step N x.1 x.2.1 x.2.2.1 (fun j => k (.exit j)) I s.1) N (x.2.2.2.1, ())
theorem slices_IndexFunc_api_Setting_lp0 (N : Nat) : ∀ st k, (∀ st, k .ret st = (resD (slices_IndexFunc_api_Setting_E N) Tryz.f126 (slices_IndexFunc_api_Setting_sg fun x _ => slices_IndexFunc_api_Setting N x.1 x.2.1) slices_IndexFunc_api_Setting_pk) st) → slices_IndexFunc_api_Setting_LP N 0 (cAt (bodyOf Tryz.f126) [true, false, true, false, false]) st k = iter (Env.hint (slices_IndexFunc_api_Setting_E N) 0) (exec (slices_IndexFunc_api_Setting_E N) N (cAt (bodyOf Tryz.f126) [true, false, true, false, false]) 0) N st k := fun st k hk => LPc_eq 19 slices_IndexFunc_api_Setting_L0_fs slices_IndexFunc_api_Setting_L0_bs _ _ (resD (slices_IndexFunc_api_Setting_E N) Tryz.f126 (slices_IndexFunc_api_Setting_sg fun x _ => slices_IndexFunc_api_Setting N x.1 x.2.1) slices_IndexFunc_api_Setting_pk) (slices_IndexFunc_api_Setting_L0_ok N) _ st k hk (rfl)
theorem slices_IndexFunc_api_Setting_core (N : Nat) (x : SV [.v (.sl (.pr .str (.sl .str))), .v (.clo 127 (.pr (.ptr .str) .un))]) (y : BV []) : runL (slices_IndexFunc_api_Setting_E N) Tryz.f126 (slices_IndexFunc_api_Setting_sg fun x _ => slices_IndexFunc_api_Setting N x.1 x.2.1) slices_IndexFunc_api_Setting_pk (slices_IndexFunc_api_Setting_LP N) x y = slices_IndexFunc_api_Setting N x.1 x.2.1 := by kernel_rfl
theorem slices_IndexFunc_api_Setting_sound (N : Nat) : Sound Tryz.prog GW B0G 126 (slices_IndexFunc_api_Setting_sg fun x _ => slices_IndexFunc_api_Setting N x.1 x.2.1) :=
  runD_sound (mkE_ok slices_IndexFunc_api_Setting_h (slices_IndexFunc_api_Setting_fn N) _ _ (slices_IndexFunc_api_Setting_fn_ok N)) Tryz.func126 rfl Tryz.call126 (slices_IndexFunc_api_Setting_sg fun x _ => slices_IndexFunc_api_Setting N x.1 x.2.1) slices_IndexFunc_api_Setting_pk (fun _ _ => rfl) N (fun x y _ h => ((runL_eq (slices_IndexFunc_api_Setting_E N) N Tryz.f126 (slices_IndexFunc_api_Setting_sg fun x _ => slices_IndexFunc_api_Setting N x.1 x.2.1) slices_IndexFunc_api_Setting_pk (slices_IndexFunc_api_Setting_LP N) (show LoopsOk (slices_IndexFunc_api_Setting_LP N) (slices_IndexFunc_api_Setting_E N) N (resD (slices_IndexFunc_api_Setting_E N) Tryz.f126 (slices_IndexFunc_api_Setting_sg fun x _ => slices_IndexFunc_api_Setting N x.1 x.2.1) slices_IndexFunc_api_Setting_pk) [(0, (cAt (bodyOf Tryz.f126) [true, false, true, false, false]))] from ⟨slices_IndexFunc_api_Setting_lp0 N, trivial⟩) x y).trans (slices_IndexFunc_api_Setting_core N x y)).trans h)
def config_find (N : Nat) (x0 : List (Str × List Str)) (x1 : Str) : Option Int :=
  bnd (slices_IndexFunc_api_Setting N x0 (x1, ())) fun t7 =>
  some t7
abbrev config_find_sg (f : SV [.v (.sl (.pr .str (.sl .str))), .v .str] → BV [] → Option (Int)) : AF := { ps := [.v (.sl (.pr .str (.sl .str))), .v .str], bs := [], rs := [.v (.int .i64)], cs := [], R := Int, out := fun z => ((z, ()), ()), f := f }
abbrev config_find_pk : SV [.v (.int .i64)] → BV [] → Int := fun x _ => x.1
def config_find_fn (N : Nat) : FuncId → Option Tmp → Option AF := fun f _ =>
  match f with
    | 126 => some (slices_IndexFunc_api_Setting_sg fun x _ => slices_IndexFunc_api_Setting N x.1 x.2.1)
    | 127 => some (noneAF [.v (.ptr .str)])
    | _ => none
theorem config_find_fn_ok (N : Nat) : ∀ f q F, config_find_fn N f q = some F → Sound Tryz.prog GW B0G f F := by
  intro f q F h
  unfold config_find_fn at h
  split at h
  · cases h; exact slices_IndexFunc_api_Setting_sound N
  · cases h; exact noneAF_sound Tryz.call127 _
  · cases h
def config_find_h : Nat → Hint := fun i =>
  match i with
  | _ => ⟨[], [], [], [], [], []⟩
abbrev config_find_E (N : Nat) : Env := mkE config_find_h (config_find_fn N) (fun _ => false) (fun _ => false)
noncomputable def config_find_LP (N : Nat) : Nat → Code → St → (Ex → St → Option Int) → Option Int := fun i c =>
  match i with
  | i => fun st k => iter (config_find_h i) (exec (config_find_E N) N c i) N st k
theorem config_find_core (N : Nat) (x : SV [.v (.sl (.pr .str (.sl .str))), .v .str]) (y : BV []) : runL (config_find_E N) Tryz.f73 (config_find_sg fun x _ => config_find N x.1 x.2.1) config_find_pk (config_find_LP N) x y = config_find N x.1 x.2.1 := by kernel_rfl
theorem config_find_sound (N : Nat) : Sound Tryz.prog GW B0G 73 (config_find_sg fun x _ => config_find N x.1 x.2.1) :=
  runD_sound (mkE_ok config_find_h (config_find_fn N) _ _ (config_find_fn_ok N)) Tryz.func73 rfl Tryz.call73 (config_find_sg fun x _ => config_find N x.1 x.2.1) config_find_pk (fun _ _ => rfl) N (fun x y _ h => ((runL_eq (config_find_E N) N Tryz.f73 (config_find_sg fun x _ => config_find N x.1 x.2.1) config_find_pk (config_find_LP N) (show LoopsOk (config_find_LP N) (config_find_E N) N (resD (config_find_E N) Tryz.f73 (config_find_sg fun x _ => config_find N x.1 x.2.1) config_find_pk) [] from trivial) x y).trans (config_find_core N x y)).trans h)
def config_checkSet_L0T (N : Nat) (x0 : List (Str × List Str)) (x1 : List (Str × Str)) (x2 : Bool) (c10 : List (Str × Str)) (c11 : Int) (k0 : Option Int) (self : Int → Option Int) (s12 : Int) : Option Int :=
  br (decide (s12 < c11))
    (bnd (geti c10 s12) fun t15 =>
    bnd (config_find N x0 t15.1) fun t20 =>
    br (decide (t20 < (0 : Int)))
      (some (5 : Int))
      (bnd (geti x0 t20) fun t27 =>
      bnd (slices_Contains_string_string N t27.2 t15.2) fun t32 =>
      br (!t32)
        (some (1 : Int))
        (br (x2)
          (bnd (geti x0 t20) fun t41 =>
          bnd (geti t41.2 (0 : Int)) fun t44 =>
          br (t15.2 == t44)
            (some (3 : Int))
            (br (decide (s12 > (0 : Int)))
              (bnd (geti x1 (IntKind.i64.wrap (s12 - (1 : Int)))) fun t57 =>
              br (Op.bytesLess t15.1 t57.1 || t15.1 == t57.1)
                (some (8 : Int))
                (self (IntKind.i64.wrap (s12 + (1 : Int)))))
              (self (IntKind.i64.wrap (s12 + (1 : Int))))))
          (br (decide (s12 > (0 : Int)))
            (bnd (geti x1 (IntKind.i64.wrap (s12 - (1 : Int)))) fun t57_1 =>
            br (Op.bytesLess t15.1 t57_1.1 || t15.1 == t57_1.1)
              (some (8 : Int))
              (self (IntKind.i64.wrap (s12 + (1 : Int)))))
            (self (IntKind.i64.wrap (s12 + (1 : Int))))))))
    (k0)
def config_checkSet_L0 (N : Nat) (x0 : List (Str × List Str)) (x1 : List (Str × Str)) (x2 : Bool) (c10 : List (Str × Str)) (c11 : Int) (k0 : Option Int) : Nat → Int → Option Int
  | 0, _ => none
  | n + 1, s12 => config_checkSet_L0T N x0 x1 x2 c10 c11 k0 (config_checkSet_L0 N x0 x1 x2 c10 c11 k0 n) s12
def config_checkSet (N : Nat) (x0 : List (Str × List Str)) (x1 : List (Str × Str)) (x2 : Bool) : Option Int :=
  config_checkSet_L0 N x0 x1 x2 x1 (x1.length : Int) (some (0 : Int)) N (0 : Int)
abbrev config_checkSet_sg (f : SV [.v (.sl (.pr .str (.sl .str))), .v (.sl (.pr .str .str)), .v .bool] → BV [] → Option (Int)) : AF := { ps := [.v (.sl (.pr .str (.sl .str))), .v (.sl (.pr .str .str)), .v .bool], bs := [], rs := [.v (.int .i64)], cs := [], R := Int, out := fun z => ((z, ()), ()), f := f }
abbrev config_checkSet_pk : SV [.v (.int .i64)] → BV [] → Int := fun x _ => x.1
def config_checkSet_fn (N : Nat) : FuncId → Option Tmp → Option AF := fun f _ =>
  match f with
    | 56 => some (slices_Contains_string_string_sg fun x _ => slices_Contains_string_string N x.1 x.2.1)
    | 73 => some (config_find_sg fun x _ => config_find N x.1 x.2.1)
    | _ => none
theorem config_checkSet_fn_ok (N : Nat) : ∀ f q F, config_checkSet_fn N f q = some F → Sound Tryz.prog GW B0G f F := by
  intro f q F h
  unfold config_checkSet_fn at h
  split at h
  · cases h; exact slices_Contains_string_string_sound N
  · cases h; exact config_find_sound N
  · cases h
def config_checkSet_h : Nat → Hint := fun i =>
  match i with
  | 0 => ⟨[], [0, 1, 2, 10, 11, 12], [], [], [], []⟩
  | _ => ⟨[], [], [], [], [], []⟩
abbrev config_checkSet_E (N : Nat) : Env := mkE config_checkSet_h (config_checkSet_fn N) (fun _ => false) (fun _ => false)
abbrev config_checkSet_L0_fs : List (Nat × Sl) := [(0, .v (.sl (.pr .str (.sl .str)))), (1, .v (.sl (.pr .str .str))), (2, .v .bool), (10, .v (.sl (.pr .str .str))), (11, .v (.int .i64)), (12, .v (.int .i64))]
abbrev config_checkSet_L0_bs : List (Nat × Sb) := []
def config_checkSet_L0_hd (x0 : List (Str × List Str)) (x1 : List (Str × Str)) (x2 : Bool) (c10 : List (Str × Str)) (c11 : Int) (s12 : Int) : St := ⟨63, [(0, .v (.sl (.pr .str (.sl .str))) x0), (1, .v (.sl (.pr .str .str)) x1), (2, .v .bool x2), (10, .v (.sl (.pr .str .str)) c10), (11, .v (.int .i64) c11), (12, .v (.int .i64) s12)], []⟩
def config_checkSet_L0_tl0 (_x0 : List (Str × List Str)) (_x1 : List (Str × Str)) (_x2 : Bool) (_c10 : List (Str × Str)) (_c11 : Int) : St := ⟨63, [], []⟩
def config_checkSet_L0_G (N : Nat) (x0 : List (Str × List Str)) (x1 : List (Str × Str)) (x2 : Bool) (c10 : List (Str × Str)) (c11 : Int) (s12 : Int) (k : Ex → St → Option Int) : Option Int :=
  config_checkSet_L0 N x0 x1 x2 c10 c11 (k (.exit 0) (config_checkSet_L0_tl0 x0 x1 x2 c10 c11)) N s12
abbrev config_checkSet_L0_F (N : Nat) : FV config_checkSet_L0_fs → HV config_checkSet_L0_bs → (Ex → St → Option Int) → Option Int := fun x _ k => config_checkSet_L0_G N x.1 x.2.1 x.2.2.1 x.2.2.2.1 x.2.2.2.2.1 x.2.2.2.2.2.1 k
noncomputable def config_checkSet_LP (N : Nat) : Nat → Code → St → (Ex → St → Option Int) → Option Int := fun i c =>
  match i with
  | 0 => (LPc 63 config_checkSet_L0_fs config_checkSet_L0_bs (config_checkSet_L0_F N) (fun st k => iter (config_checkSet_h 0) (exec (config_checkSet_E N) N c 0) N st k))
  | i => fun st k => iter (config_checkSet_h i) (exec (config_checkSet_E N) N c i) N st k
theorem config_checkSet_L0_step (N : Nat) (x0 : List (Str × List Str)) (x1 : List (Str × Str)) (x2 : Bool) (c10 : List (Str × Str)) (c11 : Int) (KX : Nat → St → Option Int) (I : St → Option Int) (s12 : Int) :
    execL (config_checkSet_LP N) (config_checkSet_E N) (cAt (bodyOf Tryz.f44) [true, false, true, false, false]) 0 (config_checkSet_L0_hd x0 x1 x2 c10 c11 s12) (roundK (config_checkSet_h 0) I KX (resD (config_checkSet_E N) Tryz.f44 (config_checkSet_sg fun x _ => config_checkSet N x.1 x.2.1 x.2.2.1) config_checkSet_pk)) = config_checkSet_L0T N x0 x1 x2 c10 c11 (KX 0 (config_checkSet_L0_tl0 x0 x1 x2 c10 c11)) (fun s12 => I (config_checkSet_L0_hd x0 x1 x2 c10 c11 s12)) s12 := by kernel_rfl
theorem config_checkSet_L0_ok (N : Nat) : ∀ x y k, (∀ st, k .ret st = (resD (config_checkSet_E N) Tryz.f44 (config_checkSet_sg fun x _ => config_checkSet N x.1 x.2.1 x.2.2.1) config_checkSet_pk) st) → iter (config_checkSet_h 0) (exec (config_checkSet_E N) N (cAt (bodyOf Tryz.f44) [true, false, true, false, false]) 0) N ⟨63, unF config_checkSet_L0_fs x, unH config_checkSet_L0_bs y⟩ k = config_checkSet_L0_F N x y k := fun x _ k hk =>
  iter_link (S := (Int) × Unit) (config_checkSet_h 0) _ (execL (config_checkSet_LP N) (config_checkSet_E N) (cAt (bodyOf Tryz.f44) [true, false, true, false, false]) 0) (resD (config_checkSet_E N) Tryz.f44 (config_checkSet_sg fun x _ => config_checkSet N x.1 x.2.1 x.2.2.1) config_checkSet_pk) (fun st k hk => execL_eq _ _ N _ (cAt (bodyOf Tryz.f44) [true, false, true, false, false]) 0 (show LoopsOk (config_checkSet_LP N) (config_checkSet_E N) N (resD (config_checkSet_E N) Tryz.f44 (config_checkSet_sg fun x _ => config_checkSet N x.1 x.2.1 x.2.2.1) config_checkSet_pk) [] from trivial) st k hk) (fun s => config_checkSet_L0_hd x.1 x.2.1 x.2.2.1 x.2.2.2.1 x.2.2.2.2.1 s.1) k hk
    (fun self s => config_checkSet_L0T N x.1 x.2.1 x.2.2.1 x.2.2.2.1 x.2.2.2.2.1 (k (.exit 0) (config_checkSet_L0_tl0 x.1 x.2.1 x.2.2.1 x.2.2.2.1 x.2.2.2.2.1)) (fun s12 => self (s12, ())) s.1) (fun n s => config_checkSet_L0 N x.1 x.2.1 x.2.2.1 x.2.2.2.1 x.2.2.2.2.1 (k (.exit 0) (config_checkSet_L0_tl0 x.1 x.2.1 x.2.2.1 x.2.2.2.1 x.2.2.2.2.1)) n s.1) (fun _ => rfl) (fun _ _ => rfl)
    (fun I s => config_checkSet_L0_step N x.1 x.2.1 x.2.2.1 x.2.2.2.1 x.2.2.2.2.1 (fun j => k (.exit j)) I s.1) N (x.2.2.2.2.2.1, ())
theorem config_checkSet_lp0 (N : Nat) : ∀ st k, (∀ st, k .ret st = (resD (config_checkSet_E N) Tryz.f44 (config_checkSet_sg fun x _ => config_checkSet N x.1 x.2.1 x.2.2.1) config_checkSet_pk) st) → config_checkSet_LP N 0 (cAt (bodyOf Tryz.f44) [true, false, true, false, false]) st k = iter (Env.hint (config_checkSet_E N) 0) (exec (config_checkSet_E N) N (cAt (bodyOf Tryz.f44) [true, false, true, false, false]) 0) N st k := fun st k hk => LPc_eq 63 config_checkSet_L0_fs config_checkSet_L0_bs _ _ (resD (config_checkSet_E N) Tryz.f44 (config_checkSet_sg fun x _ => config_checkSet N x.1 x.2.1 x.2.2.1) config_checkSet_pk) (config_checkSet_L0_ok N) _ st k hk (rfl)
theorem config_checkSet_core (N : Nat) (x : SV [.v (.sl (.pr .str (.sl .str))), .v (.sl (.pr .str .str)), .v .bool]) (y : BV []) : runL (config_checkSet_E N) Tryz.f44 (config_checkSet_sg fun x _ => config_checkSet N x.1 x.2.1 x.2.2.1) config_checkSet_pk (config_checkSet_LP N) x y = config_checkSet N x.1 x.2.1 x.2.2.1 := by kernel_rfl
theorem config_checkSet_sound (N : Nat) : Sound Tryz.prog GW B0G 44 (config_checkSet_sg fun x _ => config_checkSet N x.1 x.2.1 x.2.2.1) :=
  runD_sound (mkE_ok config_checkSet_h (config_checkSet_fn N) _ _ (config_checkSet_fn_ok N)) Tryz.func44 rfl Tryz.call44 (config_checkSet_sg fun x _ => config_checkSet N x.1 x.2.1 x.2.2.1) config_checkSet_pk (fun _ _ => rfl) N (fun x y _ h => ((runL_eq (config_checkSet_E N) N Tryz.f44 (config_checkSet_sg fun x _ => config_checkSet N x.1 x.2.1 x.2.2.1) config_checkSet_pk (config_checkSet_LP N) (show LoopsOk (config_checkSet_LP N) (config_checkSet_E N) N (resD (config_checkSet_E N) Tryz.f44 (config_checkSet_sg fun x _ => config_checkSet N x.1 x.2.1 x.2.2.1) config_checkSet_pk) [(0, (cAt (bodyOf Tryz.f44) [true, false, true, false, false]))] from ⟨config_checkSet_lp0 N, trivial⟩) x y).trans (config_checkSet_core N x y)).trans h)
def config_CheckConfig (N : Nat) (x0 : List (Str × List Str)) (x1 : List (Str × Str)) : Option Int :=
  bnd (config_CheckSettings N x0) fun t7 =>
  br (t7 != (0 : Int))
    (some t7)
    (bnd (config_checkSet N x0 x1 true) fun t13 =>
    some t13)
abbrev config_CheckConfig_sg (f : SV [.v (.sl (.pr .str (.sl .str))), .v (.sl (.pr .str .str))] → BV [] → Option (Int)) : AF := { ps := [.v (.sl (.pr .str (.sl .str))), .v (.sl (.pr .str .str))], bs := [], rs := [.v (.int .i64)], cs := [], R := Int, out := fun z => ((z, ()), ()), f := f }
abbrev config_CheckConfig_pk : SV [.v (.int .i64)] → BV [] → Int := fun x _ => x.1
def config_CheckConfig_fn (N : Nat) : FuncId → Option Tmp → Option AF := fun f _ =>
  match f with
    | 42 => some (config_CheckSettings_sg fun x _ => config_CheckSettings N x.1)
    | 44 => some (config_checkSet_sg fun x _ => config_checkSet N x.1 x.2.1 x.2.2.1)
    | _ => none
theorem config_CheckConfig_fn_ok (N : Nat) : ∀ f q F, config_CheckConfig_fn N f q = some F → Sound Tryz.prog GW B0G f F := by
  intro f q F h
  unfold config_CheckConfig_fn at h
  split at h
  · cases h; exact config_CheckSettings_sound N
  · cases h; exact config_checkSet_sound N
  · cases h
def config_CheckConfig_h : Nat → Hint := fun i =>
  match i with
  | _ => ⟨[], [], [], [], [], []⟩
abbrev config_CheckConfig_E (N : Nat) : Env := mkE config_CheckConfig_h (config_CheckConfig_fn N) (fun _ => false) (fun _ => false)
noncomputable def config_CheckConfig_LP (N : Nat) : Nat → Code → St → (Ex → St → Option Int) → Option Int := fun i c =>
  match i with
  | i => fun st k => iter (config_CheckConfig_h i) (exec (config_CheckConfig_E N) N c i) N st k
theorem config_CheckConfig_core (N : Nat) (x : SV [.v (.sl (.pr .str (.sl .str))), .v (.sl (.pr .str .str))]) (y : BV []) : runL (config_CheckConfig_E N) Tryz.f29 (config_CheckConfig_sg fun x _ => config_CheckConfig N x.1 x.2.1) config_CheckConfig_pk (config_CheckConfig_LP N) x y = config_CheckConfig N x.1 x.2.1 := by kernel_rfl
theorem config_CheckConfig_sound (N : Nat) : Sound Tryz.prog GW B0G 29 (config_CheckConfig_sg fun x _ => config_CheckConfig N x.1 x.2.1) :=
  runD_sound (mkE_ok config_CheckConfig_h (config_CheckConfig_fn N) _ _ (config_CheckConfig_fn_ok N)) Tryz.func29 rfl Tryz.call29 (config_CheckConfig_sg fun x _ => config_CheckConfig N x.1 x.2.1) config_CheckConfig_pk (fun _ _ => rfl) N (fun x y _ h => ((runL_eq (config_CheckConfig_E N) N Tryz.f29 (config_CheckConfig_sg fun x _ => config_CheckConfig N x.1 x.2.1) config_CheckConfig_pk (config_CheckConfig_LP N) (show LoopsOk (config_CheckConfig_LP N) (config_CheckConfig_E N) N (resD (config_CheckConfig_E N) Tryz.f29 (config_CheckConfig_sg fun x _ => config_CheckConfig N x.1 x.2.1) config_CheckConfig_pk) [] from trivial) x y).trans (config_CheckConfig_core N x y)).trans h)
def config_pairOf_L0T (_N : Nat) (x1 : Str) (x0 : List (Str × Str)) (c9 : Int) (k0 : Option (Str × Bool)) (self : Int → Option (Str × Bool)) (s10 : Int) : Option (Str × Bool) :=
  br (decide (s10 < c9))
    (bnd (geti x0 s10) fun t12 =>
    br (t12.1 == x1)
      (some (t12.2, true))
      (self (IntKind.i64.wrap (s10 + (1 : Int)))))
    (k0)
def config_pairOf_L0 (N : Nat) (x1 : Str) (x0 : List (Str × Str)) (c9 : Int) (k0 : Option (Str × Bool)) : Nat → Int → Option (Str × Bool)
  | 0, _ => none
  | n + 1, s10 => config_pairOf_L0T N x1 x0 c9 k0 (config_pairOf_L0 N x1 x0 c9 k0 n) s10
def config_pairOf (N : Nat) (x0 : List (Str × Str)) (x1 : Str) : Option (Str × Bool) :=
  config_pairOf_L0 N x1 x0 (x0.length : Int) (some (([] : Str), false)) N (0 : Int)
abbrev config_pairOf_sg (f : SV [.v (.sl (.pr .str .str)), .v .str] → BV [] → Option (Str × Bool)) : AF := { ps := [.v (.sl (.pr .str .str)), .v .str], bs := [], rs := [.v .str, .v .bool], cs := [], R := Str × Bool, out := fun z => ((z.1, z.2, ()), ()), f := f }
abbrev config_pairOf_pk : SV [.v .str, .v .bool] → BV [] → (Str × Bool) := fun x _ => (x.1, x.2.1)
def config_pairOf_fn (_N : Nat) : FuncId → Option Tmp → Option AF := fun f _ =>
  match f with
    | _ => none
theorem config_pairOf_fn_ok (N : Nat) : ∀ f q F, config_pairOf_fn N f q = some F → Sound Tryz.prog GW B0G f F := by
  intro f q F h
  unfold config_pairOf_fn at h
  split at h
  · cases h
def config_pairOf_h : Nat → Hint := fun i =>
  match i with
  | 0 => ⟨[], [1, 8, 9, 10], [], [], [], []⟩
  | _ => ⟨[], [], [], [], [], []⟩
abbrev config_pairOf_E (N : Nat) : Env := mkE config_pairOf_h (config_pairOf_fn N) (fun _ => false) (fun _ => false)
abbrev config_pairOf_L0_fs : List (Nat × Sl) := [(1, .v .str), (8, .v (.sl (.pr .str .str))), (9, .v (.int .i64)), (10, .v (.int .i64))]
abbrev config_pairOf_L0_bs : List (Nat × Sb) := []
def config_pairOf_L0_hd (x1 : Str) (x0 : List (Str × Str)) (c9 : Int) (s10 : Int) : St := ⟨21, [(1, .v .str x1), (8, .v (.sl (.pr .str .str)) x0), (9, .v (.int .i64) c9), (10, .v (.int .i64) s10)], []⟩
def config_pairOf_L0_tl0 (_x1 : Str) (_x0 : List (Str × Str)) (_c9 : Int) : St := ⟨21, [], []⟩
def config_pairOf_L0_G (N : Nat) (x1 : Str) (x0 : List (Str × Str)) (c9 : Int) (s10 : Int) (k : Ex → St → Option (Str × Bool)) : Option (Str × Bool) :=
  config_pairOf_L0 N x1 x0 c9 (k (.exit 0) (config_pairOf_L0_tl0 x1 x0 c9)) N s10
abbrev config_pairOf_L0_F (N : Nat) : FV config_pairOf_L0_fs → HV config_pairOf_L0_bs → (Ex → St → Option (Str × Bool)) → Option (Str × Bool) := fun x _ k => config_pairOf_L0_G N x.1 x.2.1 x.2.2.1 x.2.2.2.1 k
noncomputable def config_pairOf_LP (N : Nat) : Nat → Code → St → (Ex → St → Option (Str × Bool)) → Option (Str × Bool) := fun i c =>
  match i with
  | 0 => (LPc 21 config_pairOf_L0_fs config_pairOf_L0_bs (config_pairOf_L0_F N) (fun st k => iter (config_pairOf_h 0) (exec (config_pairOf_E N) N c 0) N st k))
  | i => fun st k => iter (config_pairOf_h i) (exec (config_pairOf_E N) N c i) N st k
theorem config_pairOf_L0_step (N : Nat) (x1 : Str) (x0 : List (Str × Str)) (c9 : Int) (KX : Nat → St → Option (Str × Bool)) (I : St → Option (Str × Bool)) (s10 : Int) :
    execL (config_pairOf_LP N) (config_pairOf_E N) (cAt (bodyOf Tryz.f48) [true, false, true, false, false]) 0 (config_pairOf_L0_hd x1 x0 c9 s10) (roundK (config_pairOf_h 0) I KX (resD (config_pairOf_E N) Tryz.f48 (config_pairOf_sg fun x _ => config_pairOf N x.1 x.2.1) config_pairOf_pk)) = config_pairOf_L0T N x1 x0 c9 (KX 0 (config_pairOf_L0_tl0 x1 x0 c9)) (fun s10 => I (config_pairOf_L0_hd x1 x0 c9 s10)) s10 := by kernel_rfl
theorem config_pairOf_L0_ok (N : Nat) : ∀ x y k, (∀ st, k .ret st = (resD (config_pairOf_E N) Tryz.f48 (config_pairOf_sg fun x _ => config_pairOf N x.1 x.2.1) config_pairOf_pk) st) → iter (config_pairOf_h 0) (exec (config_pairOf_E N) N (cAt (bodyOf Tryz.f48) [true, false, true, false, false]) 0) N ⟨21, unF config_pairOf_L0_fs x, unH config_pairOf_L0_bs y⟩ k = config_pairOf_L0_F N x y k := fun x _ k hk =>
  iter_link (S := (Int) × Unit) (config_pairOf_h 0) _ (execL (config_pairOf_LP N) (config_pairOf_E N) (cAt (bodyOf Tryz.f48) [true, false, true, false, false]) 0) (resD (config_pairOf_E N) Tryz.f48 (config_pairOf_sg fun x _ => config_pairOf N x.1 x.2.1) config_pairOf_pk) (fun st k hk => execL_eq _ _ N _ (cAt (bodyOf Tryz.f48) [true, false, true, false, false]) 0 (show LoopsOk (config_pairOf_LP N) (config_pairOf_E N) N (resD (config_pairOf_E N) Tryz.f48 (config_pairOf_sg fun x _ => config_pairOf N x.1 x.2.1) config_pairOf_pk) [] from trivial) st k hk) (fun s => config_pairOf_L0_hd x.1 x.2.1 x.2.2.1 s.1) k hk
    (fun self s => config_pairOf_L0T N x.1 x.2.1 x.2.2.1 (k (.exit 0) (config_pairOf_L0_tl0 x.1 x.2.1 x.2.2.1)) (fun s10 => self (s10, ())) s.1) (fun n s => config_pairOf_L0 N x.1 x.2.1 x.2.2.1 (k (.exit 0) (config_pairOf_L0_tl0 x.1 x.2.1 x.2.2.1)) n s.1) (fun _ => rfl) (fun _ _ => rfl)
    (fun I s => config_pairOf_L0_step N x.1 x.2.1 x.2.2.1 (fun j => k (.exit j)) I s.1) N (x.2.2.2.1, ())
theorem config_pairOf_lp0 (N : Nat) : ∀ st k, (∀ st, k .ret st = (resD (config_pairOf_E N) Tryz.f48 (config_pairOf_sg fun x _ => config_pairOf N x.1 x.2.1) config_pairOf_pk) st) → config_pairOf_LP N 0 (cAt (bodyOf Tryz.f48) [true, false, true, false, false]) st k = iter (Env.hint (config_pairOf_E N) 0) (exec (config_pairOf_E N) N (cAt (bodyOf Tryz.f48) [true, false, true, false, false]) 0) N st k := fun st k hk => LPc_eq 21 config_pairOf_L0_fs config_pairOf_L0_bs _ _ (resD (config_pairOf_E N) Tryz.f48 (config_pairOf_sg fun x _ => config_pairOf N x.1 x.2.1) config_pairOf_pk) (config_pairOf_L0_ok N) _ st k hk (rfl)
theorem config_pairOf_core (N : Nat) (x : SV [.v (.sl (.pr .str .str)), .v .str]) (y : BV []) : runL (config_pairOf_E N) Tryz.f48 (config_pairOf_sg fun x _ => config_pairOf N x.1 x.2.1) config_pairOf_pk (config_pairOf_LP N) x y = config_pairOf N x.1 x.2.1 := by kernel_rfl
theorem config_pairOf_sound (N : Nat) : Sound Tryz.prog GW B0G 48 (config_pairOf_sg fun x _ => config_pairOf N x.1 x.2.1) :=
  runD_sound (mkE_ok config_pairOf_h (config_pairOf_fn N) _ _ (config_pairOf_fn_ok N)) Tryz.func48 rfl Tryz.call48 (config_pairOf_sg fun x _ => config_pairOf N x.1 x.2.1) config_pairOf_pk (fun _ _ => rfl) N (fun x y _ h => ((runL_eq (config_pairOf_E N) N Tryz.f48 (config_pairOf_sg fun x _ => config_pairOf N x.1 x.2.1) config_pairOf_pk (config_pairOf_LP N) (show LoopsOk (config_pairOf_LP N) (config_pairOf_E N) N (resD (config_pairOf_E N) Tryz.f48 (config_pairOf_sg fun x _ => config_pairOf N x.1 x.2.1) config_pairOf_pk) [(0, (cAt (bodyOf Tryz.f48) [true, false, true, false, false]))] from ⟨config_pairOf_lp0 N, trivial⟩) x y).trans (config_pairOf_core N x y)).trans h)
def ref3_within (_N : Nat) (x0 : Int) (x1 : Int) (x2 : Int) : Option Bool :=
  br (decide (x1 ≤ x0))
    (some (decide (x0 ≤ x2)))
    (some false)
abbrev ref3_within_sg (f : SV [.v (.int .i64), .v (.int .i64), .v (.int .i64)] → BV [] → Option (Bool)) : AF := { ps := [.v (.int .i64), .v (.int .i64), .v (.int .i64)], bs := [], rs := [.v .bool], cs := [], R := Bool, out := fun z => ((z, ()), ()), f := f }
abbrev ref3_within_pk : SV [.v .bool] → BV [] → Bool := fun x _ => x.1
def ref3_within_fn (_N : Nat) : FuncId → Option Tmp → Option AF := fun f _ =>
  match f with
    | _ => none
theorem ref3_within_fn_ok (N : Nat) : ∀ f q F, ref3_within_fn N f q = some F → Sound Tryz.prog GW B0G f F := by
  intro f q F h
  unfold ref3_within_fn at h
  split at h
  · cases h
def ref3_within_h : Nat → Hint := fun i =>
  match i with
  | _ => ⟨[], [], [], [], [], []⟩
abbrev ref3_within_E (N : Nat) : Env := mkE ref3_within_h (ref3_within_fn N) (fun _ => false) (fun _ => false)
noncomputable def ref3_within_LP (N : Nat) : Nat → Code → St → (Ex → St → Option Bool) → Option Bool := fun i c =>
  match i with
  | i => fun st k => iter (ref3_within_h i) (exec (ref3_within_E N) N c i) N st k
theorem ref3_within_core (N : Nat) (x : SV [.v (.int .i64), .v (.int .i64), .v (.int .i64)]) (y : BV []) : runL (ref3_within_E N) Tryz.f104 (ref3_within_sg fun x _ => ref3_within N x.1 x.2.1 x.2.2.1) ref3_within_pk (ref3_within_LP N) x y = ref3_within N x.1 x.2.1 x.2.2.1 := by kernel_rfl
theorem ref3_within_sound (N : Nat) : Sound Tryz.prog GW B0G 104 (ref3_within_sg fun x _ => ref3_within N x.1 x.2.1 x.2.2.1) :=
  runD_sound (mkE_ok ref3_within_h (ref3_within_fn N) _ _ (ref3_within_fn_ok N)) Tryz.func104 rfl Tryz.call104 (ref3_within_sg fun x _ => ref3_within N x.1 x.2.1 x.2.2.1) ref3_within_pk (fun _ _ => rfl) N (fun x y _ h => ((runL_eq (ref3_within_E N) N Tryz.f104 (ref3_within_sg fun x _ => ref3_within N x.1 x.2.1 x.2.2.1) ref3_within_pk (ref3_within_LP N) (show LoopsOk (ref3_within_LP N) (ref3_within_E N) N (resD (ref3_within_E N) Tryz.f104 (ref3_within_sg fun x _ => ref3_within N x.1 x.2.1 x.2.2.1) ref3_within_pk) [] from trivial) x y).trans (ref3_within_core N x y)).trans h)
def ref3_IsWord_L0T (_N : Nat) (x0 : Str) (c20 : Int) (k0 : Option Bool) (self : Int → Option Bool) (s21 : Int) : Option Bool :=
  br (decide (s21 < c20))
    (bnd (geti x0 s21) fun t26 =>
    br (decide (t26 < (97 : UInt8)))
      (br (decide (t26 < (48 : UInt8)))
        (br (t26 != (45 : UInt8))
          (br (t26 != (95 : UInt8))
            (some false)
            (self (IntKind.i64.wrap (s21 + (1 : Int)))))
          (self (IntKind.i64.wrap (s21 + (1 : Int)))))
        (br (decide (t26 > (57 : UInt8)))
          (br (t26 != (45 : UInt8))
            (br (t26 != (95 : UInt8))
              (some false)
              (self (IntKind.i64.wrap (s21 + (1 : Int)))))
            (self (IntKind.i64.wrap (s21 + (1 : Int)))))
          (self (IntKind.i64.wrap (s21 + (1 : Int))))))
      (br (decide (t26 > (122 : UInt8)))
        (br (decide (t26 < (48 : UInt8)))
          (br (t26 != (45 : UInt8))
            (br (t26 != (95 : UInt8))
              (some false)
              (self (IntKind.i64.wrap (s21 + (1 : Int)))))
            (self (IntKind.i64.wrap (s21 + (1 : Int)))))
          (br (decide (t26 > (57 : UInt8)))
            (br (t26 != (45 : UInt8))
              (br (t26 != (95 : UInt8))
                (some false)
                (self (IntKind.i64.wrap (s21 + (1 : Int)))))
              (self (IntKind.i64.wrap (s21 + (1 : Int)))))
            (self (IntKind.i64.wrap (s21 + (1 : Int))))))
        (self (IntKind.i64.wrap (s21 + (1 : Int))))))
    (k0)
def ref3_IsWord_L0 (N : Nat) (x0 : Str) (c20 : Int) (k0 : Option Bool) : Nat → Int → Option Bool
  | 0, _ => none
  | n + 1, s21 => ref3_IsWord_L0T N x0 c20 k0 (ref3_IsWord_L0 N x0 c20 k0 n) s21
def ref3_IsWord (N : Nat) (x0 : Str) : Option Bool :=
  bnd (ref3_within N (x0.length : Int) (1 : Int) (40 : Int)) fun t7 =>
  br (!t7)
    (some false)
    (bnd (geti x0 (0 : Int)) fun t11 =>
    br (decide (t11 < (97 : UInt8)))
      (some false)
      (bnd (geti x0 (0 : Int)) fun t16 =>
      br (decide (t16 > (122 : UInt8)))
        (some false)
        (ref3_IsWord_L0 N x0 (x0.length : Int) (some true) N (0 : Int))))
abbrev ref3_IsWord_sg (f : SV [.v .str] → BV [] → Option (Bool)) : AF := { ps := [.v .str], bs := [], rs := [.v .bool], cs := [], R := Bool, out := fun z => ((z, ()), ()), f := f }
abbrev ref3_IsWord_pk : SV [.v .bool] → BV [] → Bool := fun x _ => x.1
def ref3_IsWord_fn (N : Nat) : FuncId → Option Tmp → Option AF := fun f _ =>
  match f with
    | 104 => some (ref3_within_sg fun x _ => ref3_within N x.1 x.2.1 x.2.2.1)
    | _ => none
theorem ref3_IsWord_fn_ok (N : Nat) : ∀ f q F, ref3_IsWord_fn N f q = some F → Sound Tryz.prog GW B0G f F := by
  intro f q F h
  unfold ref3_IsWord_fn at h
  split at h
  · cases h; exact ref3_within_sound N
  · cases h
def ref3_IsWord_h : Nat → Hint := fun i =>
  match i with
  | 0 => ⟨[], [0, 20, 21], [], [], [], []⟩
  | _ => ⟨[], [], [], [], [], []⟩
abbrev ref3_IsWord_E (N : Nat) : Env := mkE ref3_IsWord_h (ref3_IsWord_fn N) (fun _ => false) (fun _ => false)
abbrev ref3_IsWord_L0_fs : List (Nat × Sl) := [(0, .v .str), (20, .v (.int .i64)), (21, .v (.int .i64))]
abbrev ref3_IsWord_L0_bs : List (Nat × Sb) := []
def ref3_IsWord_L0_hd (x0 : Str) (c20 : Int) (s21 : Int) : St := ⟨50, [(0, .v .str x0), (20, .v (.int .i64) c20), (21, .v (.int .i64) s21)], []⟩
def ref3_IsWord_L0_tl0 (_x0 : Str) (_c20 : Int) : St := ⟨50, [], []⟩
def ref3_IsWord_L0_G (N : Nat) (x0 : Str) (c20 : Int) (s21 : Int) (k : Ex → St → Option Bool) : Option Bool :=
  ref3_IsWord_L0 N x0 c20 (k (.exit 0) (ref3_IsWord_L0_tl0 x0 c20)) N s21
abbrev ref3_IsWord_L0_F (N : Nat) : FV ref3_IsWord_L0_fs → HV ref3_IsWord_L0_bs → (Ex → St → Option Bool) → Option Bool := fun x _ k => ref3_IsWord_L0_G N x.1 x.2.1 x.2.2.1 k
noncomputable def ref3_IsWord_LP (N : Nat) : Nat → Code → St → (Ex → St → Option Bool) → Option Bool := fun i c =>
  match i with
  | 0 => (LPc 50 ref3_IsWord_L0_fs ref3_IsWord_L0_bs (ref3_IsWord_L0_F N) (fun st k => iter (ref3_IsWord_h 0) (exec (ref3_IsWord_E N) N c 0) N st k))
  | i => fun st k => iter (ref3_IsWord_h i) (exec (ref3_IsWord_E N) N c i) N st k
theorem ref3_IsWord_L0_step (N : Nat) (x0 : Str) (c20 : Int) (KX : Nat → St → Option Bool) (I : St → Option Bool) (s21 : Int) :
    execL (ref3_IsWord_LP N) (ref3_IsWord_E N) (cAt (bodyOf Tryz.f50) [true, true, false, true, false, false]) 0 (ref3_IsWord_L0_hd x0 c20 s21) (roundK (ref3_IsWord_h 0) I KX (resD (ref3_IsWord_E N) Tryz.f50 (ref3_IsWord_sg fun x _ => ref3_IsWord N x.1) ref3_IsWord_pk)) = ref3_IsWord_L0T N x0 c20 (KX 0 (ref3_IsWord_L0_tl0 x0 c20)) (fun s21 => I (ref3_IsWord_L0_hd x0 c20 s21)) s21 := by kernel_rfl
theorem ref3_IsWord_L0_ok (N : Nat) : ∀ x y k, (∀ st, k .ret st = (resD (ref3_IsWord_E N) Tryz.f50 (ref3_IsWord_sg fun x _ => ref3_IsWord N x.1) ref3_IsWord_pk) st) → iter (ref3_IsWord_h 0) (exec (ref3_IsWord_E N) N (cAt (bodyOf Tryz.f50) [true, true, false, true, false, false]) 0) N ⟨50, unF ref3_IsWord_L0_fs x, unH ref3_IsWord_L0_bs y⟩ k = ref3_IsWord_L0_F N x y k := fun x _ k hk =>
  iter_link (S := (Int) × Unit) (ref3_IsWord_h 0) _ (execL (ref3_IsWord_LP N) (ref3_IsWord_E N) (cAt (bodyOf Tryz.f50) [true, true, false, true, false, false]) 0) (resD (ref3_IsWord_E N) Tryz.f50 (ref3_IsWord_sg fun x _ => ref3_IsWord N x.1) ref3_IsWord_pk) (fun st k hk => execL_eq _ _ N _ (cAt (bodyOf Tryz.f50) [true, true, false, true, false, false]) 0 (show LoopsOk (ref3_IsWord_LP N) (ref3_IsWord_E N) N (resD (ref3_IsWord_E N) Tryz.f50 (ref3_IsWord_sg fun x _ => ref3_IsWord N x.1) ref3_IsWord_pk) [] from trivial) st k hk) (fun s => ref3_IsWord_L0_hd x.1 x.2.1 s.1) k hk
    (fun self s => ref3_IsWord_L0T N x.1 x.2.1 (k (.exit 0) (ref3_IsWord_L0_tl0 x.1 x.2.1)) (fun s21 => self (s21, ())) s.1) (fun n s => ref3_IsWord_L0 N x.1 x.2.1 (k (.exit 0) (ref3_IsWord_L0_tl0 x.1 x.2.1)) n s.1) (fun _ => rfl) (fun _ _ => rfl)
    (fun I s => ref3_IsWord_L0_step N x.1 x.2.1 (fun j => k (.exit j)) I s.1) N (x.2.2.1, ())
theorem ref3_IsWord_lp0 (N : Nat) : ∀ st k, (∀ st, k .ret st = (resD (ref3_IsWord_E N) Tryz.f50 (ref3_IsWord_sg fun x _ => ref3_IsWord N x.1) ref3_IsWord_pk) st) → ref3_IsWord_LP N 0 (cAt (bodyOf Tryz.f50) [true, true, false, true, false, false]) st k = iter (Env.hint (ref3_IsWord_E N) 0) (exec (ref3_IsWord_E N) N (cAt (bodyOf Tryz.f50) [true, true, false, true, false, false]) 0) N st k := fun st k hk => LPc_eq 50 ref3_IsWord_L0_fs ref3_IsWord_L0_bs _ _ (resD (ref3_IsWord_E N) Tryz.f50 (ref3_IsWord_sg fun x _ => ref3_IsWord N x.1) ref3_IsWord_pk) (ref3_IsWord_L0_ok N) _ st k hk (rfl)
theorem ref3_IsWord_core (N : Nat) (x : SV [.v .str]) (y : BV []) : runL (ref3_IsWord_E N) Tryz.f50 (ref3_IsWord_sg fun x _ => ref3_IsWord N x.1) ref3_IsWord_pk (ref3_IsWord_LP N) x y = ref3_IsWord N x.1 := by kernel_rfl
theorem ref3_IsWord_sound (N : Nat) : Sound Tryz.prog GW B0G 50 (ref3_IsWord_sg fun x _ => ref3_IsWord N x.1) :=
  runD_sound (mkE_ok ref3_IsWord_h (ref3_IsWord_fn N) _ _ (ref3_IsWord_fn_ok N)) Tryz.func50 rfl Tryz.call50 (ref3_IsWord_sg fun x _ => ref3_IsWord N x.1) ref3_IsWord_pk (fun _ _ => rfl) N (fun x y _ h => ((runL_eq (ref3_IsWord_E N) N Tryz.f50 (ref3_IsWord_sg fun x _ => ref3_IsWord N x.1) ref3_IsWord_pk (ref3_IsWord_LP N) (show LoopsOk (ref3_IsWord_LP N) (ref3_IsWord_E N) N (resD (ref3_IsWord_E N) Tryz.f50 (ref3_IsWord_sg fun x _ => ref3_IsWord N x.1) ref3_IsWord_pk) [(0, (cAt (bodyOf Tryz.f50) [true, true, false, true, false, false]))] from ⟨ref3_IsWord_lp0 N, trivial⟩) x y).trans (ref3_IsWord_core N x y)).trans h)
end
end Go.Proofs.YtbekhaioddmliaaGreatDoor

