/- What functions of the program compute, as plain functions (printed). -/
import Derived.Test.YtahjncefiegflaaGreatDoorQScF5
namespace Go.Proofs.YtahjncefiegflaaGreatDoor
open Go Go.RowKit
set_option maxRecDepth 100000
set_option linter.unusedVariables false
noncomputable section
def script_isDigit (_N : Nat) (x0 : UInt8) : Option Bool :=
  br (decide (x0 ≥ (48 : UInt8)))
    (some (decide (x0 ≤ (57 : UInt8))))
    (some false)
abbrev script_isDigit_sg (f : SV [.v .u8] → BV [] → Option (Bool)) : AF := { ps := [.v .u8], bs := [], rs := [.v .bool], cs := [], R := Bool, out := fun z => ((z, ()), ()), f := f }
abbrev script_isDigit_pk : SV [.v .bool] → BV [] → Bool := fun x _ => x.1
def script_isDigit_fn (_N : Nat) : FuncId → Option Tmp → Option AF := fun f _ =>
  match f with
    | _ => none
theorem script_isDigit_fn_ok (N : Nat) : ∀ f q F, script_isDigit_fn N f q = some F → Sound Tryz.prog GW B0G f F := by
  intro f q F h
  unfold script_isDigit_fn at h
  split at h
  · cases h
def script_isDigit_h : Nat → Hint := fun i =>
  match i with
  | _ => ⟨[], [], [], [], [], []⟩
abbrev script_isDigit_E (N : Nat) : Env := mkE script_isDigit_h (script_isDigit_fn N) (fun _ => false) (fun _ => false)
noncomputable def script_isDigit_LP (N : Nat) : Nat → Code → St → (Ex → St → Option Bool) → Option Bool := fun i c =>
  match i with
  | i => fun st k => iter (script_isDigit_h i) (exec (script_isDigit_E N) N c i) N st k
theorem script_isDigit_core (N : Nat) (x : SV [.v .u8]) (y : BV []) : runL (script_isDigit_E N) Tryz.f97 (script_isDigit_sg fun x _ => script_isDigit N x.1) script_isDigit_pk (script_isDigit_LP N) x y = script_isDigit N x.1 := by kernel_rfl
theorem script_isDigit_sound (N : Nat) : Sound Tryz.prog GW B0G 97 (script_isDigit_sg fun x _ => script_isDigit N x.1) :=
  runD_sound (mkE_ok script_isDigit_h (script_isDigit_fn N) _ _ (script_isDigit_fn_ok N)) Tryz.func97 rfl Tryz.call97 (script_isDigit_sg fun x _ => script_isDigit N x.1) script_isDigit_pk (fun _ _ => rfl) N (fun x y _ h => ((runL_eq (script_isDigit_E N) N Tryz.f97 (script_isDigit_sg fun x _ => script_isDigit N x.1) script_isDigit_pk (script_isDigit_LP N) (show LoopsOk (script_isDigit_LP N) (script_isDigit_E N) N (resD (script_isDigit_E N) Tryz.f97 (script_isDigit_sg fun x _ => script_isDigit N x.1) script_isDigit_pk) [] from trivial) x y).trans (script_isDigit_core N x y)).trans h)
def script_words (_N : Nat) : Option (List Str) :=
  some [([109, 97, 99, 114, 111] : Str), ([102, 111, 114] : Str), ([105, 110] : Str), ([105, 102] : Str), ([101, 108, 115, 101] : Str), ([117, 115, 101] : Str), ([102, 105, 108, 101, 115] : Str), ([99, 104, 111, 111, 115, 101] : Str)]
abbrev script_words_sg (f : SV [] → BV [] → Option (List Str)) : AF := { ps := [], bs := [], rs := [.row 0], cs := [.row 9 .str false], R := List Str, out := fun z => (((), ()), (z, ())), f := f }
abbrev script_words_pk : SV [.row 0] → BV [.row 9 .str false] → (List Str) := fun _ y => y.1
def script_words_fn (_N : Nat) : FuncId → Option Tmp → Option AF := fun f _ =>
  match f with
    | _ => none
theorem script_words_fn_ok (N : Nat) : ∀ f q F, script_words_fn N f q = some F → Sound Tryz.prog GW B0G f F := by
  intro f q F h
  unfold script_words_fn at h
  split at h
  · cases h
def script_words_h : Nat → Hint := fun i =>
  match i with
  | _ => ⟨[], [], [], [], [], []⟩
abbrev script_words_E (N : Nat) : Env := mkE script_words_h (script_words_fn N) (fun _ => false) (fun _ => false)
noncomputable def script_words_LP (N : Nat) : Nat → Code → St → (Ex → St → Option (List Str)) → Option (List Str) := fun i c =>
  match i with
  | i => fun st k => iter (script_words_h i) (exec (script_words_E N) N c i) N st k
theorem script_words_core (N : Nat) (x : SV []) (y : BV []) : runL (script_words_E N) Tryz.f99 (script_words_sg fun _ _ => script_words N) script_words_pk (script_words_LP N) x y = script_words N := by kernel_rfl
theorem script_words_sound (N : Nat) : Sound Tryz.prog GW B0G 99 (script_words_sg fun _ _ => script_words N) :=
  runD_sound (mkE_ok script_words_h (script_words_fn N) _ _ (script_words_fn_ok N)) Tryz.func99 rfl Tryz.call99 (script_words_sg fun _ _ => script_words N) script_words_pk (fun _ _ => rfl) N (fun x y _ h => ((runL_eq (script_words_E N) N Tryz.f99 (script_words_sg fun _ _ => script_words N) script_words_pk (script_words_LP N) (show LoopsOk (script_words_LP N) (script_words_E N) N (resD (script_words_E N) Tryz.f99 (script_words_sg fun _ _ => script_words N) script_words_pk) [] from trivial) x y).trans (script_words_core N x y)).trans h)
def slices_Index_string_string_L0T (_N : Nat) (x0 : List Str) (x1 : Str) (c7 : Int) (k0 : Option Int) (self : Int → Option Int) (s8 : Int) : Option Int :=
  br (decide (s8 < c7))
    (bnd (geti x0 s8) fun t14 =>
    br (x1 == t14)
      (some s8)
      (self (IntKind.i64.wrap (s8 + (1 : Int)))))
    (k0)
def slices_Index_string_string_L0 (N : Nat) (x0 : List Str) (x1 : Str) (c7 : Int) (k0 : Option Int) : Nat → Int → Option Int
  | 0, _ => none
  | n + 1, s8 => slices_Index_string_string_L0T N x0 x1 c7 k0 (slices_Index_string_string_L0 N x0 x1 c7 k0 n) s8
def slices_Index_string_string (N : Nat) (x0 : List Str) (x1 : Str) : Option Int :=
  slices_Index_string_string_L0 N x0 x1 (x0.length : Int) (some (-1 : Int)) N (0 : Int)
abbrev slices_Index_string_string_sg (f : SV [.v (.sl .str), .v .str] → BV [] → Option (Int)) : AF := { ps := [.v (.sl .str), .v .str], bs := [], rs := [.v (.int .i64)], cs := [], R := Int, out := fun z => ((z, ()), ()), f := f }
abbrev slices_Index_string_string_pk : SV [.v (.int .i64)] → BV [] → Int := fun x _ => x.1
def slices_Index_string_string_fn (_N : Nat) : FuncId → Option Tmp → Option AF := fun f _ =>
  match f with
    | _ => none
theorem slices_Index_string_string_fn_ok (N : Nat) : ∀ f q F, slices_Index_string_string_fn N f q = some F → Sound Tryz.prog GW B0G f F := by
  intro f q F h
  unfold slices_Index_string_string_fn at h
  split at h
  · cases h
def slices_Index_string_string_h : Nat → Hint := fun i =>
  match i with
  | 0 => ⟨[], [0, 1, 7, 8], [], [], [], []⟩
  | _ => ⟨[], [], [], [], [], []⟩
abbrev slices_Index_string_string_E (N : Nat) : Env := mkE slices_Index_string_string_h (slices_Index_string_string_fn N) (fun _ => false) (fun _ => false)
abbrev slices_Index_string_string_L0_fs : List (Nat × Sl) := [(0, .v (.sl .str)), (1, .v .str), (7, .v (.int .i64)), (8, .v (.int .i64))]
abbrev slices_Index_string_string_L0_bs : List (Nat × Sb) := []
def slices_Index_string_string_L0_hd (x0 : List Str) (x1 : Str) (c7 : Int) (s8 : Int) : St := ⟨19, [(0, .v (.sl .str) x0), (1, .v .str x1), (7, .v (.int .i64) c7), (8, .v (.int .i64) s8)], []⟩
def slices_Index_string_string_L0_tl0 (_x0 : List Str) (_x1 : Str) (_c7 : Int) : St := ⟨19, [], []⟩
def slices_Index_string_string_L0_G (N : Nat) (x0 : List Str) (x1 : Str) (c7 : Int) (s8 : Int) (k : Ex → St → Option Int) : Option Int :=
  slices_Index_string_string_L0 N x0 x1 c7 (k (.exit 0) (slices_Index_string_string_L0_tl0 x0 x1 c7)) N s8
abbrev slices_Index_string_string_L0_F (N : Nat) : FV slices_Index_string_string_L0_fs → HV slices_Index_string_string_L0_bs → (Ex → St → Option Int) → Option Int := fun x _ k => slices_Index_string_string_L0_G N x.1 x.2.1 x.2.2.1 x.2.2.2.1 k
noncomputable def slices_Index_string_string_LP (N : Nat) : Nat → Code → St → (Ex → St → Option Int) → Option Int := fun i c =>
  match i with
  | 0 => (LPc 19 slices_Index_string_string_L0_fs slices_Index_string_string_L0_bs (slices_Index_string_string_L0_F N) (fun st k => iter (slices_Index_string_string_h 0) (exec (slices_Index_string_string_E N) N c 0) N st k))
  | i => fun st k => iter (slices_Index_string_string_h i) (exec (slices_Index_string_string_E N) N c i) N st k
theorem slices_Index_string_string_L0_step (N : Nat) (x0 : List Str) (x1 : Str) (c7 : Int) (KX : Nat → St → Option Int) (I : St → Option Int) (s8 : Int) :
    execL (slices_Index_string_string_LP N) (slices_Index_string_string_E N) (cAt (bodyOf Tryz.f135) [true, false, true, false, false]) 0 (slices_Index_string_string_L0_hd x0 x1 c7 s8) (roundK (slices_Index_string_string_h 0) I KX (resD (slices_Index_string_string_E N) Tryz.f135 (slices_Index_string_string_sg fun x _ => slices_Index_string_string N x.1 x.2.1) slices_Index_string_string_pk)) = slices_Index_string_string_L0T N x0 x1 c7 (KX 0 (slices_Index_string_string_L0_tl0 x0 x1 c7)) (fun s8 => I (slices_Index_string_string_L0_hd x0 x1 c7 s8)) s8 := by kernel_rfl
theorem slices_Index_string_string_L0_ok (N : Nat) : ∀ x y k, (∀ st, k .ret st = (resD (slices_Index_string_string_E N) Tryz.f135 (slices_Index_string_string_sg fun x _ => slices_Index_string_string N x.1 x.2.1) slices_Index_string_string_pk) st) → iter (slices_Index_string_string_h 0) (exec (slices_Index_string_string_E N) N (cAt (bodyOf Tryz.f135) [true, false, true, false, false]) 0) N ⟨19, unF slices_Index_string_string_L0_fs x, unH slices_Index_string_string_L0_bs y⟩ k = slices_Index_string_string_L0_F N x y k := fun x _ k hk =>
  iter_link (S := (Int) × Unit) (slices_Index_string_string_h 0) _ (execL (slices_Index_string_string_LP N) (slices_Index_string_string_E N) (cAt (bodyOf Tryz.f135) [true, false, true, false, false]) 0) (resD (slices_Index_string_string_E N) Tryz.f135 (slices_Index_string_string_sg fun x _ => slices_Index_string_string N x.1 x.2.1) slices_Index_string_string_pk) (fun st k hk => execL_eq _ _ N _ (cAt (bodyOf Tryz.f135) [true, false, true, false, false]) 0 (show LoopsOk (slices_Index_string_string_LP N) (slices_Index_string_string_E N) N (resD (slices_Index_string_string_E N) Tryz.f135 (slices_Index_string_string_sg fun x _ => slices_Index_string_string N x.1 x.2.1) slices_Index_string_string_pk) [] from trivial) st k hk) (fun s => slices_Index_string_string_L0_hd x.1 x.2.1 x.2.2.1 s.1) k hk
    (fun self s => slices_Index_string_string_L0T N x.1 x.2.1 x.2.2.1 (k (.exit 0) (slices_Index_string_string_L0_tl0 x.1 x.2.1 x.2.2.1)) (fun s8 => self (s8, ())) s.1) (fun n s => slices_Index_string_string_L0 N x.1 x.2.1 x.2.2.1 (k (.exit 0) (slices_Index_string_string_L0_tl0 x.1 x.2.1 x.2.2.1)) n s.1) (fun _ => rfl) (fun _ _ => rfl)
    (fun I s => slices_Index_string_string_L0_step N x.1 x.2.1 x.2.2.1 (fun j => k (.exit j)) I s.1) N (x.2.2.2.1, ())
theorem slices_Index_string_string_lp0 (N : Nat) : ∀ st k, (∀ st, k .ret st = (resD (slices_Index_string_string_E N) Tryz.f135 (slices_Index_string_string_sg fun x _ => slices_Index_string_string N x.1 x.2.1) slices_Index_string_string_pk) st) → slices_Index_string_string_LP N 0 (cAt (bodyOf Tryz.f135) [true, false, true, false, false]) st k = iter (Env.hint (slices_Index_string_string_E N) 0) (exec (slices_Index_string_string_E N) N (cAt (bodyOf Tryz.f135) [true, false, true, false, false]) 0) N st k := fun st k hk => LPc_eq 19 slices_Index_string_string_L0_fs slices_Index_string_string_L0_bs _ _ (resD (slices_Index_string_string_E N) Tryz.f135 (slices_Index_string_string_sg fun x _ => slices_Index_string_string N x.1 x.2.1) slices_Index_string_string_pk) (slices_Index_string_string_L0_ok N) _ st k hk (rfl)
theorem slices_Index_string_string_core (N : Nat) (x : SV [.v (.sl .str), .v .str]) (y : BV []) : runL (slices_Index_string_string_E N) Tryz.f135 (slices_Index_string_string_sg fun x _ => slices_Index_string_string N x.1 x.2.1) slices_Index_string_string_pk (slices_Index_string_string_LP N) x y = slices_Index_string_string N x.1 x.2.1 := by kernel_rfl
theorem slices_Index_string_string_sound (N : Nat) : Sound Tryz.prog GW B0G 135 (slices_Index_string_string_sg fun x _ => slices_Index_string_string N x.1 x.2.1) :=
  runD_sound (mkE_ok slices_Index_string_string_h (slices_Index_string_string_fn N) _ _ (slices_Index_string_string_fn_ok N)) Tryz.func135 rfl Tryz.call135 (slices_Index_string_string_sg fun x _ => slices_Index_string_string N x.1 x.2.1) slices_Index_string_string_pk (fun _ _ => rfl) N (fun x y _ h => ((runL_eq (slices_Index_string_string_E N) N Tryz.f135 (slices_Index_string_string_sg fun x _ => slices_Index_string_string N x.1 x.2.1) slices_Index_string_string_pk (slices_Index_string_string_LP N) (show LoopsOk (slices_Index_string_string_LP N) (slices_Index_string_string_E N) N (resD (slices_Index_string_string_E N) Tryz.f135 (slices_Index_string_string_sg fun x _ => slices_Index_string_string N x.1 x.2.1) slices_Index_string_string_pk) [(0, (cAt (bodyOf Tryz.f135) [true, false, true, false, false]))] from ⟨slices_Index_string_string_lp0 N, trivial⟩) x y).trans (slices_Index_string_string_core N x y)).trans h)
def slices_Contains_string_string (N : Nat) (x0 : List Str) (x1 : Str) : Option Bool :=
  bnd (slices_Index_string_string N x0 x1) fun t7 =>
  some (decide (t7 ≥ (0 : Int)))
abbrev slices_Contains_string_string_sg (f : SV [.v (.sl .str), .v .str] → BV [] → Option (Bool)) : AF := { ps := [.v (.sl .str), .v .str], bs := [], rs := [.v .bool], cs := [], R := Bool, out := fun z => ((z, ()), ()), f := f }
abbrev slices_Contains_string_string_pk : SV [.v .bool] → BV [] → Bool := fun x _ => x.1
def slices_Contains_string_string_fn (N : Nat) : FuncId → Option Tmp → Option AF := fun f _ =>
  match f with
    | 135 => some (slices_Index_string_string_sg fun x _ => slices_Index_string_string N x.1 x.2.1)
    | _ => none
theorem slices_Contains_string_string_fn_ok (N : Nat) : ∀ f q F, slices_Contains_string_string_fn N f q = some F → Sound Tryz.prog GW B0G f F := by
  intro f q F h
  unfold slices_Contains_string_string_fn at h
  split at h
  · cases h; exact slices_Index_string_string_sound N
  · cases h
def slices_Contains_string_string_h : Nat → Hint := fun i =>
  match i with
  | _ => ⟨[], [], [], [], [], []⟩
abbrev slices_Contains_string_string_E (N : Nat) : Env := mkE slices_Contains_string_string_h (slices_Contains_string_string_fn N) (fun _ => false) (fun _ => false)
noncomputable def slices_Contains_string_string_LP (N : Nat) : Nat → Code → St → (Ex → St → Option Bool) → Option Bool := fun i c =>
  match i with
  | i => fun st k => iter (slices_Contains_string_string_h i) (exec (slices_Contains_string_string_E N) N c i) N st k
theorem slices_Contains_string_string_core (N : Nat) (x : SV [.v (.sl .str), .v .str]) (y : BV []) : runL (slices_Contains_string_string_E N) Tryz.f98 (slices_Contains_string_string_sg fun x _ => slices_Contains_string_string N x.1 x.2.1) slices_Contains_string_string_pk (slices_Contains_string_string_LP N) x y = slices_Contains_string_string N x.1 x.2.1 := by kernel_rfl
theorem slices_Contains_string_string_sound (N : Nat) : Sound Tryz.prog GW B0G 98 (slices_Contains_string_string_sg fun x _ => slices_Contains_string_string N x.1 x.2.1) :=
  runD_sound (mkE_ok slices_Contains_string_string_h (slices_Contains_string_string_fn N) _ _ (slices_Contains_string_string_fn_ok N)) Tryz.func98 rfl Tryz.call98 (slices_Contains_string_string_sg fun x _ => slices_Contains_string_string N x.1 x.2.1) slices_Contains_string_string_pk (fun _ _ => rfl) N (fun x y _ h => ((runL_eq (slices_Contains_string_string_E N) N Tryz.f98 (slices_Contains_string_string_sg fun x _ => slices_Contains_string_string N x.1 x.2.1) slices_Contains_string_string_pk (slices_Contains_string_string_LP N) (show LoopsOk (slices_Contains_string_string_LP N) (slices_Contains_string_string_E N) N (resD (slices_Contains_string_string_E N) Tryz.f98 (slices_Contains_string_string_sg fun x _ => slices_Contains_string_string N x.1 x.2.1) slices_Contains_string_string_pk) [] from trivial) x y).trans (slices_Contains_string_string_core N x y)).trans h)
def script_IsName_L0T (N : Nat) (x0 : Str) (c19 : Int) (k0 : Option Bool) (self : Int → Option Bool) (s20 : Int) : Option Bool :=
  br (decide (s20 < c19))
    (bnd (geti x0 s20) fun t25 =>
    bnd (script_isSmall N t25) fun t26 =>
    br (!t26)
      (bnd (geti x0 s20) fun t31 =>
      bnd (script_isDigit N t31) fun t32 =>
      br (!t32)
        (bnd (geti x0 s20) fun t38 =>
        br (t38 != (95 : UInt8))
          (some false)
          (self (IntKind.i64.wrap (s20 + (1 : Int)))))
        (self (IntKind.i64.wrap (s20 + (1 : Int)))))
      (self (IntKind.i64.wrap (s20 + (1 : Int)))))
    (k0)
def script_IsName_L0 (N : Nat) (x0 : Str) (c19 : Int) (k0 : Option Bool) : Nat → Int → Option Bool
  | 0, _ => none
  | n + 1, s20 => script_IsName_L0T N x0 c19 k0 (script_IsName_L0 N x0 c19 k0 n) s20
def script_IsName (N : Nat) (x0 : Str) : Option Bool :=
  br (decide ((x0.length : Int) < (1 : Int)))
    (some false)
    (br (decide ((x0.length : Int) > (40 : Int)))
      (some false)
      (bnd (geti x0 (0 : Int)) fun t14 =>
      bnd (script_isSmall N t14) fun t15 =>
      br (!t15)
        (some false)
        (script_IsName_L0 N x0 (x0.length : Int) (bnd (script_words N) fun t42 =>
            bnd (slices_Contains_string_string N t42 x0) fun t44 =>
            some (!t44)) N (0 : Int))))
abbrev script_IsName_sg (f : SV [.v .str] → BV [] → Option (Bool)) : AF := { ps := [.v .str], bs := [], rs := [.v .bool], cs := [], R := Bool, out := fun z => ((z, ()), ()), f := f }
abbrev script_IsName_pk : SV [.v .bool] → BV [] → Bool := fun x _ => x.1
def script_IsName_fn (N : Nat) : FuncId → Option Tmp → Option AF := fun f _ =>
  match f with
    | 96 => some (script_isSmall_sg fun x _ => script_isSmall N x.1)
    | 97 => some (script_isDigit_sg fun x _ => script_isDigit N x.1)
    | 98 => some (slices_Contains_string_string_sg fun x _ => slices_Contains_string_string N x.1 x.2.1)
    | 99 => some (script_words_sg fun _ _ => script_words N)
    | _ => none
theorem script_IsName_fn_ok (N : Nat) : ∀ f q F, script_IsName_fn N f q = some F → Sound Tryz.prog GW B0G f F := by
  intro f q F h
  unfold script_IsName_fn at h
  split at h
  · cases h; exact script_isSmall_sound N
  · cases h; exact script_isDigit_sound N
  · cases h; exact slices_Contains_string_string_sound N
  · cases h; exact script_words_sound N
  · cases h
def script_IsName_h : Nat → Hint := fun i =>
  match i with
  | 0 => ⟨[], [0, 19, 20], [], [0], [], []⟩
  | _ => ⟨[], [], [], [], [], []⟩
abbrev script_IsName_E (N : Nat) : Env := mkE script_IsName_h (script_IsName_fn N) (fun _ => false) (fun _ => false)
abbrev script_IsName_L0_fs : List (Nat × Sl) := [(0, .v .str), (19, .v (.int .i64)), (20, .v (.int .i64))]
abbrev script_IsName_L0_bs : List (Nat × Sb) := []
def script_IsName_L0_hd (x0 : Str) (c19 : Int) (s20 : Int) : St := ⟨46, [(0, .v .str x0), (19, .v (.int .i64) c19), (20, .v (.int .i64) s20)], []⟩
def script_IsName_L0_tl0 (x0 : Str) (_c19 : Int) : St := ⟨46, [(0, .v .str x0)], []⟩
def script_IsName_L0_G (N : Nat) (x0 : Str) (c19 : Int) (s20 : Int) (k : Ex → St → Option Bool) : Option Bool :=
  script_IsName_L0 N x0 c19 (k (.exit 0) (script_IsName_L0_tl0 x0 c19)) N s20
abbrev script_IsName_L0_F (N : Nat) : FV script_IsName_L0_fs → HV script_IsName_L0_bs → (Ex → St → Option Bool) → Option Bool := fun x _ k => script_IsName_L0_G N x.1 x.2.1 x.2.2.1 k
noncomputable def script_IsName_LP (N : Nat) : Nat → Code → St → (Ex → St → Option Bool) → Option Bool := fun i c =>
  match i with
  | 0 => (LPc 46 script_IsName_L0_fs script_IsName_L0_bs (script_IsName_L0_F N) (fun st k => iter (script_IsName_h 0) (exec (script_IsName_E N) N c 0) N st k))
  | i => fun st k => iter (script_IsName_h i) (exec (script_IsName_E N) N c i) N st k
theorem script_IsName_L0_step (N : Nat) (x0 : Str) (c19 : Int) (KX : Nat → St → Option Bool) (I : St → Option Bool) (s20 : Int) :
    execL (script_IsName_LP N) (script_IsName_E N) (cAt (bodyOf Tryz.f51) [true, true, false, true, false, false]) 0 (script_IsName_L0_hd x0 c19 s20) (roundK (script_IsName_h 0) I KX (resD (script_IsName_E N) Tryz.f51 (script_IsName_sg fun x _ => script_IsName N x.1) script_IsName_pk)) = script_IsName_L0T N x0 c19 (KX 0 (script_IsName_L0_tl0 x0 c19)) (fun s20 => I (script_IsName_L0_hd x0 c19 s20)) s20 := by kernel_rfl
theorem script_IsName_L0_ok (N : Nat) : ∀ x y k, (∀ st, k .ret st = (resD (script_IsName_E N) Tryz.f51 (script_IsName_sg fun x _ => script_IsName N x.1) script_IsName_pk) st) → iter (script_IsName_h 0) (exec (script_IsName_E N) N (cAt (bodyOf Tryz.f51) [true, true, false, true, false, false]) 0) N ⟨46, unF script_IsName_L0_fs x, unH script_IsName_L0_bs y⟩ k = script_IsName_L0_F N x y k := fun x _ k hk =>
  iter_link (S := (Int) × Unit) (script_IsName_h 0) _ (execL (script_IsName_LP N) (script_IsName_E N) (cAt (bodyOf Tryz.f51) [true, true, false, true, false, false]) 0) (resD (script_IsName_E N) Tryz.f51 (script_IsName_sg fun x _ => script_IsName N x.1) script_IsName_pk) (fun st k hk => execL_eq _ _ N _ (cAt (bodyOf Tryz.f51) [true, true, false, true, false, false]) 0 (show LoopsOk (script_IsName_LP N) (script_IsName_E N) N (resD (script_IsName_E N) Tryz.f51 (script_IsName_sg fun x _ => script_IsName N x.1) script_IsName_pk) [] from trivial) st k hk) (fun s => script_IsName_L0_hd x.1 x.2.1 s.1) k hk
    (fun self s => script_IsName_L0T N x.1 x.2.1 (k (.exit 0) (script_IsName_L0_tl0 x.1 x.2.1)) (fun s20 => self (s20, ())) s.1) (fun n s => script_IsName_L0 N x.1 x.2.1 (k (.exit 0) (script_IsName_L0_tl0 x.1 x.2.1)) n s.1) (fun _ => rfl) (fun _ _ => rfl)
    (fun I s => script_IsName_L0_step N x.1 x.2.1 (fun j => k (.exit j)) I s.1) N (x.2.2.1, ())
theorem script_IsName_lp0 (N : Nat) : ∀ st k, (∀ st, k .ret st = (resD (script_IsName_E N) Tryz.f51 (script_IsName_sg fun x _ => script_IsName N x.1) script_IsName_pk) st) → script_IsName_LP N 0 (cAt (bodyOf Tryz.f51) [true, true, false, true, false, false]) st k = iter (Env.hint (script_IsName_E N) 0) (exec (script_IsName_E N) N (cAt (bodyOf Tryz.f51) [true, true, false, true, false, false]) 0) N st k := fun st k hk => LPc_eq 46 script_IsName_L0_fs script_IsName_L0_bs _ _ (resD (script_IsName_E N) Tryz.f51 (script_IsName_sg fun x _ => script_IsName N x.1) script_IsName_pk) (script_IsName_L0_ok N) _ st k hk (rfl)
theorem script_IsName_core (N : Nat) (x : SV [.v .str]) (y : BV []) : runL (script_IsName_E N) Tryz.f51 (script_IsName_sg fun x _ => script_IsName N x.1) script_IsName_pk (script_IsName_LP N) x y = script_IsName N x.1 := by kernel_rfl
theorem script_IsName_sound (N : Nat) : Sound Tryz.prog GW B0G 51 (script_IsName_sg fun x _ => script_IsName N x.1) :=
  runD_sound (mkE_ok script_IsName_h (script_IsName_fn N) _ _ (script_IsName_fn_ok N)) Tryz.func51 rfl Tryz.call51 (script_IsName_sg fun x _ => script_IsName N x.1) script_IsName_pk (fun _ _ => rfl) N (fun x y _ h => ((runL_eq (script_IsName_E N) N Tryz.f51 (script_IsName_sg fun x _ => script_IsName N x.1) script_IsName_pk (script_IsName_LP N) (show LoopsOk (script_IsName_LP N) (script_IsName_E N) N (resD (script_IsName_E N) Tryz.f51 (script_IsName_sg fun x _ => script_IsName N x.1) script_IsName_pk) [(0, (cAt (bodyOf Tryz.f51) [true, true, false, true, false, false]))] from ⟨script_IsName_lp0 N, trivial⟩) x y).trans (script_IsName_core N x y)).trans h)
def script_CheckTarget_1 (_N : Nat) (x0 : Str × GValue) : Option Bool :=
  br (x0.1 == ([110, 97, 109, 101] : Str))
    (some true)
    (some (x0.1 == ([107, 105, 110, 100] : Str)))
abbrev script_CheckTarget_1_sg (f : SV [.v (.pr .str (.rc .value))] → BV [] → Option (Bool)) : AF := { ps := [.v (.pr .str (.rc .value))], bs := [], rs := [.v .bool], cs := [], R := Bool, out := fun z => ((z, ()), ()), f := f }
abbrev script_CheckTarget_1_pk : SV [.v .bool] → BV [] → Bool := fun x _ => x.1
def script_CheckTarget_1_fn (_N : Nat) : FuncId → Option Tmp → Option AF := fun f _ =>
  match f with
    | _ => none
theorem script_CheckTarget_1_fn_ok (N : Nat) : ∀ f q F, script_CheckTarget_1_fn N f q = some F → Sound Tryz.prog GW B0G f F := by
  intro f q F h
  unfold script_CheckTarget_1_fn at h
  split at h
  · cases h
def script_CheckTarget_1_h : Nat → Hint := fun i =>
  match i with
  | _ => ⟨[], [], [], [], [], []⟩
abbrev script_CheckTarget_1_E (N : Nat) : Env := mkE script_CheckTarget_1_h (script_CheckTarget_1_fn N) (fun _ => false) (fun _ => false)
noncomputable def script_CheckTarget_1_LP (N : Nat) : Nat → Code → St → (Ex → St → Option Bool) → Option Bool := fun i c =>
  match i with
  | i => fun st k => iter (script_CheckTarget_1_h i) (exec (script_CheckTarget_1_E N) N c i) N st k
theorem script_CheckTarget_1_core (N : Nat) (x : SV [.v (.pr .str (.rc .value))]) (y : BV []) : runL (script_CheckTarget_1_E N) Tryz.f95 (script_CheckTarget_1_sg fun x _ => script_CheckTarget_1 N x.1) script_CheckTarget_1_pk (script_CheckTarget_1_LP N) x y = script_CheckTarget_1 N x.1 := by kernel_rfl
theorem script_CheckTarget_1_sound (N : Nat) : Sound Tryz.prog GW B0G 95 (script_CheckTarget_1_sg fun x _ => script_CheckTarget_1 N x.1) :=
  runD_sound (mkE_ok script_CheckTarget_1_h (script_CheckTarget_1_fn N) _ _ (script_CheckTarget_1_fn_ok N)) Tryz.func95 rfl Tryz.call95 (script_CheckTarget_1_sg fun x _ => script_CheckTarget_1 N x.1) script_CheckTarget_1_pk (fun _ _ => rfl) N (fun x y _ h => ((runL_eq (script_CheckTarget_1_E N) N Tryz.f95 (script_CheckTarget_1_sg fun x _ => script_CheckTarget_1 N x.1) script_CheckTarget_1_pk (script_CheckTarget_1_LP N) (show LoopsOk (script_CheckTarget_1_LP N) (script_CheckTarget_1_E N) N (resD (script_CheckTarget_1_E N) Tryz.f95 (script_CheckTarget_1_sg fun x _ => script_CheckTarget_1 N x.1) script_CheckTarget_1_pk) [] from trivial) x y).trans (script_CheckTarget_1_core N x y)).trans h)
def slices_IndexFunc_api_Attr_L0T (N : Nat) (x0 : List (Str × GValue)) (c7 : Int) (k0 : Option Int) (self : Int → Option Int) (s8 : Int) : Option Int :=
  br (decide (s8 < c7))
    (bnd (geti x0 s8) fun t14 =>
    bnd (script_CheckTarget_1 N t14) fun t16 =>
    br (t16)
      (some s8)
      (self (IntKind.i64.wrap (s8 + (1 : Int)))))
    (k0)
def slices_IndexFunc_api_Attr_L0 (N : Nat) (x0 : List (Str × GValue)) (c7 : Int) (k0 : Option Int) : Nat → Int → Option Int
  | 0, _ => none
  | n + 1, s8 => slices_IndexFunc_api_Attr_L0T N x0 c7 k0 (slices_IndexFunc_api_Attr_L0 N x0 c7 k0 n) s8
def slices_IndexFunc_api_Attr (N : Nat) (x0 : List (Str × GValue)) (_x1 : Unit) : Option Int :=
  slices_IndexFunc_api_Attr_L0 N x0 (x0.length : Int) (some (-1 : Int)) N (0 : Int)
abbrev slices_IndexFunc_api_Attr_sg (f : SV [.v (.sl (.pr .str (.rc .value))), .v (.clo 95 .un)] → BV [] → Option (Int)) : AF := { ps := [.v (.sl (.pr .str (.rc .value))), .v (.clo 95 .un)], bs := [], rs := [.v (.int .i64)], cs := [], R := Int, out := fun z => ((z, ()), ()), f := f }
abbrev slices_IndexFunc_api_Attr_pk : SV [.v (.int .i64)] → BV [] → Int := fun x _ => x.1
def slices_IndexFunc_api_Attr_fn (N : Nat) : FuncId → Option Tmp → Option AF := fun f _ =>
  match f with
    | 95 => some (script_CheckTarget_1_sg fun x _ => script_CheckTarget_1 N x.1)
    | _ => none
theorem slices_IndexFunc_api_Attr_fn_ok (N : Nat) : ∀ f q F, slices_IndexFunc_api_Attr_fn N f q = some F → Sound Tryz.prog GW B0G f F := by
  intro f q F h
  unfold slices_IndexFunc_api_Attr_fn at h
  split at h
  · cases h; exact script_CheckTarget_1_sound N
  · cases h
def slices_IndexFunc_api_Attr_h : Nat → Hint := fun i =>
  match i with
  | 0 => ⟨[], [0, 1, 7, 8], [], [], [], []⟩
  | _ => ⟨[], [], [], [], [], []⟩
abbrev slices_IndexFunc_api_Attr_E (N : Nat) : Env := mkE slices_IndexFunc_api_Attr_h (slices_IndexFunc_api_Attr_fn N) (fun _ => false) (fun _ => false)
abbrev slices_IndexFunc_api_Attr_L0_fs : List (Nat × Sl) := [(0, .v (.sl (.pr .str (.rc .value)))), (1, .v (.clo 95 .un)), (7, .v (.int .i64)), (8, .v (.int .i64))]
abbrev slices_IndexFunc_api_Attr_L0_bs : List (Nat × Sb) := []
def slices_IndexFunc_api_Attr_L0_hd (x0 : List (Str × GValue)) (x1 : Unit) (c7 : Int) (s8 : Int) : St := ⟨19, [(0, .v (.sl (.pr .str (.rc .value))) x0), (1, .v (.clo 95 .un) x1), (7, .v (.int .i64) c7), (8, .v (.int .i64) s8)], []⟩
def slices_IndexFunc_api_Attr_L0_tl0 (_x0 : List (Str × GValue)) (_x1 : Unit) (_c7 : Int) : St := ⟨19, [], []⟩
def slices_IndexFunc_api_Attr_L0_G (N : Nat) (x0 : List (Str × GValue)) (x1 : Unit) (c7 : Int) (s8 : Int) (k : Ex → St → Option Int) : Option Int :=
  slices_IndexFunc_api_Attr_L0 N x0 c7 (k (.exit 0) (slices_IndexFunc_api_Attr_L0_tl0 x0 x1 c7)) N s8
abbrev slices_IndexFunc_api_Attr_L0_F (N : Nat) : FV slices_IndexFunc_api_Attr_L0_fs → HV slices_IndexFunc_api_Attr_L0_bs → (Ex → St → Option Int) → Option Int := fun x _ k => slices_IndexFunc_api_Attr_L0_G N x.1 x.2.1 x.2.2.1 x.2.2.2.1 k
noncomputable def slices_IndexFunc_api_Attr_LP (N : Nat) : Nat → Code → St → (Ex → St → Option Int) → Option Int := fun i c =>
  match i with
  | 0 => (LPc 19 slices_IndexFunc_api_Attr_L0_fs slices_IndexFunc_api_Attr_L0_bs (slices_IndexFunc_api_Attr_L0_F N) (fun st k => iter (slices_IndexFunc_api_Attr_h 0) (exec (slices_IndexFunc_api_Attr_E N) N c 0) N st k))
  | i => fun st k => iter (slices_IndexFunc_api_Attr_h i) (exec (slices_IndexFunc_api_Attr_E N) N c i) N st k
theorem slices_IndexFunc_api_Attr_L0_step (N : Nat) (x0 : List (Str × GValue)) (x1 : Unit) (c7 : Int) (KX : Nat → St → Option Int) (I : St → Option Int) (s8 : Int) :
    execL (slices_IndexFunc_api_Attr_LP N) (slices_IndexFunc_api_Attr_E N) (cAt (bodyOf Tryz.f134) [true, false, true, false, false]) 0 (slices_IndexFunc_api_Attr_L0_hd x0 x1 c7 s8) (roundK (slices_IndexFunc_api_Attr_h 0) I KX (resD (slices_IndexFunc_api_Attr_E N) Tryz.f134 (slices_IndexFunc_api_Attr_sg fun x _ => slices_IndexFunc_api_Attr N x.1 x.2.1) slices_IndexFunc_api_Attr_pk)) = slices_IndexFunc_api_Attr_L0T N x0 c7 (KX 0 (slices_IndexFunc_api_Attr_L0_tl0 x0 x1 c7)) (fun s8 => I (slices_IndexFunc_api_Attr_L0_hd x0 x1 c7 s8)) s8 := by kernel_rfl
theorem slices_IndexFunc_api_Attr_L0_ok (N : Nat) : ∀ x y k, (∀ st, k .ret st = (resD (slices_IndexFunc_api_Attr_E N) Tryz.f134 (slices_IndexFunc_api_Attr_sg fun x _ => slices_IndexFunc_api_Attr N x.1 x.2.1) slices_IndexFunc_api_Attr_pk) st) → iter (slices_IndexFunc_api_Attr_h 0) (exec (slices_IndexFunc_api_Attr_E N) N (cAt (bodyOf Tryz.f134) [true, false, true, false, false]) 0) N ⟨19, unF slices_IndexFunc_api_Attr_L0_fs x, unH slices_IndexFunc_api_Attr_L0_bs y⟩ k = slices_IndexFunc_api_Attr_L0_F N x y k := fun x _ k hk =>
  iter_link (S := (Int) × Unit) (slices_IndexFunc_api_Attr_h 0) _ (execL (slices_IndexFunc_api_Attr_LP N) (slices_IndexFunc_api_Attr_E N) (cAt (bodyOf Tryz.f134) [true, false, true, false, false]) 0) (resD (slices_IndexFunc_api_Attr_E N) Tryz.f134 (slices_IndexFunc_api_Attr_sg fun x _ => slices_IndexFunc_api_Attr N x.1 x.2.1) slices_IndexFunc_api_Attr_pk) (fun st k hk => execL_eq _ _ N _ (cAt (bodyOf Tryz.f134) [true, false, true, false, false]) 0 (show LoopsOk (slices_IndexFunc_api_Attr_LP N) (slices_IndexFunc_api_Attr_E N) N (resD (slices_IndexFunc_api_Attr_E N) Tryz.f134 (slices_IndexFunc_api_Attr_sg fun x _ => slices_IndexFunc_api_Attr N x.1 x.2.1) slices_IndexFunc_api_Attr_pk) [] from trivial) st k hk) (fun s => slices_IndexFunc_api_Attr_L0_hd x.1 x.2.1 x.2.2.1 s.1) k hk
    (fun self s => slices_IndexFunc_api_Attr_L0T N x.1 x.2.2.1 (k (.exit 0) (slices_IndexFunc_api_Attr_L0_tl0 x.1 x.2.1 x.2.2.1)) (fun s8 => self (s8, ())) s.1) (fun n s => slices_IndexFunc_api_Attr_L0 N x.1 x.2.2.1 (k (.exit 0) (slices_IndexFunc_api_Attr_L0_tl0 x.1 x.2.1 x.2.2.1)) n s.1) (fun _ => rfl) (fun _ _ => rfl)
    (fun I s => slices_IndexFunc_api_Attr_L0_step N x.1 x.2.1 x.2.2.1 (fun j => k (.exit j)) I s.1) N (x.2.2.2.1, ())
theorem slices_IndexFunc_api_Attr_lp0 (N : Nat) : ∀ st k, (∀ st, k .ret st = (resD (slices_IndexFunc_api_Attr_E N) Tryz.f134 (slices_IndexFunc_api_Attr_sg fun x _ => slices_IndexFunc_api_Attr N x.1 x.2.1) slices_IndexFunc_api_Attr_pk) st) → slices_IndexFunc_api_Attr_LP N 0 (cAt (bodyOf Tryz.f134) [true, false, true, false, false]) st k = iter (Env.hint (slices_IndexFunc_api_Attr_E N) 0) (exec (slices_IndexFunc_api_Attr_E N) N (cAt (bodyOf Tryz.f134) [true, false, true, false, false]) 0) N st k := fun st k hk => LPc_eq 19 slices_IndexFunc_api_Attr_L0_fs slices_IndexFunc_api_Attr_L0_bs _ _ (resD (slices_IndexFunc_api_Attr_E N) Tryz.f134 (slices_IndexFunc_api_Attr_sg fun x _ => slices_IndexFunc_api_Attr N x.1 x.2.1) slices_IndexFunc_api_Attr_pk) (slices_IndexFunc_api_Attr_L0_ok N) _ st k hk (rfl)
theorem slices_IndexFunc_api_Attr_core (N : Nat) (x : SV [.v (.sl (.pr .str (.rc .value))), .v (.clo 95 .un)]) (y : BV []) : runL (slices_IndexFunc_api_Attr_E N) Tryz.f134 (slices_IndexFunc_api_Attr_sg fun x _ => slices_IndexFunc_api_Attr N x.1 x.2.1) slices_IndexFunc_api_Attr_pk (slices_IndexFunc_api_Attr_LP N) x y = slices_IndexFunc_api_Attr N x.1 x.2.1 := by kernel_rfl
theorem slices_IndexFunc_api_Attr_sound (N : Nat) : Sound Tryz.prog GW B0G 134 (slices_IndexFunc_api_Attr_sg fun x _ => slices_IndexFunc_api_Attr N x.1 x.2.1) :=
  runD_sound (mkE_ok slices_IndexFunc_api_Attr_h (slices_IndexFunc_api_Attr_fn N) _ _ (slices_IndexFunc_api_Attr_fn_ok N)) Tryz.func134 rfl Tryz.call134 (slices_IndexFunc_api_Attr_sg fun x _ => slices_IndexFunc_api_Attr N x.1 x.2.1) slices_IndexFunc_api_Attr_pk (fun _ _ => rfl) N (fun x y _ h => ((runL_eq (slices_IndexFunc_api_Attr_E N) N Tryz.f134 (slices_IndexFunc_api_Attr_sg fun x _ => slices_IndexFunc_api_Attr N x.1 x.2.1) slices_IndexFunc_api_Attr_pk (slices_IndexFunc_api_Attr_LP N) (show LoopsOk (slices_IndexFunc_api_Attr_LP N) (slices_IndexFunc_api_Attr_E N) N (resD (slices_IndexFunc_api_Attr_E N) Tryz.f134 (slices_IndexFunc_api_Attr_sg fun x _ => slices_IndexFunc_api_Attr N x.1 x.2.1) slices_IndexFunc_api_Attr_pk) [(0, (cAt (bodyOf Tryz.f134) [true, false, true, false, false]))] from ⟨slices_IndexFunc_api_Attr_lp0 N, trivial⟩) x y).trans (slices_IndexFunc_api_Attr_core N x y)).trans h)
def slices_ContainsFunc_api_Attr (N : Nat) (x0 : List (Str × GValue)) (x1 : Unit) : Option Bool :=
  bnd (slices_IndexFunc_api_Attr N x0 x1) fun t7 =>
  some (decide (t7 ≥ (0 : Int)))
abbrev slices_ContainsFunc_api_Attr_sg (f : SV [.v (.sl (.pr .str (.rc .value))), .v (.clo 95 .un)] → BV [] → Option (Bool)) : AF := { ps := [.v (.sl (.pr .str (.rc .value))), .v (.clo 95 .un)], bs := [], rs := [.v .bool], cs := [], R := Bool, out := fun z => ((z, ()), ()), f := f }
abbrev slices_ContainsFunc_api_Attr_pk : SV [.v .bool] → BV [] → Bool := fun x _ => x.1
def slices_ContainsFunc_api_Attr_fn (N : Nat) : FuncId → Option Tmp → Option AF := fun f _ =>
  match f with
    | 134 => some (slices_IndexFunc_api_Attr_sg fun x _ => slices_IndexFunc_api_Attr N x.1 x.2.1)
    | _ => none
theorem slices_ContainsFunc_api_Attr_fn_ok (N : Nat) : ∀ f q F, slices_ContainsFunc_api_Attr_fn N f q = some F → Sound Tryz.prog GW B0G f F := by
  intro f q F h
  unfold slices_ContainsFunc_api_Attr_fn at h
  split at h
  · cases h; exact slices_IndexFunc_api_Attr_sound N
  · cases h
def slices_ContainsFunc_api_Attr_h : Nat → Hint := fun i =>
  match i with
  | _ => ⟨[], [], [], [], [], []⟩
abbrev slices_ContainsFunc_api_Attr_E (N : Nat) : Env := mkE slices_ContainsFunc_api_Attr_h (slices_ContainsFunc_api_Attr_fn N) (fun _ => false) (fun _ => false)
noncomputable def slices_ContainsFunc_api_Attr_LP (N : Nat) : Nat → Code → St → (Ex → St → Option Bool) → Option Bool := fun i c =>
  match i with
  | i => fun st k => iter (slices_ContainsFunc_api_Attr_h i) (exec (slices_ContainsFunc_api_Attr_E N) N c i) N st k
theorem slices_ContainsFunc_api_Attr_core (N : Nat) (x : SV [.v (.sl (.pr .str (.rc .value))), .v (.clo 95 .un)]) (y : BV []) : runL (slices_ContainsFunc_api_Attr_E N) Tryz.f94 (slices_ContainsFunc_api_Attr_sg fun x _ => slices_ContainsFunc_api_Attr N x.1 x.2.1) slices_ContainsFunc_api_Attr_pk (slices_ContainsFunc_api_Attr_LP N) x y = slices_ContainsFunc_api_Attr N x.1 x.2.1 := by kernel_rfl
theorem slices_ContainsFunc_api_Attr_sound (N : Nat) : Sound Tryz.prog GW B0G 94 (slices_ContainsFunc_api_Attr_sg fun x _ => slices_ContainsFunc_api_Attr N x.1 x.2.1) :=
  runD_sound (mkE_ok slices_ContainsFunc_api_Attr_h (slices_ContainsFunc_api_Attr_fn N) _ _ (slices_ContainsFunc_api_Attr_fn_ok N)) Tryz.func94 rfl Tryz.call94 (slices_ContainsFunc_api_Attr_sg fun x _ => slices_ContainsFunc_api_Attr N x.1 x.2.1) slices_ContainsFunc_api_Attr_pk (fun _ _ => rfl) N (fun x y _ h => ((runL_eq (slices_ContainsFunc_api_Attr_E N) N Tryz.f94 (slices_ContainsFunc_api_Attr_sg fun x _ => slices_ContainsFunc_api_Attr N x.1 x.2.1) slices_ContainsFunc_api_Attr_pk (slices_ContainsFunc_api_Attr_LP N) (show LoopsOk (slices_ContainsFunc_api_Attr_LP N) (slices_ContainsFunc_api_Attr_E N) N (resD (slices_ContainsFunc_api_Attr_E N) Tryz.f94 (slices_ContainsFunc_api_Attr_sg fun x _ => slices_ContainsFunc_api_Attr N x.1 x.2.1) slices_ContainsFunc_api_Attr_pk) [] from trivial) x y).trans (slices_ContainsFunc_api_Attr_core N x y)).trans h)
def script_CheckTarget_L0T (N : Nat) (c19 : List (Str × GValue)) (c20 : Int) (c1001_2 : List (Str × GValue)) (k0 : Option Int) (self : Int → Option Int) (s21 : Int) : Option Int :=
  br (decide (s21 < c20))
    (bnd (geti c19 s21) fun t24 =>
    bnd (script_IsName N t24.1) fun t28 =>
    br (!t28)
      (some (5 : Int))
      (bnd (script_CheckValue N (script_checkCases N N) (GValue.mk t24.2.kind t24.2.text t24.2.number t24.2.list t24.2.cases)) fun t32 =>
      br (t32 != (0 : Int))
        (some t32)
        (br (decide (s21 > (0 : Int)))
          (bnd (geti c1001_2 (IntKind.i64.wrap (s21 - (1 : Int)))) fun t45 =>
          br (Op.bytesLess t24.1 t45.1 || t24.1 == t45.1)
            (some (8 : Int))
            (self (IntKind.i64.wrap (s21 + (1 : Int)))))
          (self (IntKind.i64.wrap (s21 + (1 : Int)))))))
    (k0)
def script_CheckTarget_L0 (N : Nat) (c19 : List (Str × GValue)) (c20 : Int) (c1001_2 : List (Str × GValue)) (k0 : Option Int) : Nat → Int → Option Int
  | 0, _ => none
  | n + 1, s21 => script_CheckTarget_L0T N c19 c20 c1001_2 k0 (script_CheckTarget_L0 N c19 c20 c1001_2 k0 n) s21
def script_CheckTarget (N : Nat) (x0 : Str × Str × List (Str × GValue)) : Option Int :=
  bnd (blob_IsPath N x0.1) fun t8 =>
  br (!t8)
    (some (3 : Int))
    (bnd (script_IsName N x0.2.1) fun t12 =>
    br (!t12)
      (some (5 : Int))
      (br (decide ((x0.2.2.length : Int) > (30 : Int)))
        (some (2 : Int))
        (script_CheckTarget_L0 N x0.2.2 (x0.2.2.length : Int) x0.2.2 (bnd (slices_ContainsFunc_api_Attr N x0.2.2 ()) fun t53 =>
            br (t53)
              (some (5 : Int))
              (some (0 : Int))) N (0 : Int))))
abbrev script_CheckTarget_sg (f : SV [.v (.pr .str (.pr .str (.sl (.pr .str (.rc .value)))))] → BV [] → Option (Int)) : AF := { ps := [.v (.pr .str (.pr .str (.sl (.pr .str (.rc .value)))))], bs := [], rs := [.v (.int .i64)], cs := [], R := Int, out := fun z => ((z, ()), ()), f := f }
abbrev script_CheckTarget_pk : SV [.v (.int .i64)] → BV [] → Int := fun x _ => x.1
def script_CheckTarget_fn (N : Nat) : FuncId → Option Tmp → Option AF := fun f _ =>
  match f with
    | 14 => some (script_CheckValue_sg fun x _ => script_CheckValue N (script_checkCases N N) x.1)
    | 51 => some (script_IsName_sg fun x _ => script_IsName N x.1)
    | 56 => some (blob_IsPath_sg fun x _ => blob_IsPath N x.1)
    | 94 => some (slices_ContainsFunc_api_Attr_sg fun x _ => slices_ContainsFunc_api_Attr N x.1 x.2.1)
    | _ => none
theorem script_CheckTarget_fn_ok (N : Nat) : ∀ f q F, script_CheckTarget_fn N f q = some F → Sound Tryz.prog GW B0G f F := by
  intro f q F h
  unfold script_CheckTarget_fn at h
  split at h
  · cases h; exact script_CheckValue_sound N (script_checkCases N N) (script_checkCases_sound N N)
  · cases h; exact script_IsName_sound N
  · cases h; exact blob_IsPath_sound N
  · cases h; exact slices_ContainsFunc_api_Attr_sound N
  · cases h
def script_CheckTarget_h : Nat → Hint := fun i =>
  match i with
  | 0 => ⟨[], [1, 19, 20, 21], [1001], [1], [1001], []⟩
  | _ => ⟨[], [], [], [], [], []⟩
abbrev script_CheckTarget_E (N : Nat) : Env := mkE script_CheckTarget_h (script_CheckTarget_fn N) (fun _ => false) (fun _ => false)
abbrev script_CheckTarget_L0_fs : List (Nat × Sl) := [(1, .box 1001 0), (19, .v (.sl (.pr .str (.rc .value)))), (20, .v (.int .i64)), (21, .v (.int .i64))]
abbrev script_CheckTarget_L0_bs : List (Nat × Sb) := [(1001, .cells [.v .str, .v .str, .v (.sl (.pr .str (.rc .value)))])]
def script_CheckTarget_L0_hd (c19 : List (Str × GValue)) (c20 : Int) (c1001_0 : Str) (c1001_1 : Str) (c1001_2 : List (Str × GValue)) (s21 : Int) : St := ⟨54, [(1, .box 1001 0), (19, .v (.sl (.pr .str (.rc .value))) c19), (20, .v (.int .i64) c20), (21, .v (.int .i64) s21)], [(1001, .cells [.v .str c1001_0, .v .str c1001_1, .v (.sl (.pr .str (.rc .value))) c1001_2])]⟩
def script_CheckTarget_L0_tl0 (_c19 : List (Str × GValue)) (_c20 : Int) (c1001_0 : Str) (c1001_1 : Str) (c1001_2 : List (Str × GValue)) : St := ⟨54, [(1, .box 1001 0)], [(1001, .cells [.v .str c1001_0, .v .str c1001_1, .v (.sl (.pr .str (.rc .value))) c1001_2])]⟩
def script_CheckTarget_L0_G (N : Nat) (c19 : List (Str × GValue)) (c20 : Int) (c1001_0 : Str) (c1001_1 : Str) (c1001_2 : List (Str × GValue)) (s21 : Int) (k : Ex → St → Option Int) : Option Int :=
  script_CheckTarget_L0 N c19 c20 c1001_2 (k (.exit 0) (script_CheckTarget_L0_tl0 c19 c20 c1001_0 c1001_1 c1001_2)) N s21
abbrev script_CheckTarget_L0_F (N : Nat) : FV script_CheckTarget_L0_fs → HV script_CheckTarget_L0_bs → (Ex → St → Option Int) → Option Int := fun x y k => script_CheckTarget_L0_G N x.2.1 x.2.2.1 y.1.1 y.1.2.1 y.1.2.2.1 x.2.2.2.1 k
noncomputable def script_CheckTarget_LP (N : Nat) : Nat → Code → St → (Ex → St → Option Int) → Option Int := fun i c =>
  match i with
  | 0 => (LPc 54 script_CheckTarget_L0_fs script_CheckTarget_L0_bs (script_CheckTarget_L0_F N) (fun st k => iter (script_CheckTarget_h 0) (exec (script_CheckTarget_E N) N c 0) N st k))
  | i => fun st k => iter (script_CheckTarget_h i) (exec (script_CheckTarget_E N) N c i) N st k
theorem script_CheckTarget_L0_step (N : Nat) (c19 : List (Str × GValue)) (c20 : Int) (c1001_0 : Str) (c1001_1 : Str) (c1001_2 : List (Str × GValue)) (KX : Nat → St → Option Int) (I : St → Option Int) (s21 : Int) :
    execL (script_CheckTarget_LP N) (script_CheckTarget_E N) (cAt (bodyOf Tryz.f50) [true, true, true, true, false, true, false, false]) 0 (script_CheckTarget_L0_hd c19 c20 c1001_0 c1001_1 c1001_2 s21) (roundK (script_CheckTarget_h 0) I KX (resD (script_CheckTarget_E N) Tryz.f50 (script_CheckTarget_sg fun x _ => script_CheckTarget N x.1) script_CheckTarget_pk)) = script_CheckTarget_L0T N c19 c20 c1001_2 (KX 0 (script_CheckTarget_L0_tl0 c19 c20 c1001_0 c1001_1 c1001_2)) (fun s21 => I (script_CheckTarget_L0_hd c19 c20 c1001_0 c1001_1 c1001_2 s21)) s21 := by kernel_rfl
theorem script_CheckTarget_L0_ok (N : Nat) : ∀ x y k, (∀ st, k .ret st = (resD (script_CheckTarget_E N) Tryz.f50 (script_CheckTarget_sg fun x _ => script_CheckTarget N x.1) script_CheckTarget_pk) st) → iter (script_CheckTarget_h 0) (exec (script_CheckTarget_E N) N (cAt (bodyOf Tryz.f50) [true, true, true, true, false, true, false, false]) 0) N ⟨54, unF script_CheckTarget_L0_fs x, unH script_CheckTarget_L0_bs y⟩ k = script_CheckTarget_L0_F N x y k := fun x y k hk =>
  iter_link (S := (Int) × Unit) (script_CheckTarget_h 0) _ (execL (script_CheckTarget_LP N) (script_CheckTarget_E N) (cAt (bodyOf Tryz.f50) [true, true, true, true, false, true, false, false]) 0) (resD (script_CheckTarget_E N) Tryz.f50 (script_CheckTarget_sg fun x _ => script_CheckTarget N x.1) script_CheckTarget_pk) (fun st k hk => execL_eq _ _ N _ (cAt (bodyOf Tryz.f50) [true, true, true, true, false, true, false, false]) 0 (show LoopsOk (script_CheckTarget_LP N) (script_CheckTarget_E N) N (resD (script_CheckTarget_E N) Tryz.f50 (script_CheckTarget_sg fun x _ => script_CheckTarget N x.1) script_CheckTarget_pk) [] from trivial) st k hk) (fun s => script_CheckTarget_L0_hd x.2.1 x.2.2.1 y.1.1 y.1.2.1 y.1.2.2.1 s.1) k hk
    (fun self s => script_CheckTarget_L0T N x.2.1 x.2.2.1 y.1.2.2.1 (k (.exit 0) (script_CheckTarget_L0_tl0 x.2.1 x.2.2.1 y.1.1 y.1.2.1 y.1.2.2.1)) (fun s21 => self (s21, ())) s.1) (fun n s => script_CheckTarget_L0 N x.2.1 x.2.2.1 y.1.2.2.1 (k (.exit 0) (script_CheckTarget_L0_tl0 x.2.1 x.2.2.1 y.1.1 y.1.2.1 y.1.2.2.1)) n s.1) (fun _ => rfl) (fun _ _ => rfl)
    (fun I s => script_CheckTarget_L0_step N x.2.1 x.2.2.1 y.1.1 y.1.2.1 y.1.2.2.1 (fun j => k (.exit j)) I s.1) N (x.2.2.2.1, ())
theorem script_CheckTarget_lp0 (N : Nat) : ∀ st k, (∀ st, k .ret st = (resD (script_CheckTarget_E N) Tryz.f50 (script_CheckTarget_sg fun x _ => script_CheckTarget N x.1) script_CheckTarget_pk) st) → script_CheckTarget_LP N 0 (cAt (bodyOf Tryz.f50) [true, true, true, true, false, true, false, false]) st k = iter (Env.hint (script_CheckTarget_E N) 0) (exec (script_CheckTarget_E N) N (cAt (bodyOf Tryz.f50) [true, true, true, true, false, true, false, false]) 0) N st k := fun st k hk => LPc_eq 54 script_CheckTarget_L0_fs script_CheckTarget_L0_bs _ _ (resD (script_CheckTarget_E N) Tryz.f50 (script_CheckTarget_sg fun x _ => script_CheckTarget N x.1) script_CheckTarget_pk) (script_CheckTarget_L0_ok N) _ st k hk (rfl)
theorem script_CheckTarget_core (N : Nat) (x : SV [.v (.pr .str (.pr .str (.sl (.pr .str (.rc .value)))))]) (y : BV []) : runL (script_CheckTarget_E N) Tryz.f50 (script_CheckTarget_sg fun x _ => script_CheckTarget N x.1) script_CheckTarget_pk (script_CheckTarget_LP N) x y = script_CheckTarget N x.1 := by kernel_rfl
theorem script_CheckTarget_sound (N : Nat) : Sound Tryz.prog GW B0G 50 (script_CheckTarget_sg fun x _ => script_CheckTarget N x.1) :=
  runD_sound (mkE_ok script_CheckTarget_h (script_CheckTarget_fn N) _ _ (script_CheckTarget_fn_ok N)) Tryz.func50 rfl Tryz.call50 (script_CheckTarget_sg fun x _ => script_CheckTarget N x.1) script_CheckTarget_pk (fun _ _ => rfl) N (fun x y _ h => ((runL_eq (script_CheckTarget_E N) N Tryz.f50 (script_CheckTarget_sg fun x _ => script_CheckTarget N x.1) script_CheckTarget_pk (script_CheckTarget_LP N) (show LoopsOk (script_CheckTarget_LP N) (script_CheckTarget_E N) N (resD (script_CheckTarget_E N) Tryz.f50 (script_CheckTarget_sg fun x _ => script_CheckTarget N x.1) script_CheckTarget_pk) [(0, (cAt (bodyOf Tryz.f50) [true, true, true, true, false, true, false, false]))] from ⟨script_CheckTarget_lp0 N, trivial⟩) x y).trans (script_CheckTarget_core N x y)).trans h)
def slices_Clone_string_string (_N : Nat) (x0 : List Str) : Option (List Str) :=
  br ((x0).isEmpty)
    (both
      (some ([] : List Str))
      (br (decide ((([] : List Str).length + x0.length) * (24 * Ty.sz .str) ≤ 140737488355328))
        (some (([] : List Str) ++ x0))
        none))
    (br (decide ((([] : List Str).length + x0.length) * (24 * Ty.sz .str) ≤ 140737488355328))
      (some (([] : List Str) ++ x0))
      none)
abbrev slices_Clone_string_string_sg (f : SV [.v (.sl .str)] → BV [] → Option (List Str)) : AF := { ps := [.v (.sl .str)], bs := [], rs := [.row 0], cs := [.row 9 .str true], R := List Str, out := fun z => (((), ()), (z, ())), f := f }
abbrev slices_Clone_string_string_pk : SV [.row 0] → BV [.row 9 .str true] → (List Str) := fun _ y => y.1
def slices_Clone_string_string_fn (_N : Nat) : FuncId → Option Tmp → Option AF := fun f _ =>
  match f with
    | _ => none
theorem slices_Clone_string_string_fn_ok (N : Nat) : ∀ f q F, slices_Clone_string_string_fn N f q = some F → Sound Tryz.prog GW B0G f F := by
  intro f q F h
  unfold slices_Clone_string_string_fn at h
  split at h
  · cases h
def slices_Clone_string_string_h : Nat → Hint := fun i =>
  match i with
  | _ => ⟨[], [], [], [], [], []⟩
abbrev slices_Clone_string_string_E (N : Nat) : Env := mkE slices_Clone_string_string_h (slices_Clone_string_string_fn N) (fun i => match i with | 2 => true | 5 => true | _ => false) (fun _ => false)
noncomputable def slices_Clone_string_string_LP (N : Nat) : Nat → Code → St → (Ex → St → Option (List Str)) → Option (List Str) := fun i c =>
  match i with
  | i => fun st k => iter (slices_Clone_string_string_h i) (exec (slices_Clone_string_string_E N) N c i) N st k
theorem slices_Clone_string_string_core (N : Nat) (x : SV [.v (.sl .str)]) (y : BV []) : runL (slices_Clone_string_string_E N) Tryz.f100 (slices_Clone_string_string_sg fun x _ => slices_Clone_string_string N x.1) slices_Clone_string_string_pk (slices_Clone_string_string_LP N) x y = slices_Clone_string_string N x.1 := by kernel_rfl
theorem slices_Clone_string_string_sound (N : Nat) : Sound Tryz.prog GW B0G 100 (slices_Clone_string_string_sg fun x _ => slices_Clone_string_string N x.1) :=
  runD_sound (mkE_ok slices_Clone_string_string_h (slices_Clone_string_string_fn N) _ _ (slices_Clone_string_string_fn_ok N)) Tryz.func100 rfl Tryz.call100 (slices_Clone_string_string_sg fun x _ => slices_Clone_string_string N x.1) slices_Clone_string_string_pk (fun _ _ => rfl) N (fun x y _ h => ((runL_eq (slices_Clone_string_string_E N) N Tryz.f100 (slices_Clone_string_string_sg fun x _ => slices_Clone_string_string N x.1) slices_Clone_string_string_pk (slices_Clone_string_string_LP N) (show LoopsOk (slices_Clone_string_string_LP N) (slices_Clone_string_string_E N) N (resD (slices_Clone_string_string_E N) Tryz.f100 (slices_Clone_string_string_sg fun x _ => slices_Clone_string_string N x.1) slices_Clone_string_string_pk) [] from trivial) x y).trans (slices_Clone_string_string_core N x y)).trans h)
def slices_Clone_api_Case (_N : Nat) (x0 : List (Str × GValue)) : Option (List (Str × GValue)) :=
  br ((x0).isEmpty)
    (both
      (some ([] : List (Str × GValue)))
      (br (decide ((([] : List (Str × GValue)).length + x0.length) * (24 * Ty.sz (.pr .str (.rc .value))) ≤ 140737488355328))
        (some (([] : List (Str × GValue)) ++ x0))
        none))
    (br (decide ((([] : List (Str × GValue)).length + x0.length) * (24 * Ty.sz (.pr .str (.rc .value))) ≤ 140737488355328))
      (some (([] : List (Str × GValue)) ++ x0))
      none)
abbrev slices_Clone_api_Case_sg (f : SV [.v (.sl (.pr .str (.rc .value)))] → BV [] → Option (List (Str × GValue))) : AF := { ps := [.v (.sl (.pr .str (.rc .value)))], bs := [], rs := [.row 0], cs := [.row 75 (.pr .str (.rc .value)) true], R := List (Str × GValue), out := fun z => (((), ()), (z, ())), f := f }
abbrev slices_Clone_api_Case_pk : SV [.row 0] → BV [.row 75 (.pr .str (.rc .value)) true] → (List (Str × GValue)) := fun _ y => y.1
def slices_Clone_api_Case_fn (_N : Nat) : FuncId → Option Tmp → Option AF := fun f _ =>
  match f with
    | _ => none
theorem slices_Clone_api_Case_fn_ok (N : Nat) : ∀ f q F, slices_Clone_api_Case_fn N f q = some F → Sound Tryz.prog GW B0G f F := by
  intro f q F h
  unfold slices_Clone_api_Case_fn at h
  split at h
  · cases h
def slices_Clone_api_Case_h : Nat → Hint := fun i =>
  match i with
  | _ => ⟨[], [], [], [], [], []⟩
abbrev slices_Clone_api_Case_E (N : Nat) : Env := mkE slices_Clone_api_Case_h (slices_Clone_api_Case_fn N) (fun i => match i with | 2 => true | 5 => true | _ => false) (fun _ => false)
noncomputable def slices_Clone_api_Case_LP (N : Nat) : Nat → Code → St → (Ex → St → Option (List (Str × GValue))) → Option (List (Str × GValue)) := fun i c =>
  match i with
  | i => fun st k => iter (slices_Clone_api_Case_h i) (exec (slices_Clone_api_Case_E N) N c i) N st k
theorem slices_Clone_api_Case_core (N : Nat) (x : SV [.v (.sl (.pr .str (.rc .value)))]) (y : BV []) : runL (slices_Clone_api_Case_E N) Tryz.f101 (slices_Clone_api_Case_sg fun x _ => slices_Clone_api_Case N x.1) slices_Clone_api_Case_pk (slices_Clone_api_Case_LP N) x y = slices_Clone_api_Case N x.1 := by kernel_rfl
theorem slices_Clone_api_Case_sound (N : Nat) : Sound Tryz.prog GW B0G 101 (slices_Clone_api_Case_sg fun x _ => slices_Clone_api_Case N x.1) :=
  runD_sound (mkE_ok slices_Clone_api_Case_h (slices_Clone_api_Case_fn N) _ _ (slices_Clone_api_Case_fn_ok N)) Tryz.func101 rfl Tryz.call101 (slices_Clone_api_Case_sg fun x _ => slices_Clone_api_Case N x.1) slices_Clone_api_Case_pk (fun _ _ => rfl) N (fun x y _ h => ((runL_eq (slices_Clone_api_Case_E N) N Tryz.f101 (slices_Clone_api_Case_sg fun x _ => slices_Clone_api_Case N x.1) slices_Clone_api_Case_pk (slices_Clone_api_Case_LP N) (show LoopsOk (slices_Clone_api_Case_LP N) (slices_Clone_api_Case_E N) N (resD (slices_Clone_api_Case_E N) Tryz.f101 (slices_Clone_api_Case_sg fun x _ => slices_Clone_api_Case N x.1) slices_Clone_api_Case_pk) [] from trivial) x y).trans (slices_Clone_api_Case_core N x y)).trans h)
abbrev script_Own_sg (f : SV [.v (.rc .value)] → BV [] → Option (GValue)) : AF := { ps := [.v (.rc .value)], bs := [], rs := [.v (.rc .value)], cs := [], R := GValue, out := fun z => ((z, ()), ()), f := f }
def script_Own_b_L0T (_N : Nat) (r_script_Own : GValue → Option (GValue)) (c14 : Int) (k0 : (List (Str × GValue)) → Option GValue) (self : Int → (List (Str × GValue)) → Option GValue) (s15 : Int) (w100900 : List (Str × GValue)) : Option GValue :=
  br (decide (s15 < c14))
    (br (decide (0 ≤ s15 ∧ s15 < (w100900.length : Int)))
      (bnd (geti w100900 s15) fun t26 =>
      bnd (r_script_Own t26.2) fun t27 =>
      br (decide (0 ≤ s15 ∧ s15 < (w100900.length : Int)))
        (bnd (geti w100900 s15) fun u =>
        self (IntKind.i64.wrap (s15 + (1 : Int))) (seti w100900 s15 (u.1, t27)))
        none)
      none)
    (k0 w100900)
def script_Own_b_L0 (N : Nat) (r_script_Own : GValue → Option (GValue)) (c14 : Int) (k0 : (List (Str × GValue)) → Option GValue) : Nat → Int → (List (Str × GValue)) → Option GValue
  | 0, _, _ => none
  | n + 1, s15, w100900 => script_Own_b_L0T N r_script_Own c14 k0 (script_Own_b_L0 N r_script_Own c14 k0 n) s15 w100900
def script_Own_b (N : Nat) (r_script_Own : GValue → Option (GValue)) (x0 : GValue) : Option GValue :=
  bnd (slices_Clone_string_string N x0.list) fun t6 =>
  bnd (slices_Clone_api_Case N x0.cases) fun t9 =>
  script_Own_b_L0 N r_script_Own (t9.length : Int) (fun o0_w100900 =>
      some (GValue.mk x0.kind x0.text x0.number t6 o0_w100900)) N (0 : Int) t9
abbrev script_Own_b_sg (f : SV [.v (.rc .value)] → BV [] → Option (GValue)) : AF := { ps := [.v (.rc .value)], bs := [], rs := [.v (.rc .value)], cs := [], R := GValue, out := fun z => ((z, ()), ()), f := f }
abbrev script_Own_b_pk : SV [.v (.rc .value)] → BV [] → GValue := fun x _ => x.1
def script_Own_b_fn (N : Nat) (r_script_Own : GValue → Option (GValue)) : FuncId → Option Tmp → Option AF := fun f _ =>
  match f with
    | 52 => some (script_Own_sg fun x _ => r_script_Own x.1)
    | 100 => some (slices_Clone_string_string_sg fun x _ => slices_Clone_string_string N x.1)
    | 101 => some (slices_Clone_api_Case_sg fun x _ => slices_Clone_api_Case N x.1)
    | _ => none
theorem script_Own_b_fn_ok (N : Nat) (r_script_Own : GValue → Option (GValue)) (h_script_Own : Sound Tryz.prog GW B0G 52 (script_Own_sg fun x y => r_script_Own x.1)) : ∀ f q F, script_Own_b_fn N r_script_Own f q = some F → Sound Tryz.prog GW B0G f F := by
  intro f q F h
  unfold script_Own_b_fn at h
  split at h
  · cases h; exact h_script_Own
  · cases h; exact slices_Clone_string_string_sound N
  · cases h; exact slices_Clone_api_Case_sound N
  · cases h
def script_Own_b_h : Nat → Hint := fun i =>
  match i with
  | 0 => ⟨[], [1, 2, 14, 15], [1001, 1002, 100600, 100900], [1, 2], [1001, 1002, 100600, 100900], []⟩
  | 100001 => ⟨[1001], [], [], [], [], []⟩
  | 100005 => ⟨[1001, 100600, 100900], [], [], [], [], []⟩
  | _ => ⟨[], [], [], [], [], []⟩
abbrev script_Own_b_E (N : Nat) (r_script_Own : GValue → Option (GValue)) : Env := mkE script_Own_b_h (script_Own_b_fn N r_script_Own) (fun _ => false) (fun _ => false)
abbrev script_Own_b_L0_fs : List (Nat × Sl) := [(1, .box 1001 0), (2, .box 1002 0), (14, .v (.int .i64)), (15, .v (.int .i64))]
abbrev script_Own_b_L0_bs : List (Nat × Sb) := [(1001, .cells [.v (.int .i64), .v .str, .v (.int .i64), .row 100600, .row 100900]), (1002, .cells [.v (.int .i64), .v .str, .v (.int .i64), .nilS, .nilS]), (100600, .row 9 .str true), (100900, .row 75 (.pr .str (.rc .value)) true)]
def script_Own_b_L0_hd (c14 : Int) (c1001_0 : Int) (c1001_1 : Str) (c1001_2 : Int) (c1002_0 : Int) (c1002_1 : Str) (c1002_2 : Int) (t6 : List Str) (s15 : Int) (w100900 : List (Str × GValue)) : St := ⟨32, [(1, .box 1001 0), (2, .box 1002 0), (14, .v (.int .i64) c14), (15, .v (.int .i64) s15)], [(1001, .cells [.v (.int .i64) c1001_0, .v .str c1001_1, .v (.int .i64) c1001_2, .row 100600, .row 100900]), (1002, .cells [.v (.int .i64) c1002_0, .v .str c1002_1, .v (.int .i64) c1002_2, .nilS, .nilS]), (100600, .row 9 .str true t6), (100900, .row 75 (.pr .str (.rc .value)) true w100900)]⟩
def script_Own_b_L0_tl0 (_c14 : Int) (c1001_0 : Int) (c1001_1 : Str) (c1001_2 : Int) (c1002_0 : Int) (c1002_1 : Str) (c1002_2 : Int) (t6 : List Str) (o0_w100900 : List (Str × GValue)) : St := ⟨32, [(1, .box 1001 0), (2, .box 1002 0)], [(1001, .cells [.v (.int .i64) c1001_0, .v .str c1001_1, .v (.int .i64) c1001_2, .row 100600, .row 100900]), (1002, .cells [.v (.int .i64) c1002_0, .v .str c1002_1, .v (.int .i64) c1002_2, .nilS, .nilS]), (100600, .row 9 .str true t6), (100900, .row 75 (.pr .str (.rc .value)) true o0_w100900)]⟩
def script_Own_b_L0_G (N : Nat) (r_script_Own : GValue → Option (GValue)) (c14 : Int) (c1001_0 : Int) (c1001_1 : Str) (c1001_2 : Int) (c1002_0 : Int) (c1002_1 : Str) (c1002_2 : Int) (t6 : List Str) (s15 : Int) (w100900 : List (Str × GValue)) (k : Ex → St → Option GValue) : Option GValue :=
  script_Own_b_L0 N r_script_Own c14 (fun o0_w100900 => k (.exit 0) (script_Own_b_L0_tl0 c14 c1001_0 c1001_1 c1001_2 c1002_0 c1002_1 c1002_2 t6 o0_w100900)) N s15 w100900
abbrev script_Own_b_L0_F (N : Nat) (r_script_Own : GValue → Option (GValue)) : FV script_Own_b_L0_fs → HV script_Own_b_L0_bs → (Ex → St → Option GValue) → Option GValue := fun x y k => script_Own_b_L0_G N r_script_Own x.2.2.1 y.1.1 y.1.2.1 y.1.2.2.1 y.2.1.1 y.2.1.2.1 y.2.1.2.2.1 y.2.2.1 x.2.2.2.1 y.2.2.2.1 k
noncomputable def script_Own_b_LP (N : Nat) (r_script_Own : GValue → Option (GValue)) : Nat → Code → St → (Ex → St → Option GValue) → Option GValue := fun i c =>
  match i with
  | 0 => (LPc 32 script_Own_b_L0_fs script_Own_b_L0_bs (script_Own_b_L0_F N r_script_Own) (fun st k => iter (script_Own_b_h 0) (exec (script_Own_b_E N r_script_Own) N c 0) N st k))
  | i => fun st k => iter (script_Own_b_h i) (exec (script_Own_b_E N r_script_Own) N c i) N st k
theorem script_Own_b_L0_step (N : Nat) (r_script_Own : GValue → Option (GValue)) (c14 : Int) (c1001_0 : Int) (c1001_1 : Str) (c1001_2 : Int) (c1002_0 : Int) (c1002_1 : Str) (c1002_2 : Int) (t6 : List Str) (KX : Nat → St → Option GValue) (I : St → Option GValue) (s15 : Int) (w100900 : List (Str × GValue)) :
    execL (script_Own_b_LP N r_script_Own) (script_Own_b_E N r_script_Own) (cAt (bodyOf Tryz.f52) [true, true, false, true, false, false]) 0 (script_Own_b_L0_hd c14 c1001_0 c1001_1 c1001_2 c1002_0 c1002_1 c1002_2 t6 s15 w100900) (roundK (script_Own_b_h 0) I KX (resD (script_Own_b_E N r_script_Own) Tryz.f52 (script_Own_b_sg fun x _ => script_Own_b N r_script_Own x.1) script_Own_b_pk)) = script_Own_b_L0T N r_script_Own c14 (fun o0_w100900 => KX 0 (script_Own_b_L0_tl0 c14 c1001_0 c1001_1 c1001_2 c1002_0 c1002_1 c1002_2 t6 o0_w100900)) (fun s15 w100900 => I (script_Own_b_L0_hd c14 c1001_0 c1001_1 c1001_2 c1002_0 c1002_1 c1002_2 t6 s15 w100900)) s15 w100900 := by kernel_rfl
theorem script_Own_b_L0_ok (N : Nat) (r_script_Own : GValue → Option (GValue)) : ∀ x y k, (∀ st, k .ret st = (resD (script_Own_b_E N r_script_Own) Tryz.f52 (script_Own_b_sg fun x _ => script_Own_b N r_script_Own x.1) script_Own_b_pk) st) → iter (script_Own_b_h 0) (exec (script_Own_b_E N r_script_Own) N (cAt (bodyOf Tryz.f52) [true, true, false, true, false, false]) 0) N ⟨32, unF script_Own_b_L0_fs x, unH script_Own_b_L0_bs y⟩ k = script_Own_b_L0_F N r_script_Own x y k := fun x y k hk =>
  iter_link (S := (Int) × (List (Str × GValue)) × Unit) (script_Own_b_h 0) _ (execL (script_Own_b_LP N r_script_Own) (script_Own_b_E N r_script_Own) (cAt (bodyOf Tryz.f52) [true, true, false, true, false, false]) 0) (resD (script_Own_b_E N r_script_Own) Tryz.f52 (script_Own_b_sg fun x _ => script_Own_b N r_script_Own x.1) script_Own_b_pk) (fun st k hk => execL_eq _ _ N _ (cAt (bodyOf Tryz.f52) [true, true, false, true, false, false]) 0 (show LoopsOk (script_Own_b_LP N r_script_Own) (script_Own_b_E N r_script_Own) N (resD (script_Own_b_E N r_script_Own) Tryz.f52 (script_Own_b_sg fun x _ => script_Own_b N r_script_Own x.1) script_Own_b_pk) [] from trivial) st k hk) (fun s => script_Own_b_L0_hd x.2.2.1 y.1.1 y.1.2.1 y.1.2.2.1 y.2.1.1 y.2.1.2.1 y.2.1.2.2.1 y.2.2.1 s.1 s.2.1) k hk
    (fun self s => script_Own_b_L0T N r_script_Own x.2.2.1 (fun o0_w100900 => k (.exit 0) (script_Own_b_L0_tl0 x.2.2.1 y.1.1 y.1.2.1 y.1.2.2.1 y.2.1.1 y.2.1.2.1 y.2.1.2.2.1 y.2.2.1 o0_w100900)) (fun s15 w100900 => self (s15, w100900, ())) s.1 s.2.1) (fun n s => script_Own_b_L0 N r_script_Own x.2.2.1 (fun o0_w100900 => k (.exit 0) (script_Own_b_L0_tl0 x.2.2.1 y.1.1 y.1.2.1 y.1.2.2.1 y.2.1.1 y.2.1.2.1 y.2.1.2.2.1 y.2.2.1 o0_w100900)) n s.1 s.2.1) (fun _ => rfl) (fun _ _ => rfl)
    (fun I s => script_Own_b_L0_step N r_script_Own x.2.2.1 y.1.1 y.1.2.1 y.1.2.2.1 y.2.1.1 y.2.1.2.1 y.2.1.2.2.1 y.2.2.1 (fun j => k (.exit j)) I s.1 s.2.1) N (x.2.2.2.1, y.2.2.2.1, ())
theorem script_Own_b_lp0 (N : Nat) (r_script_Own : GValue → Option (GValue)) : ∀ st k, (∀ st, k .ret st = (resD (script_Own_b_E N r_script_Own) Tryz.f52 (script_Own_b_sg fun x _ => script_Own_b N r_script_Own x.1) script_Own_b_pk) st) → script_Own_b_LP N r_script_Own 0 (cAt (bodyOf Tryz.f52) [true, true, false, true, false, false]) st k = iter (Env.hint (script_Own_b_E N r_script_Own) 0) (exec (script_Own_b_E N r_script_Own) N (cAt (bodyOf Tryz.f52) [true, true, false, true, false, false]) 0) N st k := fun st k hk => LPc_eq 32 script_Own_b_L0_fs script_Own_b_L0_bs _ _ (resD (script_Own_b_E N r_script_Own) Tryz.f52 (script_Own_b_sg fun x _ => script_Own_b N r_script_Own x.1) script_Own_b_pk) (script_Own_b_L0_ok N r_script_Own) _ st k hk (rfl)
theorem script_Own_b_core (N : Nat) (r_script_Own : GValue → Option (GValue)) (x : SV [.v (.rc .value)]) (y : BV []) : runL (script_Own_b_E N r_script_Own) Tryz.f52 (script_Own_b_sg fun x _ => script_Own_b N r_script_Own x.1) script_Own_b_pk (script_Own_b_LP N r_script_Own) x y = script_Own_b N r_script_Own x.1 := by kernel_rfl
theorem script_Own_b_sound (N : Nat) (r_script_Own : GValue → Option (GValue)) (h_script_Own : Sound Tryz.prog GW B0G 52 (script_Own_sg fun x y => r_script_Own x.1)) : Sound Tryz.prog GW B0G 52 (script_Own_b_sg fun x _ => script_Own_b N r_script_Own x.1) :=
  runD_sound (mkE_ok script_Own_b_h (script_Own_b_fn N r_script_Own) _ _ (script_Own_b_fn_ok N r_script_Own h_script_Own)) Tryz.func52 rfl Tryz.call52 (script_Own_b_sg fun x _ => script_Own_b N r_script_Own x.1) script_Own_b_pk (fun _ _ => rfl) N (fun x y _ h => ((runL_eq (script_Own_b_E N r_script_Own) N Tryz.f52 (script_Own_b_sg fun x _ => script_Own_b N r_script_Own x.1) script_Own_b_pk (script_Own_b_LP N r_script_Own) (show LoopsOk (script_Own_b_LP N r_script_Own) (script_Own_b_E N r_script_Own) N (resD (script_Own_b_E N r_script_Own) Tryz.f52 (script_Own_b_sg fun x _ => script_Own_b N r_script_Own x.1) script_Own_b_pk) [(0, (cAt (bodyOf Tryz.f52) [true, true, false, true, false, false]))] from ⟨script_Own_b_lp0 N r_script_Own, trivial⟩) x y).trans (script_Own_b_core N r_script_Own x y)).trans h)
def script_Own (N : Nat) : Nat → GValue → Option (GValue)
  | 0 => fun _ => none
  | d + 1 => script_Own_b N (script_Own N d)
theorem script_Own_sound (N : Nat) : ∀ d, Sound Tryz.prog GW B0G 52 (script_Own_sg fun x y => script_Own N d x.1)
  | 0 => Sound.never Tryz.call52 (fun _ _ => rfl)
  | d + 1 => script_Own_b_sound N (script_Own N d) (script_Own_sound N d)
def script_Attr_L0T (N : Nat) (x1 : Str) (c21 : List (Str × GValue)) (c22 : Int) (k0 : Option (GValue × Bool × Int)) (self : Int → Option (GValue × Bool × Int)) (s23 : Int) : Option (GValue × Bool × Int) :=
  br (decide (s23 < c22))
    (bnd (geti c21 s23) fun t25 =>
    br (t25.1 == x1)
      (bnd (script_Own N N (GValue.mk t25.2.kind t25.2.text t25.2.number t25.2.list t25.2.cases)) fun t33 =>
      some (GValue.mk t33.kind t33.text t33.number t33.list t33.cases, (true, (0 : Int))))
      (self (IntKind.i64.wrap (s23 + (1 : Int)))))
    (k0)
def script_Attr_L0 (N : Nat) (x1 : Str) (c21 : List (Str × GValue)) (c22 : Int) (k0 : Option (GValue × Bool × Int)) : Nat → Int → Option (GValue × Bool × Int)
  | 0, _ => none
  | n + 1, s23 => script_Attr_L0T N x1 c21 c22 k0 (script_Attr_L0 N x1 c21 c22 k0 n) s23
def script_Attr (N : Nat) (x0 : Str × Str × List (Str × GValue)) (x1 : Str) : Option (GValue × Bool × Int) :=
  bnd (script_CheckTarget N x0) fun t11 =>
  br (t11 != (0 : Int))
    (some (GValue.mk (0 : Int) ([] : Str) (0 : Int) ([] : List Str) ([] : List (Str × GValue)), (false, t11)))
    (bnd (script_IsName N x1) fun t17 =>
    br (!t17)
      (some (GValue.mk (0 : Int) ([] : Str) (0 : Int) ([] : List Str) ([] : List (Str × GValue)), (false, (5 : Int))))
      (script_Attr_L0 N x1 x0.2.2 (x0.2.2.length : Int) (some (GValue.mk (0 : Int) ([] : Str) (0 : Int) ([] : List Str) ([] : List (Str × GValue)), (false, (0 : Int)))) N (0 : Int)))
abbrev script_Attr_sg (f : SV [.v (.pr .str (.pr .str (.sl (.pr .str (.rc .value))))), .v .str] → BV [] → Option (GValue × Bool × Int)) : AF := { ps := [.v (.pr .str (.pr .str (.sl (.pr .str (.rc .value))))), .v .str], bs := [], rs := [.v (.rc .value), .v .bool, .v (.int .i64)], cs := [], R := GValue × Bool × Int, out := fun z => ((z.1, z.2.1, z.2.2, ()), ()), f := f }
abbrev script_Attr_pk : SV [.v (.rc .value), .v .bool, .v (.int .i64)] → BV [] → (GValue × Bool × Int) := fun x _ => (x.1, x.2.1, x.2.2.1)
def script_Attr_fn (N : Nat) : FuncId → Option Tmp → Option AF := fun f _ =>
  match f with
    | 50 => some (script_CheckTarget_sg fun x _ => script_CheckTarget N x.1)
    | 51 => some (script_IsName_sg fun x _ => script_IsName N x.1)
    | 52 => some (script_Own_sg fun x _ => script_Own N N x.1)
    | _ => none
theorem script_Attr_fn_ok (N : Nat) : ∀ f q F, script_Attr_fn N f q = some F → Sound Tryz.prog GW B0G f F := by
  intro f q F h
  unfold script_Attr_fn at h
  split at h
  · cases h; exact script_CheckTarget_sound N
  · cases h; exact script_IsName_sound N
  · cases h; exact script_Own_sound N N
  · cases h
def script_Attr_h : Nat → Hint := fun i =>
  match i with
  | 0 => ⟨[], [1, 4, 21, 22, 23], [1004], [4], [1004], []⟩
  | _ => ⟨[], [], [], [], [], []⟩
abbrev script_Attr_E (N : Nat) : Env := mkE script_Attr_h (script_Attr_fn N) (fun _ => false) (fun _ => false)
abbrev script_Attr_L0_fs : List (Nat × Sl) := [(1, .v .str), (4, .box 1004 0), (21, .v (.sl (.pr .str (.rc .value)))), (22, .v (.int .i64)), (23, .v (.int .i64))]
abbrev script_Attr_L0_bs : List (Nat × Sb) := [(1004, .cells [.v (.int .i64), .v .str, .v (.int .i64), .nilS, .nilS])]
def script_Attr_L0_hd (x1 : Str) (c21 : List (Str × GValue)) (c22 : Int) (c1004_0 : Int) (c1004_1 : Str) (c1004_2 : Int) (s23 : Int) : St := ⟨36, [(1, .v .str x1), (4, .box 1004 0), (21, .v (.sl (.pr .str (.rc .value))) c21), (22, .v (.int .i64) c22), (23, .v (.int .i64) s23)], [(1004, .cells [.v (.int .i64) c1004_0, .v .str c1004_1, .v (.int .i64) c1004_2, .nilS, .nilS])]⟩
def script_Attr_L0_tl0 (_x1 : Str) (_c21 : List (Str × GValue)) (_c22 : Int) (c1004_0 : Int) (c1004_1 : Str) (c1004_2 : Int) : St := ⟨36, [(4, .box 1004 0)], [(1004, .cells [.v (.int .i64) c1004_0, .v .str c1004_1, .v (.int .i64) c1004_2, .nilS, .nilS])]⟩
def script_Attr_L0_G (N : Nat) (x1 : Str) (c21 : List (Str × GValue)) (c22 : Int) (c1004_0 : Int) (c1004_1 : Str) (c1004_2 : Int) (s23 : Int) (k : Ex → St → Option (GValue × Bool × Int)) : Option (GValue × Bool × Int) :=
  script_Attr_L0 N x1 c21 c22 (k (.exit 0) (script_Attr_L0_tl0 x1 c21 c22 c1004_0 c1004_1 c1004_2)) N s23
abbrev script_Attr_L0_F (N : Nat) : FV script_Attr_L0_fs → HV script_Attr_L0_bs → (Ex → St → Option (GValue × Bool × Int)) → Option (GValue × Bool × Int) := fun x y k => script_Attr_L0_G N x.1 x.2.2.1 x.2.2.2.1 y.1.1 y.1.2.1 y.1.2.2.1 x.2.2.2.2.1 k
noncomputable def script_Attr_LP (N : Nat) : Nat → Code → St → (Ex → St → Option (GValue × Bool × Int)) → Option (GValue × Bool × Int) := fun i c =>
  match i with
  | 0 => (LPc 36 script_Attr_L0_fs script_Attr_L0_bs (script_Attr_L0_F N) (fun st k => iter (script_Attr_h 0) (exec (script_Attr_E N) N c 0) N st k))
  | i => fun st k => iter (script_Attr_h i) (exec (script_Attr_E N) N c i) N st k
theorem script_Attr_L0_step (N : Nat) (x1 : Str) (c21 : List (Str × GValue)) (c22 : Int) (c1004_0 : Int) (c1004_1 : Str) (c1004_2 : Int) (KX : Nat → St → Option (GValue × Bool × Int)) (I : St → Option (GValue × Bool × Int)) (s23 : Int) :
    execL (script_Attr_LP N) (script_Attr_E N) (cAt (bodyOf Tryz.f18) [true, true, true, false, true, false, false]) 0 (script_Attr_L0_hd x1 c21 c22 c1004_0 c1004_1 c1004_2 s23) (roundK (script_Attr_h 0) I KX (resD (script_Attr_E N) Tryz.f18 (script_Attr_sg fun x _ => script_Attr N x.1 x.2.1) script_Attr_pk)) = script_Attr_L0T N x1 c21 c22 (KX 0 (script_Attr_L0_tl0 x1 c21 c22 c1004_0 c1004_1 c1004_2)) (fun s23 => I (script_Attr_L0_hd x1 c21 c22 c1004_0 c1004_1 c1004_2 s23)) s23 := by kernel_rfl
theorem script_Attr_L0_ok (N : Nat) : ∀ x y k, (∀ st, k .ret st = (resD (script_Attr_E N) Tryz.f18 (script_Attr_sg fun x _ => script_Attr N x.1 x.2.1) script_Attr_pk) st) → iter (script_Attr_h 0) (exec (script_Attr_E N) N (cAt (bodyOf Tryz.f18) [true, true, true, false, true, false, false]) 0) N ⟨36, unF script_Attr_L0_fs x, unH script_Attr_L0_bs y⟩ k = script_Attr_L0_F N x y k := fun x y k hk =>
  iter_link (S := (Int) × Unit) (script_Attr_h 0) _ (execL (script_Attr_LP N) (script_Attr_E N) (cAt (bodyOf Tryz.f18) [true, true, true, false, true, false, false]) 0) (resD (script_Attr_E N) Tryz.f18 (script_Attr_sg fun x _ => script_Attr N x.1 x.2.1) script_Attr_pk) (fun st k hk => execL_eq _ _ N _ (cAt (bodyOf Tryz.f18) [true, true, true, false, true, false, false]) 0 (show LoopsOk (script_Attr_LP N) (script_Attr_E N) N (resD (script_Attr_E N) Tryz.f18 (script_Attr_sg fun x _ => script_Attr N x.1 x.2.1) script_Attr_pk) [] from trivial) st k hk) (fun s => script_Attr_L0_hd x.1 x.2.2.1 x.2.2.2.1 y.1.1 y.1.2.1 y.1.2.2.1 s.1) k hk
    (fun self s => script_Attr_L0T N x.1 x.2.2.1 x.2.2.2.1 (k (.exit 0) (script_Attr_L0_tl0 x.1 x.2.2.1 x.2.2.2.1 y.1.1 y.1.2.1 y.1.2.2.1)) (fun s23 => self (s23, ())) s.1) (fun n s => script_Attr_L0 N x.1 x.2.2.1 x.2.2.2.1 (k (.exit 0) (script_Attr_L0_tl0 x.1 x.2.2.1 x.2.2.2.1 y.1.1 y.1.2.1 y.1.2.2.1)) n s.1) (fun _ => rfl) (fun _ _ => rfl)
    (fun I s => script_Attr_L0_step N x.1 x.2.2.1 x.2.2.2.1 y.1.1 y.1.2.1 y.1.2.2.1 (fun j => k (.exit j)) I s.1) N (x.2.2.2.2.1, ())
theorem script_Attr_lp0 (N : Nat) : ∀ st k, (∀ st, k .ret st = (resD (script_Attr_E N) Tryz.f18 (script_Attr_sg fun x _ => script_Attr N x.1 x.2.1) script_Attr_pk) st) → script_Attr_LP N 0 (cAt (bodyOf Tryz.f18) [true, true, true, false, true, false, false]) st k = iter (Env.hint (script_Attr_E N) 0) (exec (script_Attr_E N) N (cAt (bodyOf Tryz.f18) [true, true, true, false, true, false, false]) 0) N st k := fun st k hk => LPc_eq 36 script_Attr_L0_fs script_Attr_L0_bs _ _ (resD (script_Attr_E N) Tryz.f18 (script_Attr_sg fun x _ => script_Attr N x.1 x.2.1) script_Attr_pk) (script_Attr_L0_ok N) _ st k hk (rfl)
theorem script_Attr_core (N : Nat) (x : SV [.v (.pr .str (.pr .str (.sl (.pr .str (.rc .value))))), .v .str]) (y : BV []) : runL (script_Attr_E N) Tryz.f18 (script_Attr_sg fun x _ => script_Attr N x.1 x.2.1) script_Attr_pk (script_Attr_LP N) x y = script_Attr N x.1 x.2.1 := by kernel_rfl
theorem script_Attr_sound (N : Nat) : Sound Tryz.prog GW B0G 18 (script_Attr_sg fun x _ => script_Attr N x.1 x.2.1) :=
  runD_sound (mkE_ok script_Attr_h (script_Attr_fn N) _ _ (script_Attr_fn_ok N)) Tryz.func18 rfl Tryz.call18 (script_Attr_sg fun x _ => script_Attr N x.1 x.2.1) script_Attr_pk (fun _ _ => rfl) N (fun x y _ h => ((runL_eq (script_Attr_E N) N Tryz.f18 (script_Attr_sg fun x _ => script_Attr N x.1 x.2.1) script_Attr_pk (script_Attr_LP N) (show LoopsOk (script_Attr_LP N) (script_Attr_E N) N (resD (script_Attr_E N) Tryz.f18 (script_Attr_sg fun x _ => script_Attr N x.1 x.2.1) script_Attr_pk) [(0, (cAt (bodyOf Tryz.f18) [true, true, true, false, true, false, false]))] from ⟨script_Attr_lp0 N, trivial⟩) x y).trans (script_Attr_core N x y)).trans h)
def ref2_isNameByte (_N : Nat) (x0 : UInt8) : Option Bool :=
  br (decide (x0 ≥ (97 : UInt8)))
    (br (decide (x0 ≤ (122 : UInt8)))
      (some true)
      (br (decide (x0 ≥ (48 : UInt8)))
        (br (decide (x0 ≤ (57 : UInt8)))
          (some true)
          (some (x0 == (95 : UInt8))))
        (some (x0 == (95 : UInt8)))))
    (br (decide (x0 ≥ (48 : UInt8)))
      (br (decide (x0 ≤ (57 : UInt8)))
        (some true)
        (some (x0 == (95 : UInt8))))
      (some (x0 == (95 : UInt8))))
abbrev ref2_isNameByte_sg (f : SV [.v .u8] → BV [] → Option (Bool)) : AF := { ps := [.v .u8], bs := [], rs := [.v .bool], cs := [], R := Bool, out := fun z => ((z, ()), ()), f := f }
abbrev ref2_isNameByte_pk : SV [.v .bool] → BV [] → Bool := fun x _ => x.1
def ref2_isNameByte_fn (_N : Nat) : FuncId → Option Tmp → Option AF := fun f _ =>
  match f with
    | _ => none
theorem ref2_isNameByte_fn_ok (N : Nat) : ∀ f q F, ref2_isNameByte_fn N f q = some F → Sound Tryz.prog GW B0G f F := by
  intro f q F h
  unfold ref2_isNameByte_fn at h
  split at h
  · cases h
def ref2_isNameByte_h : Nat → Hint := fun i =>
  match i with
  | _ => ⟨[], [], [], [], [], []⟩
abbrev ref2_isNameByte_E (N : Nat) : Env := mkE ref2_isNameByte_h (ref2_isNameByte_fn N) (fun _ => false) (fun _ => false)
noncomputable def ref2_isNameByte_LP (N : Nat) : Nat → Code → St → (Ex → St → Option Bool) → Option Bool := fun i c =>
  match i with
  | i => fun st k => iter (ref2_isNameByte_h i) (exec (ref2_isNameByte_E N) N c i) N st k
theorem ref2_isNameByte_core (N : Nat) (x : SV [.v .u8]) (y : BV []) : runL (ref2_isNameByte_E N) Tryz.f102 (ref2_isNameByte_sg fun x _ => ref2_isNameByte N x.1) ref2_isNameByte_pk (ref2_isNameByte_LP N) x y = ref2_isNameByte N x.1 := by kernel_rfl
theorem ref2_isNameByte_sound (N : Nat) : Sound Tryz.prog GW B0G 102 (ref2_isNameByte_sg fun x _ => ref2_isNameByte N x.1) :=
  runD_sound (mkE_ok ref2_isNameByte_h (ref2_isNameByte_fn N) _ _ (ref2_isNameByte_fn_ok N)) Tryz.func102 rfl Tryz.call102 (ref2_isNameByte_sg fun x _ => ref2_isNameByte N x.1) ref2_isNameByte_pk (fun _ _ => rfl) N (fun x y _ h => ((runL_eq (ref2_isNameByte_E N) N Tryz.f102 (ref2_isNameByte_sg fun x _ => ref2_isNameByte N x.1) ref2_isNameByte_pk (ref2_isNameByte_LP N) (show LoopsOk (ref2_isNameByte_LP N) (ref2_isNameByte_E N) N (resD (ref2_isNameByte_E N) Tryz.f102 (ref2_isNameByte_sg fun x _ => ref2_isNameByte N x.1) ref2_isNameByte_pk) [] from trivial) x y).trans (ref2_isNameByte_core N x y)).trans h)
def ref2_IsName_L0T (N : Nat) (x0 : Str) (c19 : Int) (k0 : Option Bool) (self : Int → Option Bool) (s20 : Int) : Option Bool :=
  br (decide (s20 < c19))
    (bnd (geti x0 s20) fun t25 =>
    bnd (ref2_isNameByte N t25) fun t26 =>
    br (!t26)
      (some false)
      (self (IntKind.i64.wrap (s20 + (1 : Int)))))
    (k0)
def ref2_IsName_L0 (N : Nat) (x0 : Str) (c19 : Int) (k0 : Option Bool) : Nat → Int → Option Bool
  | 0, _ => none
  | n + 1, s20 => ref2_IsName_L0T N x0 c19 k0 (ref2_IsName_L0 N x0 c19 k0 n) s20
def ref2_IsName (N : Nat) (x0 : Str) : Option Bool :=
  bnd (ref2_within N (x0.length : Int) (1 : Int) (40 : Int)) fun t6 =>
  br (!t6)
    (some false)
    (bnd (geti x0 (0 : Int)) fun t10 =>
    br (decide (t10 < (97 : UInt8)))
      (some false)
      (bnd (geti x0 (0 : Int)) fun t15 =>
      br (decide (t15 > (122 : UInt8)))
        (some false)
        (ref2_IsName_L0 N x0 (x0.length : Int) (bnd (strings_Split ([109, 97, 99, 114, 111, 32, 102, 111, 114, 32, 105, 110, 32, 105, 102, 32, 101, 108, 115, 101, 32, 117, 115, 101, 32, 102, 105, 108, 101, 115, 32, 99, 104, 111, 111, 115, 101] : Str) ([32] : Str)) fun t29 =>
            bnd (slices_Contains_string_string N t29 x0) fun t31 =>
            some (!t31)) N (0 : Int))))
abbrev ref2_IsName_sg (f : SV [.v .str] → BV [] → Option (Bool)) : AF := { ps := [.v .str], bs := [], rs := [.v .bool], cs := [], R := Bool, out := fun z => ((z, ()), ()), f := f }
abbrev ref2_IsName_pk : SV [.v .bool] → BV [] → Bool := fun x _ => x.1
def ref2_IsName_fn (N : Nat) : FuncId → Option Tmp → Option AF := fun f _ =>
  match f with
    | 47 => some (ref2_within_sg fun x _ => ref2_within N x.1 x.2.1 x.2.2.1)
    | 98 => some (slices_Contains_string_string_sg fun x _ => slices_Contains_string_string N x.1 x.2.1)
    | 102 => some (ref2_isNameByte_sg fun x _ => ref2_isNameByte N x.1)
    | 103 => some (strings_Split_sg fun x _ => strings_Split x.1 x.2.1)
    | _ => none
theorem ref2_IsName_fn_ok (N : Nat) : ∀ f q F, ref2_IsName_fn N f q = some F → Sound Tryz.prog GW B0G f F := by
  intro f q F h
  unfold ref2_IsName_fn at h
  split at h
  · cases h; exact ref2_within_sound N
  · cases h; exact slices_Contains_string_string_sound N
  · cases h; exact ref2_isNameByte_sound N
  · cases h; exact strings_Split_sound
  · cases h
def ref2_IsName_h : Nat → Hint := fun i =>
  match i with
  | 0 => ⟨[], [0, 19, 20], [], [0], [], []⟩
  | _ => ⟨[], [], [], [], [], []⟩
abbrev ref2_IsName_E (N : Nat) : Env := mkE ref2_IsName_h (ref2_IsName_fn N) (fun _ => false) (fun _ => false)
abbrev ref2_IsName_L0_fs : List (Nat × Sl) := [(0, .v .str), (19, .v (.int .i64)), (20, .v (.int .i64))]
abbrev ref2_IsName_L0_bs : List (Nat × Sb) := []
def ref2_IsName_L0_hd (x0 : Str) (c19 : Int) (s20 : Int) : St := ⟨33, [(0, .v .str x0), (19, .v (.int .i64) c19), (20, .v (.int .i64) s20)], []⟩
def ref2_IsName_L0_tl0 (x0 : Str) (_c19 : Int) : St := ⟨33, [(0, .v .str x0)], []⟩
def ref2_IsName_L0_G (N : Nat) (x0 : Str) (c19 : Int) (s20 : Int) (k : Ex → St → Option Bool) : Option Bool :=
  ref2_IsName_L0 N x0 c19 (k (.exit 0) (ref2_IsName_L0_tl0 x0 c19)) N s20
abbrev ref2_IsName_L0_F (N : Nat) : FV ref2_IsName_L0_fs → HV ref2_IsName_L0_bs → (Ex → St → Option Bool) → Option Bool := fun x _ k => ref2_IsName_L0_G N x.1 x.2.1 x.2.2.1 k
noncomputable def ref2_IsName_LP (N : Nat) : Nat → Code → St → (Ex → St → Option Bool) → Option Bool := fun i c =>
  match i with
  | 0 => (LPc 33 ref2_IsName_L0_fs ref2_IsName_L0_bs (ref2_IsName_L0_F N) (fun st k => iter (ref2_IsName_h 0) (exec (ref2_IsName_E N) N c 0) N st k))
  | i => fun st k => iter (ref2_IsName_h i) (exec (ref2_IsName_E N) N c i) N st k
theorem ref2_IsName_L0_step (N : Nat) (x0 : Str) (c19 : Int) (KX : Nat → St → Option Bool) (I : St → Option Bool) (s20 : Int) :
    execL (ref2_IsName_LP N) (ref2_IsName_E N) (cAt (bodyOf Tryz.f54) [true, true, false, true, false, false]) 0 (ref2_IsName_L0_hd x0 c19 s20) (roundK (ref2_IsName_h 0) I KX (resD (ref2_IsName_E N) Tryz.f54 (ref2_IsName_sg fun x _ => ref2_IsName N x.1) ref2_IsName_pk)) = ref2_IsName_L0T N x0 c19 (KX 0 (ref2_IsName_L0_tl0 x0 c19)) (fun s20 => I (ref2_IsName_L0_hd x0 c19 s20)) s20 := by kernel_rfl
theorem ref2_IsName_L0_ok (N : Nat) : ∀ x y k, (∀ st, k .ret st = (resD (ref2_IsName_E N) Tryz.f54 (ref2_IsName_sg fun x _ => ref2_IsName N x.1) ref2_IsName_pk) st) → iter (ref2_IsName_h 0) (exec (ref2_IsName_E N) N (cAt (bodyOf Tryz.f54) [true, true, false, true, false, false]) 0) N ⟨33, unF ref2_IsName_L0_fs x, unH ref2_IsName_L0_bs y⟩ k = ref2_IsName_L0_F N x y k := fun x _ k hk =>
  iter_link (S := (Int) × Unit) (ref2_IsName_h 0) _ (execL (ref2_IsName_LP N) (ref2_IsName_E N) (cAt (bodyOf Tryz.f54) [true, true, false, true, false, false]) 0) (resD (ref2_IsName_E N) Tryz.f54 (ref2_IsName_sg fun x _ => ref2_IsName N x.1) ref2_IsName_pk) (fun st k hk => execL_eq _ _ N _ (cAt (bodyOf Tryz.f54) [true, true, false, true, false, false]) 0 (show LoopsOk (ref2_IsName_LP N) (ref2_IsName_E N) N (resD (ref2_IsName_E N) Tryz.f54 (ref2_IsName_sg fun x _ => ref2_IsName N x.1) ref2_IsName_pk) [] from trivial) st k hk) (fun s => ref2_IsName_L0_hd x.1 x.2.1 s.1) k hk
    (fun self s => ref2_IsName_L0T N x.1 x.2.1 (k (.exit 0) (ref2_IsName_L0_tl0 x.1 x.2.1)) (fun s20 => self (s20, ())) s.1) (fun n s => ref2_IsName_L0 N x.1 x.2.1 (k (.exit 0) (ref2_IsName_L0_tl0 x.1 x.2.1)) n s.1) (fun _ => rfl) (fun _ _ => rfl)
    (fun I s => ref2_IsName_L0_step N x.1 x.2.1 (fun j => k (.exit j)) I s.1) N (x.2.2.1, ())
theorem ref2_IsName_lp0 (N : Nat) : ∀ st k, (∀ st, k .ret st = (resD (ref2_IsName_E N) Tryz.f54 (ref2_IsName_sg fun x _ => ref2_IsName N x.1) ref2_IsName_pk) st) → ref2_IsName_LP N 0 (cAt (bodyOf Tryz.f54) [true, true, false, true, false, false]) st k = iter (Env.hint (ref2_IsName_E N) 0) (exec (ref2_IsName_E N) N (cAt (bodyOf Tryz.f54) [true, true, false, true, false, false]) 0) N st k := fun st k hk => LPc_eq 33 ref2_IsName_L0_fs ref2_IsName_L0_bs _ _ (resD (ref2_IsName_E N) Tryz.f54 (ref2_IsName_sg fun x _ => ref2_IsName N x.1) ref2_IsName_pk) (ref2_IsName_L0_ok N) _ st k hk (rfl)
theorem ref2_IsName_core (N : Nat) (x : SV [.v .str]) (y : BV []) : runL (ref2_IsName_E N) Tryz.f54 (ref2_IsName_sg fun x _ => ref2_IsName N x.1) ref2_IsName_pk (ref2_IsName_LP N) x y = ref2_IsName N x.1 := by kernel_rfl
theorem ref2_IsName_sound (N : Nat) : Sound Tryz.prog GW B0G 54 (ref2_IsName_sg fun x _ => ref2_IsName N x.1) :=
  runD_sound (mkE_ok ref2_IsName_h (ref2_IsName_fn N) _ _ (ref2_IsName_fn_ok N)) Tryz.func54 rfl Tryz.call54 (ref2_IsName_sg fun x _ => ref2_IsName N x.1) ref2_IsName_pk (fun _ _ => rfl) N (fun x y _ h => ((runL_eq (ref2_IsName_E N) N Tryz.f54 (ref2_IsName_sg fun x _ => ref2_IsName N x.1) ref2_IsName_pk (ref2_IsName_LP N) (show LoopsOk (ref2_IsName_LP N) (ref2_IsName_E N) N (resD (ref2_IsName_E N) Tryz.f54 (ref2_IsName_sg fun x _ => ref2_IsName N x.1) ref2_IsName_pk) [(0, (cAt (bodyOf Tryz.f54) [true, true, false, true, false, false]))] from ⟨ref2_IsName_lp0 N, trivial⟩) x y).trans (ref2_IsName_core N x y)).trans h)
end
end Go.Proofs.YtahjncefiegflaaGreatDoor

