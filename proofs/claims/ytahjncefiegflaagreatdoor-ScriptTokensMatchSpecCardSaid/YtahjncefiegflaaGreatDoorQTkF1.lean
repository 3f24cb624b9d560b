/- What functions of the program compute, as plain functions (printed). -/
import Derived.Test.YtahjncefiegflaaGreatDoorQTkT
namespace Go.Proofs.YtahjncefiegflaaGreatDoor
open Go Go.RowKit
set_option maxRecDepth 100000
set_option linter.unusedVariables false
noncomputable section
def script_isSmall (_N : Nat) (x0 : UInt8) : Option Bool :=
  br (decide (x0 ≥ (97 : UInt8)))
    (some (decide (x0 ≤ (122 : UInt8))))
    (some false)
abbrev script_isSmall_sg (f : SV [.v .u8] → BV [] → Option (Bool)) : AF := { ps := [.v .u8], bs := [], rs := [.v .bool], cs := [], R := Bool, out := fun z => ((z, ()), ()), f := f }
abbrev script_isSmall_pk : SV [.v .bool] → BV [] → Bool := fun x _ => x.1
def script_isSmall_fn (_N : Nat) : FuncId → Option Tmp → Option AF := fun f _ =>
  match f with
    | _ => none
theorem script_isSmall_fn_ok (N : Nat) : ∀ f q F, script_isSmall_fn N f q = some F → Sound Tryz.prog GW B0G f F := by
  intro f q F h
  unfold script_isSmall_fn at h
  split at h
  · cases h
def script_isSmall_h : Nat → Hint := fun i =>
  match i with
  | _ => ⟨[], [], [], [], [], []⟩
abbrev script_isSmall_E (N : Nat) : Env := mkE script_isSmall_h (script_isSmall_fn N) (fun _ => false) (fun _ => false)
noncomputable def script_isSmall_LP (N : Nat) : Nat → Code → St → (Ex → St → Option Bool) → Option Bool := fun i c =>
  match i with
  | i => fun st k => iter (script_isSmall_h i) (exec (script_isSmall_E N) N c i) N st k
theorem script_isSmall_core (N : Nat) (x : SV [.v .u8]) (y : BV []) : runL (script_isSmall_E N) Tryz.f96 (script_isSmall_sg fun x _ => script_isSmall N x.1) script_isSmall_pk (script_isSmall_LP N) x y = script_isSmall N x.1 := by kernel_rfl
theorem script_isSmall_sound (N : Nat) : Sound Tryz.prog GW B0G 96 (script_isSmall_sg fun x _ => script_isSmall N x.1) :=
  runD_sound (mkE_ok script_isSmall_h (script_isSmall_fn N) _ _ (script_isSmall_fn_ok N)) Tryz.func96 rfl Tryz.call96 (script_isSmall_sg fun x _ => script_isSmall N x.1) script_isSmall_pk (fun _ _ => rfl) N (fun x y _ h => ((runL_eq (script_isSmall_E N) N Tryz.f96 (script_isSmall_sg fun x _ => script_isSmall N x.1) script_isSmall_pk (script_isSmall_LP N) (show LoopsOk (script_isSmall_LP N) (script_isSmall_E N) N (resD (script_isSmall_E N) Tryz.f96 (script_isSmall_sg fun x _ => script_isSmall N x.1) script_isSmall_pk) [] from trivial) x y).trans (script_isSmall_core N x y)).trans h)
def script_isDigit (_N : Nat) (x0 : UInt8) : Option Bool :=
  br (decide (x0 ≥ (48 : UInt8)))
    (some (decide (x0 ≤ (57 : UInt8))))
    (some false)
abbrev script_isDigit_sg (f : SV [.v .u8] → BV [] → Option (Bool)) : AF := { ps := [.v .u8], bs := [], rs := [.v .bool], cs := [], R := Bool, out := fun z => ((z, ()), ()), f := f }
abbrev script_isDigit_pk : SV [.v .bool] → BV [] → Bool := fun x _ => x.1
def script_isDigit_fn (_N : Nat) : FuncId → Option Tmp → Option AF := fun f _ =>
  match f with
    | _ => none
theorem script_isDigit_fn_ok (N : Nat) : ∀ f q F, script_isDigit_fn N f q = some F → Sound Tryz.prog GW B0G f F := by
  intro f q F h
  unfold script_isDigit_fn at h
  split at h
  · cases h
def script_isDigit_h : Nat → Hint := fun i =>
  match i with
  | _ => ⟨[], [], [], [], [], []⟩
abbrev script_isDigit_E (N : Nat) : Env := mkE script_isDigit_h (script_isDigit_fn N) (fun _ => false) (fun _ => false)
noncomputable def script_isDigit_LP (N : Nat) : Nat → Code → St → (Ex → St → Option Bool) → Option Bool := fun i c =>
  match i with
  | i => fun st k => iter (script_isDigit_h i) (exec (script_isDigit_E N) N c i) N st k
theorem script_isDigit_core (N : Nat) (x : SV [.v .u8]) (y : BV []) : runL (script_isDigit_E N) Tryz.f97 (script_isDigit_sg fun x _ => script_isDigit N x.1) script_isDigit_pk (script_isDigit_LP N) x y = script_isDigit N x.1 := by kernel_rfl
theorem script_isDigit_sound (N : Nat) : Sound Tryz.prog GW B0G 97 (script_isDigit_sg fun x _ => script_isDigit N x.1) :=
  runD_sound (mkE_ok script_isDigit_h (script_isDigit_fn N) _ _ (script_isDigit_fn_ok N)) Tryz.func97 rfl Tryz.call97 (script_isDigit_sg fun x _ => script_isDigit N x.1) script_isDigit_pk (fun _ _ => rfl) N (fun x y _ h => ((runL_eq (script_isDigit_E N) N Tryz.f97 (script_isDigit_sg fun x _ => script_isDigit N x.1) script_isDigit_pk (script_isDigit_LP N) (show LoopsOk (script_isDigit_LP N) (script_isDigit_E N) N (resD (script_isDigit_E N) Tryz.f97 (script_isDigit_sg fun x _ => script_isDigit N x.1) script_isDigit_pk) [] from trivial) x y).trans (script_isDigit_core N x y)).trans h)
def script_lexer_one_1 (N : Nat) (x0 : UInt8) : Option Bool :=
  bnd (script_isSmall N x0) fun t4 =>
  br (t4)
    (some true)
    (bnd (script_isDigit N x0) fun t7 =>
    br (t7)
      (some true)
      (some (x0 == (95 : UInt8))))
abbrev script_lexer_one_1_sg (f : SV [.v .u8] → BV [] → Option (Bool)) : AF := { ps := [.v .u8], bs := [], rs := [.v .bool], cs := [], R := Bool, out := fun z => ((z, ()), ()), f := f }
abbrev script_lexer_one_1_pk : SV [.v .bool] → BV [] → Bool := fun x _ => x.1
def script_lexer_one_1_fn (N : Nat) : FuncId → Option Tmp → Option AF := fun f _ =>
  match f with
    | 96 => some (script_isSmall_sg fun x _ => script_isSmall N x.1)
    | 97 => some (script_isDigit_sg fun x _ => script_isDigit N x.1)
    | _ => none
theorem script_lexer_one_1_fn_ok (N : Nat) : ∀ f q F, script_lexer_one_1_fn N f q = some F → Sound Tryz.prog GW B0G f F := by
  intro f q F h
  unfold script_lexer_one_1_fn at h
  split at h
  · cases h; exact script_isSmall_sound N
  · cases h; exact script_isDigit_sound N
  · cases h
def script_lexer_one_1_h : Nat → Hint := fun i =>
  match i with
  | _ => ⟨[], [], [], [], [], []⟩
abbrev script_lexer_one_1_E (N : Nat) : Env := mkE script_lexer_one_1_h (script_lexer_one_1_fn N) (fun _ => false) (fun _ => false)
noncomputable def script_lexer_one_1_LP (N : Nat) : Nat → Code → St → (Ex → St → Option Bool) → Option Bool := fun i c =>
  match i with
  | i => fun st k => iter (script_lexer_one_1_h i) (exec (script_lexer_one_1_E N) N c i) N st k
theorem script_lexer_one_1_core (N : Nat) (x : SV [.v .u8]) (y : BV []) : runL (script_lexer_one_1_E N) Tryz.f118 (script_lexer_one_1_sg fun x _ => script_lexer_one_1 N x.1) script_lexer_one_1_pk (script_lexer_one_1_LP N) x y = script_lexer_one_1 N x.1 := by kernel_rfl
theorem script_lexer_one_1_sound (N : Nat) : Sound Tryz.prog GW B0G 118 (script_lexer_one_1_sg fun x _ => script_lexer_one_1 N x.1) :=
  runD_sound (mkE_ok script_lexer_one_1_h (script_lexer_one_1_fn N) _ _ (script_lexer_one_1_fn_ok N)) Tryz.func118 rfl Tryz.call118 (script_lexer_one_1_sg fun x _ => script_lexer_one_1 N x.1) script_lexer_one_1_pk (fun _ _ => rfl) N (fun x y _ h => ((runL_eq (script_lexer_one_1_E N) N Tryz.f118 (script_lexer_one_1_sg fun x _ => script_lexer_one_1 N x.1) script_lexer_one_1_pk (script_lexer_one_1_LP N) (show LoopsOk (script_lexer_one_1_LP N) (script_lexer_one_1_E N) N (resD (script_lexer_one_1_E N) Tryz.f118 (script_lexer_one_1_sg fun x _ => script_lexer_one_1 N x.1) script_lexer_one_1_pk) [] from trivial) x y).trans (script_lexer_one_1_core N x y)).trans h)
def stringslite_HasPrefix (_N : Nat) (x0 : Str) (x1 : Str) : Option Bool :=
  br (decide ((x0.length : Int) ≥ (x1.length : Int)))
    (bnd (slc x0 (0 : Int) (x1.length : Int)) fun t14 =>
    some (t14 == x1))
    (some false)
abbrev stringslite_HasPrefix_sg (f : SV [.v .str, .v .str] → BV [] → Option (Bool)) : AF := { ps := [.v .str, .v .str], bs := [], rs := [.v .bool], cs := [], R := Bool, out := fun z => ((z, ()), ()), f := f }
abbrev stringslite_HasPrefix_pk : SV [.v .bool] → BV [] → Bool := fun x _ => x.1
def stringslite_HasPrefix_fn (_N : Nat) : FuncId → Option Tmp → Option AF := fun f _ =>
  match f with
    | _ => none
theorem stringslite_HasPrefix_fn_ok (N : Nat) : ∀ f q F, stringslite_HasPrefix_fn N f q = some F → Sound Tryz.prog GW B0G f F := by
  intro f q F h
  unfold stringslite_HasPrefix_fn at h
  split at h
  · cases h
def stringslite_HasPrefix_h : Nat → Hint := fun i =>
  match i with
  | _ => ⟨[], [], [], [], [], []⟩
abbrev stringslite_HasPrefix_E (N : Nat) : Env := mkE stringslite_HasPrefix_h (stringslite_HasPrefix_fn N) (fun _ => false) (fun _ => false)
noncomputable def stringslite_HasPrefix_LP (N : Nat) : Nat → Code → St → (Ex → St → Option Bool) → Option Bool := fun i c =>
  match i with
  | i => fun st k => iter (stringslite_HasPrefix_h i) (exec (stringslite_HasPrefix_E N) N c i) N st k
theorem stringslite_HasPrefix_core (N : Nat) (x : SV [.v .str, .v .str]) (y : BV []) : runL (stringslite_HasPrefix_E N) Tryz.f138 (stringslite_HasPrefix_sg fun x _ => stringslite_HasPrefix N x.1 x.2.1) stringslite_HasPrefix_pk (stringslite_HasPrefix_LP N) x y = stringslite_HasPrefix N x.1 x.2.1 := by kernel_rfl
theorem stringslite_HasPrefix_sound (N : Nat) : Sound Tryz.prog GW B0G 138 (stringslite_HasPrefix_sg fun x _ => stringslite_HasPrefix N x.1 x.2.1) :=
  runD_sound (mkE_ok stringslite_HasPrefix_h (stringslite_HasPrefix_fn N) _ _ (stringslite_HasPrefix_fn_ok N)) Tryz.func138 rfl Tryz.call138 (stringslite_HasPrefix_sg fun x _ => stringslite_HasPrefix N x.1 x.2.1) stringslite_HasPrefix_pk (fun _ _ => rfl) N (fun x y _ h => ((runL_eq (stringslite_HasPrefix_E N) N Tryz.f138 (stringslite_HasPrefix_sg fun x _ => stringslite_HasPrefix N x.1 x.2.1) stringslite_HasPrefix_pk (stringslite_HasPrefix_LP N) (show LoopsOk (stringslite_HasPrefix_LP N) (stringslite_HasPrefix_E N) N (resD (stringslite_HasPrefix_E N) Tryz.f138 (stringslite_HasPrefix_sg fun x _ => stringslite_HasPrefix N x.1 x.2.1) stringslite_HasPrefix_pk) [] from trivial) x y).trans (stringslite_HasPrefix_core N x y)).trans h)
def strings_HasPrefix (N : Nat) (x0 : Str) (x1 : Str) : Option Bool :=
  bnd (stringslite_HasPrefix N x0 x1) fun t7 =>
  some t7
abbrev strings_HasPrefix_sg (f : SV [.v .str, .v .str] → BV [] → Option (Bool)) : AF := { ps := [.v .str, .v .str], bs := [], rs := [.v .bool], cs := [], R := Bool, out := fun z => ((z, ()), ()), f := f }
abbrev strings_HasPrefix_pk : SV [.v .bool] → BV [] → Bool := fun x _ => x.1
def strings_HasPrefix_fn (N : Nat) : FuncId → Option Tmp → Option AF := fun f _ =>
  match f with
    | 138 => some (stringslite_HasPrefix_sg fun x _ => stringslite_HasPrefix N x.1 x.2.1)
    | _ => none
theorem strings_HasPrefix_fn_ok (N : Nat) : ∀ f q F, strings_HasPrefix_fn N f q = some F → Sound Tryz.prog GW B0G f F := by
  intro f q F h
  unfold strings_HasPrefix_fn at h
  split at h
  · cases h; exact stringslite_HasPrefix_sound N
  · cases h
def strings_HasPrefix_h : Nat → Hint := fun i =>
  match i with
  | _ => ⟨[], [], [], [], [], []⟩
abbrev strings_HasPrefix_E (N : Nat) : Env := mkE strings_HasPrefix_h (strings_HasPrefix_fn N) (fun _ => false) (fun _ => false)
noncomputable def strings_HasPrefix_LP (N : Nat) : Nat → Code → St → (Ex → St → Option Bool) → Option Bool := fun i c =>
  match i with
  | i => fun st k => iter (strings_HasPrefix_h i) (exec (strings_HasPrefix_E N) N c i) N st k
theorem strings_HasPrefix_core (N : Nat) (x : SV [.v .str, .v .str]) (y : BV []) : runL (strings_HasPrefix_E N) Tryz.f121 (strings_HasPrefix_sg fun x _ => strings_HasPrefix N x.1 x.2.1) strings_HasPrefix_pk (strings_HasPrefix_LP N) x y = strings_HasPrefix N x.1 x.2.1 := by kernel_rfl
theorem strings_HasPrefix_sound (N : Nat) : Sound Tryz.prog GW B0G 121 (strings_HasPrefix_sg fun x _ => strings_HasPrefix N x.1 x.2.1) :=
  runD_sound (mkE_ok strings_HasPrefix_h (strings_HasPrefix_fn N) _ _ (strings_HasPrefix_fn_ok N)) Tryz.func121 rfl Tryz.call121 (strings_HasPrefix_sg fun x _ => strings_HasPrefix N x.1 x.2.1) strings_HasPrefix_pk (fun _ _ => rfl) N (fun x y _ h => ((runL_eq (strings_HasPrefix_E N) N Tryz.f121 (strings_HasPrefix_sg fun x _ => strings_HasPrefix N x.1 x.2.1) strings_HasPrefix_pk (strings_HasPrefix_LP N) (show LoopsOk (strings_HasPrefix_LP N) (strings_HasPrefix_E N) N (resD (strings_HasPrefix_E N) Tryz.f121 (strings_HasPrefix_sg fun x _ => strings_HasPrefix N x.1 x.2.1) strings_HasPrefix_pk) [] from trivial) x y).trans (strings_HasPrefix_core N x y)).trans h)
def script_lexer_blanks_2_L0T (_N : Nat) (y0_0 : Str) (w1 : List (Int × Str × Int × Int)) (k0 : Int → Option (Str × Int × List (Int × Str × Int × Int))) (self : Int → Option (Str × Int × List (Int × Str × Int × Int))) (b0_1 : Int) : Option (Str × Int × List (Int × Str × Int × Int)) :=
  br (decide (b0_1 < (y0_0.length : Int)))
    (bnd (geti y0_0 b0_1) fun t22 =>
    br (t22 == (32 : UInt8))
      (self (IntKind.i64.wrap (b0_1 + (1 : Int))))
      (br (t22 == (9 : UInt8))
        (self (IntKind.i64.wrap (b0_1 + (1 : Int))))
        (br (t22 == (10 : UInt8))
          (self (IntKind.i64.wrap (b0_1 + (1 : Int))))
          (br (t22 == (13 : UInt8))
            (self (IntKind.i64.wrap (b0_1 + (1 : Int))))
            (br (t22 == (35 : UInt8))
              (bnd (slc y0_0 b0_1 (y0_0.length : Int)) fun t56 =>
              bnd (strings_IndexByte t56 (10 : UInt8)) fun t57 =>
              br (decide (t57 < (0 : Int)))
                (self (IntKind.i64.wrap (b0_1 + (IntKind.i64.wrap ((y0_0.length : Int) - b0_1)))))
                (self (IntKind.i64.wrap (b0_1 + t57))))
              (some (y0_0, (b0_1, w1))))))))
    (k0 b0_1)
def script_lexer_blanks_2_L0 (N : Nat) (y0_0 : Str) (w1 : List (Int × Str × Int × Int)) (k0 : Int → Option (Str × Int × List (Int × Str × Int × Int))) : Nat → Int → Option (Str × Int × List (Int × Str × Int × Int))
  | 0, _ => none
  | n + 1, b0_1 => script_lexer_blanks_2_L0T N y0_0 w1 k0 (script_lexer_blanks_2_L0 N y0_0 w1 k0 n) b0_1
def script_lexer_blanks_2 (N : Nat) (y0_0 : Str) (y0_1 : Int) (w1 : List (Int × Str × Int × Int)) : Option (Str × Int × List (Int × Str × Int × Int)) :=
  script_lexer_blanks_2_L0 N y0_0 w1 (fun o0_0_1 =>
      some (y0_0, (o0_0_1, w1))) N y0_1
abbrev script_lexer_blanks_2_sg (f : SV [.box 0 0] → BV [.cells [.v .str, .v (.int .i64), .row 1], .row 64 (.pr (.int .i64) (.pr .str (.pr (.int .i64) (.int .i64)))) false] → Option (Str × Int × List (Int × Str × Int × Int))) : AF := { ps := [.box 0 0], bs := [.cells [.v .str, .v (.int .i64), .row 1], .row 64 (.pr (.int .i64) (.pr .str (.pr (.int .i64) (.int .i64)))) false], rs := [], cs := [.cells [.v .str, .v (.int .i64), .row 1], .row 64 (.pr (.int .i64) (.pr .str (.pr (.int .i64) (.int .i64)))) false], R := Str × Int × List (Int × Str × Int × Int), out := fun z => ((), ((z.1, z.2.1, (), ()), z.2.2, ())), f := f }
abbrev script_lexer_blanks_2_pk : SV [] → BV [.cells [.v .str, .v (.int .i64), .row 1], .row 64 (.pr (.int .i64) (.pr .str (.pr (.int .i64) (.int .i64)))) false] → (Str × Int × List (Int × Str × Int × Int)) := fun _ y => (y.1.1, y.1.2.1, y.2.1)
def script_lexer_blanks_2_fn (_N : Nat) : FuncId → Option Tmp → Option AF := fun f _ =>
  match f with
    | 116 => some (strings_IndexByte_sg fun x _ => strings_IndexByte x.1 x.2.1)
    | _ => none
theorem script_lexer_blanks_2_fn_ok (N : Nat) : ∀ f q F, script_lexer_blanks_2_fn N f q = some F → Sound Tryz.prog GW B0G f F := by
  intro f q F h
  unfold script_lexer_blanks_2_fn at h
  split at h
  · cases h; exact strings_IndexByte_sound
  · cases h
def script_lexer_blanks_2_h : Nat → Hint := fun i =>
  match i with
  | 0 => ⟨[], [0], [0, 1], [], [0, 1], []⟩
  | 100005 => ⟨[0, 1], [1], [], [], [], []⟩
  | _ => ⟨[], [], [], [], [], []⟩
abbrev script_lexer_blanks_2_E (N : Nat) : Env := mkE script_lexer_blanks_2_h (script_lexer_blanks_2_fn N) (fun _ => false) (fun _ => false)
abbrev script_lexer_blanks_2_L0_fs : List (Nat × Sl) := [(0, .box 0 0)]
abbrev script_lexer_blanks_2_L0_bs : List (Nat × Sb) := [(0, .cells [.v .str, .v (.int .i64), .row 1]), (1, .row 64 (.pr (.int .i64) (.pr .str (.pr (.int .i64) (.int .i64)))) false)]
def script_lexer_blanks_2_L0_hd (y0_0 : Str) (w1 : List (Int × Str × Int × Int)) (b0_1 : Int) : St := ⟨78, [(0, .box 0 0)], [(0, .cells [.v .str y0_0, .v (.int .i64) b0_1, .row 1]), (1, .row 64 (.pr (.int .i64) (.pr .str (.pr (.int .i64) (.int .i64)))) false w1)]⟩
def script_lexer_blanks_2_L0_tl0 (y0_0 : Str) (w1 : List (Int × Str × Int × Int)) (o0_0_1 : Int) : St := ⟨78, [], [(0, .cells [.v .str y0_0, .v (.int .i64) o0_0_1, .row 1]), (1, .row 64 (.pr (.int .i64) (.pr .str (.pr (.int .i64) (.int .i64)))) false w1)]⟩
def script_lexer_blanks_2_L0_G (N : Nat) (y0_0 : Str) (w1 : List (Int × Str × Int × Int)) (b0_1 : Int) (k : Ex → St → Option (Str × Int × List (Int × Str × Int × Int))) : Option (Str × Int × List (Int × Str × Int × Int)) :=
  script_lexer_blanks_2_L0 N y0_0 w1 (fun o0_0_1 => k (.exit 0) (script_lexer_blanks_2_L0_tl0 y0_0 w1 o0_0_1)) N b0_1
abbrev script_lexer_blanks_2_L0_F (N : Nat) : FV script_lexer_blanks_2_L0_fs → HV script_lexer_blanks_2_L0_bs → (Ex → St → Option (Str × Int × List (Int × Str × Int × Int))) → Option (Str × Int × List (Int × Str × Int × Int)) := fun _ y k => script_lexer_blanks_2_L0_G N y.1.1 y.2.1 y.1.2.1 k
noncomputable def script_lexer_blanks_2_LP (N : Nat) : Nat → Code → St → (Ex → St → Option (Str × Int × List (Int × Str × Int × Int))) → Option (Str × Int × List (Int × Str × Int × Int)) := fun i c =>
  match i with
  | 0 => (LPc 78 script_lexer_blanks_2_L0_fs script_lexer_blanks_2_L0_bs (script_lexer_blanks_2_L0_F N) (fun st k => iter (script_lexer_blanks_2_h 0) (exec (script_lexer_blanks_2_E N) N c 0) N st k))
  | i => fun st k => iter (script_lexer_blanks_2_h i) (exec (script_lexer_blanks_2_E N) N c i) N st k
theorem script_lexer_blanks_2_L0_step (N : Nat) (y0_0 : Str) (w1 : List (Int × Str × Int × Int)) (KX : Nat → St → Option (Str × Int × List (Int × Str × Int × Int))) (I : St → Option (Str × Int × List (Int × Str × Int × Int))) (b0_1 : Int) :
    execL (script_lexer_blanks_2_LP N) (script_lexer_blanks_2_E N) (cAt (bodyOf Tryz.f74) [false, false]) 0 (script_lexer_blanks_2_L0_hd y0_0 w1 b0_1) (roundK (script_lexer_blanks_2_h 0) I KX (resD (script_lexer_blanks_2_E N) Tryz.f74 (script_lexer_blanks_2_sg fun _ y => script_lexer_blanks_2 N y.1.1 y.1.2.1 y.2.1) script_lexer_blanks_2_pk)) = script_lexer_blanks_2_L0T N y0_0 w1 (fun o0_0_1 => KX 0 (script_lexer_blanks_2_L0_tl0 y0_0 w1 o0_0_1)) (fun b0_1 => I (script_lexer_blanks_2_L0_hd y0_0 w1 b0_1)) b0_1 := by kernel_rfl
theorem script_lexer_blanks_2_L0_ok (N : Nat) : ∀ x y k, (∀ st, k .ret st = (resD (script_lexer_blanks_2_E N) Tryz.f74 (script_lexer_blanks_2_sg fun _ y => script_lexer_blanks_2 N y.1.1 y.1.2.1 y.2.1) script_lexer_blanks_2_pk) st) → iter (script_lexer_blanks_2_h 0) (exec (script_lexer_blanks_2_E N) N (cAt (bodyOf Tryz.f74) [false, false]) 0) N ⟨78, unF script_lexer_blanks_2_L0_fs x, unH script_lexer_blanks_2_L0_bs y⟩ k = script_lexer_blanks_2_L0_F N x y k := fun _ y k hk =>
  iter_link (S := (Int) × Unit) (script_lexer_blanks_2_h 0) _ (execL (script_lexer_blanks_2_LP N) (script_lexer_blanks_2_E N) (cAt (bodyOf Tryz.f74) [false, false]) 0) (resD (script_lexer_blanks_2_E N) Tryz.f74 (script_lexer_blanks_2_sg fun _ y => script_lexer_blanks_2 N y.1.1 y.1.2.1 y.2.1) script_lexer_blanks_2_pk) (fun st k hk => execL_eq _ _ N _ (cAt (bodyOf Tryz.f74) [false, false]) 0 (show LoopsOk (script_lexer_blanks_2_LP N) (script_lexer_blanks_2_E N) N (resD (script_lexer_blanks_2_E N) Tryz.f74 (script_lexer_blanks_2_sg fun _ y => script_lexer_blanks_2 N y.1.1 y.1.2.1 y.2.1) script_lexer_blanks_2_pk) [] from trivial) st k hk) (fun s => script_lexer_blanks_2_L0_hd y.1.1 y.2.1 s.1) k hk
    (fun self s => script_lexer_blanks_2_L0T N y.1.1 y.2.1 (fun o0_0_1 => k (.exit 0) (script_lexer_blanks_2_L0_tl0 y.1.1 y.2.1 o0_0_1)) (fun b0_1 => self (b0_1, ())) s.1) (fun n s => script_lexer_blanks_2_L0 N y.1.1 y.2.1 (fun o0_0_1 => k (.exit 0) (script_lexer_blanks_2_L0_tl0 y.1.1 y.2.1 o0_0_1)) n s.1) (fun _ => rfl) (fun _ _ => rfl)
    (fun I s => script_lexer_blanks_2_L0_step N y.1.1 y.2.1 (fun j => k (.exit j)) I s.1) N (y.1.2.1, ())
theorem script_lexer_blanks_2_lp0 (N : Nat) : ∀ st k, (∀ st, k .ret st = (resD (script_lexer_blanks_2_E N) Tryz.f74 (script_lexer_blanks_2_sg fun _ y => script_lexer_blanks_2 N y.1.1 y.1.2.1 y.2.1) script_lexer_blanks_2_pk) st) → script_lexer_blanks_2_LP N 0 (cAt (bodyOf Tryz.f74) [false, false]) st k = iter (Env.hint (script_lexer_blanks_2_E N) 0) (exec (script_lexer_blanks_2_E N) N (cAt (bodyOf Tryz.f74) [false, false]) 0) N st k := fun st k hk => LPc_eq 78 script_lexer_blanks_2_L0_fs script_lexer_blanks_2_L0_bs _ _ (resD (script_lexer_blanks_2_E N) Tryz.f74 (script_lexer_blanks_2_sg fun _ y => script_lexer_blanks_2 N y.1.1 y.1.2.1 y.2.1) script_lexer_blanks_2_pk) (script_lexer_blanks_2_L0_ok N) _ st k hk (rfl)
theorem script_lexer_blanks_2_core (N : Nat) (x : SV [.box 0 0]) (y : BV [.cells [.v .str, .v (.int .i64), .row 1], .row 64 (.pr (.int .i64) (.pr .str (.pr (.int .i64) (.int .i64)))) false]) : runL (script_lexer_blanks_2_E N) Tryz.f74 (script_lexer_blanks_2_sg fun _ y => script_lexer_blanks_2 N y.1.1 y.1.2.1 y.2.1) script_lexer_blanks_2_pk (script_lexer_blanks_2_LP N) x y = script_lexer_blanks_2 N y.1.1 y.1.2.1 y.2.1 := by kernel_rfl
theorem script_lexer_blanks_2_sound (N : Nat) : Sound Tryz.prog GW B0G 74 (script_lexer_blanks_2_sg fun _ y => script_lexer_blanks_2 N y.1.1 y.1.2.1 y.2.1) :=
  runD_sound (mkE_ok script_lexer_blanks_2_h (script_lexer_blanks_2_fn N) _ _ (script_lexer_blanks_2_fn_ok N)) Tryz.func74 rfl Tryz.call74 (script_lexer_blanks_2_sg fun _ y => script_lexer_blanks_2 N y.1.1 y.1.2.1 y.2.1) script_lexer_blanks_2_pk (fun _ _ => rfl) N (fun x y _ h => ((runL_eq (script_lexer_blanks_2_E N) N Tryz.f74 (script_lexer_blanks_2_sg fun _ y => script_lexer_blanks_2 N y.1.1 y.1.2.1 y.2.1) script_lexer_blanks_2_pk (script_lexer_blanks_2_LP N) (show LoopsOk (script_lexer_blanks_2_LP N) (script_lexer_blanks_2_E N) N (resD (script_lexer_blanks_2_E N) Tryz.f74 (script_lexer_blanks_2_sg fun _ y => script_lexer_blanks_2 N y.1.1 y.1.2.1 y.2.1) script_lexer_blanks_2_pk) [(0, (cAt (bodyOf Tryz.f74) [false, false]))] from ⟨script_lexer_blanks_2_lp0 N, trivial⟩) x y).trans (script_lexer_blanks_2_core N x y)).trans h)
def script_lexer_some_3_L0T (N : Nat) (y0_0 : Str) (k0 : Int → Option (Str × Str × Int × List (Int × Str × Int × Int))) (self : Int → Option (Str × Str × Int × List (Int × Str × Int × Int))) (b0_1 : Int) : Option (Str × Str × Int × List (Int × Str × Int × Int)) :=
  br (decide (b0_1 < (y0_0.length : Int)))
    (bnd (geti y0_0 b0_1) fun t30 =>
    bnd (script_lexer_one_1 N t30) fun t31 =>
    br (t31)
      (self (IntKind.i64.wrap (b0_1 + (1 : Int))))
      (k0 b0_1))
    (k0 b0_1)
def script_lexer_some_3_L0 (N : Nat) (y0_0 : Str) (k0 : Int → Option (Str × Str × Int × List (Int × Str × Int × Int))) : Nat → Int → Option (Str × Str × Int × List (Int × Str × Int × Int))
  | 0, _ => none
  | n + 1, b0_1 => script_lexer_some_3_L0T N y0_0 k0 (script_lexer_some_3_L0 N y0_0 k0 n) b0_1
def script_lexer_some_3 (N : Nat) (_x1 : Unit) (y0_0 : Str) (y0_1 : Int) (w1 : List (Int × Str × Int × Int)) : Option (Str × Str × Int × List (Int × Str × Int × Int)) :=
  script_lexer_some_3_L0 N y0_0 (fun o0_0_1 =>
      bnd (slc y0_0 y0_1 o0_0_1) fun t49 =>
      some (t49, (y0_0, (o0_0_1, w1)))) N y0_1
abbrev script_lexer_some_3_sg (f : SV [.box 0 0, .v (.clo 118 .un)] → BV [.cells [.v .str, .v (.int .i64), .row 1], .row 64 (.pr (.int .i64) (.pr .str (.pr (.int .i64) (.int .i64)))) false] → Option (Str × Str × Int × List (Int × Str × Int × Int))) : AF := { ps := [.box 0 0, .v (.clo 118 .un)], bs := [.cells [.v .str, .v (.int .i64), .row 1], .row 64 (.pr (.int .i64) (.pr .str (.pr (.int .i64) (.int .i64)))) false], rs := [.v .str], cs := [.cells [.v .str, .v (.int .i64), .row 1], .row 64 (.pr (.int .i64) (.pr .str (.pr (.int .i64) (.int .i64)))) false], R := Str × Str × Int × List (Int × Str × Int × Int), out := fun z => ((z.1, ()), ((z.2.1, z.2.2.1, (), ()), z.2.2.2, ())), f := f }
abbrev script_lexer_some_3_pk : SV [.v .str] → BV [.cells [.v .str, .v (.int .i64), .row 1], .row 64 (.pr (.int .i64) (.pr .str (.pr (.int .i64) (.int .i64)))) false] → (Str × Str × Int × List (Int × Str × Int × Int)) := fun x y => (x.1, y.1.1, y.1.2.1, y.2.1)
def script_lexer_some_3_fn (N : Nat) : FuncId → Option Tmp → Option AF := fun f _ =>
  match f with
    | 118 => some (script_lexer_one_1_sg fun x _ => script_lexer_one_1 N x.1)
    | _ => none
theorem script_lexer_some_3_fn_ok (N : Nat) : ∀ f q F, script_lexer_some_3_fn N f q = some F → Sound Tryz.prog GW B0G f F := by
  intro f q F h
  unfold script_lexer_some_3_fn at h
  split at h
  · cases h; exact script_lexer_one_1_sound N
  · cases h
def script_lexer_some_3_h : Nat → Hint := fun i =>
  match i with
  | 0 => ⟨[], [0, 1, 5], [0, 1], [0, 5], [0, 1], []⟩
  | 100002 => ⟨[0, 1], [1], [], [], [], []⟩
  | 100004 => ⟨[0, 1], [1], [], [], [], []⟩
  | _ => ⟨[], [], [], [], [], []⟩
abbrev script_lexer_some_3_E (N : Nat) : Env := mkE script_lexer_some_3_h (script_lexer_some_3_fn N) (fun _ => false) (fun _ => false)
abbrev script_lexer_some_3_L0_fs : List (Nat × Sl) := [(0, .box 0 0), (1, .v (.clo 118 .un)), (5, .v (.int .i64))]
abbrev script_lexer_some_3_L0_bs : List (Nat × Sb) := [(0, .cells [.v .str, .v (.int .i64), .row 1]), (1, .row 64 (.pr (.int .i64) (.pr .str (.pr (.int .i64) (.int .i64)))) false)]
def script_lexer_some_3_L0_hd (x1 : Unit) (y0_1 : Int) (y0_0 : Str) (w1 : List (Int × Str × Int × Int)) (b0_1 : Int) : St := ⟨50, [(0, .box 0 0), (1, .v (.clo 118 .un) x1), (5, .v (.int .i64) y0_1)], [(0, .cells [.v .str y0_0, .v (.int .i64) b0_1, .row 1]), (1, .row 64 (.pr (.int .i64) (.pr .str (.pr (.int .i64) (.int .i64)))) false w1)]⟩
def script_lexer_some_3_L0_tl0 (_x1 : Unit) (y0_1 : Int) (y0_0 : Str) (w1 : List (Int × Str × Int × Int)) (o0_0_1 : Int) : St := ⟨50, [(0, .box 0 0), (5, .v (.int .i64) y0_1)], [(0, .cells [.v .str y0_0, .v (.int .i64) o0_0_1, .row 1]), (1, .row 64 (.pr (.int .i64) (.pr .str (.pr (.int .i64) (.int .i64)))) false w1)]⟩
def script_lexer_some_3_L0_G (N : Nat) (x1 : Unit) (y0_1 : Int) (y0_0 : Str) (w1 : List (Int × Str × Int × Int)) (b0_1 : Int) (k : Ex → St → Option (Str × Str × Int × List (Int × Str × Int × Int))) : Option (Str × Str × Int × List (Int × Str × Int × Int)) :=
  script_lexer_some_3_L0 N y0_0 (fun o0_0_1 => k (.exit 0) (script_lexer_some_3_L0_tl0 x1 y0_1 y0_0 w1 o0_0_1)) N b0_1
abbrev script_lexer_some_3_L0_F (N : Nat) : FV script_lexer_some_3_L0_fs → HV script_lexer_some_3_L0_bs → (Ex → St → Option (Str × Str × Int × List (Int × Str × Int × Int))) → Option (Str × Str × Int × List (Int × Str × Int × Int)) := fun x y k => script_lexer_some_3_L0_G N x.2.1 x.2.2.1 y.1.1 y.2.1 y.1.2.1 k
noncomputable def script_lexer_some_3_LP (N : Nat) : Nat → Code → St → (Ex → St → Option (Str × Str × Int × List (Int × Str × Int × Int))) → Option (Str × Str × Int × List (Int × Str × Int × Int)) := fun i c =>
  match i with
  | 0 => (LPc 50 script_lexer_some_3_L0_fs script_lexer_some_3_L0_bs (script_lexer_some_3_L0_F N) (fun st k => iter (script_lexer_some_3_h 0) (exec (script_lexer_some_3_E N) N c 0) N st k))
  | i => fun st k => iter (script_lexer_some_3_h i) (exec (script_lexer_some_3_E N) N c i) N st k
theorem script_lexer_some_3_L0_step (N : Nat) (x1 : Unit) (y0_1 : Int) (y0_0 : Str) (w1 : List (Int × Str × Int × Int)) (KX : Nat → St → Option (Str × Str × Int × List (Int × Str × Int × Int))) (I : St → Option (Str × Str × Int × List (Int × Str × Int × Int))) (b0_1 : Int) :
    execL (script_lexer_some_3_LP N) (script_lexer_some_3_E N) (cAt (bodyOf Tryz.f117) [true, true, false, false, false]) 0 (script_lexer_some_3_L0_hd x1 y0_1 y0_0 w1 b0_1) (roundK (script_lexer_some_3_h 0) I KX (resD (script_lexer_some_3_E N) Tryz.f117 (script_lexer_some_3_sg fun x y => script_lexer_some_3 N x.2.1 y.1.1 y.1.2.1 y.2.1) script_lexer_some_3_pk)) = script_lexer_some_3_L0T N y0_0 (fun o0_0_1 => KX 0 (script_lexer_some_3_L0_tl0 x1 y0_1 y0_0 w1 o0_0_1)) (fun b0_1 => I (script_lexer_some_3_L0_hd x1 y0_1 y0_0 w1 b0_1)) b0_1 := by kernel_rfl
theorem script_lexer_some_3_L0_ok (N : Nat) : ∀ x y k, (∀ st, k .ret st = (resD (script_lexer_some_3_E N) Tryz.f117 (script_lexer_some_3_sg fun x y => script_lexer_some_3 N x.2.1 y.1.1 y.1.2.1 y.2.1) script_lexer_some_3_pk) st) → iter (script_lexer_some_3_h 0) (exec (script_lexer_some_3_E N) N (cAt (bodyOf Tryz.f117) [true, true, false, false, false]) 0) N ⟨50, unF script_lexer_some_3_L0_fs x, unH script_lexer_some_3_L0_bs y⟩ k = script_lexer_some_3_L0_F N x y k := fun x y k hk =>
  iter_link (S := (Int) × Unit) (script_lexer_some_3_h 0) _ (execL (script_lexer_some_3_LP N) (script_lexer_some_3_E N) (cAt (bodyOf Tryz.f117) [true, true, false, false, false]) 0) (resD (script_lexer_some_3_E N) Tryz.f117 (script_lexer_some_3_sg fun x y => script_lexer_some_3 N x.2.1 y.1.1 y.1.2.1 y.2.1) script_lexer_some_3_pk) (fun st k hk => execL_eq _ _ N _ (cAt (bodyOf Tryz.f117) [true, true, false, false, false]) 0 (show LoopsOk (script_lexer_some_3_LP N) (script_lexer_some_3_E N) N (resD (script_lexer_some_3_E N) Tryz.f117 (script_lexer_some_3_sg fun x y => script_lexer_some_3 N x.2.1 y.1.1 y.1.2.1 y.2.1) script_lexer_some_3_pk) [] from trivial) st k hk) (fun s => script_lexer_some_3_L0_hd x.2.1 x.2.2.1 y.1.1 y.2.1 s.1) k hk
    (fun self s => script_lexer_some_3_L0T N y.1.1 (fun o0_0_1 => k (.exit 0) (script_lexer_some_3_L0_tl0 x.2.1 x.2.2.1 y.1.1 y.2.1 o0_0_1)) (fun b0_1 => self (b0_1, ())) s.1) (fun n s => script_lexer_some_3_L0 N y.1.1 (fun o0_0_1 => k (.exit 0) (script_lexer_some_3_L0_tl0 x.2.1 x.2.2.1 y.1.1 y.2.1 o0_0_1)) n s.1) (fun _ => rfl) (fun _ _ => rfl)
    (fun I s => script_lexer_some_3_L0_step N x.2.1 x.2.2.1 y.1.1 y.2.1 (fun j => k (.exit j)) I s.1) N (y.1.2.1, ())
theorem script_lexer_some_3_lp0 (N : Nat) : ∀ st k, (∀ st, k .ret st = (resD (script_lexer_some_3_E N) Tryz.f117 (script_lexer_some_3_sg fun x y => script_lexer_some_3 N x.2.1 y.1.1 y.1.2.1 y.2.1) script_lexer_some_3_pk) st) → script_lexer_some_3_LP N 0 (cAt (bodyOf Tryz.f117) [true, true, false, false, false]) st k = iter (Env.hint (script_lexer_some_3_E N) 0) (exec (script_lexer_some_3_E N) N (cAt (bodyOf Tryz.f117) [true, true, false, false, false]) 0) N st k := fun st k hk => LPc_eq 50 script_lexer_some_3_L0_fs script_lexer_some_3_L0_bs _ _ (resD (script_lexer_some_3_E N) Tryz.f117 (script_lexer_some_3_sg fun x y => script_lexer_some_3 N x.2.1 y.1.1 y.1.2.1 y.2.1) script_lexer_some_3_pk) (script_lexer_some_3_L0_ok N) _ st k hk (rfl)
theorem script_lexer_some_3_core (N : Nat) (x : SV [.box 0 0, .v (.clo 118 .un)]) (y : BV [.cells [.v .str, .v (.int .i64), .row 1], .row 64 (.pr (.int .i64) (.pr .str (.pr (.int .i64) (.int .i64)))) false]) : runL (script_lexer_some_3_E N) Tryz.f117 (script_lexer_some_3_sg fun x y => script_lexer_some_3 N x.2.1 y.1.1 y.1.2.1 y.2.1) script_lexer_some_3_pk (script_lexer_some_3_LP N) x y = script_lexer_some_3 N x.2.1 y.1.1 y.1.2.1 y.2.1 := by kernel_rfl
theorem script_lexer_some_3_sound (N : Nat) : Sound Tryz.prog GW B0G 117 (script_lexer_some_3_sg fun x y => script_lexer_some_3 N x.2.1 y.1.1 y.1.2.1 y.2.1) :=
  runD_sound (mkE_ok script_lexer_some_3_h (script_lexer_some_3_fn N) _ _ (script_lexer_some_3_fn_ok N)) Tryz.func117 rfl Tryz.call117 (script_lexer_some_3_sg fun x y => script_lexer_some_3 N x.2.1 y.1.1 y.1.2.1 y.2.1) script_lexer_some_3_pk (fun _ _ => rfl) N (fun x y _ h => ((runL_eq (script_lexer_some_3_E N) N Tryz.f117 (script_lexer_some_3_sg fun x y => script_lexer_some_3 N x.2.1 y.1.1 y.1.2.1 y.2.1) script_lexer_some_3_pk (script_lexer_some_3_LP N) (show LoopsOk (script_lexer_some_3_LP N) (script_lexer_some_3_E N) N (resD (script_lexer_some_3_E N) Tryz.f117 (script_lexer_some_3_sg fun x y => script_lexer_some_3 N x.2.1 y.1.1 y.1.2.1 y.2.1) script_lexer_some_3_pk) [(0, (cAt (bodyOf Tryz.f117) [true, true, false, false, false]))] from ⟨script_lexer_some_3_lp0 N, trivial⟩) x y).trans (script_lexer_some_3_core N x y)).trans h)
end
end Go.Proofs.YtahjncefiegflaaGreatDoor

