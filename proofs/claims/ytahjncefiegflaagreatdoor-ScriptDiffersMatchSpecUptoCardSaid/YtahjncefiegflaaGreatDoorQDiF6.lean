/- What functions of the program compute, as plain functions (printed). -/
import Derived.Test.YtahjncefiegflaaGreatDoorQDiF5
namespace Go.Proofs.YtahjncefiegflaaGreatDoor
open Go Go.RowKit
set_option maxRecDepth 100000
set_option linter.unusedVariables false
noncomputable section
def script_isDigit (_N : Nat) (x0 : UInt8) : Option Bool :=
 br (decide (x0 ≥ (48 : UInt8)))
  (some (decide (x0 ≤ (57 : UInt8))))
  (some false)
abbrev z45sg (f : SV [.v .u8] → BV [] → Option (Bool)) : AF := { ps := [.v .u8], bs := [], rs := [.v .bool], cs := [], R := Bool, out := fun z => ((z, ()), ()), f := f }
noncomputable abbrev z45g (N : Nat) : AF := z45sg fun x _ => script_isDigit N x.1
abbrev z45pk : SV [.v .bool] → BV [] → Bool := fun x _ => x.1
def z45fn (_N : Nat) : FuncId → Option Tmp → Option AF := fun f _ =>
 match f with
  | _ => none
theorem z45fn_ok (N : Nat) : FnOk (z45fn N) := by
 intro f q F h
 unfold z45fn at h
 split at h
 · cases h
def z45h : Nat → Hint := fun i =>
 match i with
 | _ => hint0
abbrev z45E (N : Nat) : Env := mkE z45h (z45fn N) FF FF
noncomputable def z45LP (N : Nat) : Nat → Code → St → (Ex → St → Option Bool) → Option Bool := fun i c =>
 match i with
 | i => fun st k => iter (z45h i) (exec (z45E N) N c i) N st k
theorem z45core (N : Nat) (x : SV [.v .u8]) (y : BV []) : runL (z45E N) Tryz.f97 (z45g N) z45pk (z45LP N) x y = script_isDigit N x.1 := by kernel_rfl
theorem z45sound (N : Nat) : Snd 97 (z45g N) :=
 sndL (z45fn_ok N) Tryz.func97 rfl Tryz.call97 (z45g N) z45pk (fun _ _ => rfl) N (z45LP N) (show LoopsOk (z45LP N) (z45E N) N (resD (z45E N) Tryz.f97 (z45g N) z45pk) [] from trivial) (z45core N)
def script_words (_N : Nat) : Option τ10 :=
 some [([109, 97, 99, 114, 111] : Str), ([102, 111, 114] : Str), ([105, 110] : Str), ([105, 102] : Str), ([101, 108, 115, 101] : Str), ([117, 115, 101] : Str), ([102, 105, 108, 101, 115] : Str), ([99, 104, 111, 111, 115, 101] : Str)]
abbrev z54sg (f : SV [] → BV [] → Option τ10) : AF := { ps := [], bs := [], rs := [.row 0], cs := [.row 9 .str false], R := List Str, out := fun z => (((), ()), (z, ())), f := f }
noncomputable abbrev z54g (N : Nat) : AF := z54sg fun _ _ => script_words N
abbrev z54pk : SV [.row 0] → BV [.row 9 .str false] → τ10 := fun _ y => y.1
def z54fn (_N : Nat) : FuncId → Option Tmp → Option AF := fun f _ =>
 match f with
  | _ => none
theorem z54fn_ok (N : Nat) : FnOk (z54fn N) := by
 intro f q F h
 unfold z54fn at h
 split at h
 · cases h
def z54h : Nat → Hint := fun i =>
 match i with
 | _ => hint0
abbrev z54E (N : Nat) : Env := mkE z54h (z54fn N) FF FF
noncomputable def z54LP (N : Nat) : Nat → Code → St → (Ex → St → Option τ10) → Option τ10 := fun i c =>
 match i with
 | i => fun st k => iter (z54h i) (exec (z54E N) N c i) N st k
theorem z54core (N : Nat) (x : SV []) (y : BV []) : runL (z54E N) Tryz.f99 (z54g N) z54pk (z54LP N) x y = script_words N := by kernel_rfl
theorem z54sound (N : Nat) : Snd 99 (z54g N) :=
 sndL (z54fn_ok N) Tryz.func99 rfl Tryz.call99 (z54g N) z54pk (fun _ _ => rfl) N (z54LP N) (show LoopsOk (z54LP N) (z54E N) N (resD (z54E N) Tryz.f99 (z54g N) z54pk) [] from trivial) (z54core N)
def z9L0T (_N : Nat) (x0 : List Str) (x1 : Str) (c7 : Int) (k0 : Option Int) (self : Int → Option Int) (s8 : Int) : Option Int :=
 br (decide (s8 < c7))
  (bnd (geti x0 s8) fun t14 =>
  br (x1 == t14)
   (some s8)
   (self (IntKind.i64.wrap (s8 + (1 : Int)))))
  (k0)
def z9L0 (N : Nat) (x0 : List Str) (x1 : Str) (c7 : Int) (k0 : Option Int) : Nat → Int → Option Int
 | 0, _ => none
 | n + 1, s8 => z9L0T N x0 x1 c7 k0 (z9L0 N x0 x1 c7 k0 n) s8
def slices_Index_string_string (N : Nat) (x0 : List Str) (x1 : Str) : Option Int :=
 z9L0 N x0 x1 (x0.length : Int) (some (-1 : Int)) N (0 : Int)
abbrev z9sg (f : SV [.v τ13, .v .str] → BV [] → Option (Int)) : AF := { ps := [.v τ13, .v .str], bs := [], rs := [.v τ5], cs := [], R := Int, out := fun z => ((z, ()), ()), f := f }
noncomputable abbrev z9g (N : Nat) : AF := z9sg fun x _ => slices_Index_string_string N x.1 x.2.1
abbrev z9pk : SV [.v τ5] → BV [] → Int := fun x _ => x.1
def z9fn (_N : Nat) : FuncId → Option Tmp → Option AF := fun f _ =>
 match f with
  | _ => none
theorem z9fn_ok (N : Nat) : FnOk (z9fn N) := by
 intro f q F h
 unfold z9fn at h
 split at h
 · cases h
def z9h : Nat → Hint := fun i =>
 match i with
 | 0 => ⟨[], [0, 1, 7, 8], [], [], [], []⟩
 | _ => hint0
abbrev z9E (N : Nat) : Env := mkE z9h (z9fn N) FF FF
noncomputable abbrev z9c0 : Code := cAt (bodyOf Tryz.f135) [true, false, true, false, false]
noncomputable abbrev z9R (N : Nat) := resD (z9E N) Tryz.f135 (z9g N) z9pk
abbrev z9L0_fs : List (Nat × Sl) := [(0, .v τ13), (1, .v .str), (7, .v τ5), (8, .v τ5)]
abbrev z9L0_bs : List (Nat × Sb) := []
def z9L0_hd (x0 : List Str) (x1 : Str) (c7 : Int) (s8 : Int) : St := ⟨19, [(0, .v τ13 x0), (1, .v .str x1), (7, .v τ5 c7), (8, .v τ5 s8)], []⟩
def z9L0_tl0 (_x0 : List Str) (_x1 : Str) (_c7 : Int) : St := ⟨19, [], []⟩
def z9L0_G (N : Nat) (x0 : List Str) (x1 : Str) (c7 : Int) (s8 : Int) (k : Ex → St → Option Int) : Option Int :=
 z9L0 N x0 x1 c7 (k (.exit 0) (z9L0_tl0 x0 x1 c7)) N s8
abbrev z9L0_F (N : Nat) : FV z9L0_fs → HV z9L0_bs → (Ex → St → Option Int) → Option Int := fun x _ k => z9L0_G N x.1 x.2.1 x.2.2.1 x.2.2.2.1 k
noncomputable def z9LP (N : Nat) : Nat → Code → St → (Ex → St → Option Int) → Option Int := fun i c =>
 match i with
 | 0 => (LPc 19 z9L0_fs z9L0_bs (z9L0_F N) (fun st k => iter (z9h 0) (exec (z9E N) N c 0) N st k))
 | i => fun st k => iter (z9h i) (exec (z9E N) N c i) N st k
theorem z9L0_step (N : Nat) (x0 : List Str) (x1 : Str) (c7 : Int) (KX : Nat → St → Option Int) (I : St → Option Int) (s8 : Int) :
  execL (z9LP N) (z9E N) z9c0 0 (z9L0_hd x0 x1 c7 s8) (roundK (z9h 0) I KX (z9R N)) = z9L0T N x0 x1 c7 (KX 0 (z9L0_tl0 x0 x1 c7)) (fun s8 => I (z9L0_hd x0 x1 c7 s8)) s8 := by kernel_rfl
theorem z9L0_ok (N : Nat) : ∀ x y k, (∀ st, k .ret st = (z9R N) st) → iter (z9h 0) (exec (z9E N) N z9c0 0) N ⟨19, unF z9L0_fs x, unH z9L0_bs y⟩ k = z9L0_F N x y k := fun x _ k hk =>
 iter_link (S := (Int) × Unit) (z9h 0) _ (execL (z9LP N) (z9E N) z9c0 0) (z9R N) (fun st k hk => execL_eq _ _ N _ z9c0 0 (show LoopsOk (z9LP N) (z9E N) N (z9R N) [] from trivial) st k hk) (fun s => z9L0_hd x.1 x.2.1 x.2.2.1 s.1) k hk
  (fun self s => z9L0T N x.1 x.2.1 x.2.2.1 (k (.exit 0) (z9L0_tl0 x.1 x.2.1 x.2.2.1)) (fun s8 => self (s8, ())) s.1) (fun n s => z9L0 N x.1 x.2.1 x.2.2.1 (k (.exit 0) (z9L0_tl0 x.1 x.2.1 x.2.2.1)) n s.1) (fun _ => rfl) (fun _ _ => rfl)
  (fun I s => z9L0_step N x.1 x.2.1 x.2.2.1 (fun j => k (.exit j)) I s.1) N (x.2.2.2.1, ())
theorem z9lp0 (N : Nat) : ∀ st k, (∀ st, k .ret st = (z9R N) st) → z9LP N 0 z9c0 st k = iter (Env.hint (z9E N) 0) (exec (z9E N) N z9c0 0) N st k := fun st k hk => LPc_eq 19 z9L0_fs z9L0_bs _ _ (z9R N) (z9L0_ok N) _ st k hk (rfl)
theorem z9core (N : Nat) (x : SV [.v τ13, .v .str]) (y : BV []) : runL (z9E N) Tryz.f135 (z9g N) z9pk (z9LP N) x y = slices_Index_string_string N x.1 x.2.1 := by kernel_rfl
theorem z9sound (N : Nat) : Snd 135 (z9g N) :=
 sndL (z9fn_ok N) Tryz.func135 rfl Tryz.call135 (z9g N) z9pk (fun _ _ => rfl) N (z9LP N) (show LoopsOk (z9LP N) (z9E N) N (z9R N) [(0, z9c0)] from ⟨z9lp0 N, trivial⟩) (z9core N)
def slices_Contains_string_string (N : Nat) (x0 : List Str) (x1 : Str) : Option Bool :=
 bnd (slices_Index_string_string N x0 x1) fun t7 =>
 some (decide (t7 ≥ (0 : Int)))
abbrev z4sg (f : SV [.v τ13, .v .str] → BV [] → Option (Bool)) : AF := { ps := [.v τ13, .v .str], bs := [], rs := [.v .bool], cs := [], R := Bool, out := fun z => ((z, ()), ()), f := f }
noncomputable abbrev z4g (N : Nat) : AF := z4sg fun x _ => slices_Contains_string_string N x.1 x.2.1
abbrev z4pk : SV [.v .bool] → BV [] → Bool := fun x _ => x.1
def z4fn (N : Nat) : FuncId → Option Tmp → Option AF := fun f _ =>
 match f with
  | 135 => some (z9g N)
  | _ => none
theorem z4fn_ok (N : Nat) : FnOk (z4fn N) := by
 intro f q F h
 unfold z4fn at h
 split at h
 · cases h; exact z9sound N
 · cases h
def z4h : Nat → Hint := fun i =>
 match i with
 | _ => hint0
abbrev z4E (N : Nat) : Env := mkE z4h (z4fn N) FF FF
noncomputable def z4LP (N : Nat) : Nat → Code → St → (Ex → St → Option Bool) → Option Bool := fun i c =>
 match i with
 | i => fun st k => iter (z4h i) (exec (z4E N) N c i) N st k
theorem z4core (N : Nat) (x : SV [.v τ13, .v .str]) (y : BV []) : runL (z4E N) Tryz.f98 (z4g N) z4pk (z4LP N) x y = slices_Contains_string_string N x.1 x.2.1 := by kernel_rfl
theorem z4sound (N : Nat) : Snd 98 (z4g N) :=
 sndL (z4fn_ok N) Tryz.func98 rfl Tryz.call98 (z4g N) z4pk (fun _ _ => rfl) N (z4LP N) (show LoopsOk (z4LP N) (z4E N) N (resD (z4E N) Tryz.f98 (z4g N) z4pk) [] from trivial) (z4core N)
def z49L0T (N : Nat) (x0 : Str) (c19 : Int) (k0 : Option Bool) (self : Int → Option Bool) (s20 : Int) : Option Bool :=
 br (decide (s20 < c19))
  (bnd (geti x0 s20) fun t25 =>
  bnd (script_isSmall N t25) fun t26 =>
  br (!t26)
   (bnd (geti x0 s20) fun t31 =>
   bnd (script_isDigit N t31) fun t32 =>
   br (!t32)
    (bnd (geti x0 s20) fun t38 =>
    br (t38 != (95 : UInt8))
     (some false)
     (self (IntKind.i64.wrap (s20 + (1 : Int)))))
    (self (IntKind.i64.wrap (s20 + (1 : Int)))))
   (self (IntKind.i64.wrap (s20 + (1 : Int)))))
  (k0)
def z49L0 (N : Nat) (x0 : Str) (c19 : Int) (k0 : Option Bool) : Nat → Int → Option Bool
 | 0, _ => none
 | n + 1, s20 => z49L0T N x0 c19 k0 (z49L0 N x0 c19 k0 n) s20
def script_IsName (N : Nat) (x0 : Str) : Option Bool :=
 br (decide ((x0.length : Int) < (1 : Int)))
  (some false)
  (br (decide ((x0.length : Int) > (40 : Int)))
   (some false)
   (bnd (geti x0 (0 : Int)) fun t14 =>
   bnd (script_isSmall N t14) fun t15 =>
   br (!t15)
    (some false)
    (z49L0 N x0 (x0.length : Int) (bnd (script_words N) fun t42 =>
      bnd (slices_Contains_string_string N t42 x0) fun t44 =>
      some (!t44)) N (0 : Int))))
abbrev z49sg (f : SV [.v .str] → BV [] → Option (Bool)) : AF := { ps := [.v .str], bs := [], rs := [.v .bool], cs := [], R := Bool, out := fun z => ((z, ()), ()), f := f }
noncomputable abbrev z49g (N : Nat) : AF := z49sg fun x _ => script_IsName N x.1
abbrev z49pk : SV [.v .bool] → BV [] → Bool := fun x _ => x.1
def z49fn (N : Nat) : FuncId → Option Tmp → Option AF := fun f _ =>
 match f with
  | 96 => some (z46g N)
  | 97 => some (z45g N)
  | 98 => some (z4g N)
  | 99 => some (z54g N)
  | _ => none
theorem z49fn_ok (N : Nat) : FnOk (z49fn N) := by
 intro f q F h
 unfold z49fn at h
 split at h
 · cases h; exact z46sound N
 · cases h; exact z45sound N
 · cases h; exact z4sound N
 · cases h; exact z54sound N
 · cases h
def z49h : Nat → Hint := fun i =>
 match i with
 | 0 => ⟨[], [0, 19, 20], [], [0], [], []⟩
 | _ => hint0
abbrev z49E (N : Nat) : Env := mkE z49h (z49fn N) FF FF
noncomputable abbrev z49c0 : Code := cAt (bodyOf Tryz.f51) [true, true, false, true, false, false]
noncomputable abbrev z49R (N : Nat) := resD (z49E N) Tryz.f51 (z49g N) z49pk
abbrev z49L0_fs : List (Nat × Sl) := [(0, .v .str), (19, .v τ5), (20, .v τ5)]
abbrev z49L0_bs : List (Nat × Sb) := []
def z49L0_hd (x0 : Str) (c19 : Int) (s20 : Int) : St := ⟨46, [(0, .v .str x0), (19, .v τ5 c19), (20, .v τ5 s20)], []⟩
def z49L0_tl0 (x0 : Str) (_c19 : Int) : St := ⟨46, [(0, .v .str x0)], []⟩
def z49L0_G (N : Nat) (x0 : Str) (c19 : Int) (s20 : Int) (k : Ex → St → Option Bool) : Option Bool :=
 z49L0 N x0 c19 (k (.exit 0) (z49L0_tl0 x0 c19)) N s20
abbrev z49L0_F (N : Nat) : FV z49L0_fs → HV z49L0_bs → (Ex → St → Option Bool) → Option Bool := fun x _ k => z49L0_G N x.1 x.2.1 x.2.2.1 k
noncomputable def z49LP (N : Nat) : Nat → Code → St → (Ex → St → Option Bool) → Option Bool := fun i c =>
 match i with
 | 0 => (LPc 46 z49L0_fs z49L0_bs (z49L0_F N) (fun st k => iter (z49h 0) (exec (z49E N) N c 0) N st k))
 | i => fun st k => iter (z49h i) (exec (z49E N) N c i) N st k
theorem z49L0_step (N : Nat) (x0 : Str) (c19 : Int) (KX : Nat → St → Option Bool) (I : St → Option Bool) (s20 : Int) :
  execL (z49LP N) (z49E N) z49c0 0 (z49L0_hd x0 c19 s20) (roundK (z49h 0) I KX (z49R N)) = z49L0T N x0 c19 (KX 0 (z49L0_tl0 x0 c19)) (fun s20 => I (z49L0_hd x0 c19 s20)) s20 := by kernel_rfl
theorem z49L0_ok (N : Nat) : ∀ x y k, (∀ st, k .ret st = (z49R N) st) → iter (z49h 0) (exec (z49E N) N z49c0 0) N ⟨46, unF z49L0_fs x, unH z49L0_bs y⟩ k = z49L0_F N x y k := fun x _ k hk =>
 iter_link (S := (Int) × Unit) (z49h 0) _ (execL (z49LP N) (z49E N) z49c0 0) (z49R N) (fun st k hk => execL_eq _ _ N _ z49c0 0 (show LoopsOk (z49LP N) (z49E N) N (z49R N) [] from trivial) st k hk) (fun s => z49L0_hd x.1 x.2.1 s.1) k hk
  (fun self s => z49L0T N x.1 x.2.1 (k (.exit 0) (z49L0_tl0 x.1 x.2.1)) (fun s20 => self (s20, ())) s.1) (fun n s => z49L0 N x.1 x.2.1 (k (.exit 0) (z49L0_tl0 x.1 x.2.1)) n s.1) (fun _ => rfl) (fun _ _ => rfl)
  (fun I s => z49L0_step N x.1 x.2.1 (fun j => k (.exit j)) I s.1) N (x.2.2.1, ())
theorem z49lp0 (N : Nat) : ∀ st k, (∀ st, k .ret st = (z49R N) st) → z49LP N 0 z49c0 st k = iter (Env.hint (z49E N) 0) (exec (z49E N) N z49c0 0) N st k := fun st k hk => LPc_eq 46 z49L0_fs z49L0_bs _ _ (z49R N) (z49L0_ok N) _ st k hk (rfl)
theorem z49core (N : Nat) (x : SV [.v .str]) (y : BV []) : runL (z49E N) Tryz.f51 (z49g N) z49pk (z49LP N) x y = script_IsName N x.1 := by kernel_rfl
theorem z49sound (N : Nat) : Snd 51 (z49g N) :=
 sndL (z49fn_ok N) Tryz.func51 rfl Tryz.call51 (z49g N) z49pk (fun _ _ => rfl) N (z49LP N) (show LoopsOk (z49LP N) (z49E N) N (z49R N) [(0, z49c0)] from ⟨z49lp0 N, trivial⟩) (z49core N)
def script_CheckTarget_1 (_N : Nat) (x0 : Str × GValue) : Option Bool :=
 br (x0.1 == ([110, 97, 109, 101] : Str))
  (some true)
  (some (x0.1 == ([107, 105, 110, 100] : Str)))
abbrev z17sg (f : SV [.v τ11] → BV [] → Option (Bool)) : AF := { ps := [.v τ11], bs := [], rs := [.v .bool], cs := [], R := Bool, out := fun z => ((z, ()), ()), f := f }
noncomputable abbrev z17g (N : Nat) : AF := z17sg fun x _ => script_CheckTarget_1 N x.1
abbrev z17pk : SV [.v .bool] → BV [] → Bool := fun x _ => x.1
def z17fn (_N : Nat) : FuncId → Option Tmp → Option AF := fun f _ =>
 match f with
  | _ => none
theorem z17fn_ok (N : Nat) : FnOk (z17fn N) := by
 intro f q F h
 unfold z17fn at h
 split at h
 · cases h
def z17h : Nat → Hint := fun i =>
 match i with
 | _ => hint0
abbrev z17E (N : Nat) : Env := mkE z17h (z17fn N) FF FF
noncomputable def z17LP (N : Nat) : Nat → Code → St → (Ex → St → Option Bool) → Option Bool := fun i c =>
 match i with
 | i => fun st k => iter (z17h i) (exec (z17E N) N c i) N st k
theorem z17core (N : Nat) (x : SV [.v τ11]) (y : BV []) : runL (z17E N) Tryz.f95 (z17g N) z17pk (z17LP N) x y = script_CheckTarget_1 N x.1 := by kernel_rfl
theorem z17sound (N : Nat) : Snd 95 (z17g N) :=
 sndL (z17fn_ok N) Tryz.func95 rfl Tryz.call95 (z17g N) z17pk (fun _ _ => rfl) N (z17LP N) (show LoopsOk (z17LP N) (z17E N) N (resD (z17E N) Tryz.f95 (z17g N) z17pk) [] from trivial) (z17core N)
def z11L0T (N : Nat) (x0 : List τ0) (c7 : Int) (k0 : Option Int) (self : Int → Option Int) (s8 : Int) : Option Int :=
 br (decide (s8 < c7))
  (bnd (geti x0 s8) fun t14 =>
  bnd (script_CheckTarget_1 N t14) fun t16 =>
  br (t16)
   (some s8)
   (self (IntKind.i64.wrap (s8 + (1 : Int)))))
  (k0)
def z11L0 (N : Nat) (x0 : List τ0) (c7 : Int) (k0 : Option Int) : Nat → Int → Option Int
 | 0, _ => none
 | n + 1, s8 => z11L0T N x0 c7 k0 (z11L0 N x0 c7 k0 n) s8
def slices_IndexFunc_api_Attr (N : Nat) (x0 : List τ0) (_x1 : Unit) : Option Int :=
 z11L0 N x0 (x0.length : Int) (some (-1 : Int)) N (0 : Int)
abbrev z11sg (f : SV [.v τ1, .v (.clo 95 .un)] → BV [] → Option (Int)) : AF := { ps := [.v τ1, .v (.clo 95 .un)], bs := [], rs := [.v τ5], cs := [], R := Int, out := fun z => ((z, ()), ()), f := f }
noncomputable abbrev z11g (N : Nat) : AF := z11sg fun x _ => slices_IndexFunc_api_Attr N x.1 x.2.1
abbrev z11pk : SV [.v τ5] → BV [] → Int := fun x _ => x.1
def z11fn (N : Nat) : FuncId → Option Tmp → Option AF := fun f _ =>
 match f with
  | 95 => some (z17g N)
  | _ => none
theorem z11fn_ok (N : Nat) : FnOk (z11fn N) := by
 intro f q F h
 unfold z11fn at h
 split at h
 · cases h; exact z17sound N
 · cases h
def z11h : Nat → Hint := fun i =>
 match i with
 | 0 => ⟨[], [0, 1, 7, 8], [], [], [], []⟩
 | _ => hint0
abbrev z11E (N : Nat) : Env := mkE z11h (z11fn N) FF FF
noncomputable abbrev z11c0 : Code := cAt (bodyOf Tryz.f134) [true, false, true, false, false]
noncomputable abbrev z11R (N : Nat) := resD (z11E N) Tryz.f134 (z11g N) z11pk
abbrev z11L0_fs : List (Nat × Sl) := [(0, .v τ1), (1, .v (.clo 95 .un)), (7, .v τ5), (8, .v τ5)]
abbrev z11L0_bs : List (Nat × Sb) := []
def z11L0_hd (x0 : List τ0) (x1 : Unit) (c7 : Int) (s8 : Int) : St := ⟨19, [(0, .v τ1 x0), (1, .v (.clo 95 .un) x1), (7, .v τ5 c7), (8, .v τ5 s8)], []⟩
def z11L0_tl0 (_x0 : List τ0) (_x1 : Unit) (_c7 : Int) : St := ⟨19, [], []⟩
def z11L0_G (N : Nat) (x0 : List τ0) (x1 : Unit) (c7 : Int) (s8 : Int) (k : Ex → St → Option Int) : Option Int :=
 z11L0 N x0 c7 (k (.exit 0) (z11L0_tl0 x0 x1 c7)) N s8
abbrev z11L0_F (N : Nat) : FV z11L0_fs → HV z11L0_bs → (Ex → St → Option Int) → Option Int := fun x _ k => z11L0_G N x.1 x.2.1 x.2.2.1 x.2.2.2.1 k
noncomputable def z11LP (N : Nat) : Nat → Code → St → (Ex → St → Option Int) → Option Int := fun i c =>
 match i with
 | 0 => (LPc 19 z11L0_fs z11L0_bs (z11L0_F N) (fun st k => iter (z11h 0) (exec (z11E N) N c 0) N st k))
 | i => fun st k => iter (z11h i) (exec (z11E N) N c i) N st k
theorem z11L0_step (N : Nat) (x0 : List τ0) (x1 : Unit) (c7 : Int) (KX : Nat → St → Option Int) (I : St → Option Int) (s8 : Int) :
  execL (z11LP N) (z11E N) z11c0 0 (z11L0_hd x0 x1 c7 s8) (roundK (z11h 0) I KX (z11R N)) = z11L0T N x0 c7 (KX 0 (z11L0_tl0 x0 x1 c7)) (fun s8 => I (z11L0_hd x0 x1 c7 s8)) s8 := by kernel_rfl
theorem z11L0_ok (N : Nat) : ∀ x y k, (∀ st, k .ret st = (z11R N) st) → iter (z11h 0) (exec (z11E N) N z11c0 0) N ⟨19, unF z11L0_fs x, unH z11L0_bs y⟩ k = z11L0_F N x y k := fun x _ k hk =>
 iter_link (S := (Int) × Unit) (z11h 0) _ (execL (z11LP N) (z11E N) z11c0 0) (z11R N) (fun st k hk => execL_eq _ _ N _ z11c0 0 (show LoopsOk (z11LP N) (z11E N) N (z11R N) [] from trivial) st k hk) (fun s => z11L0_hd x.1 x.2.1 x.2.2.1 s.1) k hk
  (fun self s => z11L0T N x.1 x.2.2.1 (k (.exit 0) (z11L0_tl0 x.1 x.2.1 x.2.2.1)) (fun s8 => self (s8, ())) s.1) (fun n s => z11L0 N x.1 x.2.2.1 (k (.exit 0) (z11L0_tl0 x.1 x.2.1 x.2.2.1)) n s.1) (fun _ => rfl) (fun _ _ => rfl)
  (fun I s => z11L0_step N x.1 x.2.1 x.2.2.1 (fun j => k (.exit j)) I s.1) N (x.2.2.2.1, ())
theorem z11lp0 (N : Nat) : ∀ st k, (∀ st, k .ret st = (z11R N) st) → z11LP N 0 z11c0 st k = iter (Env.hint (z11E N) 0) (exec (z11E N) N z11c0 0) N st k := fun st k hk => LPc_eq 19 z11L0_fs z11L0_bs _ _ (z11R N) (z11L0_ok N) _ st k hk (rfl)
theorem z11core (N : Nat) (x : SV [.v τ1, .v (.clo 95 .un)]) (y : BV []) : runL (z11E N) Tryz.f134 (z11g N) z11pk (z11LP N) x y = slices_IndexFunc_api_Attr N x.1 x.2.1 := by kernel_rfl
theorem z11sound (N : Nat) : Snd 134 (z11g N) :=
 sndL (z11fn_ok N) Tryz.func134 rfl Tryz.call134 (z11g N) z11pk (fun _ _ => rfl) N (z11LP N) (show LoopsOk (z11LP N) (z11E N) N (z11R N) [(0, z11c0)] from ⟨z11lp0 N, trivial⟩) (z11core N)
def slices_ContainsFunc_api_Attr (N : Nat) (x0 : List τ0) (x1 : Unit) : Option Bool :=
 bnd (slices_IndexFunc_api_Attr N x0 x1) fun t7 =>
 some (decide (t7 ≥ (0 : Int)))
abbrev z5sg (f : SV [.v τ1, .v (.clo 95 .un)] → BV [] → Option (Bool)) : AF := { ps := [.v τ1, .v (.clo 95 .un)], bs := [], rs := [.v .bool], cs := [], R := Bool, out := fun z => ((z, ()), ()), f := f }
noncomputable abbrev z5g (N : Nat) : AF := z5sg fun x _ => slices_ContainsFunc_api_Attr N x.1 x.2.1
abbrev z5pk : SV [.v .bool] → BV [] → Bool := fun x _ => x.1
def z5fn (N : Nat) : FuncId → Option Tmp → Option AF := fun f _ =>
 match f with
  | 134 => some (z11g N)
  | _ => none
theorem z5fn_ok (N : Nat) : FnOk (z5fn N) := by
 intro f q F h
 unfold z5fn at h
 split at h
 · cases h; exact z11sound N
 · cases h
def z5h : Nat → Hint := fun i =>
 match i with
 | _ => hint0
abbrev z5E (N : Nat) : Env := mkE z5h (z5fn N) FF FF
noncomputable def z5LP (N : Nat) : Nat → Code → St → (Ex → St → Option Bool) → Option Bool := fun i c =>
 match i with
 | i => fun st k => iter (z5h i) (exec (z5E N) N c i) N st k
theorem z5core (N : Nat) (x : SV [.v τ1, .v (.clo 95 .un)]) (y : BV []) : runL (z5E N) Tryz.f94 (z5g N) z5pk (z5LP N) x y = slices_ContainsFunc_api_Attr N x.1 x.2.1 := by kernel_rfl
theorem z5sound (N : Nat) : Snd 94 (z5g N) :=
 sndL (z5fn_ok N) Tryz.func94 rfl Tryz.call94 (z5g N) z5pk (fun _ _ => rfl) N (z5LP N) (show LoopsOk (z5LP N) (z5E N) N (resD (z5E N) Tryz.f94 (z5g N) z5pk) [] from trivial) (z5core N)
def z24L0T (N : Nat) (c19 : List τ0) (c20 : Int) (κ1_2 : List τ0) (k0 : Option Int) (self : Int → Option Int) (s21 : Int) : Option Int :=
 br (decide (s21 < c20))
  (bnd (geti c19 s21) fun t24 =>
  bnd (script_IsName N t24.1) fun t28 =>
  br (!t28)
   (some (5 : Int))
   (bnd (script_CheckValue N (script_checkCases N N) (GValue.mk t24.2.kind t24.2.text t24.2.number t24.2.list t24.2.cases)) fun t32 =>
   br (t32 != (0 : Int))
    (some t32)
    (br (decide (s21 > (0 : Int)))
     (bnd (geti κ1_2 (IntKind.i64.wrap (s21 - (1 : Int)))) fun t45 =>
     br (Op.bytesLess t24.1 t45.1 || t24.1 == t45.1)
      (some (8 : Int))
      (self (IntKind.i64.wrap (s21 + (1 : Int)))))
     (self (IntKind.i64.wrap (s21 + (1 : Int)))))))
  (k0)
def z24L0 (N : Nat) (c19 : List τ0) (c20 : Int) (κ1_2 : List τ0) (k0 : Option Int) : Nat → Int → Option Int
 | 0, _ => none
 | n + 1, s21 => z24L0T N c19 c20 κ1_2 k0 (z24L0 N c19 c20 κ1_2 k0 n) s21
def script_CheckTarget (N : Nat) (x0 : Str × Str × List τ0) : Option Int :=
 bnd (blob_IsPath N x0.1) fun t8 =>
 br (!t8)
  (some (3 : Int))
  (bnd (script_IsName N x0.2.1) fun t12 =>
  br (!t12)
   (some (5 : Int))
   (br (decide ((x0.2.2.length : Int) > (30 : Int)))
    (some (2 : Int))
    (z24L0 N x0.2.2 (x0.2.2.length : Int) x0.2.2 (bnd (slices_ContainsFunc_api_Attr N x0.2.2 ()) fun t53 =>
      br (t53)
       (some (5 : Int))
       (some (0 : Int))) N (0 : Int))))
abbrev z24sg (f : SV [.v τ3] → BV [] → Option (Int)) : AF := { ps := [.v τ3], bs := [], rs := [.v τ5], cs := [], R := Int, out := fun z => ((z, ()), ()), f := f }
noncomputable abbrev z24g (N : Nat) : AF := z24sg fun x _ => script_CheckTarget N x.1
abbrev z24pk : SV [.v τ5] → BV [] → Int := fun x _ => x.1
def z24fn (N : Nat) : FuncId → Option Tmp → Option AF := fun f _ =>
 match f with
  | 14 => some (z29sg fun x _ => script_CheckValue N (script_checkCases N N) x.1)
  | 51 => some (z49g N)
  | 56 => some (z55g N)
  | 94 => some (z5g N)
  | _ => none
theorem z24fn_ok (N : Nat) : FnOk (z24fn N) := by
 intro f q F h
 unfold z24fn at h
 split at h
 · cases h; exact z29sound N (script_checkCases N N) (z30sound N N)
 · cases h; exact z49sound N
 · cases h; exact z55sound N
 · cases h; exact z5sound N
 · cases h
def z24h : Nat → Hint := fun i =>
 match i with
 | 0 => ⟨[], [1, 19, 20, 21], [1001], [1], [1001], []⟩
 | _ => hint0
abbrev z24E (N : Nat) : Env := mkE z24h (z24fn N) FF FF
noncomputable abbrev z24c0 : Code := cAt (bodyOf Tryz.f50) [true, true, true, true, false, true, false, false]
noncomputable abbrev z24R (N : Nat) := resD (z24E N) Tryz.f50 (z24g N) z24pk
abbrev z24L0_fs : List (Nat × Sl) := [(1, .box 1001 0), (19, .v τ1), (20, .v τ5), (21, .v τ5)]
abbrev z24L0_bs : List (Nat × Sb) := [(1001, .cells [.v .str, .v .str, .v τ1])]
def z24L0_hd (c19 : List τ0) (c20 : Int) (κ1_0 : Str) (κ1_1 : Str) (κ1_2 : List τ0) (s21 : Int) : St := ⟨54, [(1, .box 1001 0), (19, .v τ1 c19), (20, .v τ5 c20), (21, .v τ5 s21)], [(1001, .cells [.v .str κ1_0, .v .str κ1_1, .v τ1 κ1_2])]⟩
def z24L0_tl0 (_c19 : List τ0) (_c20 : Int) (κ1_0 : Str) (κ1_1 : Str) (κ1_2 : List τ0) : St := ⟨54, [(1, .box 1001 0)], [(1001, .cells [.v .str κ1_0, .v .str κ1_1, .v τ1 κ1_2])]⟩
def z24L0_G (N : Nat) (c19 : List τ0) (c20 : Int) (κ1_0 : Str) (κ1_1 : Str) (κ1_2 : List τ0) (s21 : Int) (k : Ex → St → Option Int) : Option Int :=
 z24L0 N c19 c20 κ1_2 (k (.exit 0) (z24L0_tl0 c19 c20 κ1_0 κ1_1 κ1_2)) N s21
abbrev z24L0_F (N : Nat) : FV z24L0_fs → HV z24L0_bs → (Ex → St → Option Int) → Option Int := fun x y k => z24L0_G N x.2.1 x.2.2.1 y.1.1 y.1.2.1 y.1.2.2.1 x.2.2.2.1 k
noncomputable def z24LP (N : Nat) : Nat → Code → St → (Ex → St → Option Int) → Option Int := fun i c =>
 match i with
 | 0 => (LPc 54 z24L0_fs z24L0_bs (z24L0_F N) (fun st k => iter (z24h 0) (exec (z24E N) N c 0) N st k))
 | i => fun st k => iter (z24h i) (exec (z24E N) N c i) N st k
theorem z24L0_step (N : Nat) (c19 : List τ0) (c20 : Int) (κ1_0 : Str) (κ1_1 : Str) (κ1_2 : List τ0) (KX : Nat → St → Option Int) (I : St → Option Int) (s21 : Int) :
  execL (z24LP N) (z24E N) z24c0 0 (z24L0_hd c19 c20 κ1_0 κ1_1 κ1_2 s21) (roundK (z24h 0) I KX (z24R N)) = z24L0T N c19 c20 κ1_2 (KX 0 (z24L0_tl0 c19 c20 κ1_0 κ1_1 κ1_2)) (fun s21 => I (z24L0_hd c19 c20 κ1_0 κ1_1 κ1_2 s21)) s21 := by kernel_rfl
theorem z24L0_ok (N : Nat) : ∀ x y k, (∀ st, k .ret st = (z24R N) st) → iter (z24h 0) (exec (z24E N) N z24c0 0) N ⟨54, unF z24L0_fs x, unH z24L0_bs y⟩ k = z24L0_F N x y k := fun x y k hk =>
 iter_link (S := (Int) × Unit) (z24h 0) _ (execL (z24LP N) (z24E N) z24c0 0) (z24R N) (fun st k hk => execL_eq _ _ N _ z24c0 0 (show LoopsOk (z24LP N) (z24E N) N (z24R N) [] from trivial) st k hk) (fun s => z24L0_hd x.2.1 x.2.2.1 y.1.1 y.1.2.1 y.1.2.2.1 s.1) k hk
  (fun self s => z24L0T N x.2.1 x.2.2.1 y.1.2.2.1 (k (.exit 0) (z24L0_tl0 x.2.1 x.2.2.1 y.1.1 y.1.2.1 y.1.2.2.1)) (fun s21 => self (s21, ())) s.1) (fun n s => z24L0 N x.2.1 x.2.2.1 y.1.2.2.1 (k (.exit 0) (z24L0_tl0 x.2.1 x.2.2.1 y.1.1 y.1.2.1 y.1.2.2.1)) n s.1) (fun _ => rfl) (fun _ _ => rfl)
  (fun I s => z24L0_step N x.2.1 x.2.2.1 y.1.1 y.1.2.1 y.1.2.2.1 (fun j => k (.exit j)) I s.1) N (x.2.2.2.1, ())
theorem z24lp0 (N : Nat) : ∀ st k, (∀ st, k .ret st = (z24R N) st) → z24LP N 0 z24c0 st k = iter (Env.hint (z24E N) 0) (exec (z24E N) N z24c0 0) N st k := fun st k hk => LPc_eq 54 z24L0_fs z24L0_bs _ _ (z24R N) (z24L0_ok N) _ st k hk (rfl)
theorem z24core (N : Nat) (x : SV [.v τ3]) (y : BV []) : runL (z24E N) Tryz.f50 (z24g N) z24pk (z24LP N) x y = script_CheckTarget N x.1 := by kernel_rfl
theorem z24sound (N : Nat) : Snd 50 (z24g N) :=
 sndL (z24fn_ok N) Tryz.func50 rfl Tryz.call50 (z24g N) z24pk (fun _ _ => rfl) N (z24LP N) (show LoopsOk (z24LP N) (z24E N) N (z24R N) [(0, z24c0)] from ⟨z24lp0 N, trivial⟩) (z24core N)
def slices_Clone_string_string (_N : Nat) (x0 : List Str) : Option τ10 :=
 br ((x0).isEmpty)
  (both
   (some ([] : List Str))
   (br (decide ((([] : List Str).length + x0.length) * (24 * Ty.sz .str) ≤ 140737488355328))
    (some (([] : List Str) ++ x0))
    none))
  (br (decide ((([] : List Str).length + x0.length) * (24 * Ty.sz .str) ≤ 140737488355328))
   (some (([] : List Str) ++ x0))
   none)
abbrev slices_Clone_string_string_sg (f : SV [.v τ13] → BV [] → Option τ10) : AF := { ps := [.v τ13], bs := [], rs := [.row 0], cs := [.row 9 .str true], R := List Str, out := fun z => (((), ()), (z, ())), f := f }
abbrev slices_Clone_string_string_pk : SV [.row 0] → BV [.row 9 .str true] → τ10 := fun _ y => y.1
def slices_Clone_string_string_fn (_N : Nat) : FuncId → Option Tmp → Option AF := fun f _ =>
 match f with
  | _ => none
theorem slices_Clone_string_string_fn_ok (N : Nat) : ∀ f q F, slices_Clone_string_string_fn N f q = some F → Sound Tryz.prog GW B0G f F := by
 intro f q F h
 unfold slices_Clone_string_string_fn at h
 split at h
 · cases h
def slices_Clone_string_string_h : Nat → Hint := fun i =>
 match i with
 | _ => hint0
abbrev slices_Clone_string_string_E (N : Nat) : Env := mkE slices_Clone_string_string_h (slices_Clone_string_string_fn N) (fun i => match i with | 2 => true | 5 => true | _ => false) (fun _ => false)
noncomputable def slices_Clone_string_string_LP (N : Nat) : Nat → Code → St → (Ex → St → Option τ10) → Option τ10 := fun i c =>
 match i with
 | i => fun st k => iter (slices_Clone_string_string_h i) (exec (slices_Clone_string_string_E N) N c i) N st k
theorem slices_Clone_string_string_core (N : Nat) (x : SV [.v τ13]) (y : BV []) : runL (slices_Clone_string_string_E N) Tryz.f100 (slices_Clone_string_string_sg fun x _ => slices_Clone_string_string N x.1) slices_Clone_string_string_pk (slices_Clone_string_string_LP N) x y = slices_Clone_string_string N x.1 := by kernel_rfl
theorem slices_Clone_string_string_sound (N : Nat) : Sound Tryz.prog GW B0G 100 (slices_Clone_string_string_sg fun x _ => slices_Clone_string_string N x.1) :=
 runD_sound (mkE_ok slices_Clone_string_string_h (slices_Clone_string_string_fn N) _ _ (slices_Clone_string_string_fn_ok N)) Tryz.func100 rfl Tryz.call100 (slices_Clone_string_string_sg fun x _ => slices_Clone_string_string N x.1) slices_Clone_string_string_pk (fun _ _ => rfl) N (fun x y _ h => ((runL_eq (slices_Clone_string_string_E N) N Tryz.f100 (slices_Clone_string_string_sg fun x _ => slices_Clone_string_string N x.1) slices_Clone_string_string_pk (slices_Clone_string_string_LP N) (show LoopsOk (slices_Clone_string_string_LP N) (slices_Clone_string_string_E N) N (resD (slices_Clone_string_string_E N) Tryz.f100 (slices_Clone_string_string_sg fun x _ => slices_Clone_string_string N x.1) slices_Clone_string_string_pk) [] from trivial) x y).trans (slices_Clone_string_string_core N x y)).trans h)
def slices_Clone_api_Case (_N : Nat) (x0 : List τ0) : Option τ8 :=
 br ((x0).isEmpty)
  (both
   (some ([] : List τ0))
   (br (decide ((([] : List τ0).length + x0.length) * (24 * Ty.sz τ11) ≤ 140737488355328))
    (some (([] : List τ0) ++ x0))
    none))
  (br (decide ((([] : List τ0).length + x0.length) * (24 * Ty.sz τ11) ≤ 140737488355328))
   (some (([] : List τ0) ++ x0))
   none)
abbrev z16sg (f : SV [.v τ1] → BV [] → Option τ8) : AF := { ps := [.v τ1], bs := [], rs := [.row 0], cs := [.row 75 τ11 true], R := List τ0, out := fun z => (((), ()), (z, ())), f := f }
noncomputable abbrev z16g (N : Nat) : AF := z16sg fun x _ => slices_Clone_api_Case N x.1
abbrev z16pk : SV [.row 0] → BV [.row 75 τ11 true] → τ8 := fun _ y => y.1
def z16fn (_N : Nat) : FuncId → Option Tmp → Option AF := fun f _ =>
 match f with
  | _ => none
theorem z16fn_ok (N : Nat) : FnOk (z16fn N) := by
 intro f q F h
 unfold z16fn at h
 split at h
 · cases h
def z16h : Nat → Hint := fun i =>
 match i with
 | _ => hint0
abbrev z16E (N : Nat) : Env := mkE z16h (z16fn N) (fun i => match i with | 2 => true | 5 => true | _ => false) (fun _ => false)
noncomputable def z16LP (N : Nat) : Nat → Code → St → (Ex → St → Option τ8) → Option τ8 := fun i c =>
 match i with
 | i => fun st k => iter (z16h i) (exec (z16E N) N c i) N st k
theorem z16core (N : Nat) (x : SV [.v τ1]) (y : BV []) : runL (z16E N) Tryz.f101 (z16g N) z16pk (z16LP N) x y = slices_Clone_api_Case N x.1 := by kernel_rfl
theorem z16sound (N : Nat) : Snd 101 (z16g N) :=
 runD_sound (mkE_ok z16h (z16fn N) _ _ (z16fn_ok N)) Tryz.func101 rfl Tryz.call101 (z16g N) z16pk (fun _ _ => rfl) N (fun x y _ h => ((runL_eq (z16E N) N Tryz.f101 (z16g N) z16pk (z16LP N) (show LoopsOk (z16LP N) (z16E N) N (resD (z16E N) Tryz.f101 (z16g N) z16pk) [] from trivial) x y).trans (z16core N x y)).trans h)
abbrev z66sg (f : SV [.v τ6] → BV [] → Option (GValue)) : AF := { ps := [.v τ6], bs := [], rs := [.v τ6], cs := [], R := GValue, out := fun z => ((z, ()), ()), f := f }
def z53L0T (_N : Nat) (r_script_Own : GValue → Option (GValue)) (c14 : Int) (k0 : τ8 → Option GValue) (self : Int → τ8 → Option GValue) (s15 : Int) (w100900 : List τ0) : Option GValue :=
 br (decide (s15 < c14))
  (br (decide (0 ≤ s15 ∧ s15 < (w100900.length : Int)))
   (bnd (geti w100900 s15) fun t26 =>
   bnd (r_script_Own t26.2) fun t27 =>
   br (decide (0 ≤ s15 ∧ s15 < (w100900.length : Int)))
    (bnd (geti w100900 s15) fun u =>
    self (IntKind.i64.wrap (s15 + (1 : Int))) (seti w100900 s15 (u.1, t27)))
    none)
   none)
  (k0 w100900)
def z53L0 (N : Nat) (r_script_Own : GValue → Option (GValue)) (c14 : Int) (k0 : τ8 → Option GValue) : Nat → Int → τ8 → Option GValue
 | 0, _, _ => none
 | n + 1, s15, w100900 => z53L0T N r_script_Own c14 k0 (z53L0 N r_script_Own c14 k0 n) s15 w100900
def script_Own_b (N : Nat) (r_script_Own : GValue → Option (GValue)) (x0 : GValue) : Option GValue :=
 bnd (slices_Clone_string_string N x0.list) fun t6 =>
 bnd (slices_Clone_api_Case N x0.cases) fun t9 =>
 z53L0 N r_script_Own (t9.length : Int) (fun o0_w100900 =>
   some (GValue.mk x0.kind x0.text x0.number t6 o0_w100900)) N (0 : Int) t9
abbrev z53sg (f : SV [.v τ6] → BV [] → Option (GValue)) : AF := { ps := [.v τ6], bs := [], rs := [.v τ6], cs := [], R := GValue, out := fun z => ((z, ()), ()), f := f }
abbrev z53pk : SV [.v τ6] → BV [] → GValue := fun x _ => x.1
def z53fn (N : Nat) (r_script_Own : GValue → Option (GValue)) : FuncId → Option Tmp → Option AF := fun f _ =>
 match f with
  | 52 => some (z66sg fun x _ => r_script_Own x.1)
  | 100 => some (slices_Clone_string_string_sg fun x _ => slices_Clone_string_string N x.1)
  | 101 => some (z16g N)
  | _ => none
theorem z53fn_ok (N : Nat) (r_script_Own : GValue → Option (GValue)) (h_script_Own : Sound Tryz.prog GW B0G 52 (z66sg fun x y => r_script_Own x.1)) : ∀ f q F, z53fn N r_script_Own f q = some F → Sound Tryz.prog GW B0G f F := by
 intro f q F h
 unfold z53fn at h
 split at h
 · cases h; exact h_script_Own
 · cases h; exact slices_Clone_string_string_sound N
 · cases h; exact z16sound N
 · cases h
def z53h : Nat → Hint := fun i =>
 match i with
 | 0 => ⟨[], [1, 2, 14, 15], [1001, 1002, 100600, 100900], [1, 2], [1001, 1002, 100600, 100900], []⟩
 | 100001 => ⟨[1001], [], [], [], [], []⟩
 | 100005 => ⟨[1001, 100600, 100900], [], [], [], [], []⟩
 | _ => hint0
abbrev z53E (N : Nat) (r_script_Own : GValue → Option (GValue)) : Env := mkE z53h (z53fn N r_script_Own) (fun _ => false) (fun _ => false)
noncomputable abbrev z53c0 : Code := cAt (bodyOf Tryz.f52) [true, true, false, true, false, false]
abbrev z53L0_fs : List (Nat × Sl) := [(1, .box 1001 0), (2, .box 1002 0), (14, .v τ5), (15, .v τ5)]
abbrev z53L0_bs : List (Nat × Sb) := [(1001, .cells [.v τ5, .v .str, .v τ5, .row 100600, .row 100900]), (1002, .cells [.v τ5, .v .str, .v τ5, .nilS, .nilS]), (100600, .row 9 .str true), (100900, .row 75 τ11 true)]
def z53L0_hd (c14 : Int) (κ1_0 : Int) (κ1_1 : Str) (κ1_2 : Int) (κ2_0 : Int) (κ2_1 : Str) (κ2_2 : Int) (t6 : List Str) (s15 : Int) (w100900 : List τ0) : St := ⟨32, [(1, .box 1001 0), (2, .box 1002 0), (14, .v τ5 c14), (15, .v τ5 s15)], [(1001, .cells [.v τ5 κ1_0, .v .str κ1_1, .v τ5 κ1_2, .row 100600, .row 100900]), (1002, .cells [.v τ5 κ2_0, .v .str κ2_1, .v τ5 κ2_2, .nilS, .nilS]), (100600, .row 9 .str true t6), (100900, .row 75 τ11 true w100900)]⟩
def z53L0_tl0 (_c14 : Int) (κ1_0 : Int) (κ1_1 : Str) (κ1_2 : Int) (κ2_0 : Int) (κ2_1 : Str) (κ2_2 : Int) (t6 : List Str) (o0_w100900 : List τ0) : St := ⟨32, [(1, .box 1001 0), (2, .box 1002 0)], [(1001, .cells [.v τ5 κ1_0, .v .str κ1_1, .v τ5 κ1_2, .row 100600, .row 100900]), (1002, .cells [.v τ5 κ2_0, .v .str κ2_1, .v τ5 κ2_2, .nilS, .nilS]), (100600, .row 9 .str true t6), (100900, .row 75 τ11 true o0_w100900)]⟩
def z53L0_G (N : Nat) (r_script_Own : GValue → Option (GValue)) (c14 : Int) (κ1_0 : Int) (κ1_1 : Str) (κ1_2 : Int) (κ2_0 : Int) (κ2_1 : Str) (κ2_2 : Int) (t6 : List Str) (s15 : Int) (w100900 : List τ0) (k : Ex → St → Option GValue) : Option GValue :=
 z53L0 N r_script_Own c14 (fun o0_w100900 => k (.exit 0) (z53L0_tl0 c14 κ1_0 κ1_1 κ1_2 κ2_0 κ2_1 κ2_2 t6 o0_w100900)) N s15 w100900
abbrev z53L0_F (N : Nat) (r_script_Own : GValue → Option (GValue)) : FV z53L0_fs → HV z53L0_bs → (Ex → St → Option GValue) → Option GValue := fun x y k => z53L0_G N r_script_Own x.2.2.1 y.1.1 y.1.2.1 y.1.2.2.1 y.2.1.1 y.2.1.2.1 y.2.1.2.2.1 y.2.2.1 x.2.2.2.1 y.2.2.2.1 k
noncomputable def z53LP (N : Nat) (r_script_Own : GValue → Option (GValue)) : Nat → Code → St → (Ex → St → Option GValue) → Option GValue := fun i c =>
 match i with
 | 0 => (LPc 32 z53L0_fs z53L0_bs (z53L0_F N r_script_Own) (fun st k => iter (z53h 0) (exec (z53E N r_script_Own) N c 0) N st k))
 | i => fun st k => iter (z53h i) (exec (z53E N r_script_Own) N c i) N st k
theorem z53L0_step (N : Nat) (r_script_Own : GValue → Option (GValue)) (c14 : Int) (κ1_0 : Int) (κ1_1 : Str) (κ1_2 : Int) (κ2_0 : Int) (κ2_1 : Str) (κ2_2 : Int) (t6 : List Str) (KX : Nat → St → Option GValue) (I : St → Option GValue) (s15 : Int) (w100900 : List τ0) :
  execL (z53LP N r_script_Own) (z53E N r_script_Own) z53c0 0 (z53L0_hd c14 κ1_0 κ1_1 κ1_2 κ2_0 κ2_1 κ2_2 t6 s15 w100900) (roundK (z53h 0) I KX (resD (z53E N r_script_Own) Tryz.f52 (z53sg fun x _ => script_Own_b N r_script_Own x.1) z53pk)) = z53L0T N r_script_Own c14 (fun o0_w100900 => KX 0 (z53L0_tl0 c14 κ1_0 κ1_1 κ1_2 κ2_0 κ2_1 κ2_2 t6 o0_w100900)) (fun s15 w100900 => I (z53L0_hd c14 κ1_0 κ1_1 κ1_2 κ2_0 κ2_1 κ2_2 t6 s15 w100900)) s15 w100900 := by kernel_rfl
theorem z53L0_ok (N : Nat) (r_script_Own : GValue → Option (GValue)) : ∀ x y k, (∀ st, k .ret st = (resD (z53E N r_script_Own) Tryz.f52 (z53sg fun x _ => script_Own_b N r_script_Own x.1) z53pk) st) → iter (z53h 0) (exec (z53E N r_script_Own) N z53c0 0) N ⟨32, unF z53L0_fs x, unH z53L0_bs y⟩ k = z53L0_F N r_script_Own x y k := fun x y k hk =>
 iter_link (S := (Int) × τ8 × Unit) (z53h 0) _ (execL (z53LP N r_script_Own) (z53E N r_script_Own) z53c0 0) (resD (z53E N r_script_Own) Tryz.f52 (z53sg fun x _ => script_Own_b N r_script_Own x.1) z53pk) (fun st k hk => execL_eq _ _ N _ z53c0 0 (show LoopsOk (z53LP N r_script_Own) (z53E N r_script_Own) N (resD (z53E N r_script_Own) Tryz.f52 (z53sg fun x _ => script_Own_b N r_script_Own x.1) z53pk) [] from trivial) st k hk) (fun s => z53L0_hd x.2.2.1 y.1.1 y.1.2.1 y.1.2.2.1 y.2.1.1 y.2.1.2.1 y.2.1.2.2.1 y.2.2.1 s.1 s.2.1) k hk
  (fun self s => z53L0T N r_script_Own x.2.2.1 (fun o0_w100900 => k (.exit 0) (z53L0_tl0 x.2.2.1 y.1.1 y.1.2.1 y.1.2.2.1 y.2.1.1 y.2.1.2.1 y.2.1.2.2.1 y.2.2.1 o0_w100900)) (fun s15 w100900 => self (s15, w100900, ())) s.1 s.2.1) (fun n s => z53L0 N r_script_Own x.2.2.1 (fun o0_w100900 => k (.exit 0) (z53L0_tl0 x.2.2.1 y.1.1 y.1.2.1 y.1.2.2.1 y.2.1.1 y.2.1.2.1 y.2.1.2.2.1 y.2.2.1 o0_w100900)) n s.1 s.2.1) (fun _ => rfl) (fun _ _ => rfl)
  (fun I s => z53L0_step N r_script_Own x.2.2.1 y.1.1 y.1.2.1 y.1.2.2.1 y.2.1.1 y.2.1.2.1 y.2.1.2.2.1 y.2.2.1 (fun j => k (.exit j)) I s.1 s.2.1) N (x.2.2.2.1, y.2.2.2.1, ())
theorem z53lp0 (N : Nat) (r_script_Own : GValue → Option (GValue)) : ∀ st k, (∀ st, k .ret st = (resD (z53E N r_script_Own) Tryz.f52 (z53sg fun x _ => script_Own_b N r_script_Own x.1) z53pk) st) → z53LP N r_script_Own 0 z53c0 st k = iter (Env.hint (z53E N r_script_Own) 0) (exec (z53E N r_script_Own) N z53c0 0) N st k := fun st k hk => LPc_eq 32 z53L0_fs z53L0_bs _ _ (resD (z53E N r_script_Own) Tryz.f52 (z53sg fun x _ => script_Own_b N r_script_Own x.1) z53pk) (z53L0_ok N r_script_Own) _ st k hk (rfl)
theorem z53core (N : Nat) (r_script_Own : GValue → Option (GValue)) (x : SV [.v τ6]) (y : BV []) : runL (z53E N r_script_Own) Tryz.f52 (z53sg fun x _ => script_Own_b N r_script_Own x.1) z53pk (z53LP N r_script_Own) x y = script_Own_b N r_script_Own x.1 := by kernel_rfl
theorem z53sound (N : Nat) (r_script_Own : GValue → Option (GValue)) (h_script_Own : Sound Tryz.prog GW B0G 52 (z66sg fun x y => r_script_Own x.1)) : Sound Tryz.prog GW B0G 52 (z53sg fun x _ => script_Own_b N r_script_Own x.1) :=
 runD_sound (mkE_ok z53h (z53fn N r_script_Own) _ _ (z53fn_ok N r_script_Own h_script_Own)) Tryz.func52 rfl Tryz.call52 (z53sg fun x _ => script_Own_b N r_script_Own x.1) z53pk (fun _ _ => rfl) N (fun x y _ h => ((runL_eq (z53E N r_script_Own) N Tryz.f52 (z53sg fun x _ => script_Own_b N r_script_Own x.1) z53pk (z53LP N r_script_Own) (show LoopsOk (z53LP N r_script_Own) (z53E N r_script_Own) N (resD (z53E N r_script_Own) Tryz.f52 (z53sg fun x _ => script_Own_b N r_script_Own x.1) z53pk) [(0, z53c0)] from ⟨z53lp0 N r_script_Own, trivial⟩) x y).trans (z53core N r_script_Own x y)).trans h)
def script_Own (N : Nat) : Nat → GValue → Option (GValue)
 | 0 => fun _ => none
 | d + 1 => script_Own_b N (script_Own N d)
theorem z66sound (N : Nat) : ∀ d, Sound Tryz.prog GW B0G 52 (z66sg fun x y => script_Own N d x.1)
 | 0 => Sound.never Tryz.call52 (fun _ _ => rfl)
 | d + 1 => z53sound N (script_Own N d) (z66sound N d)
def z64L0T (N : Nat) (x1 : Str) (c21 : List τ0) (c22 : Int) (k0 : Option τ16) (self : Int → Option τ16) (s23 : Int) : Option τ16 :=
 br (decide (s23 < c22))
  (bnd (geti c21 s23) fun t25 =>
  br (t25.1 == x1)
   (bnd (script_Own N N (GValue.mk t25.2.kind t25.2.text t25.2.number t25.2.list t25.2.cases)) fun t33 =>
   some (GValue.mk t33.kind t33.text t33.number t33.list t33.cases, (true, (0 : Int))))
   (self (IntKind.i64.wrap (s23 + (1 : Int)))))
  (k0)
def z64L0 (N : Nat) (x1 : Str) (c21 : List τ0) (c22 : Int) (k0 : Option τ16) : Nat → Int → Option τ16
 | 0, _ => none
 | n + 1, s23 => z64L0T N x1 c21 c22 k0 (z64L0 N x1 c21 c22 k0 n) s23
def script_Attr (N : Nat) (x0 : Str × Str × List τ0) (x1 : Str) : Option τ16 :=
 bnd (script_CheckTarget N x0) fun t11 =>
 br (t11 != (0 : Int))
  (some (GValue.mk (0 : Int) ([] : Str) (0 : Int) ([] : List Str) ([] : List τ0), (false, t11)))
  (bnd (script_IsName N x1) fun t17 =>
  br (!t17)
   (some (GValue.mk (0 : Int) ([] : Str) (0 : Int) ([] : List Str) ([] : List τ0), (false, (5 : Int))))
   (z64L0 N x1 x0.2.2 (x0.2.2.length : Int) (some (GValue.mk (0 : Int) ([] : Str) (0 : Int) ([] : List Str) ([] : List τ0), (false, (0 : Int)))) N (0 : Int)))
abbrev z64sg (f : SV [.v τ3, .v .str] → BV [] → Option τ16) : AF := { ps := [.v τ3, .v .str], bs := [], rs := [.v τ6, .v .bool, .v τ5], cs := [], R := GValue × Bool × Int, out := fun z => ((z.1, z.2.1, z.2.2, ()), ()), f := f }
noncomputable abbrev z64g (N : Nat) : AF := z64sg fun x _ => script_Attr N x.1 x.2.1
abbrev z64pk : SV [.v τ6, .v .bool, .v τ5] → BV [] → τ16 := fun x _ => (x.1, x.2.1, x.2.2.1)
def z64fn (N : Nat) : FuncId → Option Tmp → Option AF := fun f _ =>
 match f with
  | 50 => some (z24g N)
  | 51 => some (z49g N)
  | 52 => some (z66sg fun x _ => script_Own N N x.1)
  | _ => none
theorem z64fn_ok (N : Nat) : FnOk (z64fn N) := by
 intro f q F h
 unfold z64fn at h
 split at h
 · cases h; exact z24sound N
 · cases h; exact z49sound N
 · cases h; exact z66sound N N
 · cases h
def z64h : Nat → Hint := fun i =>
 match i with
 | 0 => ⟨[], [1, 4, 21, 22, 23], [1004], [4], [1004], []⟩
 | _ => hint0
abbrev z64E (N : Nat) : Env := mkE z64h (z64fn N) FF FF
noncomputable abbrev z64c0 : Code := cAt (bodyOf Tryz.f18) [true, true, true, false, true, false, false]
noncomputable abbrev z64R (N : Nat) := resD (z64E N) Tryz.f18 (z64g N) z64pk
abbrev z64L0_fs : List (Nat × Sl) := [(1, .v .str), (4, .box 1004 0), (21, .v τ1), (22, .v τ5), (23, .v τ5)]
abbrev z64L0_bs : List (Nat × Sb) := [(1004, .cells [.v τ5, .v .str, .v τ5, .nilS, .nilS])]
def z64L0_hd (x1 : Str) (c21 : List τ0) (c22 : Int) (κ4_0 : Int) (κ4_1 : Str) (κ4_2 : Int) (s23 : Int) : St := ⟨36, [(1, .v .str x1), (4, .box 1004 0), (21, .v τ1 c21), (22, .v τ5 c22), (23, .v τ5 s23)], [(1004, .cells [.v τ5 κ4_0, .v .str κ4_1, .v τ5 κ4_2, .nilS, .nilS])]⟩
def z64L0_tl0 (_x1 : Str) (_c21 : List τ0) (_c22 : Int) (κ4_0 : Int) (κ4_1 : Str) (κ4_2 : Int) : St := ⟨36, [(4, .box 1004 0)], [(1004, .cells [.v τ5 κ4_0, .v .str κ4_1, .v τ5 κ4_2, .nilS, .nilS])]⟩
def z64L0_G (N : Nat) (x1 : Str) (c21 : List τ0) (c22 : Int) (κ4_0 : Int) (κ4_1 : Str) (κ4_2 : Int) (s23 : Int) (k : Ex → St → Option τ16) : Option τ16 :=
 z64L0 N x1 c21 c22 (k (.exit 0) (z64L0_tl0 x1 c21 c22 κ4_0 κ4_1 κ4_2)) N s23
abbrev z64L0_F (N : Nat) : FV z64L0_fs → HV z64L0_bs → (Ex → St → Option τ16) → Option τ16 := fun x y k => z64L0_G N x.1 x.2.2.1 x.2.2.2.1 y.1.1 y.1.2.1 y.1.2.2.1 x.2.2.2.2.1 k
noncomputable def z64LP (N : Nat) : Nat → Code → St → (Ex → St → Option τ16) → Option τ16 := fun i c =>
 match i with
 | 0 => (LPc 36 z64L0_fs z64L0_bs (z64L0_F N) (fun st k => iter (z64h 0) (exec (z64E N) N c 0) N st k))
 | i => fun st k => iter (z64h i) (exec (z64E N) N c i) N st k
theorem z64L0_step (N : Nat) (x1 : Str) (c21 : List τ0) (c22 : Int) (κ4_0 : Int) (κ4_1 : Str) (κ4_2 : Int) (KX : Nat → St → Option τ16) (I : St → Option τ16) (s23 : Int) :
  execL (z64LP N) (z64E N) z64c0 0 (z64L0_hd x1 c21 c22 κ4_0 κ4_1 κ4_2 s23) (roundK (z64h 0) I KX (z64R N)) = z64L0T N x1 c21 c22 (KX 0 (z64L0_tl0 x1 c21 c22 κ4_0 κ4_1 κ4_2)) (fun s23 => I (z64L0_hd x1 c21 c22 κ4_0 κ4_1 κ4_2 s23)) s23 := by kernel_rfl
theorem z64L0_ok (N : Nat) : ∀ x y k, (∀ st, k .ret st = (z64R N) st) → iter (z64h 0) (exec (z64E N) N z64c0 0) N ⟨36, unF z64L0_fs x, unH z64L0_bs y⟩ k = z64L0_F N x y k := fun x y k hk =>
 iter_link (S := (Int) × Unit) (z64h 0) _ (execL (z64LP N) (z64E N) z64c0 0) (z64R N) (fun st k hk => execL_eq _ _ N _ z64c0 0 (show LoopsOk (z64LP N) (z64E N) N (z64R N) [] from trivial) st k hk) (fun s => z64L0_hd x.1 x.2.2.1 x.2.2.2.1 y.1.1 y.1.2.1 y.1.2.2.1 s.1) k hk
  (fun self s => z64L0T N x.1 x.2.2.1 x.2.2.2.1 (k (.exit 0) (z64L0_tl0 x.1 x.2.2.1 x.2.2.2.1 y.1.1 y.1.2.1 y.1.2.2.1)) (fun s23 => self (s23, ())) s.1) (fun n s => z64L0 N x.1 x.2.2.1 x.2.2.2.1 (k (.exit 0) (z64L0_tl0 x.1 x.2.2.1 x.2.2.2.1 y.1.1 y.1.2.1 y.1.2.2.1)) n s.1) (fun _ => rfl) (fun _ _ => rfl)
  (fun I s => z64L0_step N x.1 x.2.2.1 x.2.2.2.1 y.1.1 y.1.2.1 y.1.2.2.1 (fun j => k (.exit j)) I s.1) N (x.2.2.2.2.1, ())
theorem z64lp0 (N : Nat) : ∀ st k, (∀ st, k .ret st = (z64R N) st) → z64LP N 0 z64c0 st k = iter (Env.hint (z64E N) 0) (exec (z64E N) N z64c0 0) N st k := fun st k hk => LPc_eq 36 z64L0_fs z64L0_bs _ _ (z64R N) (z64L0_ok N) _ st k hk (rfl)
theorem z64core (N : Nat) (x : SV [.v τ3, .v .str]) (y : BV []) : runL (z64E N) Tryz.f18 (z64g N) z64pk (z64LP N) x y = script_Attr N x.1 x.2.1 := by kernel_rfl
theorem z64sound (N : Nat) : Snd 18 (z64g N) :=
 sndL (z64fn_ok N) Tryz.func18 rfl Tryz.call18 (z64g N) z64pk (fun _ _ => rfl) N (z64LP N) (show LoopsOk (z64LP N) (z64E N) N (z64R N) [(0, z64c0)] from ⟨z64lp0 N, trivial⟩) (z64core N)
def ref2_isNameByte (_N : Nat) (x0 : UInt8) : Option Bool :=
 br (decide (x0 ≥ (97 : UInt8)))
  (br (decide (x0 ≤ (122 : UInt8)))
   (some true)
   (br (decide (x0 ≥ (48 : UInt8)))
    (br (decide (x0 ≤ (57 : UInt8)))
     (some true)
     (some (x0 == (95 : UInt8))))
    (some (x0 == (95 : UInt8)))))
  (br (decide (x0 ≥ (48 : UInt8)))
   (br (decide (x0 ≤ (57 : UInt8)))
    (some true)
    (some (x0 == (95 : UInt8))))
   (some (x0 == (95 : UInt8))))
abbrev z40sg (f : SV [.v .u8] → BV [] → Option (Bool)) : AF := { ps := [.v .u8], bs := [], rs := [.v .bool], cs := [], R := Bool, out := fun z => ((z, ()), ()), f := f }
noncomputable abbrev z40g (N : Nat) : AF := z40sg fun x _ => ref2_isNameByte N x.1
abbrev z40pk : SV [.v .bool] → BV [] → Bool := fun x _ => x.1
def z40fn (_N : Nat) : FuncId → Option Tmp → Option AF := fun f _ =>
 match f with
  | _ => none
theorem z40fn_ok (N : Nat) : FnOk (z40fn N) := by
 intro f q F h
 unfold z40fn at h
 split at h
 · cases h
def z40h : Nat → Hint := fun i =>
 match i with
 | _ => hint0
abbrev z40E (N : Nat) : Env := mkE z40h (z40fn N) FF FF
noncomputable def z40LP (N : Nat) : Nat → Code → St → (Ex → St → Option Bool) → Option Bool := fun i c =>
 match i with
 | i => fun st k => iter (z40h i) (exec (z40E N) N c i) N st k
theorem z40core (N : Nat) (x : SV [.v .u8]) (y : BV []) : runL (z40E N) Tryz.f102 (z40g N) z40pk (z40LP N) x y = ref2_isNameByte N x.1 := by kernel_rfl
theorem z40sound (N : Nat) : Snd 102 (z40g N) :=
 sndL (z40fn_ok N) Tryz.func102 rfl Tryz.call102 (z40g N) z40pk (fun _ _ => rfl) N (z40LP N) (show LoopsOk (z40LP N) (z40E N) N (resD (z40E N) Tryz.f102 (z40g N) z40pk) [] from trivial) (z40core N)
def z59L0T (N : Nat) (x0 : Str) (c19 : Int) (k0 : Option Bool) (self : Int → Option Bool) (s20 : Int) : Option Bool :=
 br (decide (s20 < c19))
  (bnd (geti x0 s20) fun t25 =>
  bnd (ref2_isNameByte N t25) fun t26 =>
  br (!t26)
   (some false)
   (self (IntKind.i64.wrap (s20 + (1 : Int)))))
  (k0)
def z59L0 (N : Nat) (x0 : Str) (c19 : Int) (k0 : Option Bool) : Nat → Int → Option Bool
 | 0, _ => none
 | n + 1, s20 => z59L0T N x0 c19 k0 (z59L0 N x0 c19 k0 n) s20
def ref2_IsName (N : Nat) (x0 : Str) : Option Bool :=
 bnd (ref2_within N (x0.length : Int) (1 : Int) (40 : Int)) fun t6 =>
 br (!t6)
  (some false)
  (bnd (geti x0 (0 : Int)) fun t10 =>
  br (decide (t10 < (97 : UInt8)))
   (some false)
   (bnd (geti x0 (0 : Int)) fun t15 =>
   br (decide (t15 > (122 : UInt8)))
    (some false)
    (z59L0 N x0 (x0.length : Int) (bnd (strings_Split ([109, 97, 99, 114, 111, 32, 102, 111, 114, 32, 105, 110, 32, 105, 102, 32, 101, 108, 115, 101, 32, 117, 115, 101, 32, 102, 105, 108, 101, 115, 32, 99, 104, 111, 111, 115, 101] : Str) ([32] : Str)) fun t29 =>
      bnd (slices_Contains_string_string N t29 x0) fun t31 =>
      some (!t31)) N (0 : Int))))
abbrev z59sg (f : SV [.v .str] → BV [] → Option (Bool)) : AF := { ps := [.v .str], bs := [], rs := [.v .bool], cs := [], R := Bool, out := fun z => ((z, ()), ()), f := f }
noncomputable abbrev z59g (N : Nat) : AF := z59sg fun x _ => ref2_IsName N x.1
abbrev z59pk : SV [.v .bool] → BV [] → Bool := fun x _ => x.1
def z59fn (N : Nat) : FuncId → Option Tmp → Option AF := fun f _ =>
 match f with
  | 47 => some (z63g N)
  | 98 => some (z4g N)
  | 102 => some (z40g N)
  | 103 => some (strings_Split_sg fun x _ => strings_Split x.1 x.2.1)
  | _ => none
theorem z59fn_ok (N : Nat) : FnOk (z59fn N) := by
 intro f q F h
 unfold z59fn at h
 split at h
 · cases h; exact z63sound N
 · cases h; exact z4sound N
 · cases h; exact z40sound N
 · cases h; exact strings_Split_sound
 · cases h
def z59h : Nat → Hint := fun i =>
 match i with
 | 0 => ⟨[], [0, 19, 20], [], [0], [], []⟩
 | _ => hint0
abbrev z59E (N : Nat) : Env := mkE z59h (z59fn N) FF FF
noncomputable abbrev z59c0 : Code := cAt (bodyOf Tryz.f54) [true, true, false, true, false, false]
noncomputable abbrev z59R (N : Nat) := resD (z59E N) Tryz.f54 (z59g N) z59pk
abbrev z59L0_fs : List (Nat × Sl) := [(0, .v .str), (19, .v τ5), (20, .v τ5)]
abbrev z59L0_bs : List (Nat × Sb) := []
def z59L0_hd (x0 : Str) (c19 : Int) (s20 : Int) : St := ⟨33, [(0, .v .str x0), (19, .v τ5 c19), (20, .v τ5 s20)], []⟩
def z59L0_tl0 (x0 : Str) (_c19 : Int) : St := ⟨33, [(0, .v .str x0)], []⟩
def z59L0_G (N : Nat) (x0 : Str) (c19 : Int) (s20 : Int) (k : Ex → St → Option Bool) : Option Bool :=
 z59L0 N x0 c19 (k (.exit 0) (z59L0_tl0 x0 c19)) N s20
abbrev z59L0_F (N : Nat) : FV z59L0_fs → HV z59L0_bs → (Ex → St → Option Bool) → Option Bool := fun x _ k => z59L0_G N x.1 x.2.1 x.2.2.1 k
noncomputable def z59LP (N : Nat) : Nat → Code → St → (Ex → St → Option Bool) → Option Bool := fun i c =>
 match i with
 | 0 => (LPc 33 z59L0_fs z59L0_bs (z59L0_F N) (fun st k => iter (z59h 0) (exec (z59E N) N c 0) N st k))
 | i => fun st k => iter (z59h i) (exec (z59E N) N c i) N st k
theorem z59L0_step (N : Nat) (x0 : Str) (c19 : Int) (KX : Nat → St → Option Bool) (I : St → Option Bool) (s20 : Int) :
  execL (z59LP N) (z59E N) z59c0 0 (z59L0_hd x0 c19 s20) (roundK (z59h 0) I KX (z59R N)) = z59L0T N x0 c19 (KX 0 (z59L0_tl0 x0 c19)) (fun s20 => I (z59L0_hd x0 c19 s20)) s20 := by kernel_rfl
theorem z59L0_ok (N : Nat) : ∀ x y k, (∀ st, k .ret st = (z59R N) st) → iter (z59h 0) (exec (z59E N) N z59c0 0) N ⟨33, unF z59L0_fs x, unH z59L0_bs y⟩ k = z59L0_F N x y k := fun x _ k hk =>
 iter_link (S := (Int) × Unit) (z59h 0) _ (execL (z59LP N) (z59E N) z59c0 0) (z59R N) (fun st k hk => execL_eq _ _ N _ z59c0 0 (show LoopsOk (z59LP N) (z59E N) N (z59R N) [] from trivial) st k hk) (fun s => z59L0_hd x.1 x.2.1 s.1) k hk
  (fun self s => z59L0T N x.1 x.2.1 (k (.exit 0) (z59L0_tl0 x.1 x.2.1)) (fun s20 => self (s20, ())) s.1) (fun n s => z59L0 N x.1 x.2.1 (k (.exit 0) (z59L0_tl0 x.1 x.2.1)) n s.1) (fun _ => rfl) (fun _ _ => rfl)
  (fun I s => z59L0_step N x.1 x.2.1 (fun j => k (.exit j)) I s.1) N (x.2.2.1, ())
theorem z59lp0 (N : Nat) : ∀ st k, (∀ st, k .ret st = (z59R N) st) → z59LP N 0 z59c0 st k = iter (Env.hint (z59E N) 0) (exec (z59E N) N z59c0 0) N st k := fun st k hk => LPc_eq 33 z59L0_fs z59L0_bs _ _ (z59R N) (z59L0_ok N) _ st k hk (rfl)
theorem z59core (N : Nat) (x : SV [.v .str]) (y : BV []) : runL (z59E N) Tryz.f54 (z59g N) z59pk (z59LP N) x y = ref2_IsName N x.1 := by kernel_rfl
theorem z59sound (N : Nat) : Snd 54 (z59g N) :=
 sndL (z59fn_ok N) Tryz.func54 rfl Tryz.call54 (z59g N) z59pk (fun _ _ => rfl) N (z59LP N) (show LoopsOk (z59LP N) (z59E N) N (z59R N) [(0, z59c0)] from ⟨z59lp0 N, trivial⟩) (z59core N)
end
end Go.Proofs.YtahjncefiegflaaGreatDoor

