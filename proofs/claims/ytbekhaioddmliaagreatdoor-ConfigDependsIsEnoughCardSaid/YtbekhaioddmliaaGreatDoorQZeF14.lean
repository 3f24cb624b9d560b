/- What functions of the program compute, as plain functions (printed). -/
import Derived.Test.YtbekhaioddmliaaGreatDoorQZeF11
namespace Go.Proofs.YtbekhaioddmliaaGreatDoor
open Go Go.RowKit
set_option maxRecDepth 100000
set_option linter.unusedVariables false
noncomputable section
def blob_inPart (_N : Nat) (x0 : UInt8) : Option Bool :=
 br (decide (x0 ≥ (97 : UInt8)))
  (br (decide (x0 ≤ (122 : UInt8)))
   (some true)
   (br (decide (x0 ≥ (65 : UInt8)))
    (br (decide (x0 ≤ (90 : UInt8)))
     (some true)
     (br (decide (x0 ≥ (48 : UInt8)))
      (br (decide (x0 ≤ (57 : UInt8)))
       (some true)
       (bnd (strings_IndexByte ([46, 95, 45, 43] : Str) x0) fun t27 =>
       some (decide (t27 ≥ (0 : Int)))))
      (bnd (strings_IndexByte ([46, 95, 45, 43] : Str) x0) fun t27_1 =>
      some (decide (t27_1 ≥ (0 : Int))))))
    (br (decide (x0 ≥ (48 : UInt8)))
     (br (decide (x0 ≤ (57 : UInt8)))
      (some true)
      (bnd (strings_IndexByte ([46, 95, 45, 43] : Str) x0) fun t27_2 =>
      some (decide (t27_2 ≥ (0 : Int)))))
     (bnd (strings_IndexByte ([46, 95, 45, 43] : Str) x0) fun t27_3 =>
     some (decide (t27_3 ≥ (0 : Int)))))))
  (br (decide (x0 ≥ (65 : UInt8)))
   (br (decide (x0 ≤ (90 : UInt8)))
    (some true)
    (br (decide (x0 ≥ (48 : UInt8)))
     (br (decide (x0 ≤ (57 : UInt8)))
      (some true)
      (bnd (strings_IndexByte ([46, 95, 45, 43] : Str) x0) fun t27_4 =>
      some (decide (t27_4 ≥ (0 : Int)))))
     (bnd (strings_IndexByte ([46, 95, 45, 43] : Str) x0) fun t27_5 =>
     some (decide (t27_5 ≥ (0 : Int))))))
   (br (decide (x0 ≥ (48 : UInt8)))
    (br (decide (x0 ≤ (57 : UInt8)))
     (some true)
     (bnd (strings_IndexByte ([46, 95, 45, 43] : Str) x0) fun t27_6 =>
     some (decide (t27_6 ≥ (0 : Int)))))
    (bnd (strings_IndexByte ([46, 95, 45, 43] : Str) x0) fun t27_7 =>
    some (decide (t27_7 ≥ (0 : Int))))))
abbrev z88sg (f : SV [.v .u8] → BV [] → Option (Bool)) : AF := { ps := [.v .u8], bs := [], rs := [.v .bool], cs := [], R := Bool, out := fun z => ((z, ()), ()), f := f }
noncomputable abbrev z88g (N : Nat) : AF := z88sg fun x _ => blob_inPart N x.1
abbrev z88pk : SV [.v .bool] → BV [] → Bool := fun x _ => x.1
def z88fn (_N : Nat) : FuncId → Option Tmp → Option AF := fun f _ =>
 match f with
  | 205 => some (z53sg fun x _ => strings_IndexByte x.1 x.2.1)
  | _ => none
theorem z88fn_ok (N : Nat) : FnOk (z88fn N) := by
 intro f q F h
 unfold z88fn at h
 split at h
 · cases h; exact z53sound
 · cases h
def z88h : Nat → Hint := fun i =>
 match i with
 | _ => hint0
abbrev z88E (N : Nat) : Env := mkE z88h (z88fn N) FF FF
noncomputable def z88LP (N : Nat) : Nat → Code → St → (Ex → St → Option Bool) → Option Bool := fun i c =>
 match i with
 | i => fun st k => iter (z88h i) (exec (z88E N) N c i) N st k
theorem z88core (N : Nat) (x : SV [.v .u8]) (y : BV []) : runL (z88E N) Tryz.f204 (z88g N) z88pk (z88LP N) x y = blob_inPart N x.1 := by kernel_rfl
theorem z88sound (N : Nat) : Snd 204 (z88g N) :=
 sndL (z88fn_ok N) Tryz.func204 rfl Tryz.call204 (z88g N) z88pk (fun _ _ => rfl) N (z88LP N) (show LoopsOk (z88LP N) (z88E N) N (resD (z88E N) Tryz.f204 (z88g N) z88pk) [] from trivial) (z88core N)
def z89L0T (N : Nat) (x0 : Str) (c5 : Int) (k0 : Option Bool) (self : Int → Option Bool) (s6 : Int) : Option Bool :=
 br (decide (s6 < c5))
  (bnd (geti x0 s6) fun t11 =>
  bnd (blob_inPart N t11) fun t12 =>
  br (!t12)
   (some false)
   (self (IntKind.i64.wrap (s6 + (1 : Int)))))
  (k0)
def z89L0 (N : Nat) (x0 : Str) (c5 : Int) (k0 : Option Bool) : Nat → Int → Option Bool
 | 0, _ => none
 | n + 1, s6 => z89L0T N x0 c5 k0 (z89L0 N x0 c5 k0 n) s6
def blob_isPart (N : Nat) (x0 : Str) : Option Bool :=
 z89L0 N x0 (x0.length : Int) (br (!(x0 == ([] : Str)))
    (br (!(x0 == ([46] : Str)))
     (some (!(x0 == ([46, 46] : Str))))
     (some false))
    (some false)) N (0 : Int)
abbrev z89sg (f : SV [.v .str] → BV [] → Option (Bool)) : AF := { ps := [.v .str], bs := [], rs := [.v .bool], cs := [], R := Bool, out := fun z => ((z, ()), ()), f := f }
noncomputable abbrev z89g (N : Nat) : AF := z89sg fun x _ => blob_isPart N x.1
abbrev z89pk : SV [.v .bool] → BV [] → Bool := fun x _ => x.1
def z89fn (N : Nat) : FuncId → Option Tmp → Option AF := fun f _ =>
 match f with
  | 204 => some (z88g N)
  | _ => none
theorem z89fn_ok (N : Nat) : FnOk (z89fn N) := by
 intro f q F h
 unfold z89fn at h
 split at h
 · cases h; exact z88sound N
 · cases h
def z89h : Nat → Hint := fun i =>
 match i with
 | 0 => ⟨[], [0, 5, 6], [], [0], [], []⟩
 | _ => hint0
abbrev z89E (N : Nat) : Env := mkE z89h (z89fn N) FF FF
noncomputable abbrev z89c0 : Code := cAt (bodyOf Tryz.f174) [true, false, true, false, false]
noncomputable abbrev z89R (N : Nat) := resD (z89E N) Tryz.f174 (z89g N) z89pk
abbrev z89L0_fs : List (Nat × Sl) := [(0, .v .str), (5, .v τ5), (6, .v τ5)]
abbrev z89L0_bs : List (Nat × Sb) := []
def z89L0_hd (x0 : Str) (c5 : Int) (s6 : Int) : St := ⟨25, [(0, .v .str x0), (5, .v τ5 c5), (6, .v τ5 s6)], []⟩
def z89L0_tl0 (x0 : Str) (_c5 : Int) : St := ⟨25, [(0, .v .str x0)], []⟩
def z89L0_G (N : Nat) (x0 : Str) (c5 : Int) (s6 : Int) (k : Ex → St → Option Bool) : Option Bool :=
 z89L0 N x0 c5 (k (.exit 0) (z89L0_tl0 x0 c5)) N s6
abbrev z89L0_F (N : Nat) : FV z89L0_fs → HV z89L0_bs → (Ex → St → Option Bool) → Option Bool := fun x _ k => z89L0_G N x.1 x.2.1 x.2.2.1 k
noncomputable def z89LP (N : Nat) : Nat → Code → St → (Ex → St → Option Bool) → Option Bool := fun i c =>
 match i with
 | 0 => (LPc 25 z89L0_fs z89L0_bs (z89L0_F N) (fun st k => iter (z89h 0) (exec (z89E N) N c 0) N st k))
 | i => fun st k => iter (z89h i) (exec (z89E N) N c i) N st k
theorem z89L0_step (N : Nat) (x0 : Str) (c5 : Int) (KX : Nat → St → Option Bool) (I : St → Option Bool) (s6 : Int) :
  execL (z89LP N) (z89E N) z89c0 0 (z89L0_hd x0 c5 s6) (roundK (z89h 0) I KX (z89R N)) = z89L0T N x0 c5 (KX 0 (z89L0_tl0 x0 c5)) (fun s6 => I (z89L0_hd x0 c5 s6)) s6 := by kernel_rfl
theorem z89L0_ok (N : Nat) : ∀ x y k, (∀ st, k .ret st = (z89R N) st) → iter (z89h 0) (exec (z89E N) N z89c0 0) N ⟨25, unF z89L0_fs x, unH z89L0_bs y⟩ k = z89L0_F N x y k := fun x _ k hk =>
 iter_link (S := (Int) × Unit) (z89h 0) _ (execL (z89LP N) (z89E N) z89c0 0) (z89R N) (fun st k hk => execL_eq _ _ N _ z89c0 0 (show LoopsOk (z89LP N) (z89E N) N (z89R N) [] from trivial) st k hk) (fun s => z89L0_hd x.1 x.2.1 s.1) k hk
  (fun self s => z89L0T N x.1 x.2.1 (k (.exit 0) (z89L0_tl0 x.1 x.2.1)) (fun s6 => self (s6, ())) s.1) (fun n s => z89L0 N x.1 x.2.1 (k (.exit 0) (z89L0_tl0 x.1 x.2.1)) n s.1) (fun _ => rfl) (fun _ _ => rfl)
  (fun I s => z89L0_step N x.1 x.2.1 (fun j => k (.exit j)) I s.1) N (x.2.2.1, ())
theorem z89lp0 (N : Nat) : ∀ st k, (∀ st, k .ret st = (z89R N) st) → z89LP N 0 z89c0 st k = iter (Env.hint (z89E N) 0) (exec (z89E N) N z89c0 0) N st k := fun st k hk => LPc_eq 25 z89L0_fs z89L0_bs _ _ (z89R N) (z89L0_ok N) _ st k hk (rfl)
theorem z89core (N : Nat) (x : SV [.v .str]) (y : BV []) : runL (z89E N) Tryz.f174 (z89g N) z89pk (z89LP N) x y = blob_isPart N x.1 := by kernel_rfl
theorem z89sound (N : Nat) : Snd 174 (z89g N) :=
 sndL (z89fn_ok N) Tryz.func174 rfl Tryz.call174 (z89g N) z89pk (fun _ _ => rfl) N (z89LP N) (show LoopsOk (z89LP N) (z89E N) N (z89R N) [(0, z89c0)] from ⟨z89lp0 N, trivial⟩) (z89core N)
def z87L0T (N : Nat) (t14 : List Str) (c15 : Int) (k0 : Option Bool) (self : Int → Option Bool) (s16 : Int) : Option Bool :=
 br (decide (s16 < c15))
  (bnd (geti t14 s16) fun t18 =>
  bnd (blob_isPart N t18) fun t21 =>
  br (!t21)
   (some false)
   (self (IntKind.i64.wrap (s16 + (1 : Int)))))
  (k0)
def z87L0 (N : Nat) (t14 : List Str) (c15 : Int) (k0 : Option Bool) : Nat → Int → Option Bool
 | 0, _ => none
 | n + 1, s16 => z87L0T N t14 c15 k0 (z87L0 N t14 c15 k0 n) s16
def blob_IsPath (N : Nat) (x0 : Str) : Option Bool :=
 br (decide ((x0.length : Int) < (1 : Int)))
  (some false)
  (br (decide ((x0.length : Int) > (200 : Int)))
   (some false)
   (bnd (strings_Split x0 ([47] : Str)) fun t14 =>
   z87L0 N t14 (t14.length : Int) (some true) N (0 : Int)))
abbrev z87sg (f : SV [.v .str] → BV [] → Option (Bool)) : AF := { ps := [.v .str], bs := [], rs := [.v .bool], cs := [], R := Bool, out := fun z => ((z, ()), ()), f := f }
noncomputable abbrev z87g (N : Nat) : AF := z87sg fun x _ => blob_IsPath N x.1
abbrev z87pk : SV [.v .bool] → BV [] → Bool := fun x _ => x.1
def z87fn (N : Nat) : FuncId → Option Tmp → Option AF := fun f _ =>
 match f with
  | 173 => some (z79sg fun x _ => strings_Split x.1 x.2.1)
  | 174 => some (z89g N)
  | _ => none
theorem z87fn_ok (N : Nat) : FnOk (z87fn N) := by
 intro f q F h
 unfold z87fn at h
 split at h
 · cases h; exact z79sound
 · cases h; exact z89sound N
 · cases h
def z87h : Nat → Hint := fun i =>
 match i with
 | 0 => ⟨[], [14, 15, 16], [], [], [], []⟩
 | _ => hint0
abbrev z87E (N : Nat) : Env := mkE z87h (z87fn N) FF FF
noncomputable abbrev z87c0 : Code := cAt (bodyOf Tryz.f109) [true, true, false, true, false, false]
noncomputable abbrev z87R (N : Nat) := resD (z87E N) Tryz.f109 (z87g N) z87pk
abbrev z87L0_fs : List (Nat × Sl) := [(14, .v τ24), (15, .v τ5), (16, .v τ5)]
abbrev z87L0_bs : List (Nat × Sb) := []
def z87L0_hd (t14 : List Str) (c15 : Int) (s16 : Int) : St := ⟨24, [(14, .v τ24 t14), (15, .v τ5 c15), (16, .v τ5 s16)], []⟩
def z87L0_tl0 (_t14 : List Str) (_c15 : Int) : St := ⟨24, [], []⟩
def z87L0_G (N : Nat) (t14 : List Str) (c15 : Int) (s16 : Int) (k : Ex → St → Option Bool) : Option Bool :=
 z87L0 N t14 c15 (k (.exit 0) (z87L0_tl0 t14 c15)) N s16
abbrev z87L0_F (N : Nat) : FV z87L0_fs → HV z87L0_bs → (Ex → St → Option Bool) → Option Bool := fun x _ k => z87L0_G N x.1 x.2.1 x.2.2.1 k
noncomputable def z87LP (N : Nat) : Nat → Code → St → (Ex → St → Option Bool) → Option Bool := fun i c =>
 match i with
 | 0 => (LPc 24 z87L0_fs z87L0_bs (z87L0_F N) (fun st k => iter (z87h 0) (exec (z87E N) N c 0) N st k))
 | i => fun st k => iter (z87h i) (exec (z87E N) N c i) N st k
theorem z87L0_step (N : Nat) (t14 : List Str) (c15 : Int) (KX : Nat → St → Option Bool) (I : St → Option Bool) (s16 : Int) :
  execL (z87LP N) (z87E N) z87c0 0 (z87L0_hd t14 c15 s16) (roundK (z87h 0) I KX (z87R N)) = z87L0T N t14 c15 (KX 0 (z87L0_tl0 t14 c15)) (fun s16 => I (z87L0_hd t14 c15 s16)) s16 := by kernel_rfl
theorem z87L0_ok (N : Nat) : ∀ x y k, (∀ st, k .ret st = (z87R N) st) → iter (z87h 0) (exec (z87E N) N z87c0 0) N ⟨24, unF z87L0_fs x, unH z87L0_bs y⟩ k = z87L0_F N x y k := fun x _ k hk =>
 iter_link (S := (Int) × Unit) (z87h 0) _ (execL (z87LP N) (z87E N) z87c0 0) (z87R N) (fun st k hk => execL_eq _ _ N _ z87c0 0 (show LoopsOk (z87LP N) (z87E N) N (z87R N) [] from trivial) st k hk) (fun s => z87L0_hd x.1 x.2.1 s.1) k hk
  (fun self s => z87L0T N x.1 x.2.1 (k (.exit 0) (z87L0_tl0 x.1 x.2.1)) (fun s16 => self (s16, ())) s.1) (fun n s => z87L0 N x.1 x.2.1 (k (.exit 0) (z87L0_tl0 x.1 x.2.1)) n s.1) (fun _ => rfl) (fun _ _ => rfl)
  (fun I s => z87L0_step N x.1 x.2.1 (fun j => k (.exit j)) I s.1) N (x.2.2.1, ())
theorem z87lp0 (N : Nat) : ∀ st k, (∀ st, k .ret st = (z87R N) st) → z87LP N 0 z87c0 st k = iter (Env.hint (z87E N) 0) (exec (z87E N) N z87c0 0) N st k := fun st k hk => LPc_eq 24 z87L0_fs z87L0_bs _ _ (z87R N) (z87L0_ok N) _ st k hk (rfl)
theorem z87core (N : Nat) (x : SV [.v .str]) (y : BV []) : runL (z87E N) Tryz.f109 (z87g N) z87pk (z87LP N) x y = blob_IsPath N x.1 := by kernel_rfl
theorem z87sound (N : Nat) : Snd 109 (z87g N) :=
 sndL (z87fn_ok N) Tryz.func109 rfl Tryz.call109 (z87g N) z87pk (fun _ _ => rfl) N (z87LP N) (show LoopsOk (z87LP N) (z87E N) N (z87R N) [(0, z87c0)] from ⟨z87lp0 N, trivial⟩) (z87core N)
def script_isSmall (_N : Nat) (x0 : UInt8) : Option Bool :=
 br (decide (x0 ≥ (97 : UInt8)))
  (some (decide (x0 ≤ (122 : UInt8))))
  (some false)
abbrev z69sg (f : SV [.v .u8] → BV [] → Option (Bool)) : AF := { ps := [.v .u8], bs := [], rs := [.v .bool], cs := [], R := Bool, out := fun z => ((z, ()), ()), f := f }
noncomputable abbrev z69g (N : Nat) : AF := z69sg fun x _ => script_isSmall N x.1
abbrev z69pk : SV [.v .bool] → BV [] → Bool := fun x _ => x.1
def z69fn (_N : Nat) : FuncId → Option Tmp → Option AF := fun f _ =>
 match f with
  | _ => none
theorem z69fn_ok (N : Nat) : FnOk (z69fn N) := by
 intro f q F h
 unfold z69fn at h
 split at h
 · cases h
def z69h : Nat → Hint := fun i =>
 match i with
 | _ => hint0
abbrev z69E (N : Nat) : Env := mkE z69h (z69fn N) FF FF
noncomputable def z69LP (N : Nat) : Nat → Code → St → (Ex → St → Option Bool) → Option Bool := fun i c =>
 match i with
 | i => fun st k => iter (z69h i) (exec (z69E N) N c i) N st k
theorem z69core (N : Nat) (x : SV [.v .u8]) (y : BV []) : runL (z69E N) Tryz.f175 (z69g N) z69pk (z69LP N) x y = script_isSmall N x.1 := by kernel_rfl
theorem z69sound (N : Nat) : Snd 175 (z69g N) :=
 sndL (z69fn_ok N) Tryz.func175 rfl Tryz.call175 (z69g N) z69pk (fun _ _ => rfl) N (z69LP N) (show LoopsOk (z69LP N) (z69E N) N (resD (z69E N) Tryz.f175 (z69g N) z69pk) [] from trivial) (z69core N)
def script_isDigit (_N : Nat) (x0 : UInt8) : Option Bool :=
 br (decide (x0 ≥ (48 : UInt8)))
  (some (decide (x0 ≤ (57 : UInt8))))
  (some false)
abbrev z68sg (f : SV [.v .u8] → BV [] → Option (Bool)) : AF := { ps := [.v .u8], bs := [], rs := [.v .bool], cs := [], R := Bool, out := fun z => ((z, ()), ()), f := f }
noncomputable abbrev z68g (N : Nat) : AF := z68sg fun x _ => script_isDigit N x.1
abbrev z68pk : SV [.v .bool] → BV [] → Bool := fun x _ => x.1
def z68fn (_N : Nat) : FuncId → Option Tmp → Option AF := fun f _ =>
 match f with
  | _ => none
theorem z68fn_ok (N : Nat) : FnOk (z68fn N) := by
 intro f q F h
 unfold z68fn at h
 split at h
 · cases h
def z68h : Nat → Hint := fun i =>
 match i with
 | _ => hint0
abbrev z68E (N : Nat) : Env := mkE z68h (z68fn N) FF FF
noncomputable def z68LP (N : Nat) : Nat → Code → St → (Ex → St → Option Bool) → Option Bool := fun i c =>
 match i with
 | i => fun st k => iter (z68h i) (exec (z68E N) N c i) N st k
theorem z68core (N : Nat) (x : SV [.v .u8]) (y : BV []) : runL (z68E N) Tryz.f176 (z68g N) z68pk (z68LP N) x y = script_isDigit N x.1 := by kernel_rfl
theorem z68sound (N : Nat) : Snd 176 (z68g N) :=
 sndL (z68fn_ok N) Tryz.func176 rfl Tryz.call176 (z68g N) z68pk (fun _ _ => rfl) N (z68LP N) (show LoopsOk (z68LP N) (z68E N) N (resD (z68E N) Tryz.f176 (z68g N) z68pk) [] from trivial) (z68core N)
def script_words (_N : Nat) : Option τ25 :=
 some [([109, 97, 99, 114, 111] : Str), ([102, 111, 114] : Str), ([105, 110] : Str), ([105, 102] : Str), ([101, 108, 115, 101] : Str), ([117, 115, 101] : Str), ([102, 105, 108, 101, 115] : Str), ([99, 104, 111, 111, 115, 101] : Str)]
abbrev z84sg (f : SV [] → BV [] → Option τ25) : AF := { ps := [], bs := [], rs := [.row 0], cs := [.row 9 .str false], R := List Str, out := fun z => (((), ()), (z, ())), f := f }
noncomputable abbrev z84g (N : Nat) : AF := z84sg fun _ _ => script_words N
abbrev z84pk : SV [.row 0] → BV [.row 9 .str false] → τ25 := fun _ y => y.1
def z84fn (_N : Nat) : FuncId → Option Tmp → Option AF := fun f _ =>
 match f with
  | _ => none
theorem z84fn_ok (N : Nat) : FnOk (z84fn N) := by
 intro f q F h
 unfold z84fn at h
 split at h
 · cases h
def z84h : Nat → Hint := fun i =>
 match i with
 | _ => hint0
abbrev z84E (N : Nat) : Env := mkE z84h (z84fn N) FF FF
noncomputable def z84LP (N : Nat) : Nat → Code → St → (Ex → St → Option τ25) → Option τ25 := fun i c =>
 match i with
 | i => fun st k => iter (z84h i) (exec (z84E N) N c i) N st k
theorem z84core (N : Nat) (x : SV []) (y : BV []) : runL (z84E N) Tryz.f177 (z84g N) z84pk (z84LP N) x y = script_words N := by kernel_rfl
theorem z84sound (N : Nat) : Snd 177 (z84g N) :=
 sndL (z84fn_ok N) Tryz.func177 rfl Tryz.call177 (z84g N) z84pk (fun _ _ => rfl) N (z84LP N) (show LoopsOk (z84LP N) (z84E N) N (resD (z84E N) Tryz.f177 (z84g N) z84pk) [] from trivial) (z84core N)
def z77L0T (N : Nat) (x0 : Str) (c19 : Int) (k0 : Option Bool) (self : Int → Option Bool) (s20 : Int) : Option Bool :=
 br (decide (s20 < c19))
  (bnd (geti x0 s20) fun t25 =>
  bnd (script_isSmall N t25) fun t26 =>
  br (!t26)
   (bnd (geti x0 s20) fun t31 =>
   bnd (script_isDigit N t31) fun t32 =>
   br (!t32)
    (bnd (geti x0 s20) fun t38 =>
    br (t38 != (95 : UInt8))
     (some false)
     (self (IntKind.i64.wrap (s20 + (1 : Int)))))
    (self (IntKind.i64.wrap (s20 + (1 : Int)))))
   (self (IntKind.i64.wrap (s20 + (1 : Int)))))
  (k0)
def z77L0 (N : Nat) (x0 : Str) (c19 : Int) (k0 : Option Bool) : Nat → Int → Option Bool
 | 0, _ => none
 | n + 1, s20 => z77L0T N x0 c19 k0 (z77L0 N x0 c19 k0 n) s20
def script_IsName (N : Nat) (x0 : Str) : Option Bool :=
 br (decide ((x0.length : Int) < (1 : Int)))
  (some false)
  (br (decide ((x0.length : Int) > (40 : Int)))
   (some false)
   (bnd (geti x0 (0 : Int)) fun t14 =>
   bnd (script_isSmall N t14) fun t15 =>
   br (!t15)
    (some false)
    (z77L0 N x0 (x0.length : Int) (bnd (script_words N) fun t42 =>
      bnd (slices_Contains_string_string N t42 x0) fun t44 =>
      some (!t44)) N (0 : Int))))
abbrev z77sg (f : SV [.v .str] → BV [] → Option (Bool)) : AF := { ps := [.v .str], bs := [], rs := [.v .bool], cs := [], R := Bool, out := fun z => ((z, ()), ()), f := f }
noncomputable abbrev z77g (N : Nat) : AF := z77sg fun x _ => script_IsName N x.1
abbrev z77pk : SV [.v .bool] → BV [] → Bool := fun x _ => x.1
def z77fn (N : Nat) : FuncId → Option Tmp → Option AF := fun f _ =>
 match f with
  | 56 => some (z8g N)
  | 175 => some (z69g N)
  | 176 => some (z68g N)
  | 177 => some (z84g N)
  | _ => none
theorem z77fn_ok (N : Nat) : FnOk (z77fn N) := by
 intro f q F h
 unfold z77fn at h
 split at h
 · cases h; exact z8sound N
 · cases h; exact z69sound N
 · cases h; exact z68sound N
 · cases h; exact z84sound N
 · cases h
def z77h : Nat → Hint := fun i =>
 match i with
 | 0 => ⟨[], [0, 19, 20], [], [0], [], []⟩
 | _ => hint0
abbrev z77E (N : Nat) : Env := mkE z77h (z77fn N) FF FF
noncomputable abbrev z77c0 : Code := cAt (bodyOf Tryz.f110) [true, true, false, true, false, false]
noncomputable abbrev z77R (N : Nat) := resD (z77E N) Tryz.f110 (z77g N) z77pk
abbrev z77L0_fs : List (Nat × Sl) := [(0, .v .str), (19, .v τ5), (20, .v τ5)]
abbrev z77L0_bs : List (Nat × Sb) := []
def z77L0_hd (x0 : Str) (c19 : Int) (s20 : Int) : St := ⟨46, [(0, .v .str x0), (19, .v τ5 c19), (20, .v τ5 s20)], []⟩
def z77L0_tl0 (x0 : Str) (_c19 : Int) : St := ⟨46, [(0, .v .str x0)], []⟩
def z77L0_G (N : Nat) (x0 : Str) (c19 : Int) (s20 : Int) (k : Ex → St → Option Bool) : Option Bool :=
 z77L0 N x0 c19 (k (.exit 0) (z77L0_tl0 x0 c19)) N s20
abbrev z77L0_F (N : Nat) : FV z77L0_fs → HV z77L0_bs → (Ex → St → Option Bool) → Option Bool := fun x _ k => z77L0_G N x.1 x.2.1 x.2.2.1 k
noncomputable def z77LP (N : Nat) : Nat → Code → St → (Ex → St → Option Bool) → Option Bool := fun i c =>
 match i with
 | 0 => (LPc 46 z77L0_fs z77L0_bs (z77L0_F N) (fun st k => iter (z77h 0) (exec (z77E N) N c 0) N st k))
 | i => fun st k => iter (z77h i) (exec (z77E N) N c i) N st k
theorem z77L0_step (N : Nat) (x0 : Str) (c19 : Int) (KX : Nat → St → Option Bool) (I : St → Option Bool) (s20 : Int) :
  execL (z77LP N) (z77E N) z77c0 0 (z77L0_hd x0 c19 s20) (roundK (z77h 0) I KX (z77R N)) = z77L0T N x0 c19 (KX 0 (z77L0_tl0 x0 c19)) (fun s20 => I (z77L0_hd x0 c19 s20)) s20 := by kernel_rfl
theorem z77L0_ok (N : Nat) : ∀ x y k, (∀ st, k .ret st = (z77R N) st) → iter (z77h 0) (exec (z77E N) N z77c0 0) N ⟨46, unF z77L0_fs x, unH z77L0_bs y⟩ k = z77L0_F N x y k := fun x _ k hk =>
 iter_link (S := (Int) × Unit) (z77h 0) _ (execL (z77LP N) (z77E N) z77c0 0) (z77R N) (fun st k hk => execL_eq _ _ N _ z77c0 0 (show LoopsOk (z77LP N) (z77E N) N (z77R N) [] from trivial) st k hk) (fun s => z77L0_hd x.1 x.2.1 s.1) k hk
  (fun self s => z77L0T N x.1 x.2.1 (k (.exit 0) (z77L0_tl0 x.1 x.2.1)) (fun s20 => self (s20, ())) s.1) (fun n s => z77L0 N x.1 x.2.1 (k (.exit 0) (z77L0_tl0 x.1 x.2.1)) n s.1) (fun _ => rfl) (fun _ _ => rfl)
  (fun I s => z77L0_step N x.1 x.2.1 (fun j => k (.exit j)) I s.1) N (x.2.2.1, ())
theorem z77lp0 (N : Nat) : ∀ st k, (∀ st, k .ret st = (z77R N) st) → z77LP N 0 z77c0 st k = iter (Env.hint (z77E N) 0) (exec (z77E N) N z77c0 0) N st k := fun st k hk => LPc_eq 46 z77L0_fs z77L0_bs _ _ (z77R N) (z77L0_ok N) _ st k hk (rfl)
theorem z77core (N : Nat) (x : SV [.v .str]) (y : BV []) : runL (z77E N) Tryz.f110 (z77g N) z77pk (z77LP N) x y = script_IsName N x.1 := by kernel_rfl
theorem z77sound (N : Nat) : Snd 110 (z77g N) :=
 sndL (z77fn_ok N) Tryz.func110 rfl Tryz.call110 (z77g N) z77pk (fun _ _ => rfl) N (z77LP N) (show LoopsOk (z77LP N) (z77E N) N (z77R N) [(0, z77c0)] from ⟨z77lp0 N, trivial⟩) (z77core N)
def script_CheckTarget_1 (_N : Nat) (x0 : Str × GValue) : Option Bool :=
 br (x0.1 == ([110, 97, 109, 101] : Str))
  (some true)
  (some (x0.1 == ([107, 105, 110, 100] : Str)))
abbrev z36sg (f : SV [.v τ2] → BV [] → Option (Bool)) : AF := { ps := [.v τ2], bs := [], rs := [.v .bool], cs := [], R := Bool, out := fun z => ((z, ()), ()), f := f }
noncomputable abbrev z36g (N : Nat) : AF := z36sg fun x _ => script_CheckTarget_1 N x.1
abbrev z36pk : SV [.v .bool] → BV [] → Bool := fun x _ => x.1
def z36fn (_N : Nat) : FuncId → Option Tmp → Option AF := fun f _ =>
 match f with
  | _ => none
theorem z36fn_ok (N : Nat) : FnOk (z36fn N) := by
 intro f q F h
 unfold z36fn at h
 split at h
 · cases h
def z36h : Nat → Hint := fun i =>
 match i with
 | _ => hint0
abbrev z36E (N : Nat) : Env := mkE z36h (z36fn N) FF FF
noncomputable def z36LP (N : Nat) : Nat → Code → St → (Ex → St → Option Bool) → Option Bool := fun i c =>
 match i with
 | i => fun st k => iter (z36h i) (exec (z36E N) N c i) N st k
theorem z36core (N : Nat) (x : SV [.v τ2]) (y : BV []) : runL (z36E N) Tryz.f112 (z36g N) z36pk (z36LP N) x y = script_CheckTarget_1 N x.1 := by kernel_rfl
theorem z36sound (N : Nat) : Snd 112 (z36g N) :=
 sndL (z36fn_ok N) Tryz.func112 rfl Tryz.call112 (z36g N) z36pk (fun _ _ => rfl) N (z36LP N) (show LoopsOk (z36LP N) (z36E N) N (resD (z36E N) Tryz.f112 (z36g N) z36pk) [] from trivial) (z36core N)
def z21L0T (N : Nat) (x0 : List τ3) (c7 : Int) (k0 : Option Int) (self : Int → Option Int) (s8 : Int) : Option Int :=
 br (decide (s8 < c7))
  (bnd (geti x0 s8) fun t14 =>
  bnd (script_CheckTarget_1 N t14) fun t16 =>
  br (t16)
   (some s8)
   (self (IntKind.i64.wrap (s8 + (1 : Int)))))
  (k0)
def z21L0 (N : Nat) (x0 : List τ3) (c7 : Int) (k0 : Option Int) : Nat → Int → Option Int
 | 0, _ => none
 | n + 1, s8 => z21L0T N x0 c7 k0 (z21L0 N x0 c7 k0 n) s8
def slices_IndexFunc_api_Attr (N : Nat) (x0 : List τ3) (_x1 : Unit) : Option Int :=
 z21L0 N x0 (x0.length : Int) (some (-1 : Int)) N (0 : Int)
abbrev z21sg (f : SV [.v (.sl τ2), .v (.clo 112 .un)] → BV [] → Option (Int)) : AF := { ps := [.v (.sl τ2), .v (.clo 112 .un)], bs := [], rs := [.v τ5], cs := [], R := Int, out := fun z => ((z, ()), ()), f := f }
noncomputable abbrev z21g (N : Nat) : AF := z21sg fun x _ => slices_IndexFunc_api_Attr N x.1 x.2.1
abbrev z21pk : SV [.v τ5] → BV [] → Int := fun x _ => x.1
def z21fn (N : Nat) : FuncId → Option Tmp → Option AF := fun f _ =>
 match f with
  | 112 => some (z36g N)
  | _ => none
theorem z21fn_ok (N : Nat) : FnOk (z21fn N) := by
 intro f q F h
 unfold z21fn at h
 split at h
 · cases h; exact z36sound N
 · cases h
def z21h : Nat → Hint := fun i =>
 match i with
 | 0 => ⟨[], [0, 1, 7, 8], [], [], [], []⟩
 | _ => hint0
abbrev z21E (N : Nat) : Env := mkE z21h (z21fn N) FF FF
noncomputable abbrev z21c0 : Code := cAt (bodyOf Tryz.f178) [true, false, true, false, false]
noncomputable abbrev z21R (N : Nat) := resD (z21E N) Tryz.f178 (z21g N) z21pk
abbrev z21L0_fs : List (Nat × Sl) := [(0, .v (.sl τ2)), (1, .v (.clo 112 .un)), (7, .v τ5), (8, .v τ5)]
abbrev z21L0_bs : List (Nat × Sb) := []
def z21L0_hd (x0 : List τ3) (x1 : Unit) (c7 : Int) (s8 : Int) : St := ⟨19, [(0, .v (.sl τ2) x0), (1, .v (.clo 112 .un) x1), (7, .v τ5 c7), (8, .v τ5 s8)], []⟩
def z21L0_tl0 (_x0 : List τ3) (_x1 : Unit) (_c7 : Int) : St := ⟨19, [], []⟩
def z21L0_G (N : Nat) (x0 : List τ3) (x1 : Unit) (c7 : Int) (s8 : Int) (k : Ex → St → Option Int) : Option Int :=
 z21L0 N x0 c7 (k (.exit 0) (z21L0_tl0 x0 x1 c7)) N s8
abbrev z21L0_F (N : Nat) : FV z21L0_fs → HV z21L0_bs → (Ex → St → Option Int) → Option Int := fun x _ k => z21L0_G N x.1 x.2.1 x.2.2.1 x.2.2.2.1 k
noncomputable def z21LP (N : Nat) : Nat → Code → St → (Ex → St → Option Int) → Option Int := fun i c =>
 match i with
 | 0 => (LPc 19 z21L0_fs z21L0_bs (z21L0_F N) (fun st k => iter (z21h 0) (exec (z21E N) N c 0) N st k))
 | i => fun st k => iter (z21h i) (exec (z21E N) N c i) N st k
theorem z21L0_step (N : Nat) (x0 : List τ3) (x1 : Unit) (c7 : Int) (KX : Nat → St → Option Int) (I : St → Option Int) (s8 : Int) :
  execL (z21LP N) (z21E N) z21c0 0 (z21L0_hd x0 x1 c7 s8) (roundK (z21h 0) I KX (z21R N)) = z21L0T N x0 c7 (KX 0 (z21L0_tl0 x0 x1 c7)) (fun s8 => I (z21L0_hd x0 x1 c7 s8)) s8 := by kernel_rfl
theorem z21L0_ok (N : Nat) : ∀ x y k, (∀ st, k .ret st = (z21R N) st) → iter (z21h 0) (exec (z21E N) N z21c0 0) N ⟨19, unF z21L0_fs x, unH z21L0_bs y⟩ k = z21L0_F N x y k := fun x _ k hk =>
 iter_link (S := (Int) × Unit) (z21h 0) _ (execL (z21LP N) (z21E N) z21c0 0) (z21R N) (fun st k hk => execL_eq _ _ N _ z21c0 0 (show LoopsOk (z21LP N) (z21E N) N (z21R N) [] from trivial) st k hk) (fun s => z21L0_hd x.1 x.2.1 x.2.2.1 s.1) k hk
  (fun self s => z21L0T N x.1 x.2.2.1 (k (.exit 0) (z21L0_tl0 x.1 x.2.1 x.2.2.1)) (fun s8 => self (s8, ())) s.1) (fun n s => z21L0 N x.1 x.2.2.1 (k (.exit 0) (z21L0_tl0 x.1 x.2.1 x.2.2.1)) n s.1) (fun _ => rfl) (fun _ _ => rfl)
  (fun I s => z21L0_step N x.1 x.2.1 x.2.2.1 (fun j => k (.exit j)) I s.1) N (x.2.2.2.1, ())
theorem z21lp0 (N : Nat) : ∀ st k, (∀ st, k .ret st = (z21R N) st) → z21LP N 0 z21c0 st k = iter (Env.hint (z21E N) 0) (exec (z21E N) N z21c0 0) N st k := fun st k hk => LPc_eq 19 z21L0_fs z21L0_bs _ _ (z21R N) (z21L0_ok N) _ st k hk (rfl)
theorem z21core (N : Nat) (x : SV [.v (.sl τ2), .v (.clo 112 .un)]) (y : BV []) : runL (z21E N) Tryz.f178 (z21g N) z21pk (z21LP N) x y = slices_IndexFunc_api_Attr N x.1 x.2.1 := by kernel_rfl
theorem z21sound (N : Nat) : Snd 178 (z21g N) :=
 sndL (z21fn_ok N) Tryz.func178 rfl Tryz.call178 (z21g N) z21pk (fun _ _ => rfl) N (z21LP N) (show LoopsOk (z21LP N) (z21E N) N (z21R N) [(0, z21c0)] from ⟨z21lp0 N, trivial⟩) (z21core N)
def slices_ContainsFunc_api_Attr (N : Nat) (x0 : List τ3) (x1 : Unit) : Option Bool :=
 bnd (slices_IndexFunc_api_Attr N x0 x1) fun t7 =>
 some (decide (t7 ≥ (0 : Int)))
abbrev z11sg (f : SV [.v (.sl τ2), .v (.clo 112 .un)] → BV [] → Option (Bool)) : AF := { ps := [.v (.sl τ2), .v (.clo 112 .un)], bs := [], rs := [.v .bool], cs := [], R := Bool, out := fun z => ((z, ()), ()), f := f }
noncomputable abbrev z11g (N : Nat) : AF := z11sg fun x _ => slices_ContainsFunc_api_Attr N x.1 x.2.1
abbrev z11pk : SV [.v .bool] → BV [] → Bool := fun x _ => x.1
def z11fn (N : Nat) : FuncId → Option Tmp → Option AF := fun f _ =>
 match f with
  | 178 => some (z21g N)
  | _ => none
theorem z11fn_ok (N : Nat) : FnOk (z11fn N) := by
 intro f q F h
 unfold z11fn at h
 split at h
 · cases h; exact z21sound N
 · cases h
def z11h : Nat → Hint := fun i =>
 match i with
 | _ => hint0
abbrev z11E (N : Nat) : Env := mkE z11h (z11fn N) FF FF
noncomputable def z11LP (N : Nat) : Nat → Code → St → (Ex → St → Option Bool) → Option Bool := fun i c =>
 match i with
 | i => fun st k => iter (z11h i) (exec (z11E N) N c i) N st k
theorem z11core (N : Nat) (x : SV [.v (.sl τ2), .v (.clo 112 .un)]) (y : BV []) : runL (z11E N) Tryz.f111 (z11g N) z11pk (z11LP N) x y = slices_ContainsFunc_api_Attr N x.1 x.2.1 := by kernel_rfl
theorem z11sound (N : Nat) : Snd 111 (z11g N) :=
 sndL (z11fn_ok N) Tryz.func111 rfl Tryz.call111 (z11g N) z11pk (fun _ _ => rfl) N (z11LP N) (show LoopsOk (z11LP N) (z11E N) N (resD (z11E N) Tryz.f111 (z11g N) z11pk) [] from trivial) (z11core N)
def z45L0T (N : Nat) (c19 : List τ3) (c20 : Int) (κ1_2 : List τ3) (k0 : Option Int) (self : Int → Option Int) (s21 : Int) : Option Int :=
 br (decide (s21 < c20))
  (bnd (geti c19 s21) fun t24 =>
  bnd (script_IsName N t24.1) fun t28 =>
  br (!t28)
   (some (5 : Int))
   (bnd (script_CheckValue N (script_checkCases N N) (GValue.mk t24.2.kind t24.2.text t24.2.number t24.2.list t24.2.cases)) fun t32 =>
   br (t32 != (0 : Int))
    (some t32)
    (br (decide (s21 > (0 : Int)))
     (bnd (geti κ1_2 (IntKind.i64.wrap (s21 - (1 : Int)))) fun t45 =>
     br (Op.bytesLess t24.1 t45.1 || t24.1 == t45.1)
      (some (8 : Int))
      (self (IntKind.i64.wrap (s21 + (1 : Int)))))
     (self (IntKind.i64.wrap (s21 + (1 : Int)))))))
  (k0)
def z45L0 (N : Nat) (c19 : List τ3) (c20 : Int) (κ1_2 : List τ3) (k0 : Option Int) : Nat → Int → Option Int
 | 0, _ => none
 | n + 1, s21 => z45L0T N c19 c20 κ1_2 k0 (z45L0 N c19 c20 κ1_2 k0 n) s21
def script_CheckTarget (N : Nat) (x0 : Str × Str × List τ3) : Option Int :=
 bnd (blob_IsPath N x0.1) fun t8 =>
 br (!t8)
  (some (3 : Int))
  (bnd (script_IsName N x0.2.1) fun t12 =>
  br (!t12)
   (some (5 : Int))
   (br (decide ((x0.2.2.length : Int) > (30 : Int)))
    (some (2 : Int))
    (z45L0 N x0.2.2 (x0.2.2.length : Int) x0.2.2 (bnd (slices_ContainsFunc_api_Attr N x0.2.2 ()) fun t53 =>
      br (t53)
       (some (5 : Int))
       (some (0 : Int))) N (0 : Int))))
abbrev z45sg (f : SV [.v τ10] → BV [] → Option (Int)) : AF := { ps := [.v τ10], bs := [], rs := [.v τ5], cs := [], R := Int, out := fun z => ((z, ()), ()), f := f }
noncomputable abbrev z45g (N : Nat) : AF := z45sg fun x _ => script_CheckTarget N x.1
abbrev z45pk : SV [.v τ5] → BV [] → Int := fun x _ => x.1
def z45fn (N : Nat) : FuncId → Option Tmp → Option AF := fun f _ =>
 match f with
  | 31 => some (z51sg fun x _ => script_CheckValue N (script_checkCases N N) x.1)
  | 109 => some (z87g N)
  | 110 => some (z77g N)
  | 111 => some (z11g N)
  | _ => none
theorem z45fn_ok (N : Nat) : FnOk (z45fn N) := by
 intro f q F h
 unfold z45fn at h
 split at h
 · cases h; exact z51sound N (script_checkCases N N) (z52sound N N)
 · cases h; exact z87sound N
 · cases h; exact z77sound N
 · cases h; exact z11sound N
 · cases h
def z45h : Nat → Hint := fun i =>
 match i with
 | 0 => ⟨[], [1, 19, 20, 21], [1001], [1], [1001], []⟩
 | _ => hint0
abbrev z45E (N : Nat) : Env := mkE z45h (z45fn N) FF FF
noncomputable abbrev z45c0 : Code := cAt (bodyOf Tryz.f61) [true, true, true, true, false, true, false, false]
noncomputable abbrev z45R (N : Nat) := resD (z45E N) Tryz.f61 (z45g N) z45pk
abbrev z45L0_fs : List (Nat × Sl) := [(1, .box 1001 0), (19, .v (.sl τ2)), (20, .v τ5), (21, .v τ5)]
abbrev z45L0_bs : List (Nat × Sb) := [(1001, .cells [.v .str, .v .str, .v (.sl τ2)])]
def z45L0_hd (c19 : List τ3) (c20 : Int) (κ1_0 : Str) (κ1_1 : Str) (κ1_2 : List τ3) (s21 : Int) : St := ⟨54, [(1, .box 1001 0), (19, .v (.sl τ2) c19), (20, .v τ5 c20), (21, .v τ5 s21)], [(1001, .cells [.v .str κ1_0, .v .str κ1_1, .v (.sl τ2) κ1_2])]⟩
def z45L0_tl0 (_c19 : List τ3) (_c20 : Int) (κ1_0 : Str) (κ1_1 : Str) (κ1_2 : List τ3) : St := ⟨54, [(1, .box 1001 0)], [(1001, .cells [.v .str κ1_0, .v .str κ1_1, .v (.sl τ2) κ1_2])]⟩
def z45L0_G (N : Nat) (c19 : List τ3) (c20 : Int) (κ1_0 : Str) (κ1_1 : Str) (κ1_2 : List τ3) (s21 : Int) (k : Ex → St → Option Int) : Option Int :=
 z45L0 N c19 c20 κ1_2 (k (.exit 0) (z45L0_tl0 c19 c20 κ1_0 κ1_1 κ1_2)) N s21
abbrev z45L0_F (N : Nat) : FV z45L0_fs → HV z45L0_bs → (Ex → St → Option Int) → Option Int := fun x y k => z45L0_G N x.2.1 x.2.2.1 y.1.1 y.1.2.1 y.1.2.2.1 x.2.2.2.1 k
noncomputable def z45LP (N : Nat) : Nat → Code → St → (Ex → St → Option Int) → Option Int := fun i c =>
 match i with
 | 0 => (LPc 54 z45L0_fs z45L0_bs (z45L0_F N) (fun st k => iter (z45h 0) (exec (z45E N) N c 0) N st k))
 | i => fun st k => iter (z45h i) (exec (z45E N) N c i) N st k
theorem z45L0_step (N : Nat) (c19 : List τ3) (c20 : Int) (κ1_0 : Str) (κ1_1 : Str) (κ1_2 : List τ3) (KX : Nat → St → Option Int) (I : St → Option Int) (s21 : Int) :
  execL (z45LP N) (z45E N) z45c0 0 (z45L0_hd c19 c20 κ1_0 κ1_1 κ1_2 s21) (roundK (z45h 0) I KX (z45R N)) = z45L0T N c19 c20 κ1_2 (KX 0 (z45L0_tl0 c19 c20 κ1_0 κ1_1 κ1_2)) (fun s21 => I (z45L0_hd c19 c20 κ1_0 κ1_1 κ1_2 s21)) s21 := by kernel_rfl
theorem z45L0_ok (N : Nat) : ∀ x y k, (∀ st, k .ret st = (z45R N) st) → iter (z45h 0) (exec (z45E N) N z45c0 0) N ⟨54, unF z45L0_fs x, unH z45L0_bs y⟩ k = z45L0_F N x y k := fun x y k hk =>
 iter_link (S := (Int) × Unit) (z45h 0) _ (execL (z45LP N) (z45E N) z45c0 0) (z45R N) (fun st k hk => execL_eq _ _ N _ z45c0 0 (show LoopsOk (z45LP N) (z45E N) N (z45R N) [] from trivial) st k hk) (fun s => z45L0_hd x.2.1 x.2.2.1 y.1.1 y.1.2.1 y.1.2.2.1 s.1) k hk
  (fun self s => z45L0T N x.2.1 x.2.2.1 y.1.2.2.1 (k (.exit 0) (z45L0_tl0 x.2.1 x.2.2.1 y.1.1 y.1.2.1 y.1.2.2.1)) (fun s21 => self (s21, ())) s.1) (fun n s => z45L0 N x.2.1 x.2.2.1 y.1.2.2.1 (k (.exit 0) (z45L0_tl0 x.2.1 x.2.2.1 y.1.1 y.1.2.1 y.1.2.2.1)) n s.1) (fun _ => rfl) (fun _ _ => rfl)
  (fun I s => z45L0_step N x.2.1 x.2.2.1 y.1.1 y.1.2.1 y.1.2.2.1 (fun j => k (.exit j)) I s.1) N (x.2.2.2.1, ())
theorem z45lp0 (N : Nat) : ∀ st k, (∀ st, k .ret st = (z45R N) st) → z45LP N 0 z45c0 st k = iter (Env.hint (z45E N) 0) (exec (z45E N) N z45c0 0) N st k := fun st k hk => LPc_eq 54 z45L0_fs z45L0_bs _ _ (z45R N) (z45L0_ok N) _ st k hk (rfl)
theorem z45core (N : Nat) (x : SV [.v τ10]) (y : BV []) : runL (z45E N) Tryz.f61 (z45g N) z45pk (z45LP N) x y = script_CheckTarget N x.1 := by kernel_rfl
theorem z45sound (N : Nat) : Snd 61 (z45g N) :=
 sndL (z45fn_ok N) Tryz.func61 rfl Tryz.call61 (z45g N) z45pk (fun _ _ => rfl) N (z45LP N) (show LoopsOk (z45LP N) (z45E N) N (z45R N) [(0, z45c0)] from ⟨z45lp0 N, trivial⟩) (z45core N)
def z80L0T (N : Nat) (x2 : List τ1) (c38 : List τ3) (c39 : Int) (κ4_0 : τ7) (κ4_1 : List τ6) (κ4_2 : τ12) (κ4_3 : List τ11) (κ4_4 : τ13) (κ7_0 : Str) (κ7_1 : List τ1) (k0 : τ18 → Option (τ17 × Str × Int)) (self : Int → τ18 → Option (τ17 × Str × Int)) (s40 : Int) (w900001 : List τ3) : Option (τ17 × Str × Int) :=
 br (decide (s40 < c39))
  (bnd (geti c38 s40) fun t42 =>
  bnd (config_chosen N (κ4_0, (κ4_1, (κ4_2, (κ4_3, κ4_4)))) (GValue.mk t42.2.kind t42.2.text t42.2.number t42.2.list t42.2.cases) x2 (κ7_0, κ7_1)) fun t50 =>
  br (t50.2 != (0 : Int))
   (some ((([] : Str), (([] : Str), ([] : List τ3))), (t42.1, t50.2)))
   (br (decide ((w900001.length + [(t42.1, GValue.mk t50.1.kind t50.1.text t50.1.number t50.1.list t50.1.cases)].length) * (24 * Ty.sz τ2) ≤ 140737488355328))
    (self (IntKind.i64.wrap (s40 + (1 : Int))) (w900001 ++ [(t42.1, GValue.mk t50.1.kind t50.1.text t50.1.number t50.1.list t50.1.cases)]))
    none))
  (k0 w900001)
def z80L0 (N : Nat) (x2 : List τ1) (c38 : List τ3) (c39 : Int) (κ4_0 : τ7) (κ4_1 : List τ6) (κ4_2 : τ12) (κ4_3 : List τ11) (κ4_4 : τ13) (κ7_0 : Str) (κ7_1 : List τ1) (k0 : τ18 → Option (τ17 × Str × Int)) : Nat → Int → τ18 → Option (τ17 × Str × Int)
 | 0, _, _ => none
 | n + 1, s40, w900001 => z80L0T N x2 c38 c39 κ4_0 κ4_1 κ4_2 κ4_3 κ4_4 κ7_0 κ7_1 k0 (z80L0 N x2 c38 c39 κ4_0 κ4_1 κ4_2 κ4_3 κ4_4 κ7_0 κ7_1 k0 n) s40 w900001
def config_Plain (N : Nat) (x0 : τ20) (x1 : Str × Str × List τ3) (x2 : List τ1) (x3 : Str × List τ1) : Option (τ17 × Str × Int) :=
 bnd (config_checkChoice N x0 x2 x3) fun t21 =>
 br (t21 != (0 : Int))
  (some ((([] : Str), (([] : Str), ([] : List τ3))), (([] : Str), t21)))
  (bnd (script_CheckTarget N x1) fun t27 =>
  br (t27 != (0 : Int))
   (some ((([] : Str), (([] : Str), ([] : List τ3))), (([] : Str), t27)))
   (z80L0 N x2 x1.2.2 (x1.2.2.length : Int) x0.1 x0.2.1 x0.2.2.1 x0.2.2.2.1 x0.2.2.2.2 x3.1 x3.2 (fun o0_w900001 =>
     some ((x1.1, (x1.2.1, o0_w900001)), (([] : Str), (0 : Int)))) N (0 : Int) ([] : List τ3)))
abbrev z80sg (f : SV [.v τ4, .v τ10, .v τ0, .v τ15] → BV [] → Option (τ17 × Str × Int)) : AF := { ps := [.v τ4, .v τ10, .v τ0, .v τ15], bs := [], rs := [.v τ10, .v .str, .v τ5], cs := [], R := τ17 × Str × Int, out := fun z => ((z.1, z.2.1, z.2.2, ()), ()), f := f }
noncomputable abbrev z80g (N : Nat) : AF := z80sg fun x _ => config_Plain N x.1 x.2.1 x.2.2.1 x.2.2.2.1
abbrev z80pk : SV [.v τ10, .v .str, .v τ5] → BV [] → (τ17 × Str × Int) := fun x _ => (x.1, x.2.1, x.2.2.1)
def z80fn (N : Nat) : FuncId → Option Tmp → Option AF := fun f _ =>
 match f with
  | 30 => some (z43g N)
  | 32 => some (z71g N)
  | 61 => some (z45g N)
  | _ => none
theorem z80fn_ok (N : Nat) : FnOk (z80fn N) := by
 intro f q F h
 unfold z80fn at h
 split at h
 · cases h; exact z43sound N
 · cases h; exact z71sound N
 · cases h; exact z45sound N
 · cases h
def z80h : Nat → Hint := fun i =>
 match i with
 | 0 => ⟨[], [2, 4, 7, 8, 13, 38, 39, 40], [1004, 1007, 1008, 1013, 900001], [8, 13], [1008, 1013, 900001], [(1013, 2, 900001, 102, τ2)]⟩
 | 100013 => ⟨[1015], [], [], [], [], []⟩
 | _ => hint0
abbrev z80E (N : Nat) : Env := mkE z80h (z80fn N) FF FF
noncomputable abbrev z80c0 : Code := cAt (bodyOf Tryz.f22) [true, true, true, true, false, true, false, false]
noncomputable abbrev z80R (N : Nat) := resD (z80E N) Tryz.f22 (z80g N) z80pk
abbrev z80L0_fs : List (Nat × Sl) := [(2, .v τ0), (4, .box 1004 0), (7, .box 1007 0), (8, .box 1008 0), (13, .box 1013 0), (38, .v (.sl τ2)), (39, .v τ5), (40, .v τ5)]
abbrev z80L0_bs : List (Nat × Sb) := [(1004, .cells [.v τ8, .v (.sl τ9), .v (.sl τ15), .v (.sl (.pr .str τ9)), .v (.sl τ16)]), (1007, .cells [.v .str, .v τ0]), (1008, .cells [.v .str, .v .str, .nilS]), (1013, .cells [.v .str, .v .str, .row 900001]), (900001, .row 102 τ2 false)]
def z80L0_hd (x2 : List τ1) (c38 : List τ3) (c39 : Int) (κ4_0 : τ7) (κ4_1 : List τ6) (κ4_2 : τ12) (κ4_3 : List τ11) (κ4_4 : τ13) (κ7_0 : Str) (κ7_1 : List τ1) (κ8_0 : Str) (κ8_1 : Str) (κ13_0 : Str) (κ13_1 : Str) (s40 : Int) (w900001 : List τ3) : St := ⟨70, [(2, .v τ0 x2), (4, .box 1004 0), (7, .box 1007 0), (8, .box 1008 0), (13, .box 1013 0), (38, .v (.sl τ2) c38), (39, .v τ5 c39), (40, .v τ5 s40)], [(1004, .cells [.v τ8 κ4_0, .v (.sl τ9) κ4_1, .v (.sl τ15) κ4_2, .v (.sl (.pr .str τ9)) κ4_3, .v (.sl τ16) κ4_4]), (1007, .cells [.v .str κ7_0, .v τ0 κ7_1]), (1008, .cells [.v .str κ8_0, .v .str κ8_1, .nilS]), (1013, .cells [.v .str κ13_0, .v .str κ13_1, .row 900001]), (900001, .row 102 τ2 false w900001)]⟩
def z80L0_tl0 (_x2 : List τ1) (_c38 : List τ3) (_c39 : Int) (_κ4_0 : τ7) (_κ4_1 : List τ6) (_κ4_2 : τ12) (_κ4_3 : List τ11) (_κ4_4 : τ13) (_κ7_0 : Str) (_κ7_1 : List τ1) (κ8_0 : Str) (κ8_1 : Str) (κ13_0 : Str) (κ13_1 : Str) (o0_w900001 : List τ3) : St := ⟨70, [(8, .box 1008 0), (13, .box 1013 0)], [(1008, .cells [.v .str κ8_0, .v .str κ8_1, .nilS]), (1013, .cells [.v .str κ13_0, .v .str κ13_1, .row 900001]), (900001, .row 102 τ2 false o0_w900001)]⟩
def z80L0_G (N : Nat) (x2 : List τ1) (c38 : List τ3) (c39 : Int) (κ4_0 : τ7) (κ4_1 : List τ6) (κ4_2 : τ12) (κ4_3 : List τ11) (κ4_4 : τ13) (κ7_0 : Str) (κ7_1 : List τ1) (κ8_0 : Str) (κ8_1 : Str) (κ13_0 : Str) (κ13_1 : Str) (s40 : Int) (w900001 : List τ3) (k : Ex → St → Option (τ17 × Str × Int)) : Option (τ17 × Str × Int) :=
 z80L0 N x2 c38 c39 κ4_0 κ4_1 κ4_2 κ4_3 κ4_4 κ7_0 κ7_1 (fun o0_w900001 => k (.exit 0) (z80L0_tl0 x2 c38 c39 κ4_0 κ4_1 κ4_2 κ4_3 κ4_4 κ7_0 κ7_1 κ8_0 κ8_1 κ13_0 κ13_1 o0_w900001)) N s40 w900001
abbrev z80L0_F (N : Nat) : FV z80L0_fs → HV z80L0_bs → (Ex → St → Option (τ17 × Str × Int)) → Option (τ17 × Str × Int) := fun x y k => z80L0_G N x.1 x.2.2.2.2.2.1 x.2.2.2.2.2.2.1 y.1.1 y.1.2.1 y.1.2.2.1 y.1.2.2.2.1 y.1.2.2.2.2.1 y.2.1.1 y.2.1.2.1 y.2.2.1.1 y.2.2.1.2.1 y.2.2.2.1.1 y.2.2.2.1.2.1 x.2.2.2.2.2.2.2.1 y.2.2.2.2.1 k
noncomputable def z80LP (N : Nat) : Nat → Code → St → (Ex → St → Option (τ17 × Str × Int)) → Option (τ17 × Str × Int) := fun i c =>
 match i with
 | 0 => (LPc 70 z80L0_fs z80L0_bs (z80L0_F N) (fun st k => iter (z80h 0) (exec (z80E N) N c 0) N st k))
 | i => fun st k => iter (z80h i) (exec (z80E N) N c i) N st k
theorem z80L0_step (N : Nat) (x2 : List τ1) (c38 : List τ3) (c39 : Int) (κ4_0 : τ7) (κ4_1 : List τ6) (κ4_2 : τ12) (κ4_3 : List τ11) (κ4_4 : τ13) (κ7_0 : Str) (κ7_1 : List τ1) (κ8_0 : Str) (κ8_1 : Str) (κ13_0 : Str) (κ13_1 : Str) (KX : Nat → St → Option (τ17 × Str × Int)) (I : St → Option (τ17 × Str × Int)) (s40 : Int) (w900001 : List τ3) :
  execL (z80LP N) (z80E N) z80c0 0 (z80L0_hd x2 c38 c39 κ4_0 κ4_1 κ4_2 κ4_3 κ4_4 κ7_0 κ7_1 κ8_0 κ8_1 κ13_0 κ13_1 s40 w900001) (roundK (z80h 0) I KX (z80R N)) = z80L0T N x2 c38 c39 κ4_0 κ4_1 κ4_2 κ4_3 κ4_4 κ7_0 κ7_1 (fun o0_w900001 => KX 0 (z80L0_tl0 x2 c38 c39 κ4_0 κ4_1 κ4_2 κ4_3 κ4_4 κ7_0 κ7_1 κ8_0 κ8_1 κ13_0 κ13_1 o0_w900001)) (fun s40 w900001 => I (z80L0_hd x2 c38 c39 κ4_0 κ4_1 κ4_2 κ4_3 κ4_4 κ7_0 κ7_1 κ8_0 κ8_1 κ13_0 κ13_1 s40 w900001)) s40 w900001 := by kernel_rfl
theorem z80L0_ok (N : Nat) : ∀ x y k, (∀ st, k .ret st = (z80R N) st) → iter (z80h 0) (exec (z80E N) N z80c0 0) N ⟨70, unF z80L0_fs x, unH z80L0_bs y⟩ k = z80L0_F N x y k := fun x y k hk =>
 iter_link (S := (Int) × τ18 × Unit) (z80h 0) _ (execL (z80LP N) (z80E N) z80c0 0) (z80R N) (fun st k hk => execL_eq _ _ N _ z80c0 0 (show LoopsOk (z80LP N) (z80E N) N (z80R N) [] from trivial) st k hk) (fun s => z80L0_hd x.1 x.2.2.2.2.2.1 x.2.2.2.2.2.2.1 y.1.1 y.1.2.1 y.1.2.2.1 y.1.2.2.2.1 y.1.2.2.2.2.1 y.2.1.1 y.2.1.2.1 y.2.2.1.1 y.2.2.1.2.1 y.2.2.2.1.1 y.2.2.2.1.2.1 s.1 s.2.1) k hk
  (fun self s => z80L0T N x.1 x.2.2.2.2.2.1 x.2.2.2.2.2.2.1 y.1.1 y.1.2.1 y.1.2.2.1 y.1.2.2.2.1 y.1.2.2.2.2.1 y.2.1.1 y.2.1.2.1 (fun o0_w900001 => k (.exit 0) (z80L0_tl0 x.1 x.2.2.2.2.2.1 x.2.2.2.2.2.2.1 y.1.1 y.1.2.1 y.1.2.2.1 y.1.2.2.2.1 y.1.2.2.2.2.1 y.2.1.1 y.2.1.2.1 y.2.2.1.1 y.2.2.1.2.1 y.2.2.2.1.1 y.2.2.2.1.2.1 o0_w900001)) (fun s40 w900001 => self (s40, w900001, ())) s.1 s.2.1) (fun n s => z80L0 N x.1 x.2.2.2.2.2.1 x.2.2.2.2.2.2.1 y.1.1 y.1.2.1 y.1.2.2.1 y.1.2.2.2.1 y.1.2.2.2.2.1 y.2.1.1 y.2.1.2.1 (fun o0_w900001 => k (.exit 0) (z80L0_tl0 x.1 x.2.2.2.2.2.1 x.2.2.2.2.2.2.1 y.1.1 y.1.2.1 y.1.2.2.1 y.1.2.2.2.1 y.1.2.2.2.2.1 y.2.1.1 y.2.1.2.1 y.2.2.1.1 y.2.2.1.2.1 y.2.2.2.1.1 y.2.2.2.1.2.1 o0_w900001)) n s.1 s.2.1) (fun _ => rfl) (fun _ _ => rfl)
  (fun I s => z80L0_step N x.1 x.2.2.2.2.2.1 x.2.2.2.2.2.2.1 y.1.1 y.1.2.1 y.1.2.2.1 y.1.2.2.2.1 y.1.2.2.2.2.1 y.2.1.1 y.2.1.2.1 y.2.2.1.1 y.2.2.1.2.1 y.2.2.2.1.1 y.2.2.2.1.2.1 (fun j => k (.exit j)) I s.1 s.2.1) N (x.2.2.2.2.2.2.2.1, y.2.2.2.2.1, ())
theorem z80lp0 (N : Nat) : ∀ st k, (∀ st, k .ret st = (z80R N) st) → z80LP N 0 z80c0 st k = iter (Env.hint (z80E N) 0) (exec (z80E N) N z80c0 0) N st k := fun st k hk => LPc_eq 70 z80L0_fs z80L0_bs _ _ (z80R N) (z80L0_ok N) _ st k hk (rfl)
theorem z80core (N : Nat) (x : SV [.v τ4, .v τ10, .v τ0, .v τ15]) (y : BV []) : runL (z80E N) Tryz.f22 (z80g N) z80pk (z80LP N) x y = config_Plain N x.1 x.2.1 x.2.2.1 x.2.2.2.1 := by kernel_rfl
theorem z80sound (N : Nat) : Snd 22 (z80g N) :=
 sndL (z80fn_ok N) Tryz.func22 rfl Tryz.call22 (z80g N) z80pk (fun _ _ => rfl) N (z80LP N) (show LoopsOk (z80LP N) (z80E N) N (z80R N) [(0, z80c0)] from ⟨z80lp0 N, trivial⟩) (z80core N)
end
end Go.Proofs.YtbekhaioddmliaaGreatDoor


/- What functions of the program compute, as plain functions (printed). -/
namespace Go.Proofs.YtbekhaioddmliaaGreatDoor
open Go Go.RowKit
set_option maxRecDepth 100000
set_option linter.unusedVariables false
noncomputable section
end
end Go.Proofs.YtbekhaioddmliaaGreatDoor


/- What functions of the program compute, as plain functions (printed). -/
namespace Go.Proofs.YtbekhaioddmliaaGreatDoor
open Go Go.RowKit
set_option maxRecDepth 100000
set_option linter.unusedVariables false
noncomputable section
end
end Go.Proofs.YtbekhaioddmliaaGreatDoor

