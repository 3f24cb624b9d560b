/- What functions of the program compute, as plain functions (printed). -/
import Derived.Test.YtbekhaioddmliaaGreatDoorQZeF11
namespace Go.Proofs.YtbekhaioddmliaaGreatDoor
open Go Go.RowKit
set_option maxRecDepth 100000
set_option linter.unusedVariables false
noncomputable section
def blob_inPart (_N : Nat) (x0 : UInt8) : Option Bool :=
 br (decide (x0 ≥ (97 : UInt8)))
  (br (decide (x0 ≤ (122 : UInt8)))
   (some true)
   (br (decide (x0 ≥ (65 : UInt8)))
    (br (decide (x0 ≤ (90 : UInt8)))
     (some true)
     (br (decide (x0 ≥ (48 : UInt8)))
      (br (decide (x0 ≤ (57 : UInt8)))
       (some true)
       (bnd (strings_IndexByte ([46, 95, 45, 43] : Str) x0) fun t27 =>
       some (decide (t27 ≥ (0 : Int)))))
      (bnd (strings_IndexByte ([46, 95, 45, 43] : Str) x0) fun t27_1 =>
      some (decide (t27_1 ≥ (0 : Int))))))
    (br (decide (x0 ≥ (48 : UInt8)))
     (br (decide (x0 ≤ (57 : UInt8)))
      (some true)
      (bnd (strings_IndexByte ([46, 95, 45, 43] : Str) x0) fun t27_2 =>
      some (decide (t27_2 ≥ (0 : Int)))))
     (bnd (strings_IndexByte ([46, 95, 45, 43] : Str) x0) fun t27_3 =>
     some (decide (t27_3 ≥ (0 : Int)))))))
  (br (decide (x0 ≥ (65 : UInt8)))
   (br (decide (x0 ≤ (90 : UInt8)))
    (some true)
    (br (decide (x0 ≥ (48 : UInt8)))
     (br (decide (x0 ≤ (57 : UInt8)))
      (some true)
      (bnd (strings_IndexByte ([46, 95, 45, 43] : Str) x0) fun t27_4 =>
      some (decide (t27_4 ≥ (0 : Int)))))
     (bnd (strings_IndexByte ([46, 95, 45, 43] : Str) x0) fun t27_5 =>
     some (decide (t27_5 ≥ (0 : Int))))))
   (br (decide (x0 ≥ (48 : UInt8)))
    (br (decide (x0 ≤ (57 : UInt8)))
     (some true)
     (bnd (strings_IndexByte ([46, 95, 45, 43] : Str) x0) fun t27_6 =>
     some (decide (t27_6 ≥ (0 : Int)))))
    (bnd (strings_IndexByte ([46, 95, 45, 43] : Str) x0) fun t27_7 =>
    some (decide (t27_7 ≥ (0 : Int))))))
abbrev z98sg (f : SV [.v .u8] → BV [] → Option (Bool)) : AF := { ps := [.v .u8], bs := [], rs := [.v .bool], cs := [], R := Bool, out := fun z => ((z, ()), ()), f := f }
noncomputable abbrev z98g (N : Nat) : AF := z98sg fun x _ => blob_inPart N x.1
abbrev z98pk : SV [.v .bool] → BV [] → Bool := fun x _ => x.1
def z98fn (_N : Nat) : FuncId → Option Tmp → Option AF := fun f _ =>
 match f with
  | 205 => some (z52sg fun x _ => strings_IndexByte x.1 x.2.1)
  | _ => none
theorem z98fn_ok (N : Nat) : FnOk (z98fn N) := by
 intro f q F h
 unfold z98fn at h
 split at h
 · cases h; exact z52sound
 · cases h
def z98h : Nat → Hint := fun i =>
 match i with
 | _ => hint0
abbrev z98E (N : Nat) : Env := mkE z98h (z98fn N) FF FF
noncomputable def z98LP (N : Nat) : Nat → Code → St → (Ex → St → Option Bool) → Option Bool := fun i c =>
 match i with
 | i => fun st k => iter (z98h i) (exec (z98E N) N c i) N st k
theorem z98core (N : Nat) (x : SV [.v .u8]) (y : BV []) : runL (z98E N) Tryz.f204 (z98g N) z98pk (z98LP N) x y = blob_inPart N x.1 := by kernel_rfl
theorem z98sound (N : Nat) : Snd 204 (z98g N) :=
 sndL (z98fn_ok N) Tryz.func204 rfl Tryz.call204 (z98g N) z98pk (fun _ _ => rfl) N (z98LP N) (show LoopsOk (z98LP N) (z98E N) N (resD (z98E N) Tryz.f204 (z98g N) z98pk) [] from trivial) (z98core N)
def z99L0T (N : Nat) (x0 : Str) (c5 : Int) (k0 : τ30) (self : Int → Option Bool) (s6 : Int) : Option Bool :=
 br (decide (s6 < c5))
  (bnd (geti x0 s6) fun t11 =>
  bnd (blob_inPart N t11) fun t12 =>
  br (!t12)
   (some false)
   (self (IntKind.i64.wrap (s6 + (1 : Int)))))
  (k0)
def z99L0 (N : Nat) (x0 : Str) (c5 : Int) (k0 : τ30) : Nat → Int → Option Bool
 | 0, _ => none
 | n + 1, s6 => z99L0T N x0 c5 k0 (z99L0 N x0 c5 k0 n) s6
def blob_isPart (N : Nat) (x0 : Str) : Option Bool :=
 z99L0 N x0 (x0.length : Int) (br (!(x0 == ([] : Str)))
    (br (!(x0 == ([46] : Str)))
     (some (!(x0 == ([46, 46] : Str))))
     (some false))
    (some false)) N (0 : Int)
abbrev z99sg (f : SV [.v .str] → BV [] → Option (Bool)) : AF := { ps := [.v .str], bs := [], rs := [.v .bool], cs := [], R := Bool, out := fun z => ((z, ()), ()), f := f }
noncomputable abbrev z99g (N : Nat) : AF := z99sg fun x _ => blob_isPart N x.1
abbrev z99pk : SV [.v .bool] → BV [] → Bool := fun x _ => x.1
def z99fn (N : Nat) : FuncId → Option Tmp → Option AF := fun f _ =>
 match f with
  | 204 => some (z98g N)
  | _ => none
theorem z99fn_ok (N : Nat) : FnOk (z99fn N) := by
 intro f q F h
 unfold z99fn at h
 split at h
 · cases h; exact z98sound N
 · cases h
def z99h : Nat → Hint := fun i =>
 match i with
 | 0 => ⟨[], [0, 5, 6], [], [0], [], []⟩
 | _ => hint0
abbrev z99E (N : Nat) : Env := mkE z99h (z99fn N) FF FF
noncomputable abbrev z99c0 : Code := cAt (bodyOf Tryz.f174) [true, false, true, false, false]
noncomputable abbrev z99R (N : Nat) := resD (z99E N) Tryz.f174 (z99g N) z99pk
abbrev z99L0_fs : List (Nat × Sl) := [(0, .v .str), (5, .v τ6), (6, .v τ6)]
abbrev z99L0_bs : List (Nat × Sb) := []
def z99L0_hd (x0 : Str) (c5 : Int) (s6 : Int) : St := ⟨25, [(0, .v .str x0), (5, .v τ6 c5), (6, .v τ6 s6)], []⟩
def z99L0_tl0 (x0 : Str) (_c5 : Int) : St := ⟨25, [(0, .v .str x0)], []⟩
def z99L0_G (N : Nat) (x0 : Str) (c5 : Int) (s6 : Int) (k : Ex → St → Option Bool) : Option Bool :=
 z99L0 N x0 c5 (k (.exit 0) (z99L0_tl0 x0 c5)) N s6
abbrev z99L0_F (N : Nat) : FV z99L0_fs → HV z99L0_bs → (Ex → St → Option Bool) → Option Bool := fun x _ k => z99L0_G N x.1 x.2.1 x.2.2.1 k
noncomputable def z99LP (N : Nat) : Nat → Code → St → (Ex → St → Option Bool) → Option Bool := fun i c =>
 match i with
 | 0 => (LPc 25 z99L0_fs z99L0_bs (z99L0_F N) (fun st k => iter (z99h 0) (exec (z99E N) N c 0) N st k))
 | i => fun st k => iter (z99h i) (exec (z99E N) N c i) N st k
theorem z99L0_step (N : Nat) (x0 : Str) (c5 : Int) (KX : Nat → St → Option Bool) (I : St → Option Bool) (s6 : Int) :
  execL (z99LP N) (z99E N) z99c0 0 (z99L0_hd x0 c5 s6) (roundK (z99h 0) I KX (z99R N)) = z99L0T N x0 c5 (KX 0 (z99L0_tl0 x0 c5)) (fun s6 => I (z99L0_hd x0 c5 s6)) s6 := by kernel_rfl
theorem z99L0_ok (N : Nat) : ∀ x y k, (∀ st, k .ret st = (z99R N) st) → iter (z99h 0) (exec (z99E N) N z99c0 0) N ⟨25, unF z99L0_fs x, unH z99L0_bs y⟩ k = z99L0_F N x y k := fun x _ k hk =>
 iter_link (S := (Int) × Unit) (z99h 0) _ (execL (z99LP N) (z99E N) z99c0 0) (z99R N) (fun st k hk => execL_eq _ _ N _ z99c0 0 (show LoopsOk (z99LP N) (z99E N) N (z99R N) [] from trivial) st k hk) (fun s => z99L0_hd x.1 x.2.1 s.1) k hk
  (fun self s => z99L0T N x.1 x.2.1 (k (.exit 0) (z99L0_tl0 x.1 x.2.1)) (fun s6 => self (s6, ())) s.1) (fun n s => z99L0 N x.1 x.2.1 (k (.exit 0) (z99L0_tl0 x.1 x.2.1)) n s.1) (fun _ => rfl) (fun _ _ => rfl)
  (fun I s => z99L0_step N x.1 x.2.1 (fun j => k (.exit j)) I s.1) N (x.2.2.1, ())
theorem z99lp0 (N : Nat) : ∀ st k, (∀ st, k .ret st = (z99R N) st) → z99LP N 0 z99c0 st k = iter (Env.hint (z99E N) 0) (exec (z99E N) N z99c0 0) N st k := fun st k hk => LPc_eq 25 z99L0_fs z99L0_bs _ _ (z99R N) (z99L0_ok N) _ st k hk (rfl)
theorem z99core (N : Nat) (x : SV [.v .str]) (y : BV []) : runL (z99E N) Tryz.f174 (z99g N) z99pk (z99LP N) x y = blob_isPart N x.1 := by kernel_rfl
theorem z99sound (N : Nat) : Snd 174 (z99g N) :=
 sndL (z99fn_ok N) Tryz.func174 rfl Tryz.call174 (z99g N) z99pk (fun _ _ => rfl) N (z99LP N) (show LoopsOk (z99LP N) (z99E N) N (z99R N) [(0, z99c0)] from ⟨z99lp0 N, trivial⟩) (z99core N)
def z97L0T (N : Nat) (t14 : List Str) (c15 : Int) (k0 : τ30) (self : Int → Option Bool) (s16 : Int) : Option Bool :=
 br (decide (s16 < c15))
  (bnd (geti t14 s16) fun t18 =>
  bnd (blob_isPart N t18) fun t21 =>
  br (!t21)
   (some false)
   (self (IntKind.i64.wrap (s16 + (1 : Int)))))
  (k0)
def z97L0 (N : Nat) (t14 : List Str) (c15 : Int) (k0 : τ30) : Nat → Int → Option Bool
 | 0, _ => none
 | n + 1, s16 => z97L0T N t14 c15 k0 (z97L0 N t14 c15 k0 n) s16
def blob_IsPath (N : Nat) (x0 : Str) : Option Bool :=
 br (decide ((x0.length : Int) < (1 : Int)))
  (some false)
  (br (decide ((x0.length : Int) > (200 : Int)))
   (some false)
   (bnd (strings_Split x0 ([47] : Str)) fun t14 =>
   z97L0 N t14 (t14.length : Int) (some true) N (0 : Int)))
abbrev z97sg (f : SV [.v .str] → BV [] → Option (Bool)) : AF := { ps := [.v .str], bs := [], rs := [.v .bool], cs := [], R := Bool, out := fun z => ((z, ()), ()), f := f }
noncomputable abbrev z97g (N : Nat) : AF := z97sg fun x _ => blob_IsPath N x.1
abbrev z97pk : SV [.v .bool] → BV [] → Bool := fun x _ => x.1
def z97fn (N : Nat) : FuncId → Option Tmp → Option AF := fun f _ =>
 match f with
  | 173 => some z86g
  | 174 => some (z99g N)
  | _ => none
theorem z97fn_ok (N : Nat) : FnOk (z97fn N) := by
 intro f q F h
 unfold z97fn at h
 split at h
 · cases h; exact z86sound
 · cases h; exact z99sound N
 · cases h
def z97h : Nat → Hint := fun i =>
 match i with
 | 0 => ⟨[], [14, 15, 16], [], [], [], []⟩
 | _ => hint0
abbrev z97E (N : Nat) : Env := mkE z97h (z97fn N) FF FF
noncomputable abbrev z97c0 : Code := cAt (bodyOf Tryz.f109) [true, true, false, true, false, false]
noncomputable abbrev z97R (N : Nat) := resD (z97E N) Tryz.f109 (z97g N) z97pk
abbrev z97L0_fs : List (Nat × Sl) := [(14, .v τ22), (15, .v τ6), (16, .v τ6)]
abbrev z97L0_bs : List (Nat × Sb) := []
def z97L0_hd (t14 : List Str) (c15 : Int) (s16 : Int) : St := ⟨24, [(14, .v τ22 t14), (15, .v τ6 c15), (16, .v τ6 s16)], []⟩
def z97L0_tl0 (_t14 : List Str) (_c15 : Int) : St := ⟨24, [], []⟩
def z97L0_G (N : Nat) (t14 : List Str) (c15 : Int) (s16 : Int) (k : Ex → St → Option Bool) : Option Bool :=
 z97L0 N t14 c15 (k (.exit 0) (z97L0_tl0 t14 c15)) N s16
abbrev z97L0_F (N : Nat) : FV z97L0_fs → HV z97L0_bs → (Ex → St → Option Bool) → Option Bool := fun x _ k => z97L0_G N x.1 x.2.1 x.2.2.1 k
noncomputable def z97LP (N : Nat) : Nat → Code → St → (Ex → St → Option Bool) → Option Bool := fun i c =>
 match i with
 | 0 => (LPc 24 z97L0_fs z97L0_bs (z97L0_F N) (fun st k => iter (z97h 0) (exec (z97E N) N c 0) N st k))
 | i => fun st k => iter (z97h i) (exec (z97E N) N c i) N st k
theorem z97L0_step (N : Nat) (t14 : List Str) (c15 : Int) (KX : Nat → St → Option Bool) (I : St → Option Bool) (s16 : Int) :
  execL (z97LP N) (z97E N) z97c0 0 (z97L0_hd t14 c15 s16) (roundK (z97h 0) I KX (z97R N)) = z97L0T N t14 c15 (KX 0 (z97L0_tl0 t14 c15)) (fun s16 => I (z97L0_hd t14 c15 s16)) s16 := by kernel_rfl
theorem z97L0_ok (N : Nat) : ∀ x y k, (∀ st, k .ret st = (z97R N) st) → iter (z97h 0) (exec (z97E N) N z97c0 0) N ⟨24, unF z97L0_fs x, unH z97L0_bs y⟩ k = z97L0_F N x y k := fun x _ k hk =>
 iter_link (S := (Int) × Unit) (z97h 0) _ (execL (z97LP N) (z97E N) z97c0 0) (z97R N) (fun st k hk => execL_eq _ _ N _ z97c0 0 (show LoopsOk (z97LP N) (z97E N) N (z97R N) [] from trivial) st k hk) (fun s => z97L0_hd x.1 x.2.1 s.1) k hk
  (fun self s => z97L0T N x.1 x.2.1 (k (.exit 0) (z97L0_tl0 x.1 x.2.1)) (fun s16 => self (s16, ())) s.1) (fun n s => z97L0 N x.1 x.2.1 (k (.exit 0) (z97L0_tl0 x.1 x.2.1)) n s.1) (fun _ => rfl) (fun _ _ => rfl)
  (fun I s => z97L0_step N x.1 x.2.1 (fun j => k (.exit j)) I s.1) N (x.2.2.1, ())
theorem z97lp0 (N : Nat) : ∀ st k, (∀ st, k .ret st = (z97R N) st) → z97LP N 0 z97c0 st k = iter (Env.hint (z97E N) 0) (exec (z97E N) N z97c0 0) N st k := fun st k hk => LPc_eq 24 z97L0_fs z97L0_bs _ _ (z97R N) (z97L0_ok N) _ st k hk (rfl)
theorem z97core (N : Nat) (x : SV [.v .str]) (y : BV []) : runL (z97E N) Tryz.f109 (z97g N) z97pk (z97LP N) x y = blob_IsPath N x.1 := by kernel_rfl
theorem z97sound (N : Nat) : Snd 109 (z97g N) :=
 sndL (z97fn_ok N) Tryz.func109 rfl Tryz.call109 (z97g N) z97pk (fun _ _ => rfl) N (z97LP N) (show LoopsOk (z97LP N) (z97E N) N (z97R N) [(0, z97c0)] from ⟨z97lp0 N, trivial⟩) (z97core N)
def script_isSmall (_N : Nat) (x0 : UInt8) : Option Bool :=
 br (decide (x0 ≥ (97 : UInt8)))
  (some (decide (x0 ≤ (122 : UInt8))))
  (some false)
abbrev z78sg (f : SV [.v .u8] → BV [] → Option (Bool)) : AF := { ps := [.v .u8], bs := [], rs := [.v .bool], cs := [], R := Bool, out := fun z => ((z, ()), ()), f := f }
noncomputable abbrev z78g (N : Nat) : AF := z78sg fun x _ => script_isSmall N x.1
abbrev z78pk : SV [.v .bool] → BV [] → Bool := fun x _ => x.1
def z78fn (_N : Nat) : FuncId → Option Tmp → Option AF := fun f _ =>
 match f with
  | _ => none
theorem z78fn_ok (N : Nat) : FnOk (z78fn N) := by
 intro f q F h
 unfold z78fn at h
 split at h
 · cases h
def z78h : Nat → Hint := fun i =>
 match i with
 | _ => hint0
abbrev z78E (N : Nat) : Env := mkE z78h (z78fn N) FF FF
noncomputable def z78LP (N : Nat) : Nat → Code → St → (Ex → St → Option Bool) → Option Bool := fun i c =>
 match i with
 | i => fun st k => iter (z78h i) (exec (z78E N) N c i) N st k
theorem z78core (N : Nat) (x : SV [.v .u8]) (y : BV []) : runL (z78E N) Tryz.f175 (z78g N) z78pk (z78LP N) x y = script_isSmall N x.1 := by kernel_rfl
theorem z78sound (N : Nat) : Snd 175 (z78g N) :=
 sndL (z78fn_ok N) Tryz.func175 rfl Tryz.call175 (z78g N) z78pk (fun _ _ => rfl) N (z78LP N) (show LoopsOk (z78LP N) (z78E N) N (resD (z78E N) Tryz.f175 (z78g N) z78pk) [] from trivial) (z78core N)
def script_isDigit (_N : Nat) (x0 : UInt8) : Option Bool :=
 br (decide (x0 ≥ (48 : UInt8)))
  (some (decide (x0 ≤ (57 : UInt8))))
  (some false)
abbrev z77sg (f : SV [.v .u8] → BV [] → Option (Bool)) : AF := { ps := [.v .u8], bs := [], rs := [.v .bool], cs := [], R := Bool, out := fun z => ((z, ()), ()), f := f }
noncomputable abbrev z77g (N : Nat) : AF := z77sg fun x _ => script_isDigit N x.1
abbrev z77pk : SV [.v .bool] → BV [] → Bool := fun x _ => x.1
def z77fn (_N : Nat) : FuncId → Option Tmp → Option AF := fun f _ =>
 match f with
  | _ => none
theorem z77fn_ok (N : Nat) : FnOk (z77fn N) := by
 intro f q F h
 unfold z77fn at h
 split at h
 · cases h
def z77h : Nat → Hint := fun i =>
 match i with
 | _ => hint0
abbrev z77E (N : Nat) : Env := mkE z77h (z77fn N) FF FF
noncomputable def z77LP (N : Nat) : Nat → Code → St → (Ex → St → Option Bool) → Option Bool := fun i c =>
 match i with
 | i => fun st k => iter (z77h i) (exec (z77E N) N c i) N st k
theorem z77core (N : Nat) (x : SV [.v .u8]) (y : BV []) : runL (z77E N) Tryz.f176 (z77g N) z77pk (z77LP N) x y = script_isDigit N x.1 := by kernel_rfl
theorem z77sound (N : Nat) : Snd 176 (z77g N) :=
 sndL (z77fn_ok N) Tryz.func176 rfl Tryz.call176 (z77g N) z77pk (fun _ _ => rfl) N (z77LP N) (show LoopsOk (z77LP N) (z77E N) N (resD (z77E N) Tryz.f176 (z77g N) z77pk) [] from trivial) (z77core N)
def script_words (_N : Nat) : Option τ24 :=
 some [([109, 97, 99, 114, 111] : Str), ([102, 111, 114] : Str), ([105, 110] : Str), ([105, 102] : Str), ([101, 108, 115, 101] : Str), ([117, 115, 101] : Str), ([102, 105, 108, 101, 115] : Str), ([99, 104, 111, 111, 115, 101] : Str)]
abbrev z94sg (f : SV [] → BV [] → Option τ24) : AF := { ps := [], bs := [], rs := [.row 0], cs := [.row 9 .str false], R := List Str, out := fun z => (((), ()), (z, ())), f := f }
noncomputable abbrev z94g (N : Nat) : AF := z94sg fun _ _ => script_words N
abbrev z94pk : SV [.row 0] → BV [.row 9 .str false] → τ24 := fun _ y => y.1
def z94fn (_N : Nat) : FuncId → Option Tmp → Option AF := fun f _ =>
 match f with
  | _ => none
theorem z94fn_ok (N : Nat) : FnOk (z94fn N) := by
 intro f q F h
 unfold z94fn at h
 split at h
 · cases h
def z94h : Nat → Hint := fun i =>
 match i with
 | _ => hint0
abbrev z94E (N : Nat) : Env := mkE z94h (z94fn N) FF FF
noncomputable def z94LP (N : Nat) : Nat → Code → St → (Ex → St → Option τ24) → Option τ24 := fun i c =>
 match i with
 | i => fun st k => iter (z94h i) (exec (z94E N) N c i) N st k
theorem z94core (N : Nat) (x : SV []) (y : BV []) : runL (z94E N) Tryz.f177 (z94g N) z94pk (z94LP N) x y = script_words N := by kernel_rfl
theorem z94sound (N : Nat) : Snd 177 (z94g N) :=
 sndL (z94fn_ok N) Tryz.func177 rfl Tryz.call177 (z94g N) z94pk (fun _ _ => rfl) N (z94LP N) (show LoopsOk (z94LP N) (z94E N) N (resD (z94E N) Tryz.f177 (z94g N) z94pk) [] from trivial) (z94core N)
def z84L0T (N : Nat) (x0 : Str) (c19 : Int) (k0 : τ30) (self : Int → Option Bool) (s20 : Int) : Option Bool :=
 br (decide (s20 < c19))
  (bnd (geti x0 s20) fun t25 =>
  bnd (script_isSmall N t25) fun t26 =>
  br (!t26)
   (bnd (geti x0 s20) fun t31 =>
   bnd (script_isDigit N t31) fun t32 =>
   br (!t32)
    (bnd (geti x0 s20) fun t38 =>
    br (t38 != (95 : UInt8))
     (some false)
     (self (IntKind.i64.wrap (s20 + (1 : Int)))))
    (self (IntKind.i64.wrap (s20 + (1 : Int)))))
   (self (IntKind.i64.wrap (s20 + (1 : Int)))))
  (k0)
def z84L0 (N : Nat) (x0 : Str) (c19 : Int) (k0 : τ30) : Nat → Int → Option Bool
 | 0, _ => none
 | n + 1, s20 => z84L0T N x0 c19 k0 (z84L0 N x0 c19 k0 n) s20
def script_IsName (N : Nat) (x0 : Str) : Option Bool :=
 br (decide ((x0.length : Int) < (1 : Int)))
  (some false)
  (br (decide ((x0.length : Int) > (40 : Int)))
   (some false)
   (bnd (geti x0 (0 : Int)) fun t14 =>
   bnd (script_isSmall N t14) fun t15 =>
   br (!t15)
    (some false)
    (z84L0 N x0 (x0.length : Int) (bnd (script_words N) fun t42 =>
      bnd (slices_Contains_string_string N t42 x0) fun t44 =>
      some (!t44)) N (0 : Int))))
abbrev z84sg (f : SV [.v .str] → BV [] → Option (Bool)) : AF := { ps := [.v .str], bs := [], rs := [.v .bool], cs := [], R := Bool, out := fun z => ((z, ()), ()), f := f }
noncomputable abbrev z84g (N : Nat) : AF := z84sg fun x _ => script_IsName N x.1
abbrev z84pk : SV [.v .bool] → BV [] → Bool := fun x _ => x.1
def z84fn (N : Nat) : FuncId → Option Tmp → Option AF := fun f _ =>
 match f with
  | 56 => some (z7g N)
  | 175 => some (z78g N)
  | 176 => some (z77g N)
  | 177 => some (z94g N)
  | _ => none
theorem z84fn_ok (N : Nat) : FnOk (z84fn N) := by
 intro f q F h
 unfold z84fn at h
 split at h
 · cases h; exact z7sound N
 · cases h; exact z78sound N
 · cases h; exact z77sound N
 · cases h; exact z94sound N
 · cases h
def z84h : Nat → Hint := fun i =>
 match i with
 | 0 => ⟨[], [0, 19, 20], [], [0], [], []⟩
 | _ => hint0
abbrev z84E (N : Nat) : Env := mkE z84h (z84fn N) FF FF
noncomputable abbrev z84c0 : Code := cAt (bodyOf Tryz.f110) [true, true, false, true, false, false]
noncomputable abbrev z84R (N : Nat) := resD (z84E N) Tryz.f110 (z84g N) z84pk
abbrev z84L0_fs : List (Nat × Sl) := [(0, .v .str), (19, .v τ6), (20, .v τ6)]
abbrev z84L0_bs : List (Nat × Sb) := []
def z84L0_hd (x0 : Str) (c19 : Int) (s20 : Int) : St := ⟨46, [(0, .v .str x0), (19, .v τ6 c19), (20, .v τ6 s20)], []⟩
def z84L0_tl0 (x0 : Str) (_c19 : Int) : St := ⟨46, [(0, .v .str x0)], []⟩
def z84L0_G (N : Nat) (x0 : Str) (c19 : Int) (s20 : Int) (k : Ex → St → Option Bool) : Option Bool :=
 z84L0 N x0 c19 (k (.exit 0) (z84L0_tl0 x0 c19)) N s20
abbrev z84L0_F (N : Nat) : FV z84L0_fs → HV z84L0_bs → (Ex → St → Option Bool) → Option Bool := fun x _ k => z84L0_G N x.1 x.2.1 x.2.2.1 k
noncomputable def z84LP (N : Nat) : Nat → Code → St → (Ex → St → Option Bool) → Option Bool := fun i c =>
 match i with
 | 0 => (LPc 46 z84L0_fs z84L0_bs (z84L0_F N) (fun st k => iter (z84h 0) (exec (z84E N) N c 0) N st k))
 | i => fun st k => iter (z84h i) (exec (z84E N) N c i) N st k
theorem z84L0_step (N : Nat) (x0 : Str) (c19 : Int) (KX : Nat → St → Option Bool) (I : St → Option Bool) (s20 : Int) :
  execL (z84LP N) (z84E N) z84c0 0 (z84L0_hd x0 c19 s20) (roundK (z84h 0) I KX (z84R N)) = z84L0T N x0 c19 (KX 0 (z84L0_tl0 x0 c19)) (fun s20 => I (z84L0_hd x0 c19 s20)) s20 := by kernel_rfl
theorem z84L0_ok (N : Nat) : ∀ x y k, (∀ st, k .ret st = (z84R N) st) → iter (z84h 0) (exec (z84E N) N z84c0 0) N ⟨46, unF z84L0_fs x, unH z84L0_bs y⟩ k = z84L0_F N x y k := fun x _ k hk =>
 iter_link (S := (Int) × Unit) (z84h 0) _ (execL (z84LP N) (z84E N) z84c0 0) (z84R N) (fun st k hk => execL_eq _ _ N _ z84c0 0 (show LoopsOk (z84LP N) (z84E N) N (z84R N) [] from trivial) st k hk) (fun s => z84L0_hd x.1 x.2.1 s.1) k hk
  (fun self s => z84L0T N x.1 x.2.1 (k (.exit 0) (z84L0_tl0 x.1 x.2.1)) (fun s20 => self (s20, ())) s.1) (fun n s => z84L0 N x.1 x.2.1 (k (.exit 0) (z84L0_tl0 x.1 x.2.1)) n s.1) (fun _ => rfl) (fun _ _ => rfl)
  (fun I s => z84L0_step N x.1 x.2.1 (fun j => k (.exit j)) I s.1) N (x.2.2.1, ())
theorem z84lp0 (N : Nat) : ∀ st k, (∀ st, k .ret st = (z84R N) st) → z84LP N 0 z84c0 st k = iter (Env.hint (z84E N) 0) (exec (z84E N) N z84c0 0) N st k := fun st k hk => LPc_eq 46 z84L0_fs z84L0_bs _ _ (z84R N) (z84L0_ok N) _ st k hk (rfl)
theorem z84core (N : Nat) (x : SV [.v .str]) (y : BV []) : runL (z84E N) Tryz.f110 (z84g N) z84pk (z84LP N) x y = script_IsName N x.1 := by kernel_rfl
theorem z84sound (N : Nat) : Snd 110 (z84g N) :=
 sndL (z84fn_ok N) Tryz.func110 rfl Tryz.call110 (z84g N) z84pk (fun _ _ => rfl) N (z84LP N) (show LoopsOk (z84LP N) (z84E N) N (z84R N) [(0, z84c0)] from ⟨z84lp0 N, trivial⟩) (z84core N)
def script_CheckTarget_1 (_N : Nat) (x0 : Str × GValue) : Option Bool :=
 br (x0.1 == ([110, 97, 109, 101] : Str))
  (some true)
  (some (x0.1 == ([107, 105, 110, 100] : Str)))
abbrev z33sg (f : SV [.v τ3] → BV [] → Option (Bool)) : AF := { ps := [.v τ3], bs := [], rs := [.v .bool], cs := [], R := Bool, out := fun z => ((z, ()), ()), f := f }
noncomputable abbrev z33g (N : Nat) : AF := z33sg fun x _ => script_CheckTarget_1 N x.1
abbrev z33pk : SV [.v .bool] → BV [] → Bool := fun x _ => x.1
def z33fn (_N : Nat) : FuncId → Option Tmp → Option AF := fun f _ =>
 match f with
  | _ => none
theorem z33fn_ok (N : Nat) : FnOk (z33fn N) := by
 intro f q F h
 unfold z33fn at h
 split at h
 · cases h
def z33h : Nat → Hint := fun i =>
 match i with
 | _ => hint0
abbrev z33E (N : Nat) : Env := mkE z33h (z33fn N) FF FF
noncomputable def z33LP (N : Nat) : Nat → Code → St → (Ex → St → Option Bool) → Option Bool := fun i c =>
 match i with
 | i => fun st k => iter (z33h i) (exec (z33E N) N c i) N st k
theorem z33core (N : Nat) (x : SV [.v τ3]) (y : BV []) : runL (z33E N) Tryz.f112 (z33g N) z33pk (z33LP N) x y = script_CheckTarget_1 N x.1 := by kernel_rfl
theorem z33sound (N : Nat) : Snd 112 (z33g N) :=
 sndL (z33fn_ok N) Tryz.func112 rfl Tryz.call112 (z33g N) z33pk (fun _ _ => rfl) N (z33LP N) (show LoopsOk (z33LP N) (z33E N) N (resD (z33E N) Tryz.f112 (z33g N) z33pk) [] from trivial) (z33core N)
def z19L0T (N : Nat) (x0 : List τ2) (c7 : Int) (k0 : τ26) (self : Int → Option Int) (s8 : Int) : Option Int :=
 br (decide (s8 < c7))
  (bnd (geti x0 s8) fun t14 =>
  bnd (script_CheckTarget_1 N t14) fun t16 =>
  br (t16)
   (some s8)
   (self (IntKind.i64.wrap (s8 + (1 : Int)))))
  (k0)
def z19L0 (N : Nat) (x0 : List τ2) (c7 : Int) (k0 : τ26) : Nat → Int → Option Int
 | 0, _ => none
 | n + 1, s8 => z19L0T N x0 c7 k0 (z19L0 N x0 c7 k0 n) s8
def slices_IndexFunc_api_Attr (N : Nat) (x0 : List τ2) (_x1 : Unit) : Option Int :=
 z19L0 N x0 (x0.length : Int) (some (-1 : Int)) N (0 : Int)
abbrev z19sg (f : SV [.v (.sl τ3), .v (.clo 112 .un)] → BV [] → Option (Int)) : AF := { ps := [.v (.sl τ3), .v (.clo 112 .un)], bs := [], rs := [.v τ6], cs := [], R := Int, out := fun z => ((z, ()), ()), f := f }
noncomputable abbrev z19g (N : Nat) : AF := z19sg fun x _ => slices_IndexFunc_api_Attr N x.1 x.2.1
abbrev z19pk : SV [.v τ6] → BV [] → Int := fun x _ => x.1
def z19fn (N : Nat) : FuncId → Option Tmp → Option AF := fun f _ =>
 match f with
  | 112 => some (z33g N)
  | _ => none
theorem z19fn_ok (N : Nat) : FnOk (z19fn N) := by
 intro f q F h
 unfold z19fn at h
 split at h
 · cases h; exact z33sound N
 · cases h
def z19h : Nat → Hint := fun i =>
 match i with
 | 0 => ⟨[], [0, 1, 7, 8], [], [], [], []⟩
 | _ => hint0
abbrev z19E (N : Nat) : Env := mkE z19h (z19fn N) FF FF
noncomputable abbrev z19c0 : Code := cAt (bodyOf Tryz.f178) [true, false, true, false, false]
noncomputable abbrev z19R (N : Nat) := resD (z19E N) Tryz.f178 (z19g N) z19pk
abbrev z19L0_fs : List (Nat × Sl) := [(0, .v (.sl τ3)), (1, .v (.clo 112 .un)), (7, .v τ6), (8, .v τ6)]
abbrev z19L0_bs : List (Nat × Sb) := []
def z19L0_hd (x0 : List τ2) (x1 : Unit) (c7 : Int) (s8 : Int) : St := ⟨19, [(0, .v (.sl τ3) x0), (1, .v (.clo 112 .un) x1), (7, .v τ6 c7), (8, .v τ6 s8)], []⟩
def z19L0_tl0 (_x0 : List τ2) (_x1 : Unit) (_c7 : Int) : St := ⟨19, [], []⟩
def z19L0_G (N : Nat) (x0 : List τ2) (x1 : Unit) (c7 : Int) (s8 : Int) (k : Ex → St → Option Int) : Option Int :=
 z19L0 N x0 c7 (k (.exit 0) (z19L0_tl0 x0 x1 c7)) N s8
abbrev z19L0_F (N : Nat) : FV z19L0_fs → HV z19L0_bs → (Ex → St → Option Int) → Option Int := fun x _ k => z19L0_G N x.1 x.2.1 x.2.2.1 x.2.2.2.1 k
noncomputable def z19LP (N : Nat) : Nat → Code → St → (Ex → St → Option Int) → Option Int := fun i c =>
 match i with
 | 0 => (LPc 19 z19L0_fs z19L0_bs (z19L0_F N) (fun st k => iter (z19h 0) (exec (z19E N) N c 0) N st k))
 | i => fun st k => iter (z19h i) (exec (z19E N) N c i) N st k
theorem z19L0_step (N : Nat) (x0 : List τ2) (x1 : Unit) (c7 : Int) (KX : Nat → St → Option Int) (I : St → Option Int) (s8 : Int) :
  execL (z19LP N) (z19E N) z19c0 0 (z19L0_hd x0 x1 c7 s8) (roundK (z19h 0) I KX (z19R N)) = z19L0T N x0 c7 (KX 0 (z19L0_tl0 x0 x1 c7)) (fun s8 => I (z19L0_hd x0 x1 c7 s8)) s8 := by kernel_rfl
theorem z19L0_ok (N : Nat) : ∀ x y k, (∀ st, k .ret st = (z19R N) st) → iter (z19h 0) (exec (z19E N) N z19c0 0) N ⟨19, unF z19L0_fs x, unH z19L0_bs y⟩ k = z19L0_F N x y k := fun x _ k hk =>
 iter_link (S := (Int) × Unit) (z19h 0) _ (execL (z19LP N) (z19E N) z19c0 0) (z19R N) (fun st k hk => execL_eq _ _ N _ z19c0 0 (show LoopsOk (z19LP N) (z19E N) N (z19R N) [] from trivial) st k hk) (fun s => z19L0_hd x.1 x.2.1 x.2.2.1 s.1) k hk
  (fun self s => z19L0T N x.1 x.2.2.1 (k (.exit 0) (z19L0_tl0 x.1 x.2.1 x.2.2.1)) (fun s8 => self (s8, ())) s.1) (fun n s => z19L0 N x.1 x.2.2.1 (k (.exit 0) (z19L0_tl0 x.1 x.2.1 x.2.2.1)) n s.1) (fun _ => rfl) (fun _ _ => rfl)
  (fun I s => z19L0_step N x.1 x.2.1 x.2.2.1 (fun j => k (.exit j)) I s.1) N (x.2.2.2.1, ())
theorem z19lp0 (N : Nat) : ∀ st k, (∀ st, k .ret st = (z19R N) st) → z19LP N 0 z19c0 st k = iter (Env.hint (z19E N) 0) (exec (z19E N) N z19c0 0) N st k := fun st k hk => LPc_eq 19 z19L0_fs z19L0_bs _ _ (z19R N) (z19L0_ok N) _ st k hk (rfl)
theorem z19core (N : Nat) (x : SV [.v (.sl τ3), .v (.clo 112 .un)]) (y : BV []) : runL (z19E N) Tryz.f178 (z19g N) z19pk (z19LP N) x y = slices_IndexFunc_api_Attr N x.1 x.2.1 := by kernel_rfl
theorem z19sound (N : Nat) : Snd 178 (z19g N) :=
 sndL (z19fn_ok N) Tryz.func178 rfl Tryz.call178 (z19g N) z19pk (fun _ _ => rfl) N (z19LP N) (show LoopsOk (z19LP N) (z19E N) N (z19R N) [(0, z19c0)] from ⟨z19lp0 N, trivial⟩) (z19core N)
def slices_ContainsFunc_api_Attr (N : Nat) (x0 : List τ2) (x1 : Unit) : Option Bool :=
 bnd (slices_IndexFunc_api_Attr N x0 x1) fun t7 =>
 some (decide (t7 ≥ (0 : Int)))
abbrev z10sg (f : SV [.v (.sl τ3), .v (.clo 112 .un)] → BV [] → Option (Bool)) : AF := { ps := [.v (.sl τ3), .v (.clo 112 .un)], bs := [], rs := [.v .bool], cs := [], R := Bool, out := fun z => ((z, ()), ()), f := f }
noncomputable abbrev z10g (N : Nat) : AF := z10sg fun x _ => slices_ContainsFunc_api_Attr N x.1 x.2.1
abbrev z10pk : SV [.v .bool] → BV [] → Bool := fun x _ => x.1
def z10fn (N : Nat) : FuncId → Option Tmp → Option AF := fun f _ =>
 match f with
  | 178 => some (z19g N)
  | _ => none
theorem z10fn_ok (N : Nat) : FnOk (z10fn N) := by
 intro f q F h
 unfold z10fn at h
 split at h
 · cases h; exact z19sound N
 · cases h
def z10h : Nat → Hint := fun i =>
 match i with
 | _ => hint0
abbrev z10E (N : Nat) : Env := mkE z10h (z10fn N) FF FF
noncomputable def z10LP (N : Nat) : Nat → Code → St → (Ex → St → Option Bool) → Option Bool := fun i c =>
 match i with
 | i => fun st k => iter (z10h i) (exec (z10E N) N c i) N st k
theorem z10core (N : Nat) (x : SV [.v (.sl τ3), .v (.clo 112 .un)]) (y : BV []) : runL (z10E N) Tryz.f111 (z10g N) z10pk (z10LP N) x y = slices_ContainsFunc_api_Attr N x.1 x.2.1 := by kernel_rfl
theorem z10sound (N : Nat) : Snd 111 (z10g N) :=
 sndL (z10fn_ok N) Tryz.func111 rfl Tryz.call111 (z10g N) z10pk (fun _ _ => rfl) N (z10LP N) (show LoopsOk (z10LP N) (z10E N) N (resD (z10E N) Tryz.f111 (z10g N) z10pk) [] from trivial) (z10core N)
def z44L0T (N : Nat) (c19 : List τ2) (c20 : Int) (κ1_2 : List τ2) (k0 : τ26) (self : Int → Option Int) (s21 : Int) : Option Int :=
 br (decide (s21 < c20))
  (bnd (geti c19 s21) fun t24 =>
  bnd (script_IsName N t24.1) fun t28 =>
  br (!t28)
   (some (5 : Int))
   (bnd (script_CheckValue N (script_checkCases N N) (GValue.mk t24.2.kind t24.2.text t24.2.number t24.2.list t24.2.cases)) fun t32 =>
   br (t32 != (0 : Int))
    (some t32)
    (br (decide (s21 > (0 : Int)))
     (bnd (geti κ1_2 (IntKind.i64.wrap (s21 - (1 : Int)))) fun t45 =>
     br (Op.bytesLess t24.1 t45.1 || t24.1 == t45.1)
      (some (8 : Int))
      (self (IntKind.i64.wrap (s21 + (1 : Int)))))
     (self (IntKind.i64.wrap (s21 + (1 : Int)))))))
  (k0)
def z44L0 (N : Nat) (c19 : List τ2) (c20 : Int) (κ1_2 : List τ2) (k0 : τ26) : Nat → Int → Option Int
 | 0, _ => none
 | n + 1, s21 => z44L0T N c19 c20 κ1_2 k0 (z44L0 N c19 c20 κ1_2 k0 n) s21
def script_CheckTarget (N : Nat) (x0 : Str × Str × List τ2) : Option Int :=
 bnd (blob_IsPath N x0.1) fun t8 =>
 br (!t8)
  (some (3 : Int))
  (bnd (script_IsName N x0.2.1) fun t12 =>
  br (!t12)
   (some (5 : Int))
   (br (decide ((x0.2.2.length : Int) > (30 : Int)))
    (some (2 : Int))
    (z44L0 N x0.2.2 (x0.2.2.length : Int) x0.2.2 (bnd (slices_ContainsFunc_api_Attr N x0.2.2 ()) fun t53 =>
      br (t53)
       (some (5 : Int))
       (some (0 : Int))) N (0 : Int))))
abbrev z44sg (f : SV [.v τ13] → BV [] → Option (Int)) : AF := { ps := [.v τ13], bs := [], rs := [.v τ6], cs := [], R := Int, out := fun z => ((z, ()), ()), f := f }
noncomputable abbrev z44g (N : Nat) : AF := z44sg fun x _ => script_CheckTarget N x.1
abbrev z44pk : SV [.v τ6] → BV [] → Int := fun x _ => x.1
def z44fn (N : Nat) : FuncId → Option Tmp → Option AF := fun f _ =>
 match f with
  | 31 => some (z50sg fun x _ => script_CheckValue N (script_checkCases N N) x.1)
  | 109 => some (z97g N)
  | 110 => some (z84g N)
  | 111 => some (z10g N)
  | _ => none
theorem z44fn_ok (N : Nat) : FnOk (z44fn N) := by
 intro f q F h
 unfold z44fn at h
 split at h
 · cases h; exact z50sound N (script_checkCases N N) (z51sound N N)
 · cases h; exact z97sound N
 · cases h; exact z84sound N
 · cases h; exact z10sound N
 · cases h
def z44h : Nat → Hint := fun i =>
 match i with
 | 0 => ⟨[], [1, 19, 20, 21], [1001], [1], [1001], []⟩
 | _ => hint0
abbrev z44E (N : Nat) : Env := mkE z44h (z44fn N) FF FF
noncomputable abbrev z44c0 : Code := cAt (bodyOf Tryz.f61) [true, true, true, true, false, true, false, false]
noncomputable abbrev z44R (N : Nat) := resD (z44E N) Tryz.f61 (z44g N) z44pk
abbrev z44L0_fs : List (Nat × Sl) := [(1, .box 1001 0), (19, .v (.sl τ3)), (20, .v τ6), (21, .v τ6)]
abbrev z44L0_bs : List (Nat × Sb) := [(1001, .cells [.v .str, .v .str, .v (.sl τ3)])]
def z44L0_hd (c19 : List τ2) (c20 : Int) (κ1_0 : Str) (κ1_1 : Str) (κ1_2 : List τ2) (s21 : Int) : St := ⟨54, [(1, .box 1001 0), (19, .v (.sl τ3) c19), (20, .v τ6 c20), (21, .v τ6 s21)], [(1001, .cells [.v .str κ1_0, .v .str κ1_1, .v (.sl τ3) κ1_2])]⟩
def z44L0_tl0 (_c19 : List τ2) (_c20 : Int) (κ1_0 : Str) (κ1_1 : Str) (κ1_2 : List τ2) : St := ⟨54, [(1, .box 1001 0)], [(1001, .cells [.v .str κ1_0, .v .str κ1_1, .v (.sl τ3) κ1_2])]⟩
def z44L0_G (N : Nat) (c19 : List τ2) (c20 : Int) (κ1_0 : Str) (κ1_1 : Str) (κ1_2 : List τ2) (s21 : Int) (k : Ex → St → Option Int) : Option Int :=
 z44L0 N c19 c20 κ1_2 (k (.exit 0) (z44L0_tl0 c19 c20 κ1_0 κ1_1 κ1_2)) N s21
abbrev z44L0_F (N : Nat) : FV z44L0_fs → HV z44L0_bs → (Ex → St → Option Int) → Option Int := fun x y k => z44L0_G N x.2.1 x.2.2.1 y.1.1 y.1.2.1 y.1.2.2.1 x.2.2.2.1 k
noncomputable def z44LP (N : Nat) : Nat → Code → St → (Ex → St → Option Int) → Option Int := fun i c =>
 match i with
 | 0 => (LPc 54 z44L0_fs z44L0_bs (z44L0_F N) (fun st k => iter (z44h 0) (exec (z44E N) N c 0) N st k))
 | i => fun st k => iter (z44h i) (exec (z44E N) N c i) N st k
theorem z44L0_step (N : Nat) (c19 : List τ2) (c20 : Int) (κ1_0 : Str) (κ1_1 : Str) (κ1_2 : List τ2) (KX : Nat → St → Option Int) (I : St → Option Int) (s21 : Int) :
  execL (z44LP N) (z44E N) z44c0 0 (z44L0_hd c19 c20 κ1_0 κ1_1 κ1_2 s21) (roundK (z44h 0) I KX (z44R N)) = z44L0T N c19 c20 κ1_2 (KX 0 (z44L0_tl0 c19 c20 κ1_0 κ1_1 κ1_2)) (fun s21 => I (z44L0_hd c19 c20 κ1_0 κ1_1 κ1_2 s21)) s21 := by kernel_rfl
theorem z44L0_ok (N : Nat) : ∀ x y k, (∀ st, k .ret st = (z44R N) st) → iter (z44h 0) (exec (z44E N) N z44c0 0) N ⟨54, unF z44L0_fs x, unH z44L0_bs y⟩ k = z44L0_F N x y k := fun x y k hk =>
 iter_link (S := (Int) × Unit) (z44h 0) _ (execL (z44LP N) (z44E N) z44c0 0) (z44R N) (fun st k hk => execL_eq _ _ N _ z44c0 0 (show LoopsOk (z44LP N) (z44E N) N (z44R N) [] from trivial) st k hk) (fun s => z44L0_hd x.2.1 x.2.2.1 y.1.1 y.1.2.1 y.1.2.2.1 s.1) k hk
  (fun self s => z44L0T N x.2.1 x.2.2.1 y.1.2.2.1 (k (.exit 0) (z44L0_tl0 x.2.1 x.2.2.1 y.1.1 y.1.2.1 y.1.2.2.1)) (fun s21 => self (s21, ())) s.1) (fun n s => z44L0 N x.2.1 x.2.2.1 y.1.2.2.1 (k (.exit 0) (z44L0_tl0 x.2.1 x.2.2.1 y.1.1 y.1.2.1 y.1.2.2.1)) n s.1) (fun _ => rfl) (fun _ _ => rfl)
  (fun I s => z44L0_step N x.2.1 x.2.2.1 y.1.1 y.1.2.1 y.1.2.2.1 (fun j => k (.exit j)) I s.1) N (x.2.2.2.1, ())
theorem z44lp0 (N : Nat) : ∀ st k, (∀ st, k .ret st = (z44R N) st) → z44LP N 0 z44c0 st k = iter (Env.hint (z44E N) 0) (exec (z44E N) N z44c0 0) N st k := fun st k hk => LPc_eq 54 z44L0_fs z44L0_bs _ _ (z44R N) (z44L0_ok N) _ st k hk (rfl)
theorem z44core (N : Nat) (x : SV [.v τ13]) (y : BV []) : runL (z44E N) Tryz.f61 (z44g N) z44pk (z44LP N) x y = script_CheckTarget N x.1 := by kernel_rfl
theorem z44sound (N : Nat) : Snd 61 (z44g N) :=
 sndL (z44fn_ok N) Tryz.func61 rfl Tryz.call61 (z44g N) z44pk (fun _ _ => rfl) N (z44LP N) (show LoopsOk (z44LP N) (z44E N) N (z44R N) [(0, z44c0)] from ⟨z44lp0 N, trivial⟩) (z44core N)
def z87L0T (N : Nat) (x2 : List τ5) (c38 : List τ2) (c39 : Int) (κ4_0 : τ7) (κ4_1 : List τ1) (κ4_2 : τ11) (κ4_3 : List τ10) (κ4_4 : τ12) (κ7_0 : Str) (κ7_1 : List τ5) (k0 : τ21 → Option τ14) (self : Int → τ21 → Option τ14) (s40 : Int) (w900001 : List τ2) : Option τ14 :=
 br (decide (s40 < c39))
  (bnd (geti c38 s40) fun t42 =>
  bnd (config_chosen N (κ4_0, (κ4_1, (κ4_2, (κ4_3, κ4_4)))) (GValue.mk t42.2.kind t42.2.text t42.2.number t42.2.list t42.2.cases) x2 (κ7_0, κ7_1)) fun t50 =>
  br (t50.2 != (0 : Int))
   (some ((([] : Str), (([] : Str), ([] : List τ2))), (t42.1, t50.2)))
   (br (decide ((w900001.length + [(t42.1, GValue.mk t50.1.kind t50.1.text t50.1.number t50.1.list t50.1.cases)].length) * (24 * Ty.sz τ3) ≤ 140737488355328))
    (self (IntKind.i64.wrap (s40 + (1 : Int))) (w900001 ++ [(t42.1, GValue.mk t50.1.kind t50.1.text t50.1.number t50.1.list t50.1.cases)]))
    none))
  (k0 w900001)
def z87L0 (N : Nat) (x2 : List τ5) (c38 : List τ2) (c39 : Int) (κ4_0 : τ7) (κ4_1 : List τ1) (κ4_2 : τ11) (κ4_3 : List τ10) (κ4_4 : τ12) (κ7_0 : Str) (κ7_1 : List τ5) (k0 : τ21 → Option τ14) : Nat → Int → τ21 → Option τ14
 | 0, _, _ => none
 | n + 1, s40, w900001 => z87L0T N x2 c38 c39 κ4_0 κ4_1 κ4_2 κ4_3 κ4_4 κ7_0 κ7_1 k0 (z87L0 N x2 c38 c39 κ4_0 κ4_1 κ4_2 κ4_3 κ4_4 κ7_0 κ7_1 k0 n) s40 w900001
def config_Plain (N : Nat) (x0 : τ18) (x1 : Str × Str × List τ2) (x2 : List τ5) (x3 : Str × List τ5) : Option τ14 :=
 bnd (config_checkChoice N x0 x2 x3) fun t21 =>
 br (t21 != (0 : Int))
  (some ((([] : Str), (([] : Str), ([] : List τ2))), (([] : Str), t21)))
  (bnd (script_CheckTarget N x1) fun t27 =>
  br (t27 != (0 : Int))
   (some ((([] : Str), (([] : Str), ([] : List τ2))), (([] : Str), t27)))
   (z87L0 N x2 x1.2.2 (x1.2.2.length : Int) x0.1 x0.2.1 x0.2.2.1 x0.2.2.2.1 x0.2.2.2.2 x3.1 x3.2 (fun o0_w900001 =>
     some ((x1.1, (x1.2.1, o0_w900001)), (([] : Str), (0 : Int)))) N (0 : Int) ([] : List τ2)))
abbrev z87sg (f : SV [.v τ4, .v τ13, .v τ0, .v τ16] → BV [] → Option τ14) : AF := { ps := [.v τ4, .v τ13, .v τ0, .v τ16], bs := [], rs := [.v τ13, .v .str, .v τ6], cs := [], R := τ29 × Str × Int, out := fun z => ((z.1, z.2.1, z.2.2, ()), ()), f := f }
noncomputable abbrev z87g (N : Nat) : AF := z87sg fun x _ => config_Plain N x.1 x.2.1 x.2.2.1 x.2.2.2.1
abbrev z87pk : SV [.v τ13, .v .str, .v τ6] → BV [] → τ14 := fun x _ => (x.1, x.2.1, x.2.2.1)
def z87fn (N : Nat) : FuncId → Option Tmp → Option AF := fun f _ =>
 match f with
  | 30 => some (z41g N)
  | 32 => some (z80g N)
  | 61 => some (z44g N)
  | _ => none
theorem z87fn_ok (N : Nat) : FnOk (z87fn N) := by
 intro f q F h
 unfold z87fn at h
 split at h
 · cases h; exact z41sound N
 · cases h; exact z80sound N
 · cases h; exact z44sound N
 · cases h
def z87h : Nat → Hint := fun i =>
 match i with
 | 0 => ⟨[], [2, 4, 7, 8, 13, 38, 39, 40], [1004, 1007, 1008, 1013, 900001], [8, 13], [1008, 1013, 900001], [(1013, 2, 900001, 102, τ3)]⟩
 | 100013 => ⟨[1015], [], [], [], [], []⟩
 | _ => hint0
abbrev z87E (N : Nat) : Env := mkE z87h (z87fn N) FF FF
noncomputable abbrev z87c0 : Code := cAt (bodyOf Tryz.f22) [true, true, true, true, false, true, false, false]
noncomputable abbrev z87R (N : Nat) := resD (z87E N) Tryz.f22 (z87g N) z87pk
abbrev z87L0_fs : List (Nat × Sl) := [(2, .v τ0), (4, .box 1004 0), (7, .box 1007 0), (8, .box 1008 0), (13, .box 1013 0), (38, .v (.sl τ3)), (39, .v τ6), (40, .v τ6)]
abbrev z87L0_bs : List (Nat × Sb) := [(1004, .cells [.v τ9, .v (.sl τ8), .v τ28, .v τ25, .v τ20]), (1007, .cells [.v .str, .v τ0]), (1008, .cells [.v .str, .v .str, .nilS]), (1013, .cells [.v .str, .v .str, .row 900001]), (900001, .row 102 τ3 false)]
def z87L0_hd (x2 : List τ5) (c38 : List τ2) (c39 : Int) (κ4_0 : τ7) (κ4_1 : List τ1) (κ4_2 : τ11) (κ4_3 : List τ10) (κ4_4 : τ12) (κ7_0 : Str) (κ7_1 : List τ5) (κ8_0 : Str) (κ8_1 : Str) (κ13_0 : Str) (κ13_1 : Str) (s40 : Int) (w900001 : List τ2) : St := ⟨70, [(2, .v τ0 x2), (4, .box 1004 0), (7, .box 1007 0), (8, .box 1008 0), (13, .box 1013 0), (38, .v (.sl τ3) c38), (39, .v τ6 c39), (40, .v τ6 s40)], [(1004, .cells [.v τ9 κ4_0, .v (.sl τ8) κ4_1, .v τ28 κ4_2, .v τ25 κ4_3, .v τ20 κ4_4]), (1007, .cells [.v .str κ7_0, .v τ0 κ7_1]), (1008, .cells [.v .str κ8_0, .v .str κ8_1, .nilS]), (1013, .cells [.v .str κ13_0, .v .str κ13_1, .row 900001]), (900001, .row 102 τ3 false w900001)]⟩
def z87L0_tl0 (_x2 : List τ5) (_c38 : List τ2) (_c39 : Int) (_κ4_0 : τ7) (_κ4_1 : List τ1) (_κ4_2 : τ11) (_κ4_3 : List τ10) (_κ4_4 : τ12) (_κ7_0 : Str) (_κ7_1 : List τ5) (κ8_0 : Str) (κ8_1 : Str) (κ13_0 : Str) (κ13_1 : Str) (o0_w900001 : List τ2) : St := ⟨70, [(8, .box 1008 0), (13, .box 1013 0)], [(1008, .cells [.v .str κ8_0, .v .str κ8_1, .nilS]), (1013, .cells [.v .str κ13_0, .v .str κ13_1, .row 900001]), (900001, .row 102 τ3 false o0_w900001)]⟩
def z87L0_G (N : Nat) (x2 : List τ5) (c38 : List τ2) (c39 : Int) (κ4_0 : τ7) (κ4_1 : List τ1) (κ4_2 : τ11) (κ4_3 : List τ10) (κ4_4 : τ12) (κ7_0 : Str) (κ7_1 : List τ5) (κ8_0 : Str) (κ8_1 : Str) (κ13_0 : Str) (κ13_1 : Str) (s40 : Int) (w900001 : List τ2) (k : Ex → St → Option τ14) : Option τ14 :=
 z87L0 N x2 c38 c39 κ4_0 κ4_1 κ4_2 κ4_3 κ4_4 κ7_0 κ7_1 (fun o0_w900001 => k (.exit 0) (z87L0_tl0 x2 c38 c39 κ4_0 κ4_1 κ4_2 κ4_3 κ4_4 κ7_0 κ7_1 κ8_0 κ8_1 κ13_0 κ13_1 o0_w900001)) N s40 w900001
abbrev z87L0_F (N : Nat) : FV z87L0_fs → HV z87L0_bs → (Ex → St → Option τ14) → Option τ14 := fun x y k => z87L0_G N x.1 x.2.2.2.2.2.1 x.2.2.2.2.2.2.1 y.1.1 y.1.2.1 y.1.2.2.1 y.1.2.2.2.1 y.1.2.2.2.2.1 y.2.1.1 y.2.1.2.1 y.2.2.1.1 y.2.2.1.2.1 y.2.2.2.1.1 y.2.2.2.1.2.1 x.2.2.2.2.2.2.2.1 y.2.2.2.2.1 k
noncomputable def z87LP (N : Nat) : Nat → Code → St → (Ex → St → Option τ14) → Option τ14 := fun i c =>
 match i with
 | 0 => (LPc 70 z87L0_fs z87L0_bs (z87L0_F N) (fun st k => iter (z87h 0) (exec (z87E N) N c 0) N st k))
 | i => fun st k => iter (z87h i) (exec (z87E N) N c i) N st k
theorem z87L0_step (N : Nat) (x2 : List τ5) (c38 : List τ2) (c39 : Int) (κ4_0 : τ7) (κ4_1 : List τ1) (κ4_2 : τ11) (κ4_3 : List τ10) (κ4_4 : τ12) (κ7_0 : Str) (κ7_1 : List τ5) (κ8_0 : Str) (κ8_1 : Str) (κ13_0 : Str) (κ13_1 : Str) (KX : Nat → St → Option τ14) (I : St → Option τ14) (s40 : Int) (w900001 : List τ2) :
  execL (z87LP N) (z87E N) z87c0 0 (z87L0_hd x2 c38 c39 κ4_0 κ4_1 κ4_2 κ4_3 κ4_4 κ7_0 κ7_1 κ8_0 κ8_1 κ13_0 κ13_1 s40 w900001) (roundK (z87h 0) I KX (z87R N)) = z87L0T N x2 c38 c39 κ4_0 κ4_1 κ4_2 κ4_3 κ4_4 κ7_0 κ7_1 (fun o0_w900001 => KX 0 (z87L0_tl0 x2 c38 c39 κ4_0 κ4_1 κ4_2 κ4_3 κ4_4 κ7_0 κ7_1 κ8_0 κ8_1 κ13_0 κ13_1 o0_w900001)) (fun s40 w900001 => I (z87L0_hd x2 c38 c39 κ4_0 κ4_1 κ4_2 κ4_3 κ4_4 κ7_0 κ7_1 κ8_0 κ8_1 κ13_0 κ13_1 s40 w900001)) s40 w900001 := by kernel_rfl
theorem z87L0_ok (N : Nat) : ∀ x y k, (∀ st, k .ret st = (z87R N) st) → iter (z87h 0) (exec (z87E N) N z87c0 0) N ⟨70, unF z87L0_fs x, unH z87L0_bs y⟩ k = z87L0_F N x y k := fun x y k hk =>
 iter_link (S := (Int) × τ21 × Unit) (z87h 0) _ (execL (z87LP N) (z87E N) z87c0 0) (z87R N) (fun st k hk => execL_eq _ _ N _ z87c0 0 (show LoopsOk (z87LP N) (z87E N) N (z87R N) [] from trivial) st k hk) (fun s => z87L0_hd x.1 x.2.2.2.2.2.1 x.2.2.2.2.2.2.1 y.1.1 y.1.2.1 y.1.2.2.1 y.1.2.2.2.1 y.1.2.2.2.2.1 y.2.1.1 y.2.1.2.1 y.2.2.1.1 y.2.2.1.2.1 y.2.2.2.1.1 y.2.2.2.1.2.1 s.1 s.2.1) k hk
  (fun self s => z87L0T N x.1 x.2.2.2.2.2.1 x.2.2.2.2.2.2.1 y.1.1 y.1.2.1 y.1.2.2.1 y.1.2.2.2.1 y.1.2.2.2.2.1 y.2.1.1 y.2.1.2.1 (fun o0_w900001 => k (.exit 0) (z87L0_tl0 x.1 x.2.2.2.2.2.1 x.2.2.2.2.2.2.1 y.1.1 y.1.2.1 y.1.2.2.1 y.1.2.2.2.1 y.1.2.2.2.2.1 y.2.1.1 y.2.1.2.1 y.2.2.1.1 y.2.2.1.2.1 y.2.2.2.1.1 y.2.2.2.1.2.1 o0_w900001)) (fun s40 w900001 => self (s40, w900001, ())) s.1 s.2.1) (fun n s => z87L0 N x.1 x.2.2.2.2.2.1 x.2.2.2.2.2.2.1 y.1.1 y.1.2.1 y.1.2.2.1 y.1.2.2.2.1 y.1.2.2.2.2.1 y.2.1.1 y.2.1.2.1 (fun o0_w900001 => k (.exit 0) (z87L0_tl0 x.1 x.2.2.2.2.2.1 x.2.2.2.2.2.2.1 y.1.1 y.1.2.1 y.1.2.2.1 y.1.2.2.2.1 y.1.2.2.2.2.1 y.2.1.1 y.2.1.2.1 y.2.2.1.1 y.2.2.1.2.1 y.2.2.2.1.1 y.2.2.2.1.2.1 o0_w900001)) n s.1 s.2.1) (fun _ => rfl) (fun _ _ => rfl)
  (fun I s => z87L0_step N x.1 x.2.2.2.2.2.1 x.2.2.2.2.2.2.1 y.1.1 y.1.2.1 y.1.2.2.1 y.1.2.2.2.1 y.1.2.2.2.2.1 y.2.1.1 y.2.1.2.1 y.2.2.1.1 y.2.2.1.2.1 y.2.2.2.1.1 y.2.2.2.1.2.1 (fun j => k (.exit j)) I s.1 s.2.1) N (x.2.2.2.2.2.2.2.1, y.2.2.2.2.1, ())
theorem z87lp0 (N : Nat) : ∀ st k, (∀ st, k .ret st = (z87R N) st) → z87LP N 0 z87c0 st k = iter (Env.hint (z87E N) 0) (exec (z87E N) N z87c0 0) N st k := fun st k hk => LPc_eq 70 z87L0_fs z87L0_bs _ _ (z87R N) (z87L0_ok N) _ st k hk (rfl)
theorem z87core (N : Nat) (x : SV [.v τ4, .v τ13, .v τ0, .v τ16]) (y : BV []) : runL (z87E N) Tryz.f22 (z87g N) z87pk (z87LP N) x y = config_Plain N x.1 x.2.1 x.2.2.1 x.2.2.2.1 := by kernel_rfl
theorem z87sound (N : Nat) : Snd 22 (z87g N) :=
 sndL (z87fn_ok N) Tryz.func22 rfl Tryz.call22 (z87g N) z87pk (fun _ _ => rfl) N (z87LP N) (show LoopsOk (z87LP N) (z87E N) N (z87R N) [(0, z87c0)] from ⟨z87lp0 N, trivial⟩) (z87core N)
def ref3_ask (N : Nat) (x0 : τ18) (x1 : List τ5) (x2 : Str × List τ5) : Option Int :=
 bnd (ref3_CheckConditions N x0.1 x0.2.1) fun t13 =>
 br (t13 != (0 : Int))
  (some t13)
  (bnd (ref3_CheckConfig N x0.1 x1) fun t20 =>
  br (t20 != (0 : Int))
   (some t20)
   (bnd (ref3_CheckPlatforms N [x2]) fun t26 =>
   some t26))
abbrev z117sg (f : SV [.v τ4, .v τ0, .v τ16] → BV [] → Option (Int)) : AF := { ps := [.v τ4, .v τ0, .v τ16], bs := [], rs := [.v τ6], cs := [], R := Int, out := fun z => ((z, ()), ()), f := f }
noncomputable abbrev z117g (N : Nat) : AF := z117sg fun x _ => ref3_ask N x.1 x.2.1 x.2.2.1
abbrev z117pk : SV [.v τ6] → BV [] → Int := fun x _ => x.1
def z117fn (N : Nat) : FuncId → Option Tmp → Option AF := fun f _ =>
 match f with
  | 39 => some (z56g N)
  | 69 => some (z32g N)
  | 86 => some (z35g N)
  | _ => none
theorem z117fn_ok (N : Nat) : FnOk (z117fn N) := by
 intro f q F h
 unfold z117fn at h
 split at h
 · cases h; exact z56sound N
 · cases h; exact z32sound N
 · cases h; exact z35sound N
 · cases h
def z117h : Nat → Hint := fun i =>
 match i with
 | _ => hint0
abbrev z117E (N : Nat) : Env := mkE z117h (z117fn N) FF FF
noncomputable def z117LP (N : Nat) : Nat → Code → St → (Ex → St → Option Int) → Option Int := fun i c =>
 match i with
 | i => fun st k => iter (z117h i) (exec (z117E N) N c i) N st k
theorem z117core (N : Nat) (x : SV [.v τ4, .v τ0, .v τ16]) (y : BV []) : runL (z117E N) Tryz.f33 (z117g N) z117pk (z117LP N) x y = ref3_ask N x.1 x.2.1 x.2.2.1 := by kernel_rfl
theorem z117sound (N : Nat) : Snd 33 (z117g N) :=
 sndL (z117fn_ok N) Tryz.func33 rfl Tryz.call33 (z117g N) z117pk (fun _ _ => rfl) N (z117LP N) (show LoopsOk (z117LP N) (z117E N) N (resD (z117E N) Tryz.f33 (z117g N) z117pk) [] from trivial) (z117core N)
def z103L0T (_N : Nat) (x0 : Str) (c6 : Int) (k0 : τ30) (self : Int → Option Bool) (s7 : Int) : Option Bool :=
 br (decide (s7 < c6))
  (bnd (geti x0 s7) fun t12 =>
  br (decide (t12 < (97 : UInt8)))
   (br (decide (t12 < (65 : UInt8)))
    (br (decide (t12 < (48 : UInt8)))
     (bnd (strings_IndexByte ([46, 95, 45, 43] : Str) t12) fun t37 =>
     br (decide (t37 < (0 : Int)))
      (some false)
      (self (IntKind.i64.wrap (s7 + (1 : Int)))))
     (br (decide (t12 > (57 : UInt8)))
      (bnd (strings_IndexByte ([46, 95, 45, 43] : Str) t12) fun t37_1 =>
      br (decide (t37_1 < (0 : Int)))
       (some false)
       (self (IntKind.i64.wrap (s7 + (1 : Int)))))
      (self (IntKind.i64.wrap (s7 + (1 : Int))))))
    (br (decide (t12 > (90 : UInt8)))
     (br (decide (t12 < (48 : UInt8)))
      (bnd (strings_IndexByte ([46, 95, 45, 43] : Str) t12) fun t37_2 =>
      br (decide (t37_2 < (0 : Int)))
       (some false)
       (self (IntKind.i64.wrap (s7 + (1 : Int)))))
      (br (decide (t12 > (57 : UInt8)))
       (bnd (strings_IndexByte ([46, 95, 45, 43] : Str) t12) fun t37_3 =>
       br (decide (t37_3 < (0 : Int)))
        (some false)
        (self (IntKind.i64.wrap (s7 + (1 : Int)))))
       (self (IntKind.i64.wrap (s7 + (1 : Int))))))
     (self (IntKind.i64.wrap (s7 + (1 : Int))))))
   (br (decide (t12 > (122 : UInt8)))
    (br (decide (t12 < (65 : UInt8)))
     (br (decide (t12 < (48 : UInt8)))
      (bnd (strings_IndexByte ([46, 95, 45, 43] : Str) t12) fun t37_4 =>
      br (decide (t37_4 < (0 : Int)))
       (some false)
       (self (IntKind.i64.wrap (s7 + (1 : Int)))))
      (br (decide (t12 > (57 : UInt8)))
       (bnd (strings_IndexByte ([46, 95, 45, 43] : Str) t12) fun t37_5 =>
       br (decide (t37_5 < (0 : Int)))
        (some false)
        (self (IntKind.i64.wrap (s7 + (1 : Int)))))
       (self (IntKind.i64.wrap (s7 + (1 : Int))))))
     (br (decide (t12 > (90 : UInt8)))
      (br (decide (t12 < (48 : UInt8)))
       (bnd (strings_IndexByte ([46, 95, 45, 43] : Str) t12) fun t37_6 =>
       br (decide (t37_6 < (0 : Int)))
        (some false)
        (self (IntKind.i64.wrap (s7 + (1 : Int)))))
       (br (decide (t12 > (57 : UInt8)))
        (bnd (strings_IndexByte ([46, 95, 45, 43] : Str) t12) fun t37_7 =>
        br (decide (t37_7 < (0 : Int)))
         (some false)
         (self (IntKind.i64.wrap (s7 + (1 : Int)))))
        (self (IntKind.i64.wrap (s7 + (1 : Int))))))
      (self (IntKind.i64.wrap (s7 + (1 : Int))))))
    (self (IntKind.i64.wrap (s7 + (1 : Int))))))
  (k0)
def z103L0 (N : Nat) (x0 : Str) (c6 : Int) (k0 : τ30) : Nat → Int → Option Bool
 | 0, _ => none
 | n + 1, s7 => z103L0T N x0 c6 k0 (z103L0 N x0 c6 k0 n) s7
def ref2_isPart (N : Nat) (x0 : Str) : Option Bool :=
 z103L0 N x0 (x0.length : Int) (br (!(x0 == ([] : Str)))
    (br (!(x0 == ([46] : Str)))
     (some (!(x0 == ([46, 46] : Str))))
     (some false))
    (some false)) N (0 : Int)
abbrev z103sg (f : SV [.v .str] → BV [] → Option (Bool)) : AF := { ps := [.v .str], bs := [], rs := [.v .bool], cs := [], R := Bool, out := fun z => ((z, ()), ()), f := f }
noncomputable abbrev z103g (N : Nat) : AF := z103sg fun x _ => ref2_isPart N x.1
abbrev z103pk : SV [.v .bool] → BV [] → Bool := fun x _ => x.1
def z103fn (_N : Nat) : FuncId → Option Tmp → Option AF := fun f _ =>
 match f with
  | 205 => some (z52sg fun x _ => strings_IndexByte x.1 x.2.1)
  | _ => none
theorem z103fn_ok (N : Nat) : FnOk (z103fn N) := by
 intro f q F h
 unfold z103fn at h
 split at h
 · cases h; exact z52sound
 · cases h
def z103h : Nat → Hint := fun i =>
 match i with
 | 0 => ⟨[], [0, 6, 7], [], [0], [], []⟩
 | _ => hint0
abbrev z103E (N : Nat) : Env := mkE z103h (z103fn N) FF FF
noncomputable abbrev z103c0 : Code := cAt (bodyOf Tryz.f179) [true, false, true, false, false]
noncomputable abbrev z103R (N : Nat) := resD (z103E N) Tryz.f179 (z103g N) z103pk
abbrev z103L0_fs : List (Nat × Sl) := [(0, .v .str), (6, .v τ6), (7, .v τ6)]
abbrev z103L0_bs : List (Nat × Sb) := []
def z103L0_hd (x0 : Str) (c6 : Int) (s7 : Int) : St := ⟨51, [(0, .v .str x0), (6, .v τ6 c6), (7, .v τ6 s7)], []⟩
def z103L0_tl0 (x0 : Str) (_c6 : Int) : St := ⟨51, [(0, .v .str x0)], []⟩
def z103L0_G (N : Nat) (x0 : Str) (c6 : Int) (s7 : Int) (k : Ex → St → Option Bool) : Option Bool :=
 z103L0 N x0 c6 (k (.exit 0) (z103L0_tl0 x0 c6)) N s7
abbrev z103L0_F (N : Nat) : FV z103L0_fs → HV z103L0_bs → (Ex → St → Option Bool) → Option Bool := fun x _ k => z103L0_G N x.1 x.2.1 x.2.2.1 k
noncomputable def z103LP (N : Nat) : Nat → Code → St → (Ex → St → Option Bool) → Option Bool := fun i c =>
 match i with
 | 0 => (LPc 51 z103L0_fs z103L0_bs (z103L0_F N) (fun st k => iter (z103h 0) (exec (z103E N) N c 0) N st k))
 | i => fun st k => iter (z103h i) (exec (z103E N) N c i) N st k
theorem z103L0_step (N : Nat) (x0 : Str) (c6 : Int) (KX : Nat → St → Option Bool) (I : St → Option Bool) (s7 : Int) :
  execL (z103LP N) (z103E N) z103c0 0 (z103L0_hd x0 c6 s7) (roundK (z103h 0) I KX (z103R N)) = z103L0T N x0 c6 (KX 0 (z103L0_tl0 x0 c6)) (fun s7 => I (z103L0_hd x0 c6 s7)) s7 := by kernel_rfl
theorem z103L0_ok (N : Nat) : ∀ x y k, (∀ st, k .ret st = (z103R N) st) → iter (z103h 0) (exec (z103E N) N z103c0 0) N ⟨51, unF z103L0_fs x, unH z103L0_bs y⟩ k = z103L0_F N x y k := fun x _ k hk =>
 iter_link (S := (Int) × Unit) (z103h 0) _ (execL (z103LP N) (z103E N) z103c0 0) (z103R N) (fun st k hk => execL_eq _ _ N _ z103c0 0 (show LoopsOk (z103LP N) (z103E N) N (z103R N) [] from trivial) st k hk) (fun s => z103L0_hd x.1 x.2.1 s.1) k hk
  (fun self s => z103L0T N x.1 x.2.1 (k (.exit 0) (z103L0_tl0 x.1 x.2.1)) (fun s7 => self (s7, ())) s.1) (fun n s => z103L0 N x.1 x.2.1 (k (.exit 0) (z103L0_tl0 x.1 x.2.1)) n s.1) (fun _ => rfl) (fun _ _ => rfl)
  (fun I s => z103L0_step N x.1 x.2.1 (fun j => k (.exit j)) I s.1) N (x.2.2.1, ())
theorem z103lp0 (N : Nat) : ∀ st k, (∀ st, k .ret st = (z103R N) st) → z103LP N 0 z103c0 st k = iter (Env.hint (z103E N) 0) (exec (z103E N) N z103c0 0) N st k := fun st k hk => LPc_eq 51 z103L0_fs z103L0_bs _ _ (z103R N) (z103L0_ok N) _ st k hk (rfl)
theorem z103core (N : Nat) (x : SV [.v .str]) (y : BV []) : runL (z103E N) Tryz.f179 (z103g N) z103pk (z103LP N) x y = ref2_isPart N x.1 := by kernel_rfl
theorem z103sound (N : Nat) : Snd 179 (z103g N) :=
 sndL (z103fn_ok N) Tryz.func179 rfl Tryz.call179 (z103g N) z103pk (fun _ _ => rfl) N (z103LP N) (show LoopsOk (z103LP N) (z103E N) N (z103R N) [(0, z103c0)] from ⟨z103lp0 N, trivial⟩) (z103core N)
end
end Go.Proofs.YtbekhaioddmliaaGreatDoor

