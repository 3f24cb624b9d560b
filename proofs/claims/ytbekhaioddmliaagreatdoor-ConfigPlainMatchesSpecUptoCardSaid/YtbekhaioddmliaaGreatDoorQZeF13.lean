/- What functions of the program compute, as plain functions (printed). -/
import Derived.Test.YtbekhaioddmliaaGreatDoorQZeF12
namespace Go.Proofs.YtbekhaioddmliaaGreatDoor
open Go Go.RowKit
set_option maxRecDepth 100000
set_option linter.unusedVariables false
noncomputable section
def ref2_within (_N : Nat) (x0 : Int) (x1 : Int) (x2 : Int) : Option Bool :=
 br (decide (x1 ≤ x0))
  (some (decide (x0 ≤ x2)))
  (some false)
abbrev z105sg (f : SV [.v τ6, .v τ6, .v τ6] → BV [] → Option (Bool)) : AF := { ps := [.v τ6, .v τ6, .v τ6], bs := [], rs := [.v .bool], cs := [], R := Bool, out := fun z => ((z, ()), ()), f := f }
noncomputable abbrev z105g (N : Nat) : AF := z105sg fun x _ => ref2_within N x.1 x.2.1 x.2.2.1
abbrev z105pk : SV [.v .bool] → BV [] → Bool := fun x _ => x.1
def z105fn (_N : Nat) : FuncId → Option Tmp → Option AF := fun f _ =>
 match f with
  | _ => none
theorem z105fn_ok (N : Nat) : FnOk (z105fn N) := by
 intro f q F h
 unfold z105fn at h
 split at h
 · cases h
def z105h : Nat → Hint := fun i =>
 match i with
 | _ => hint0
abbrev z105E (N : Nat) : Env := mkE z105h (z105fn N) FF FF
noncomputable def z105LP (N : Nat) : Nat → Code → St → (Ex → St → Option Bool) → Option Bool := fun i c =>
 match i with
 | i => fun st k => iter (z105h i) (exec (z105E N) N c i) N st k
theorem z105core (N : Nat) (x : SV [.v τ6, .v τ6, .v τ6]) (y : BV []) : runL (z105E N) Tryz.f89 (z105g N) z105pk (z105LP N) x y = ref2_within N x.1 x.2.1 x.2.2.1 := by kernel_rfl
theorem z105sound (N : Nat) : Snd 89 (z105g N) :=
 sndL (z105fn_ok N) Tryz.func89 rfl Tryz.call89 (z105g N) z105pk (fun _ _ => rfl) N (z105LP N) (show LoopsOk (z105LP N) (z105E N) N (resD (z105E N) Tryz.f89 (z105g N) z105pk) [] from trivial) (z105core N)
def z102L0T (N : Nat) (t6 : List Str) (c7 : Int) (k0 : τ30) (self : Int → Option Bool) (s8 : Int) : Option Bool :=
 br (decide (s8 < c7))
  (bnd (geti t6 s8) fun t10 =>
  bnd (ref2_isPart N t10) fun t13 =>
  br (!t13)
   (some false)
   (self (IntKind.i64.wrap (s8 + (1 : Int)))))
  (k0)
def z102L0 (N : Nat) (t6 : List Str) (c7 : Int) (k0 : τ30) : Nat → Int → Option Bool
 | 0, _ => none
 | n + 1, s8 => z102L0T N t6 c7 k0 (z102L0 N t6 c7 k0 n) s8
def ref2_IsPath (N : Nat) (x0 : Str) : Option Bool :=
 bnd (strings_Split x0 ([47] : Str)) fun t6 =>
 z102L0 N t6 (t6.length : Int) (bnd (ref2_within N (x0.length : Int) (1 : Int) (200 : Int)) fun t18 =>
   some t18) N (0 : Int)
abbrev z102sg (f : SV [.v .str] → BV [] → Option (Bool)) : AF := { ps := [.v .str], bs := [], rs := [.v .bool], cs := [], R := Bool, out := fun z => ((z, ()), ()), f := f }
noncomputable abbrev z102g (N : Nat) : AF := z102sg fun x _ => ref2_IsPath N x.1
abbrev z102pk : SV [.v .bool] → BV [] → Bool := fun x _ => x.1
def z102fn (N : Nat) : FuncId → Option Tmp → Option AF := fun f _ =>
 match f with
  | 89 => some (z105g N)
  | 173 => some z86g
  | 179 => some (z103g N)
  | _ => none
theorem z102fn_ok (N : Nat) : FnOk (z102fn N) := by
 intro f q F h
 unfold z102fn at h
 split at h
 · cases h; exact z105sound N
 · cases h; exact z86sound
 · cases h; exact z103sound N
 · cases h
def z102h : Nat → Hint := fun i =>
 match i with
 | 0 => ⟨[], [0, 6, 7, 8], [], [0], [], []⟩
 | _ => hint0
abbrev z102E (N : Nat) : Env := mkE z102h (z102fn N) FF FF
noncomputable abbrev z102c0 : Code := cAt (bodyOf Tryz.f113) [true, false, true, false, false]
noncomputable abbrev z102R (N : Nat) := resD (z102E N) Tryz.f113 (z102g N) z102pk
abbrev z102L0_fs : List (Nat × Sl) := [(0, .v .str), (6, .v τ22), (7, .v τ6), (8, .v τ6)]
abbrev z102L0_bs : List (Nat × Sb) := []
def z102L0_hd (x0 : Str) (t6 : List Str) (c7 : Int) (s8 : Int) : St := ⟨19, [(0, .v .str x0), (6, .v τ22 t6), (7, .v τ6 c7), (8, .v τ6 s8)], []⟩
def z102L0_tl0 (x0 : Str) (_t6 : List Str) (_c7 : Int) : St := ⟨19, [(0, .v .str x0)], []⟩
def z102L0_G (N : Nat) (x0 : Str) (t6 : List Str) (c7 : Int) (s8 : Int) (k : Ex → St → Option Bool) : Option Bool :=
 z102L0 N t6 c7 (k (.exit 0) (z102L0_tl0 x0 t6 c7)) N s8
abbrev z102L0_F (N : Nat) : FV z102L0_fs → HV z102L0_bs → (Ex → St → Option Bool) → Option Bool := fun x _ k => z102L0_G N x.1 x.2.1 x.2.2.1 x.2.2.2.1 k
noncomputable def z102LP (N : Nat) : Nat → Code → St → (Ex → St → Option Bool) → Option Bool := fun i c =>
 match i with
 | 0 => (LPc 19 z102L0_fs z102L0_bs (z102L0_F N) (fun st k => iter (z102h 0) (exec (z102E N) N c 0) N st k))
 | i => fun st k => iter (z102h i) (exec (z102E N) N c i) N st k
theorem z102L0_step (N : Nat) (x0 : Str) (t6 : List Str) (c7 : Int) (KX : Nat → St → Option Bool) (I : St → Option Bool) (s8 : Int) :
  execL (z102LP N) (z102E N) z102c0 0 (z102L0_hd x0 t6 c7 s8) (roundK (z102h 0) I KX (z102R N)) = z102L0T N t6 c7 (KX 0 (z102L0_tl0 x0 t6 c7)) (fun s8 => I (z102L0_hd x0 t6 c7 s8)) s8 := by kernel_rfl
theorem z102L0_ok (N : Nat) : ∀ x y k, (∀ st, k .ret st = (z102R N) st) → iter (z102h 0) (exec (z102E N) N z102c0 0) N ⟨19, unF z102L0_fs x, unH z102L0_bs y⟩ k = z102L0_F N x y k := fun x _ k hk =>
 iter_link (S := (Int) × Unit) (z102h 0) _ (execL (z102LP N) (z102E N) z102c0 0) (z102R N) (fun st k hk => execL_eq _ _ N _ z102c0 0 (show LoopsOk (z102LP N) (z102E N) N (z102R N) [] from trivial) st k hk) (fun s => z102L0_hd x.1 x.2.1 x.2.2.1 s.1) k hk
  (fun self s => z102L0T N x.2.1 x.2.2.1 (k (.exit 0) (z102L0_tl0 x.1 x.2.1 x.2.2.1)) (fun s8 => self (s8, ())) s.1) (fun n s => z102L0 N x.2.1 x.2.2.1 (k (.exit 0) (z102L0_tl0 x.1 x.2.1 x.2.2.1)) n s.1) (fun _ => rfl) (fun _ _ => rfl)
  (fun I s => z102L0_step N x.1 x.2.1 x.2.2.1 (fun j => k (.exit j)) I s.1) N (x.2.2.2.1, ())
theorem z102lp0 (N : Nat) : ∀ st k, (∀ st, k .ret st = (z102R N) st) → z102LP N 0 z102c0 st k = iter (Env.hint (z102E N) 0) (exec (z102E N) N z102c0 0) N st k := fun st k hk => LPc_eq 19 z102L0_fs z102L0_bs _ _ (z102R N) (z102L0_ok N) _ st k hk (rfl)
theorem z102core (N : Nat) (x : SV [.v .str]) (y : BV []) : runL (z102E N) Tryz.f113 (z102g N) z102pk (z102LP N) x y = ref2_IsPath N x.1 := by kernel_rfl
theorem z102sound (N : Nat) : Snd 113 (z102g N) :=
 sndL (z102fn_ok N) Tryz.func113 rfl Tryz.call113 (z102g N) z102pk (fun _ _ => rfl) N (z102LP N) (show LoopsOk (z102LP N) (z102E N) N (z102R N) [(0, z102c0)] from ⟨z102lp0 N, trivial⟩) (z102core N)
def ref2_isNameByte (_N : Nat) (x0 : UInt8) : Option Bool :=
 br (decide (x0 ≥ (97 : UInt8)))
  (br (decide (x0 ≤ (122 : UInt8)))
   (some true)
   (br (decide (x0 ≥ (48 : UInt8)))
    (br (decide (x0 ≤ (57 : UInt8)))
     (some true)
     (some (x0 == (95 : UInt8))))
    (some (x0 == (95 : UInt8)))))
  (br (decide (x0 ≥ (48 : UInt8)))
   (br (decide (x0 ≤ (57 : UInt8)))
    (some true)
    (some (x0 == (95 : UInt8))))
   (some (x0 == (95 : UInt8))))
abbrev z65sg (f : SV [.v .u8] → BV [] → Option (Bool)) : AF := { ps := [.v .u8], bs := [], rs := [.v .bool], cs := [], R := Bool, out := fun z => ((z, ()), ()), f := f }
noncomputable abbrev z65g (N : Nat) : AF := z65sg fun x _ => ref2_isNameByte N x.1
abbrev z65pk : SV [.v .bool] → BV [] → Bool := fun x _ => x.1
def z65fn (_N : Nat) : FuncId → Option Tmp → Option AF := fun f _ =>
 match f with
  | _ => none
theorem z65fn_ok (N : Nat) : FnOk (z65fn N) := by
 intro f q F h
 unfold z65fn at h
 split at h
 · cases h
def z65h : Nat → Hint := fun i =>
 match i with
 | _ => hint0
abbrev z65E (N : Nat) : Env := mkE z65h (z65fn N) FF FF
noncomputable def z65LP (N : Nat) : Nat → Code → St → (Ex → St → Option Bool) → Option Bool := fun i c =>
 match i with
 | i => fun st k => iter (z65h i) (exec (z65E N) N c i) N st k
theorem z65core (N : Nat) (x : SV [.v .u8]) (y : BV []) : runL (z65E N) Tryz.f180 (z65g N) z65pk (z65LP N) x y = ref2_isNameByte N x.1 := by kernel_rfl
theorem z65sound (N : Nat) : Snd 180 (z65g N) :=
 sndL (z65fn_ok N) Tryz.func180 rfl Tryz.call180 (z65g N) z65pk (fun _ _ => rfl) N (z65LP N) (show LoopsOk (z65LP N) (z65E N) N (resD (z65E N) Tryz.f180 (z65g N) z65pk) [] from trivial) (z65core N)
def z101L0T (N : Nat) (x0 : Str) (c19 : Int) (k0 : τ30) (self : Int → Option Bool) (s20 : Int) : Option Bool :=
 br (decide (s20 < c19))
  (bnd (geti x0 s20) fun t25 =>
  bnd (ref2_isNameByte N t25) fun t26 =>
  br (!t26)
   (some false)
   (self (IntKind.i64.wrap (s20 + (1 : Int)))))
  (k0)
def z101L0 (N : Nat) (x0 : Str) (c19 : Int) (k0 : τ30) : Nat → Int → Option Bool
 | 0, _ => none
 | n + 1, s20 => z101L0T N x0 c19 k0 (z101L0 N x0 c19 k0 n) s20
def ref2_IsName (N : Nat) (x0 : Str) : Option Bool :=
 bnd (ref2_within N (x0.length : Int) (1 : Int) (40 : Int)) fun t6 =>
 br (!t6)
  (some false)
  (bnd (geti x0 (0 : Int)) fun t10 =>
  br (decide (t10 < (97 : UInt8)))
   (some false)
   (bnd (geti x0 (0 : Int)) fun t15 =>
   br (decide (t15 > (122 : UInt8)))
    (some false)
    (z101L0 N x0 (x0.length : Int) (bnd (strings_Split ([109, 97, 99, 114, 111, 32, 102, 111, 114, 32, 105, 110, 32, 105, 102, 32, 101, 108, 115, 101, 32, 117, 115, 101, 32, 102, 105, 108, 101, 115, 32, 99, 104, 111, 111, 115, 101] : Str) ([32] : Str)) fun t29 =>
      bnd (slices_Contains_string_string N t29 x0) fun t31 =>
      some (!t31)) N (0 : Int))))
abbrev z101sg (f : SV [.v .str] → BV [] → Option (Bool)) : AF := { ps := [.v .str], bs := [], rs := [.v .bool], cs := [], R := Bool, out := fun z => ((z, ()), ()), f := f }
noncomputable abbrev z101g (N : Nat) : AF := z101sg fun x _ => ref2_IsName N x.1
abbrev z101pk : SV [.v .bool] → BV [] → Bool := fun x _ => x.1
def z101fn (N : Nat) : FuncId → Option Tmp → Option AF := fun f _ =>
 match f with
  | 56 => some (z7g N)
  | 89 => some (z105g N)
  | 173 => some z86g
  | 180 => some (z65g N)
  | _ => none
theorem z101fn_ok (N : Nat) : FnOk (z101fn N) := by
 intro f q F h
 unfold z101fn at h
 split at h
 · cases h; exact z7sound N
 · cases h; exact z105sound N
 · cases h; exact z86sound
 · cases h; exact z65sound N
 · cases h
def z101h : Nat → Hint := fun i =>
 match i with
 | 0 => ⟨[], [0, 19, 20], [], [0], [], []⟩
 | _ => hint0
abbrev z101E (N : Nat) : Env := mkE z101h (z101fn N) FF FF
noncomputable abbrev z101c0 : Code := cAt (bodyOf Tryz.f114) [true, true, false, true, false, false]
noncomputable abbrev z101R (N : Nat) := resD (z101E N) Tryz.f114 (z101g N) z101pk
abbrev z101L0_fs : List (Nat × Sl) := [(0, .v .str), (19, .v τ6), (20, .v τ6)]
abbrev z101L0_bs : List (Nat × Sb) := []
def z101L0_hd (x0 : Str) (c19 : Int) (s20 : Int) : St := ⟨33, [(0, .v .str x0), (19, .v τ6 c19), (20, .v τ6 s20)], []⟩
def z101L0_tl0 (x0 : Str) (_c19 : Int) : St := ⟨33, [(0, .v .str x0)], []⟩
def z101L0_G (N : Nat) (x0 : Str) (c19 : Int) (s20 : Int) (k : Ex → St → Option Bool) : Option Bool :=
 z101L0 N x0 c19 (k (.exit 0) (z101L0_tl0 x0 c19)) N s20
abbrev z101L0_F (N : Nat) : FV z101L0_fs → HV z101L0_bs → (Ex → St → Option Bool) → Option Bool := fun x _ k => z101L0_G N x.1 x.2.1 x.2.2.1 k
noncomputable def z101LP (N : Nat) : Nat → Code → St → (Ex → St → Option Bool) → Option Bool := fun i c =>
 match i with
 | 0 => (LPc 33 z101L0_fs z101L0_bs (z101L0_F N) (fun st k => iter (z101h 0) (exec (z101E N) N c 0) N st k))
 | i => fun st k => iter (z101h i) (exec (z101E N) N c i) N st k
theorem z101L0_step (N : Nat) (x0 : Str) (c19 : Int) (KX : Nat → St → Option Bool) (I : St → Option Bool) (s20 : Int) :
  execL (z101LP N) (z101E N) z101c0 0 (z101L0_hd x0 c19 s20) (roundK (z101h 0) I KX (z101R N)) = z101L0T N x0 c19 (KX 0 (z101L0_tl0 x0 c19)) (fun s20 => I (z101L0_hd x0 c19 s20)) s20 := by kernel_rfl
theorem z101L0_ok (N : Nat) : ∀ x y k, (∀ st, k .ret st = (z101R N) st) → iter (z101h 0) (exec (z101E N) N z101c0 0) N ⟨33, unF z101L0_fs x, unH z101L0_bs y⟩ k = z101L0_F N x y k := fun x _ k hk =>
 iter_link (S := (Int) × Unit) (z101h 0) _ (execL (z101LP N) (z101E N) z101c0 0) (z101R N) (fun st k hk => execL_eq _ _ N _ z101c0 0 (show LoopsOk (z101LP N) (z101E N) N (z101R N) [] from trivial) st k hk) (fun s => z101L0_hd x.1 x.2.1 s.1) k hk
  (fun self s => z101L0T N x.1 x.2.1 (k (.exit 0) (z101L0_tl0 x.1 x.2.1)) (fun s20 => self (s20, ())) s.1) (fun n s => z101L0 N x.1 x.2.1 (k (.exit 0) (z101L0_tl0 x.1 x.2.1)) n s.1) (fun _ => rfl) (fun _ _ => rfl)
  (fun I s => z101L0_step N x.1 x.2.1 (fun j => k (.exit j)) I s.1) N (x.2.2.1, ())
theorem z101lp0 (N : Nat) : ∀ st k, (∀ st, k .ret st = (z101R N) st) → z101LP N 0 z101c0 st k = iter (Env.hint (z101E N) 0) (exec (z101E N) N z101c0 0) N st k := fun st k hk => LPc_eq 33 z101L0_fs z101L0_bs _ _ (z101R N) (z101L0_ok N) _ st k hk (rfl)
theorem z101core (N : Nat) (x : SV [.v .str]) (y : BV []) : runL (z101E N) Tryz.f114 (z101g N) z101pk (z101LP N) x y = ref2_IsName N x.1 := by kernel_rfl
theorem z101sound (N : Nat) : Snd 114 (z101g N) :=
 sndL (z101fn_ok N) Tryz.func114 rfl Tryz.call114 (z101g N) z101pk (fun _ _ => rfl) N (z101LP N) (show LoopsOk (z101LP N) (z101E N) N (z101R N) [(0, z101c0)] from ⟨z101lp0 N, trivial⟩) (z101core N)
def ref2_isPlain (_N : Nat) (x0 : GValue) : Option Bool :=
 br (x0.text == ([] : Str))
  (br (x0.number == (0 : Int))
   (br ((x0.list.length : Int) == (0 : Int))
    (br ((x0.cases.length : Int) == (0 : Int))
     (some true)
     (some (x0.kind == (4 : Int))))
    (br (x0.kind == (3 : Int))
     (br ((x0.cases.length : Int) == (0 : Int))
      (some true)
      (some (x0.kind == (4 : Int))))
     (some false)))
   (br (x0.kind == (2 : Int))
    (br ((x0.list.length : Int) == (0 : Int))
     (br ((x0.cases.length : Int) == (0 : Int))
      (some true)
      (some (x0.kind == (4 : Int))))
     (br (x0.kind == (3 : Int))
      (br ((x0.cases.length : Int) == (0 : Int))
       (some true)
       (some (x0.kind == (4 : Int))))
      (some false)))
    (some false)))
  (br (x0.kind == (1 : Int))
   (br (x0.number == (0 : Int))
    (br ((x0.list.length : Int) == (0 : Int))
     (br ((x0.cases.length : Int) == (0 : Int))
      (some true)
      (some (x0.kind == (4 : Int))))
     (br (x0.kind == (3 : Int))
      (br ((x0.cases.length : Int) == (0 : Int))
       (some true)
       (some (x0.kind == (4 : Int))))
      (some false)))
    (br (x0.kind == (2 : Int))
     (br ((x0.list.length : Int) == (0 : Int))
      (br ((x0.cases.length : Int) == (0 : Int))
       (some true)
       (some (x0.kind == (4 : Int))))
      (br (x0.kind == (3 : Int))
       (br ((x0.cases.length : Int) == (0 : Int))
        (some true)
        (some (x0.kind == (4 : Int))))
       (some false)))
     (some false)))
   (some false))
abbrev z89sg (f : SV [.v τ15] → BV [] → Option (Bool)) : AF := { ps := [.v τ15], bs := [], rs := [.v .bool], cs := [], R := Bool, out := fun z => ((z, ()), ()), f := f }
noncomputable abbrev z89g (N : Nat) : AF := z89sg fun x _ => ref2_isPlain N x.1
abbrev z89pk : SV [.v .bool] → BV [] → Bool := fun x _ => x.1
def z89fn (_N : Nat) : FuncId → Option Tmp → Option AF := fun f _ =>
 match f with
  | _ => none
theorem z89fn_ok (N : Nat) : FnOk (z89fn N) := by
 intro f q F h
 unfold z89fn at h
 split at h
 · cases h
def z89h : Nat → Hint := fun i =>
 match i with
 | _ => hint0
abbrev z89E (N : Nat) : Env := mkE z89h (z89fn N) FF FF
noncomputable def z89LP (N : Nat) : Nat → Code → St → (Ex → St → Option Bool) → Option Bool := fun i c =>
 match i with
 | i => fun st k => iter (z89h i) (exec (z89E N) N c i) N st k
theorem z89core (N : Nat) (x : SV [.v τ15]) (y : BV []) : runL (z89E N) Tryz.f87 (z89g N) z89pk (z89LP N) x y = ref2_isPlain N x.1 := by kernel_rfl
theorem z89sound (N : Nat) : Snd 87 (z89g N) :=
 sndL (z89fn_ok N) Tryz.func87 rfl Tryz.call87 (z89g N) z89pk (fun _ _ => rfl) N (z89LP N) (show LoopsOk (z89LP N) (z89E N) N (resD (z89E N) Tryz.f87 (z89g N) z89pk) [] from trivial) (z89core N)
def z104L0T (_N : Nat) (x0 : Str) (c5 : Int) (k0 : τ30) (self : Int → Option Bool) (s6 : Int) : Option Bool :=
 br (decide (s6 < c5))
  (bnd (geti x0 s6) fun t11 =>
  br (t11 != (10 : UInt8))
   (bnd (geti x0 s6) fun t16 =>
   br (decide (t16 < (32 : UInt8)))
    (some false)
    (bnd (geti x0 s6) fun t21 =>
    br (decide (t21 > (126 : UInt8)))
     (some false)
     (self (IntKind.i64.wrap (s6 + (1 : Int))))))
   (self (IntKind.i64.wrap (s6 + (1 : Int)))))
  (k0)
def z104L0 (N : Nat) (x0 : Str) (c5 : Int) (k0 : τ30) : Nat → Int → Option Bool
 | 0, _ => none
 | n + 1, s6 => z104L0T N x0 c5 k0 (z104L0 N x0 c5 k0 n) s6
def ref2_isText (N : Nat) (x0 : Str) : Option Bool :=
 z104L0 N x0 (x0.length : Int) (some true) N (0 : Int)
abbrev z104sg (f : SV [.v .str] → BV [] → Option (Bool)) : AF := { ps := [.v .str], bs := [], rs := [.v .bool], cs := [], R := Bool, out := fun z => ((z, ()), ()), f := f }
noncomputable abbrev z104g (N : Nat) : AF := z104sg fun x _ => ref2_isText N x.1
abbrev z104pk : SV [.v .bool] → BV [] → Bool := fun x _ => x.1
def z104fn (_N : Nat) : FuncId → Option Tmp → Option AF := fun f _ =>
 match f with
  | _ => none
theorem z104fn_ok (N : Nat) : FnOk (z104fn N) := by
 intro f q F h
 unfold z104fn at h
 split at h
 · cases h
def z104h : Nat → Hint := fun i =>
 match i with
 | 0 => ⟨[], [0, 5, 6], [], [], [], []⟩
 | _ => hint0
abbrev z104E (N : Nat) : Env := mkE z104h (z104fn N) FF FF
noncomputable abbrev z104c0 : Code := cAt (bodyOf Tryz.f88) [true, false, true, false, false]
noncomputable abbrev z104R (N : Nat) := resD (z104E N) Tryz.f88 (z104g N) z104pk
abbrev z104L0_fs : List (Nat × Sl) := [(0, .v .str), (5, .v τ6), (6, .v τ6)]
abbrev z104L0_bs : List (Nat × Sb) := []
def z104L0_hd (x0 : Str) (c5 : Int) (s6 : Int) : St := ⟨26, [(0, .v .str x0), (5, .v τ6 c5), (6, .v τ6 s6)], []⟩
def z104L0_tl0 (_x0 : Str) (_c5 : Int) : St := ⟨26, [], []⟩
def z104L0_G (N : Nat) (x0 : Str) (c5 : Int) (s6 : Int) (k : Ex → St → Option Bool) : Option Bool :=
 z104L0 N x0 c5 (k (.exit 0) (z104L0_tl0 x0 c5)) N s6
abbrev z104L0_F (N : Nat) : FV z104L0_fs → HV z104L0_bs → (Ex → St → Option Bool) → Option Bool := fun x _ k => z104L0_G N x.1 x.2.1 x.2.2.1 k
noncomputable def z104LP (N : Nat) : Nat → Code → St → (Ex → St → Option Bool) → Option Bool := fun i c =>
 match i with
 | 0 => (LPc 26 z104L0_fs z104L0_bs (z104L0_F N) (fun st k => iter (z104h 0) (exec (z104E N) N c 0) N st k))
 | i => fun st k => iter (z104h i) (exec (z104E N) N c i) N st k
theorem z104L0_step (N : Nat) (x0 : Str) (c5 : Int) (KX : Nat → St → Option Bool) (I : St → Option Bool) (s6 : Int) :
  execL (z104LP N) (z104E N) z104c0 0 (z104L0_hd x0 c5 s6) (roundK (z104h 0) I KX (z104R N)) = z104L0T N x0 c5 (KX 0 (z104L0_tl0 x0 c5)) (fun s6 => I (z104L0_hd x0 c5 s6)) s6 := by kernel_rfl
theorem z104L0_ok (N : Nat) : ∀ x y k, (∀ st, k .ret st = (z104R N) st) → iter (z104h 0) (exec (z104E N) N z104c0 0) N ⟨26, unF z104L0_fs x, unH z104L0_bs y⟩ k = z104L0_F N x y k := fun x _ k hk =>
 iter_link (S := (Int) × Unit) (z104h 0) _ (execL (z104LP N) (z104E N) z104c0 0) (z104R N) (fun st k hk => execL_eq _ _ N _ z104c0 0 (show LoopsOk (z104LP N) (z104E N) N (z104R N) [] from trivial) st k hk) (fun s => z104L0_hd x.1 x.2.1 s.1) k hk
  (fun self s => z104L0T N x.1 x.2.1 (k (.exit 0) (z104L0_tl0 x.1 x.2.1)) (fun s6 => self (s6, ())) s.1) (fun n s => z104L0 N x.1 x.2.1 (k (.exit 0) (z104L0_tl0 x.1 x.2.1)) n s.1) (fun _ => rfl) (fun _ _ => rfl)
  (fun I s => z104L0_step N x.1 x.2.1 (fun j => k (.exit j)) I s.1) N (x.2.2.1, ())
theorem z104lp0 (N : Nat) : ∀ st k, (∀ st, k .ret st = (z104R N) st) → z104LP N 0 z104c0 st k = iter (Env.hint (z104E N) 0) (exec (z104E N) N z104c0 0) N st k := fun st k hk => LPc_eq 26 z104L0_fs z104L0_bs _ _ (z104R N) (z104L0_ok N) _ st k hk (rfl)
theorem z104core (N : Nat) (x : SV [.v .str]) (y : BV []) : runL (z104E N) Tryz.f88 (z104g N) z104pk (z104LP N) x y = ref2_isText N x.1 := by kernel_rfl
theorem z104sound (N : Nat) : Snd 88 (z104g N) :=
 sndL (z104fn_ok N) Tryz.func88 rfl Tryz.call88 (z104g N) z104pk (fun _ _ => rfl) N (z104LP N) (show LoopsOk (z104LP N) (z104E N) N (z104R N) [(0, z104c0)] from ⟨z104lp0 N, trivial⟩) (z104core N)
def ref2_checkText (N : Nat) (x0 : Str) : Option Int :=
 br (decide ((x0.length : Int) > (1000 : Int)))
  (some (2 : Int))
  (bnd (ref2_isText N x0) fun t7 =>
  br (!t7)
   (some (3 : Int))
   (some (0 : Int)))
abbrev z73sg (f : SV [.v .str] → BV [] → Option (Int)) : AF := { ps := [.v .str], bs := [], rs := [.v τ6], cs := [], R := Int, out := fun z => ((z, ()), ()), f := f }
noncomputable abbrev z73g (N : Nat) : AF := z73sg fun x _ => ref2_checkText N x.1
abbrev z73pk : SV [.v τ6] → BV [] → Int := fun x _ => x.1
def z73fn (N : Nat) : FuncId → Option Tmp → Option AF := fun f _ =>
 match f with
  | 88 => some (z104g N)
  | _ => none
theorem z73fn_ok (N : Nat) : FnOk (z73fn N) := by
 intro f q F h
 unfold z73fn at h
 split at h
 · cases h; exact z104sound N
 · cases h
def z73h : Nat → Hint := fun i =>
 match i with
 | _ => hint0
abbrev z73E (N : Nat) : Env := mkE z73h (z73fn N) FF FF
noncomputable def z73LP (N : Nat) : Nat → Code → St → (Ex → St → Option Int) → Option Int := fun i c =>
 match i with
 | i => fun st k => iter (z73h i) (exec (z73E N) N c i) N st k
theorem z73core (N : Nat) (x : SV [.v .str]) (y : BV []) : runL (z73E N) Tryz.f137 (z73g N) z73pk (z73LP N) x y = ref2_checkText N x.1 := by kernel_rfl
theorem z73sound (N : Nat) : Snd 137 (z73g N) :=
 sndL (z73fn_ok N) Tryz.func137 rfl Tryz.call137 (z73g N) z73pk (fun _ _ => rfl) N (z73LP N) (show LoopsOk (z73LP N) (z73E N) N (resD (z73E N) Tryz.f137 (z73g N) z73pk) [] from trivial) (z73core N)
abbrev z64sg (f : SV [.v (.sl τ3)] → BV [] → Option (Int)) : AF := { ps := [.v (.sl τ3)], bs := [], rs := [.v τ6], cs := [], R := Int, out := fun z => ((z, ()), ()), f := f }
def z63L0T (_N : Nat) (r_ref2_checkCases : τ21 → Option (Int)) (c35 : List Str) (c36 : Int) (k0 : τ26) (self : Int → Option Int) (s37 : Int) : Option Int :=
 br (decide (s37 < c36))
  (bnd (geti c35 s37) fun t39 =>
  br (decide ((t39.length : Int) > (1000 : Int)))
   (some (2 : Int))
   (self (IntKind.i64.wrap (s37 + (1 : Int)))))
  (k0)
def z63L0 (N : Nat) (r_ref2_checkCases : τ21 → Option (Int)) (c35 : List Str) (c36 : Int) (k0 : τ26) : Nat → Int → Option Int
 | 0, _ => none
 | n + 1, s37 => z63L0T N r_ref2_checkCases c35 c36 k0 (z63L0 N r_ref2_checkCases c35 c36 k0 n) s37
def z63L1T (N : Nat) (r_ref2_checkCases : τ21 → Option (Int)) (c50 : List Str) (c51 : Int) (k2 : τ26) (self : Int → Option Int) (s52 : Int) : Option Int :=
 br (decide (s52 < c51))
  (bnd (geti c50 s52) fun t54 =>
  bnd (ref2_isText N t54) fun t57 =>
  br (!t57)
   (some (3 : Int))
   (self (IntKind.i64.wrap (s52 + (1 : Int)))))
  (k2)
def z63L1 (N : Nat) (r_ref2_checkCases : τ21 → Option (Int)) (c50 : List Str) (c51 : Int) (k2 : τ26) : Nat → Int → Option Int
 | 0, _ => none
 | n + 1, s52 => z63L1T N r_ref2_checkCases c50 c51 k2 (z63L1 N r_ref2_checkCases c50 c51 k2 n) s52
def ref2_CheckValue (N : Nat) (r_ref2_checkCases : τ21 → Option (Int)) (x0 : GValue) : Option Int :=
 br (decide (x0.kind < (1 : Int)))
  (some (4 : Int))
  (br (decide (x0.kind > (4 : Int)))
   (some (4 : Int))
   (bnd (ref2_isPlain N (GValue.mk x0.kind x0.text x0.number x0.list x0.cases)) fun t16 =>
   br (!t16)
    (some (3 : Int))
    (br (decide ((x0.text.length : Int) > (1000 : Int)))
     (some (2 : Int))
     (br (decide ((x0.list.length : Int) > (1000 : Int)))
      (some (2 : Int))
      (br (decide ((x0.cases.length : Int) > (50 : Int)))
       (some (2 : Int))
       (z63L0 N r_ref2_checkCases x0.list (x0.list.length : Int) (bnd (ref2_isText N x0.text) fun t47 =>
         br (!t47)
          (some (3 : Int))
          (z63L1 N r_ref2_checkCases x0.list (x0.list.length : Int) (bnd (ref2_within N x0.number (0 : Int) (999999999 : Int)) fun t62 =>
            br (!t62)
             (some (1 : Int))
             (br (x0.kind == (4 : Int))
              (bnd (r_ref2_checkCases x0.cases) fun t69 =>
              some t69)
              (some (0 : Int)))) N (0 : Int))) N (0 : Int)))))))
abbrev z63sg (f : SV [.v τ15] → BV [] → Option (Int)) : AF := { ps := [.v τ15], bs := [], rs := [.v τ6], cs := [], R := Int, out := fun z => ((z, ()), ()), f := f }
abbrev z63pk : SV [.v τ6] → BV [] → Int := fun x _ => x.1
def z63fn (N : Nat) (r_ref2_checkCases : τ21 → Option (Int)) : FuncId → Option Tmp → Option AF := fun f _ =>
 match f with
  | 87 => some (z89g N)
  | 88 => some (z104g N)
  | 89 => some (z105g N)
  | 90 => some (z64sg fun x _ => r_ref2_checkCases x.1)
  | _ => none
theorem z63fn_ok (N : Nat) (r_ref2_checkCases : τ21 → Option (Int)) (h_ref2_checkCases : Sound Tryz.prog GW B0G 90 (z64sg fun x y => r_ref2_checkCases x.1)) : ∀ f q F, z63fn N r_ref2_checkCases f q = some F → Sound Tryz.prog GW B0G f F := by
 intro f q F h
 unfold z63fn at h
 split at h
 · cases h; exact z89sound N
 · cases h; exact z104sound N
 · cases h; exact z105sound N
 · cases h; exact h_ref2_checkCases
 · cases h
def z63h : Nat → Hint := fun i =>
 match i with
 | 0 => ⟨[], [1, 35, 36, 37], [1001], [1], [1001], []⟩
 | 2 => ⟨[], [1, 50, 51, 52], [1001], [1], [1001], []⟩
 | _ => hint0
abbrev z63E (N : Nat) (r_ref2_checkCases : τ21 → Option (Int)) : Env := mkE z63h (z63fn N r_ref2_checkCases) (fun _ => false) (fun _ => false)
noncomputable abbrev z63c1 : Code := cAt (bodyOf Tryz.f34) [true, true, true, true, false, true, false, false]
noncomputable abbrev z63c0 : Code := cAt (bodyOf Tryz.f34) [true, true, true, true, true, true, false, true, false, false]
abbrev z63L0_fs : List (Nat × Sl) := [(1, .box 1001 0), (35, .v τ22), (36, .v τ6), (37, .v τ6)]
abbrev z63L0_bs : List (Nat × Sb) := [(1001, .cells [.v τ6, .v .str, .v τ6, .v τ22, .v (.sl τ3)])]
def z63L0_hd (c35 : List Str) (c36 : Int) (κ1_0 : Int) (κ1_1 : Str) (κ1_2 : Int) (κ1_3 : List Str) (κ1_4 : List τ2) (s37 : Int) : St := ⟨70, [(1, .box 1001 0), (35, .v τ22 c35), (36, .v τ6 c36), (37, .v τ6 s37)], [(1001, .cells [.v τ6 κ1_0, .v .str κ1_1, .v τ6 κ1_2, .v τ22 κ1_3, .v (.sl τ3) κ1_4])]⟩
def z63L0_tl0 (_c35 : List Str) (_c36 : Int) (κ1_0 : Int) (κ1_1 : Str) (κ1_2 : Int) (κ1_3 : List Str) (κ1_4 : List τ2) : St := ⟨70, [(1, .box 1001 0)], [(1001, .cells [.v τ6 κ1_0, .v .str κ1_1, .v τ6 κ1_2, .v τ22 κ1_3, .v (.sl τ3) κ1_4])]⟩
def z63L0_G (N : Nat) (r_ref2_checkCases : τ21 → Option (Int)) (c35 : List Str) (c36 : Int) (κ1_0 : Int) (κ1_1 : Str) (κ1_2 : Int) (κ1_3 : List Str) (κ1_4 : List τ2) (s37 : Int) (k : Ex → St → Option Int) : Option Int :=
 z63L0 N r_ref2_checkCases c35 c36 (k (.exit 0) (z63L0_tl0 c35 c36 κ1_0 κ1_1 κ1_2 κ1_3 κ1_4)) N s37
abbrev z63L0_F (N : Nat) (r_ref2_checkCases : τ21 → Option (Int)) : FV z63L0_fs → HV z63L0_bs → (Ex → St → Option Int) → Option Int := fun x y k => z63L0_G N r_ref2_checkCases x.2.1 x.2.2.1 y.1.1 y.1.2.1 y.1.2.2.1 y.1.2.2.2.1 y.1.2.2.2.2.1 x.2.2.2.1 k
abbrev z63L1_fs : List (Nat × Sl) := [(1, .box 1001 0), (50, .v τ22), (51, .v τ6), (52, .v τ6)]
abbrev z63L1_bs : List (Nat × Sb) := [(1001, .cells [.v τ6, .v .str, .v τ6, .v τ22, .v (.sl τ3)])]
def z63L1_hd (c50 : List Str) (c51 : Int) (c1001_0_1 : Int) (c1001_1_2 : Str) (c1001_2_3 : Int) (c1001_3_4 : List Str) (c1001_4_5 : List τ2) (s52 : Int) : St := ⟨70, [(1, .box 1001 0), (50, .v τ22 c50), (51, .v τ6 c51), (52, .v τ6 s52)], [(1001, .cells [.v τ6 c1001_0_1, .v .str c1001_1_2, .v τ6 c1001_2_3, .v τ22 c1001_3_4, .v (.sl τ3) c1001_4_5])]⟩
def z63L1_tl2 (_c50 : List Str) (_c51 : Int) (c1001_0_1 : Int) (c1001_1_2 : Str) (c1001_2_3 : Int) (c1001_3_4 : List Str) (c1001_4_5 : List τ2) : St := ⟨70, [(1, .box 1001 0)], [(1001, .cells [.v τ6 c1001_0_1, .v .str c1001_1_2, .v τ6 c1001_2_3, .v τ22 c1001_3_4, .v (.sl τ3) c1001_4_5])]⟩
def z63L1_G (N : Nat) (r_ref2_checkCases : τ21 → Option (Int)) (c50 : List Str) (c51 : Int) (c1001_0_1 : Int) (c1001_1_2 : Str) (c1001_2_3 : Int) (c1001_3_4 : List Str) (c1001_4_5 : List τ2) (s52 : Int) (k : Ex → St → Option Int) : Option Int :=
 z63L1 N r_ref2_checkCases c50 c51 (k (.exit 2) (z63L1_tl2 c50 c51 c1001_0_1 c1001_1_2 c1001_2_3 c1001_3_4 c1001_4_5)) N s52
abbrev z63L1_F (N : Nat) (r_ref2_checkCases : τ21 → Option (Int)) : FV z63L1_fs → HV z63L1_bs → (Ex → St → Option Int) → Option Int := fun x y k => z63L1_G N r_ref2_checkCases x.2.1 x.2.2.1 y.1.1 y.1.2.1 y.1.2.2.1 y.1.2.2.2.1 y.1.2.2.2.2.1 x.2.2.2.1 k
noncomputable def z63LP (N : Nat) (r_ref2_checkCases : τ21 → Option (Int)) : Nat → Code → St → (Ex → St → Option Int) → Option Int := fun i c =>
 match i with
 | 0 => (LPc 70 z63L0_fs z63L0_bs (z63L0_F N r_ref2_checkCases) (fun st k => iter (z63h 0) (exec (z63E N r_ref2_checkCases) N c 0) N st k))
 | 2 => (LPc 70 z63L1_fs z63L1_bs (z63L1_F N r_ref2_checkCases) (fun st k => iter (z63h 2) (exec (z63E N r_ref2_checkCases) N c 2) N st k))
 | i => fun st k => iter (z63h i) (exec (z63E N r_ref2_checkCases) N c i) N st k
theorem z63L1_step (N : Nat) (r_ref2_checkCases : τ21 → Option (Int)) (c50 : List Str) (c51 : Int) (c1001_0_1 : Int) (c1001_1_2 : Str) (c1001_2_3 : Int) (c1001_3_4 : List Str) (c1001_4_5 : List τ2) (KX : Nat → St → Option Int) (I : St → Option Int) (s52 : Int) :
  execL (z63LP N r_ref2_checkCases) (z63E N r_ref2_checkCases) z63c0 2 (z63L1_hd c50 c51 c1001_0_1 c1001_1_2 c1001_2_3 c1001_3_4 c1001_4_5 s52) (roundK (z63h 2) I KX (resD (z63E N r_ref2_checkCases) Tryz.f34 (z63sg fun x _ => ref2_CheckValue N r_ref2_checkCases x.1) z63pk)) = z63L1T N r_ref2_checkCases c50 c51 (KX 2 (z63L1_tl2 c50 c51 c1001_0_1 c1001_1_2 c1001_2_3 c1001_3_4 c1001_4_5)) (fun s52 => I (z63L1_hd c50 c51 c1001_0_1 c1001_1_2 c1001_2_3 c1001_3_4 c1001_4_5 s52)) s52 := by kernel_rfl
theorem z63L1_ok (N : Nat) (r_ref2_checkCases : τ21 → Option (Int)) : ∀ x y k, (∀ st, k .ret st = (resD (z63E N r_ref2_checkCases) Tryz.f34 (z63sg fun x _ => ref2_CheckValue N r_ref2_checkCases x.1) z63pk) st) → iter (z63h 2) (exec (z63E N r_ref2_checkCases) N z63c0 2) N ⟨70, unF z63L1_fs x, unH z63L1_bs y⟩ k = z63L1_F N r_ref2_checkCases x y k := fun x y k hk =>
 iter_link (S := (Int) × Unit) (z63h 2) _ (execL (z63LP N r_ref2_checkCases) (z63E N r_ref2_checkCases) z63c0 2) (resD (z63E N r_ref2_checkCases) Tryz.f34 (z63sg fun x _ => ref2_CheckValue N r_ref2_checkCases x.1) z63pk) (fun st k hk => execL_eq _ _ N _ z63c0 2 (show LoopsOk (z63LP N r_ref2_checkCases) (z63E N r_ref2_checkCases) N (resD (z63E N r_ref2_checkCases) Tryz.f34 (z63sg fun x _ => ref2_CheckValue N r_ref2_checkCases x.1) z63pk) [] from trivial) st k hk) (fun s => z63L1_hd x.2.1 x.2.2.1 y.1.1 y.1.2.1 y.1.2.2.1 y.1.2.2.2.1 y.1.2.2.2.2.1 s.1) k hk
  (fun self s => z63L1T N r_ref2_checkCases x.2.1 x.2.2.1 (k (.exit 2) (z63L1_tl2 x.2.1 x.2.2.1 y.1.1 y.1.2.1 y.1.2.2.1 y.1.2.2.2.1 y.1.2.2.2.2.1)) (fun s52 => self (s52, ())) s.1) (fun n s => z63L1 N r_ref2_checkCases x.2.1 x.2.2.1 (k (.exit 2) (z63L1_tl2 x.2.1 x.2.2.1 y.1.1 y.1.2.1 y.1.2.2.1 y.1.2.2.2.1 y.1.2.2.2.2.1)) n s.1) (fun _ => rfl) (fun _ _ => rfl)
  (fun I s => z63L1_step N r_ref2_checkCases x.2.1 x.2.2.1 y.1.1 y.1.2.1 y.1.2.2.1 y.1.2.2.2.1 y.1.2.2.2.2.1 (fun j => k (.exit j)) I s.1) N (x.2.2.2.1, ())
theorem z63lp2 (N : Nat) (r_ref2_checkCases : τ21 → Option (Int)) : ∀ st k, (∀ st, k .ret st = (resD (z63E N r_ref2_checkCases) Tryz.f34 (z63sg fun x _ => ref2_CheckValue N r_ref2_checkCases x.1) z63pk) st) → z63LP N r_ref2_checkCases 2 z63c0 st k = iter (Env.hint (z63E N r_ref2_checkCases) 2) (exec (z63E N r_ref2_checkCases) N z63c0 2) N st k := fun st k hk => LPc_eq 70 z63L1_fs z63L1_bs _ _ (resD (z63E N r_ref2_checkCases) Tryz.f34 (z63sg fun x _ => ref2_CheckValue N r_ref2_checkCases x.1) z63pk) (z63L1_ok N r_ref2_checkCases) _ st k hk (rfl)
theorem z63L0_step (N : Nat) (r_ref2_checkCases : τ21 → Option (Int)) (c35 : List Str) (c36 : Int) (κ1_0 : Int) (κ1_1 : Str) (κ1_2 : Int) (κ1_3 : List Str) (κ1_4 : List τ2) (KX : Nat → St → Option Int) (I : St → Option Int) (s37 : Int) :
  execL (z63LP N r_ref2_checkCases) (z63E N r_ref2_checkCases) z63c1 0 (z63L0_hd c35 c36 κ1_0 κ1_1 κ1_2 κ1_3 κ1_4 s37) (roundK (z63h 0) I KX (resD (z63E N r_ref2_checkCases) Tryz.f34 (z63sg fun x _ => ref2_CheckValue N r_ref2_checkCases x.1) z63pk)) = z63L0T N r_ref2_checkCases c35 c36 (KX 0 (z63L0_tl0 c35 c36 κ1_0 κ1_1 κ1_2 κ1_3 κ1_4)) (fun s37 => I (z63L0_hd c35 c36 κ1_0 κ1_1 κ1_2 κ1_3 κ1_4 s37)) s37 := by kernel_rfl
theorem z63L0_ok (N : Nat) (r_ref2_checkCases : τ21 → Option (Int)) : ∀ x y k, (∀ st, k .ret st = (resD (z63E N r_ref2_checkCases) Tryz.f34 (z63sg fun x _ => ref2_CheckValue N r_ref2_checkCases x.1) z63pk) st) → iter (z63h 0) (exec (z63E N r_ref2_checkCases) N z63c1 0) N ⟨70, unF z63L0_fs x, unH z63L0_bs y⟩ k = z63L0_F N r_ref2_checkCases x y k := fun x y k hk =>
 iter_link (S := (Int) × Unit) (z63h 0) _ (execL (z63LP N r_ref2_checkCases) (z63E N r_ref2_checkCases) z63c1 0) (resD (z63E N r_ref2_checkCases) Tryz.f34 (z63sg fun x _ => ref2_CheckValue N r_ref2_checkCases x.1) z63pk) (fun st k hk => execL_eq _ _ N _ z63c1 0 (show LoopsOk (z63LP N r_ref2_checkCases) (z63E N r_ref2_checkCases) N (resD (z63E N r_ref2_checkCases) Tryz.f34 (z63sg fun x _ => ref2_CheckValue N r_ref2_checkCases x.1) z63pk) [] from trivial) st k hk) (fun s => z63L0_hd x.2.1 x.2.2.1 y.1.1 y.1.2.1 y.1.2.2.1 y.1.2.2.2.1 y.1.2.2.2.2.1 s.1) k hk
  (fun self s => z63L0T N r_ref2_checkCases x.2.1 x.2.2.1 (k (.exit 0) (z63L0_tl0 x.2.1 x.2.2.1 y.1.1 y.1.2.1 y.1.2.2.1 y.1.2.2.2.1 y.1.2.2.2.2.1)) (fun s37 => self (s37, ())) s.1) (fun n s => z63L0 N r_ref2_checkCases x.2.1 x.2.2.1 (k (.exit 0) (z63L0_tl0 x.2.1 x.2.2.1 y.1.1 y.1.2.1 y.1.2.2.1 y.1.2.2.2.1 y.1.2.2.2.2.1)) n s.1) (fun _ => rfl) (fun _ _ => rfl)
  (fun I s => z63L0_step N r_ref2_checkCases x.2.1 x.2.2.1 y.1.1 y.1.2.1 y.1.2.2.1 y.1.2.2.2.1 y.1.2.2.2.2.1 (fun j => k (.exit j)) I s.1) N (x.2.2.2.1, ())
theorem z63lp0 (N : Nat) (r_ref2_checkCases : τ21 → Option (Int)) : ∀ st k, (∀ st, k .ret st = (resD (z63E N r_ref2_checkCases) Tryz.f34 (z63sg fun x _ => ref2_CheckValue N r_ref2_checkCases x.1) z63pk) st) → z63LP N r_ref2_checkCases 0 z63c1 st k = iter (Env.hint (z63E N r_ref2_checkCases) 0) (exec (z63E N r_ref2_checkCases) N z63c1 0) N st k := fun st k hk => LPc_eq 70 z63L0_fs z63L0_bs _ _ (resD (z63E N r_ref2_checkCases) Tryz.f34 (z63sg fun x _ => ref2_CheckValue N r_ref2_checkCases x.1) z63pk) (z63L0_ok N r_ref2_checkCases) _ st k hk (rfl)
theorem z63core (N : Nat) (r_ref2_checkCases : τ21 → Option (Int)) (x : SV [.v τ15]) (y : BV []) : runL (z63E N r_ref2_checkCases) Tryz.f34 (z63sg fun x _ => ref2_CheckValue N r_ref2_checkCases x.1) z63pk (z63LP N r_ref2_checkCases) x y = ref2_CheckValue N r_ref2_checkCases x.1 := by kernel_rfl
theorem z63sound (N : Nat) (r_ref2_checkCases : τ21 → Option (Int)) (h_ref2_checkCases : Sound Tryz.prog GW B0G 90 (z64sg fun x y => r_ref2_checkCases x.1)) : Sound Tryz.prog GW B0G 34 (z63sg fun x _ => ref2_CheckValue N r_ref2_checkCases x.1) :=
 runD_sound (mkE_ok z63h (z63fn N r_ref2_checkCases) _ _ (z63fn_ok N r_ref2_checkCases h_ref2_checkCases)) Tryz.func34 rfl Tryz.call34 (z63sg fun x _ => ref2_CheckValue N r_ref2_checkCases x.1) z63pk (fun _ _ => rfl) N (fun x y _ h => ((runL_eq (z63E N r_ref2_checkCases) N Tryz.f34 (z63sg fun x _ => ref2_CheckValue N r_ref2_checkCases x.1) z63pk (z63LP N r_ref2_checkCases) (show LoopsOk (z63LP N r_ref2_checkCases) (z63E N r_ref2_checkCases) N (resD (z63E N r_ref2_checkCases) Tryz.f34 (z63sg fun x _ => ref2_CheckValue N r_ref2_checkCases x.1) z63pk) [(0, z63c1), (2, z63c0)] from ⟨z63lp0 N r_ref2_checkCases, z63lp2 N r_ref2_checkCases, trivial⟩) x y).trans (z63core N r_ref2_checkCases x y)).trans h)
def z49L1T (_N : Nat) (r_ref2_checkCases : τ21 → Option (Int)) (t27 : List τ2) (c28 : Int) (κ4_0 : Str) (k2 : τ26) (self : Int → Option Int) (s29 : Int) : Option Int :=
 br (decide (s29 < c28))
  (bnd (geti t27 s29) fun t31 =>
  br (t31.1 == κ4_0)
   (some (7 : Int))
   (self (IntKind.i64.wrap (s29 + (1 : Int)))))
  (k2)
def z49L1 (N : Nat) (r_ref2_checkCases : τ21 → Option (Int)) (t27 : List τ2) (c28 : Int) (κ4_0 : Str) (k2 : τ26) : Nat → Int → Option Int
 | 0, _ => none
 | n + 1, s29 => z49L1T N r_ref2_checkCases t27 c28 κ4_0 k2 (z49L1 N r_ref2_checkCases t27 c28 κ4_0 k2 n) s29
def z49L0T (N : Nat) (r_ref2_checkCases : τ21 → Option (Int)) (x0 : List τ2) (c12 : List τ2) (c13 : Int) (k0 : τ26) (self : Int → Option Int) (s14 : Int) : Option Int :=
 br (decide (s14 < c13))
  (bnd (geti c12 s14) fun t17 =>
  bnd (ref2_checkText N t17.1) fun t21 =>
  br (t21 != (0 : Int))
   (some t21)
   (bnd (slc x0 (0 : Int) s14) fun t27 =>
   z49L1 N r_ref2_checkCases t27 (t27.length : Int) t17.1 (br (t17.2.kind == (4 : Int))
      (some (4 : Int))
      (bnd (ref2_CheckValue N r_ref2_checkCases (GValue.mk t17.2.kind t17.2.text t17.2.number t17.2.list t17.2.cases)) fun t45 =>
      br (t45 != (0 : Int))
       (some t45)
       (bnd (geti x0 (0 : Int)) fun t53 =>
       br (t17.2.kind != t53.2.kind)
        (some (6 : Int))
        (self (IntKind.i64.wrap (s14 + (1 : Int))))))) N (0 : Int)))
  (k0)
def z49L0 (N : Nat) (r_ref2_checkCases : τ21 → Option (Int)) (x0 : List τ2) (c12 : List τ2) (c13 : Int) (k0 : τ26) : Nat → Int → Option Int
 | 0, _ => none
 | n + 1, s14 => z49L0T N r_ref2_checkCases x0 c12 c13 k0 (z49L0 N r_ref2_checkCases x0 c12 c13 k0 n) s14
def ref2_checkCases_b (N : Nat) (r_ref2_checkCases : τ21 → Option (Int)) (x0 : List τ2) : Option Int :=
 br ((x0.length : Int) == (0 : Int))
  (some (9 : Int))
  (z49L0 N r_ref2_checkCases x0 x0 (x0.length : Int) (some (0 : Int)) N (0 : Int))
abbrev z49sg (f : SV [.v (.sl τ3)] → BV [] → Option (Int)) : AF := { ps := [.v (.sl τ3)], bs := [], rs := [.v τ6], cs := [], R := Int, out := fun z => ((z, ()), ()), f := f }
abbrev z49pk : SV [.v τ6] → BV [] → Int := fun x _ => x.1
def z49fn (N : Nat) (r_ref2_checkCases : τ21 → Option (Int)) : FuncId → Option Tmp → Option AF := fun f _ =>
 match f with
  | 34 => some (z63sg fun x _ => ref2_CheckValue N r_ref2_checkCases x.1)
  | 137 => some (z73g N)
  | _ => none
theorem z49fn_ok (N : Nat) (r_ref2_checkCases : τ21 → Option (Int)) (h_ref2_checkCases : Sound Tryz.prog GW B0G 90 (z64sg fun x y => r_ref2_checkCases x.1)) : ∀ f q F, z49fn N r_ref2_checkCases f q = some F → Sound Tryz.prog GW B0G f F := by
 intro f q F h
 unfold z49fn at h
 split at h
 · cases h; exact z63sound N r_ref2_checkCases h_ref2_checkCases
 · cases h; exact z73sound N
 · cases h
def z49h : Nat → Hint := fun i =>
 match i with
 | 0 => ⟨[], [0, 12, 13, 14], [], [], [], []⟩
 | 2 => ⟨[], [0, 4, 12, 13, 14, 27, 28, 29], [1004], [0, 4, 12, 13, 14], [1004], []⟩
 | _ => hint0
abbrev z49E (N : Nat) (r_ref2_checkCases : τ21 → Option (Int)) : Env := mkE z49h (z49fn N r_ref2_checkCases) (fun _ => false) (fun _ => false)
noncomputable abbrev z49c1 : Code := cAt (bodyOf Tryz.f90) [true, true, false, true, false, false]
noncomputable abbrev z49c0 : Code := cAt (bodyOf Tryz.f90) [true, true, false, true, false, false, true, true, false, false, true, true, false, true, false, false]
abbrev z49L1_fs : List (Nat × Sl) := [(0, .v (.sl τ3)), (4, .box 1004 0), (12, .v (.sl τ3)), (13, .v τ6), (14, .v τ6), (27, .v (.sl τ3)), (28, .v τ6), (29, .v τ6)]
abbrev z49L1_bs : List (Nat × Sb) := [(1004, .cells [.v .str, .v τ6, .v .str, .v τ6, .v τ22, .v (.sl τ3)])]
def z49L1_hd (x0 : List τ2) (c12 : List τ2) (c13 : Int) (s14 : Int) (t27 : List τ2) (c28 : Int) (κ4_0 : Str) (κ4_1 : Int) (κ4_2 : Str) (κ4_3 : Int) (κ4_4 : List Str) (κ4_5 : List τ2) (s29 : Int) : St := ⟨59, [(0, .v (.sl τ3) x0), (4, .box 1004 0), (12, .v (.sl τ3) c12), (13, .v τ6 c13), (14, .v τ6 s14), (27, .v (.sl τ3) t27), (28, .v τ6 c28), (29, .v τ6 s29)], [(1004, .cells [.v .str κ4_0, .v τ6 κ4_1, .v .str κ4_2, .v τ6 κ4_3, .v τ22 κ4_4, .v (.sl τ3) κ4_5])]⟩
def z49L1_tl2 (x0 : List τ2) (c12 : List τ2) (c13 : Int) (s14 : Int) (_t27 : List τ2) (_c28 : Int) (κ4_0 : Str) (κ4_1 : Int) (κ4_2 : Str) (κ4_3 : Int) (κ4_4 : List Str) (κ4_5 : List τ2) : St := ⟨59, [(0, .v (.sl τ3) x0), (4, .box 1004 0), (12, .v (.sl τ3) c12), (13, .v τ6 c13), (14, .v τ6 s14)], [(1004, .cells [.v .str κ4_0, .v τ6 κ4_1, .v .str κ4_2, .v τ6 κ4_3, .v τ22 κ4_4, .v (.sl τ3) κ4_5])]⟩
def z49L1_G (N : Nat) (r_ref2_checkCases : τ21 → Option (Int)) (x0 : List τ2) (c12 : List τ2) (c13 : Int) (s14 : Int) (t27 : List τ2) (c28 : Int) (κ4_0 : Str) (κ4_1 : Int) (κ4_2 : Str) (κ4_3 : Int) (κ4_4 : List Str) (κ4_5 : List τ2) (s29 : Int) (k : Ex → St → Option Int) : Option Int :=
 z49L1 N r_ref2_checkCases t27 c28 κ4_0 (k (.exit 2) (z49L1_tl2 x0 c12 c13 s14 t27 c28 κ4_0 κ4_1 κ4_2 κ4_3 κ4_4 κ4_5)) N s29
abbrev z49L1_F (N : Nat) (r_ref2_checkCases : τ21 → Option (Int)) : FV z49L1_fs → HV z49L1_bs → (Ex → St → Option Int) → Option Int := fun x y k => z49L1_G N r_ref2_checkCases x.1 x.2.2.1 x.2.2.2.1 x.2.2.2.2.1 x.2.2.2.2.2.1 x.2.2.2.2.2.2.1 y.1.1 y.1.2.1 y.1.2.2.1 y.1.2.2.2.1 y.1.2.2.2.2.1 y.1.2.2.2.2.2.1 x.2.2.2.2.2.2.2.1 k
abbrev z49L0_fs : List (Nat × Sl) := [(0, .v (.sl τ3)), (12, .v (.sl τ3)), (13, .v τ6), (14, .v τ6)]
abbrev z49L0_bs : List (Nat × Sb) := []
def z49L0_hd (x0 : List τ2) (c12 : List τ2) (c13 : Int) (s14 : Int) : St := ⟨59, [(0, .v (.sl τ3) x0), (12, .v (.sl τ3) c12), (13, .v τ6 c13), (14, .v τ6 s14)], []⟩
def z49L0_tl0 (_x0 : List τ2) (_c12 : List τ2) (_c13 : Int) : St := ⟨59, [], []⟩
def z49L0_G (N : Nat) (r_ref2_checkCases : τ21 → Option (Int)) (x0 : List τ2) (c12 : List τ2) (c13 : Int) (s14 : Int) (k : Ex → St → Option Int) : Option Int :=
 z49L0 N r_ref2_checkCases x0 c12 c13 (k (.exit 0) (z49L0_tl0 x0 c12 c13)) N s14
abbrev z49L0_F (N : Nat) (r_ref2_checkCases : τ21 → Option (Int)) : FV z49L0_fs → HV z49L0_bs → (Ex → St → Option Int) → Option Int := fun x _ k => z49L0_G N r_ref2_checkCases x.1 x.2.1 x.2.2.1 x.2.2.2.1 k
noncomputable def z49LP (N : Nat) (r_ref2_checkCases : τ21 → Option (Int)) : Nat → Code → St → (Ex → St → Option Int) → Option Int := fun i c =>
 match i with
 | 0 => (LPc 59 z49L0_fs z49L0_bs (z49L0_F N r_ref2_checkCases) (fun st k => iter (z49h 0) (exec (z49E N r_ref2_checkCases) N c 0) N st k))
 | 2 => (LPc 59 z49L1_fs z49L1_bs (z49L1_F N r_ref2_checkCases) (fun st k => iter (z49h 2) (exec (z49E N r_ref2_checkCases) N c 2) N st k))
 | i => fun st k => iter (z49h i) (exec (z49E N r_ref2_checkCases) N c i) N st k
theorem z49L1_step (N : Nat) (r_ref2_checkCases : τ21 → Option (Int)) (x0 : List τ2) (c12 : List τ2) (c13 : Int) (s14 : Int) (t27 : List τ2) (c28 : Int) (κ4_0 : Str) (κ4_1 : Int) (κ4_2 : Str) (κ4_3 : Int) (κ4_4 : List Str) (κ4_5 : List τ2) (KX : Nat → St → Option Int) (I : St → Option Int) (s29 : Int) :
  execL (z49LP N r_ref2_checkCases) (z49E N r_ref2_checkCases) z49c0 2 (z49L1_hd x0 c12 c13 s14 t27 c28 κ4_0 κ4_1 κ4_2 κ4_3 κ4_4 κ4_5 s29) (roundK (z49h 2) I KX (resD (z49E N r_ref2_checkCases) Tryz.f90 (z49sg fun x _ => ref2_checkCases_b N r_ref2_checkCases x.1) z49pk)) = z49L1T N r_ref2_checkCases t27 c28 κ4_0 (KX 2 (z49L1_tl2 x0 c12 c13 s14 t27 c28 κ4_0 κ4_1 κ4_2 κ4_3 κ4_4 κ4_5)) (fun s29 => I (z49L1_hd x0 c12 c13 s14 t27 c28 κ4_0 κ4_1 κ4_2 κ4_3 κ4_4 κ4_5 s29)) s29 := by kernel_rfl
theorem z49L1_ok (N : Nat) (r_ref2_checkCases : τ21 → Option (Int)) : ∀ x y k, (∀ st, k .ret st = (resD (z49E N r_ref2_checkCases) Tryz.f90 (z49sg fun x _ => ref2_checkCases_b N r_ref2_checkCases x.1) z49pk) st) → iter (z49h 2) (exec (z49E N r_ref2_checkCases) N z49c0 2) N ⟨59, unF z49L1_fs x, unH z49L1_bs y⟩ k = z49L1_F N r_ref2_checkCases x y k := fun x y k hk =>
 iter_link (S := (Int) × Unit) (z49h 2) _ (execL (z49LP N r_ref2_checkCases) (z49E N r_ref2_checkCases) z49c0 2) (resD (z49E N r_ref2_checkCases) Tryz.f90 (z49sg fun x _ => ref2_checkCases_b N r_ref2_checkCases x.1) z49pk) (fun st k hk => execL_eq _ _ N _ z49c0 2 (show LoopsOk (z49LP N r_ref2_checkCases) (z49E N r_ref2_checkCases) N (resD (z49E N r_ref2_checkCases) Tryz.f90 (z49sg fun x _ => ref2_checkCases_b N r_ref2_checkCases x.1) z49pk) [] from trivial) st k hk) (fun s => z49L1_hd x.1 x.2.2.1 x.2.2.2.1 x.2.2.2.2.1 x.2.2.2.2.2.1 x.2.2.2.2.2.2.1 y.1.1 y.1.2.1 y.1.2.2.1 y.1.2.2.2.1 y.1.2.2.2.2.1 y.1.2.2.2.2.2.1 s.1) k hk
  (fun self s => z49L1T N r_ref2_checkCases x.2.2.2.2.2.1 x.2.2.2.2.2.2.1 y.1.1 (k (.exit 2) (z49L1_tl2 x.1 x.2.2.1 x.2.2.2.1 x.2.2.2.2.1 x.2.2.2.2.2.1 x.2.2.2.2.2.2.1 y.1.1 y.1.2.1 y.1.2.2.1 y.1.2.2.2.1 y.1.2.2.2.2.1 y.1.2.2.2.2.2.1)) (fun s29 => self (s29, ())) s.1) (fun n s => z49L1 N r_ref2_checkCases x.2.2.2.2.2.1 x.2.2.2.2.2.2.1 y.1.1 (k (.exit 2) (z49L1_tl2 x.1 x.2.2.1 x.2.2.2.1 x.2.2.2.2.1 x.2.2.2.2.2.1 x.2.2.2.2.2.2.1 y.1.1 y.1.2.1 y.1.2.2.1 y.1.2.2.2.1 y.1.2.2.2.2.1 y.1.2.2.2.2.2.1)) n s.1) (fun _ => rfl) (fun _ _ => rfl)
  (fun I s => z49L1_step N r_ref2_checkCases x.1 x.2.2.1 x.2.2.2.1 x.2.2.2.2.1 x.2.2.2.2.2.1 x.2.2.2.2.2.2.1 y.1.1 y.1.2.1 y.1.2.2.1 y.1.2.2.2.1 y.1.2.2.2.2.1 y.1.2.2.2.2.2.1 (fun j => k (.exit j)) I s.1) N (x.2.2.2.2.2.2.2.1, ())
theorem z49lp2 (N : Nat) (r_ref2_checkCases : τ21 → Option (Int)) : ∀ st k, (∀ st, k .ret st = (resD (z49E N r_ref2_checkCases) Tryz.f90 (z49sg fun x _ => ref2_checkCases_b N r_ref2_checkCases x.1) z49pk) st) → z49LP N r_ref2_checkCases 2 z49c0 st k = iter (Env.hint (z49E N r_ref2_checkCases) 2) (exec (z49E N r_ref2_checkCases) N z49c0 2) N st k := fun st k hk => LPc_eq 59 z49L1_fs z49L1_bs _ _ (resD (z49E N r_ref2_checkCases) Tryz.f90 (z49sg fun x _ => ref2_checkCases_b N r_ref2_checkCases x.1) z49pk) (z49L1_ok N r_ref2_checkCases) _ st k hk (rfl)
theorem z49L0_step (N : Nat) (r_ref2_checkCases : τ21 → Option (Int)) (x0 : List τ2) (c12 : List τ2) (c13 : Int) (KX : Nat → St → Option Int) (I : St → Option Int) (s14 : Int) :
  execL (z49LP N r_ref2_checkCases) (z49E N r_ref2_checkCases) z49c1 0 (z49L0_hd x0 c12 c13 s14) (roundK (z49h 0) I KX (resD (z49E N r_ref2_checkCases) Tryz.f90 (z49sg fun x _ => ref2_checkCases_b N r_ref2_checkCases x.1) z49pk)) = z49L0T N r_ref2_checkCases x0 c12 c13 (KX 0 (z49L0_tl0 x0 c12 c13)) (fun s14 => I (z49L0_hd x0 c12 c13 s14)) s14 := by kernel_rfl
theorem z49L0_ok (N : Nat) (r_ref2_checkCases : τ21 → Option (Int)) : ∀ x y k, (∀ st, k .ret st = (resD (z49E N r_ref2_checkCases) Tryz.f90 (z49sg fun x _ => ref2_checkCases_b N r_ref2_checkCases x.1) z49pk) st) → iter (z49h 0) (exec (z49E N r_ref2_checkCases) N z49c1 0) N ⟨59, unF z49L0_fs x, unH z49L0_bs y⟩ k = z49L0_F N r_ref2_checkCases x y k := fun x _ k hk =>
 iter_link (S := (Int) × Unit) (z49h 0) _ (execL (z49LP N r_ref2_checkCases) (z49E N r_ref2_checkCases) z49c1 0) (resD (z49E N r_ref2_checkCases) Tryz.f90 (z49sg fun x _ => ref2_checkCases_b N r_ref2_checkCases x.1) z49pk) (fun st k hk => execL_eq _ _ N _ z49c1 0 (show LoopsOk (z49LP N r_ref2_checkCases) (z49E N r_ref2_checkCases) N (resD (z49E N r_ref2_checkCases) Tryz.f90 (z49sg fun x _ => ref2_checkCases_b N r_ref2_checkCases x.1) z49pk) [(2, z49c0)] from ⟨z49lp2 N r_ref2_checkCases, trivial⟩) st k hk) (fun s => z49L0_hd x.1 x.2.1 x.2.2.1 s.1) k hk
  (fun self s => z49L0T N r_ref2_checkCases x.1 x.2.1 x.2.2.1 (k (.exit 0) (z49L0_tl0 x.1 x.2.1 x.2.2.1)) (fun s14 => self (s14, ())) s.1) (fun n s => z49L0 N r_ref2_checkCases x.1 x.2.1 x.2.2.1 (k (.exit 0) (z49L0_tl0 x.1 x.2.1 x.2.2.1)) n s.1) (fun _ => rfl) (fun _ _ => rfl)
  (fun I s => z49L0_step N r_ref2_checkCases x.1 x.2.1 x.2.2.1 (fun j => k (.exit j)) I s.1) N (x.2.2.2.1, ())
theorem z49lp0 (N : Nat) (r_ref2_checkCases : τ21 → Option (Int)) : ∀ st k, (∀ st, k .ret st = (resD (z49E N r_ref2_checkCases) Tryz.f90 (z49sg fun x _ => ref2_checkCases_b N r_ref2_checkCases x.1) z49pk) st) → z49LP N r_ref2_checkCases 0 z49c1 st k = iter (Env.hint (z49E N r_ref2_checkCases) 0) (exec (z49E N r_ref2_checkCases) N z49c1 0) N st k := fun st k hk => LPc_eq 59 z49L0_fs z49L0_bs _ _ (resD (z49E N r_ref2_checkCases) Tryz.f90 (z49sg fun x _ => ref2_checkCases_b N r_ref2_checkCases x.1) z49pk) (z49L0_ok N r_ref2_checkCases) _ st k hk (rfl)
theorem z49core (N : Nat) (r_ref2_checkCases : τ21 → Option (Int)) (x : SV [.v (.sl τ3)]) (y : BV []) : runL (z49E N r_ref2_checkCases) Tryz.f90 (z49sg fun x _ => ref2_checkCases_b N r_ref2_checkCases x.1) z49pk (z49LP N r_ref2_checkCases) x y = ref2_checkCases_b N r_ref2_checkCases x.1 := by kernel_rfl
theorem z49sound (N : Nat) (r_ref2_checkCases : τ21 → Option (Int)) (h_ref2_checkCases : Sound Tryz.prog GW B0G 90 (z64sg fun x y => r_ref2_checkCases x.1)) : Sound Tryz.prog GW B0G 90 (z49sg fun x _ => ref2_checkCases_b N r_ref2_checkCases x.1) :=
 runD_sound (mkE_ok z49h (z49fn N r_ref2_checkCases) _ _ (z49fn_ok N r_ref2_checkCases h_ref2_checkCases)) Tryz.func90 rfl Tryz.call90 (z49sg fun x _ => ref2_checkCases_b N r_ref2_checkCases x.1) z49pk (fun _ _ => rfl) N (fun x y _ h => ((runL_eq (z49E N r_ref2_checkCases) N Tryz.f90 (z49sg fun x _ => ref2_checkCases_b N r_ref2_checkCases x.1) z49pk (z49LP N r_ref2_checkCases) (show LoopsOk (z49LP N r_ref2_checkCases) (z49E N r_ref2_checkCases) N (resD (z49E N r_ref2_checkCases) Tryz.f90 (z49sg fun x _ => ref2_checkCases_b N r_ref2_checkCases x.1) z49pk) [(0, z49c1), (2, z49c0)] from ⟨z49lp0 N r_ref2_checkCases, z49lp2 N r_ref2_checkCases, trivial⟩) x y).trans (z49core N r_ref2_checkCases x y)).trans h)
def ref2_checkCases (N : Nat) : Nat → τ21 → Option (Int)
 | 0 => fun _ => none
 | d + 1 => ref2_checkCases_b N (ref2_checkCases N d)
theorem z64sound (N : Nat) : ∀ d, Sound Tryz.prog GW B0G 90 (z64sg fun x y => ref2_checkCases N d x.1)
 | 0 => Sound.never Tryz.call90 (fun _ _ => rfl)
 | d + 1 => z49sound N (ref2_checkCases N d) (z64sound N d)
def z53L0T (N : Nat) (c24 : List τ2) (c25 : Int) (κ1_2 : List τ2) (k1 : τ26) (self : Int → Option Int) (s26 : Int) : Option Int :=
 br (decide (s26 < c25))
  (bnd (geti c24 s26) fun t29 =>
  bnd (ref2_IsName N t29.1) fun t33 =>
  br (!t33)
   (some (5 : Int))
   (bnd (ref2_CheckValue N (ref2_checkCases N N) (GValue.mk t29.2.kind t29.2.text t29.2.number t29.2.list t29.2.cases)) fun t37 =>
   br (t37 != (0 : Int))
    (some t37)
    (br (decide (s26 > (0 : Int)))
     (bnd (geti κ1_2 (IntKind.i64.wrap (s26 - (1 : Int)))) fun t50 =>
     br (Op.bytesLess t29.1 t50.1 || t29.1 == t50.1)
      (some (8 : Int))
      (self (IntKind.i64.wrap (s26 + (1 : Int)))))
     (self (IntKind.i64.wrap (s26 + (1 : Int)))))))
  (k1)
def z53L0 (N : Nat) (c24 : List τ2) (c25 : Int) (κ1_2 : List τ2) (k1 : τ26) : Nat → Int → Option Int
 | 0, _ => none
 | n + 1, s26 => z53L0T N c24 c25 κ1_2 k1 (z53L0 N c24 c25 κ1_2 k1 n) s26
def z53L1T (_N : Nat) (c57 : List τ2) (c58 : Int) (k3 : τ26) (self : Int → Option Int) (s59 : Int) : Option Int :=
 br (decide (s59 < c58))
  (bnd (geti c57 s59) fun t61 =>
  br (t61.1 == ([110, 97, 109, 101] : Str))
   (some (5 : Int))
   (br (t61.1 == ([107, 105, 110, 100] : Str))
    (some (5 : Int))
    (self (IntKind.i64.wrap (s59 + (1 : Int))))))
  (k3)
def z53L1 (N : Nat) (c57 : List τ2) (c58 : Int) (k3 : τ26) : Nat → Int → Option Int
 | 0, _ => none
 | n + 1, s59 => z53L1T N c57 c58 k3 (z53L1 N c57 c58 k3 n) s59
def ref2_CheckTarget (N : Nat) (x0 : Str × Str × List τ2) : Option Int :=
 bnd (ref2_IsPath N x0.1) fun t11 =>
 br (!t11)
  (some (3 : Int))
  (bnd (ref2_IsName N x0.2.1) fun t16 =>
  br (!t16)
   (some (5 : Int))
   (br (decide ((x0.2.2.length : Int) > (30 : Int)))
    (some (2 : Int))
    (z53L0 N x0.2.2 (x0.2.2.length : Int) x0.2.2 (z53L1 N x0.2.2 (x0.2.2.length : Int) (some (0 : Int)) N (0 : Int)) N (0 : Int))))
abbrev z53sg (f : SV [.v τ13] → BV [] → Option (Int)) : AF := { ps := [.v τ13], bs := [], rs := [.v τ6], cs := [], R := Int, out := fun z => ((z, ()), ()), f := f }
noncomputable abbrev z53g (N : Nat) : AF := z53sg fun x _ => ref2_CheckTarget N x.1
abbrev z53pk : SV [.v τ6] → BV [] → Int := fun x _ => x.1
def z53fn (N : Nat) : FuncId → Option Tmp → Option AF := fun f _ =>
 match f with
  | 34 => some (z63sg fun x _ => ref2_CheckValue N (ref2_checkCases N N) x.1)
  | 113 => some (z102g N)
  | 114 => some (z101g N)
  | _ => none
theorem z53fn_ok (N : Nat) : FnOk (z53fn N) := by
 intro f q F h
 unfold z53fn at h
 split at h
 · cases h; exact z63sound N (ref2_checkCases N N) (z64sound N N)
 · cases h; exact z102sound N
 · cases h; exact z101sound N
 · cases h
def z53h : Nat → Hint := fun i =>
 match i with
 | 1 => ⟨[], [1, 24, 25, 26], [1001], [1], [1001], []⟩
 | 3 => ⟨[], [57, 58, 59], [], [], [], []⟩
 | _ => hint0
abbrev z53E (N : Nat) : Env := mkE z53h (z53fn N) FF FF
noncomputable abbrev z53c1 : Code := cAt (bodyOf Tryz.f62) [true, true, false, true, false, false]
noncomputable abbrev z53c0 : Code := cAt (bodyOf Tryz.f62) [true, true, true, false, true, false, false]
noncomputable abbrev z53R (N : Nat) := resD (z53E N) Tryz.f62 (z53g N) z53pk
abbrev z53L0_fs : List (Nat × Sl) := [(1, .box 1001 0), (24, .v (.sl τ3)), (25, .v τ6), (26, .v τ6)]
abbrev z53L0_bs : List (Nat × Sb) := [(1001, .cells [.v .str, .v .str, .v (.sl τ3)])]
def z53L0_hd (c24 : List τ2) (c25 : Int) (κ1_0 : Str) (κ1_1 : Str) (κ1_2 : List τ2) (s26 : Int) : St := ⟨72, [(1, .box 1001 0), (24, .v (.sl τ3) c24), (25, .v τ6 c25), (26, .v τ6 s26)], [(1001, .cells [.v .str κ1_0, .v .str κ1_1, .v (.sl τ3) κ1_2])]⟩
def z53L0_tl1 (_c24 : List τ2) (_c25 : Int) (κ1_0 : Str) (κ1_1 : Str) (κ1_2 : List τ2) : St := ⟨72, [(1, .box 1001 0)], [(1001, .cells [.v .str κ1_0, .v .str κ1_1, .v (.sl τ3) κ1_2])]⟩
def z53L0_G (N : Nat) (c24 : List τ2) (c25 : Int) (κ1_0 : Str) (κ1_1 : Str) (κ1_2 : List τ2) (s26 : Int) (k : Ex → St → Option Int) : Option Int :=
 z53L0 N c24 c25 κ1_2 (k (.exit 1) (z53L0_tl1 c24 c25 κ1_0 κ1_1 κ1_2)) N s26
abbrev z53L0_F (N : Nat) : FV z53L0_fs → HV z53L0_bs → (Ex → St → Option Int) → Option Int := fun x y k => z53L0_G N x.2.1 x.2.2.1 y.1.1 y.1.2.1 y.1.2.2.1 x.2.2.2.1 k
abbrev z53L1_fs : List (Nat × Sl) := [(57, .v (.sl τ3)), (58, .v τ6), (59, .v τ6)]
abbrev z53L1_bs : List (Nat × Sb) := []
def z53L1_hd (c57 : List τ2) (c58 : Int) (s59 : Int) : St := ⟨72, [(57, .v (.sl τ3) c57), (58, .v τ6 c58), (59, .v τ6 s59)], []⟩
def z53L1_tl3 (_c57 : List τ2) (_c58 : Int) : St := ⟨72, [], []⟩
def z53L1_G (N : Nat) (c57 : List τ2) (c58 : Int) (s59 : Int) (k : Ex → St → Option Int) : Option Int :=
 z53L1 N c57 c58 (k (.exit 3) (z53L1_tl3 c57 c58)) N s59
abbrev z53L1_F (N : Nat) : FV z53L1_fs → HV z53L1_bs → (Ex → St → Option Int) → Option Int := fun x _ k => z53L1_G N x.1 x.2.1 x.2.2.1 k
noncomputable def z53LP (N : Nat) : Nat → Code → St → (Ex → St → Option Int) → Option Int := fun i c =>
 match i with
 | 1 => (LPc 72 z53L0_fs z53L0_bs (z53L0_F N) (fun st k => iter (z53h 1) (exec (z53E N) N c 1) N st k))
 | 3 => (LPc 72 z53L1_fs z53L1_bs (z53L1_F N) (fun st k => iter (z53h 3) (exec (z53E N) N c 3) N st k))
 | i => fun st k => iter (z53h i) (exec (z53E N) N c i) N st k
theorem z53L1_step (N : Nat) (c57 : List τ2) (c58 : Int) (KX : Nat → St → Option Int) (I : St → Option Int) (s59 : Int) :
  execL (z53LP N) (z53E N) z53c0 3 (z53L1_hd c57 c58 s59) (roundK (z53h 3) I KX (z53R N)) = z53L1T N c57 c58 (KX 3 (z53L1_tl3 c57 c58)) (fun s59 => I (z53L1_hd c57 c58 s59)) s59 := by kernel_rfl
theorem z53L1_ok (N : Nat) : ∀ x y k, (∀ st, k .ret st = (z53R N) st) → iter (z53h 3) (exec (z53E N) N z53c0 3) N ⟨72, unF z53L1_fs x, unH z53L1_bs y⟩ k = z53L1_F N x y k := fun x _ k hk =>
 iter_link (S := (Int) × Unit) (z53h 3) _ (execL (z53LP N) (z53E N) z53c0 3) (z53R N) (fun st k hk => execL_eq _ _ N _ z53c0 3 (show LoopsOk (z53LP N) (z53E N) N (z53R N) [] from trivial) st k hk) (fun s => z53L1_hd x.1 x.2.1 s.1) k hk
  (fun self s => z53L1T N x.1 x.2.1 (k (.exit 3) (z53L1_tl3 x.1 x.2.1)) (fun s59 => self (s59, ())) s.1) (fun n s => z53L1 N x.1 x.2.1 (k (.exit 3) (z53L1_tl3 x.1 x.2.1)) n s.1) (fun _ => rfl) (fun _ _ => rfl)
  (fun I s => z53L1_step N x.1 x.2.1 (fun j => k (.exit j)) I s.1) N (x.2.2.1, ())
theorem z53lp3 (N : Nat) : ∀ st k, (∀ st, k .ret st = (z53R N) st) → z53LP N 3 z53c0 st k = iter (Env.hint (z53E N) 3) (exec (z53E N) N z53c0 3) N st k := fun st k hk => LPc_eq 72 z53L1_fs z53L1_bs _ _ (z53R N) (z53L1_ok N) _ st k hk (rfl)
theorem z53L0_step (N : Nat) (c24 : List τ2) (c25 : Int) (κ1_0 : Str) (κ1_1 : Str) (κ1_2 : List τ2) (KX : Nat → St → Option Int) (I : St → Option Int) (s26 : Int) :
  execL (z53LP N) (z53E N) z53c1 1 (z53L0_hd c24 c25 κ1_0 κ1_1 κ1_2 s26) (roundK (z53h 1) I KX (z53R N)) = z53L0T N c24 c25 κ1_2 (KX 1 (z53L0_tl1 c24 c25 κ1_0 κ1_1 κ1_2)) (fun s26 => I (z53L0_hd c24 c25 κ1_0 κ1_1 κ1_2 s26)) s26 := by kernel_rfl
theorem z53L0_ok (N : Nat) : ∀ x y k, (∀ st, k .ret st = (z53R N) st) → iter (z53h 1) (exec (z53E N) N z53c1 1) N ⟨72, unF z53L0_fs x, unH z53L0_bs y⟩ k = z53L0_F N x y k := fun x y k hk =>
 iter_link (S := (Int) × Unit) (z53h 1) _ (execL (z53LP N) (z53E N) z53c1 1) (z53R N) (fun st k hk => execL_eq _ _ N _ z53c1 1 (show LoopsOk (z53LP N) (z53E N) N (z53R N) [] from trivial) st k hk) (fun s => z53L0_hd x.2.1 x.2.2.1 y.1.1 y.1.2.1 y.1.2.2.1 s.1) k hk
  (fun self s => z53L0T N x.2.1 x.2.2.1 y.1.2.2.1 (k (.exit 1) (z53L0_tl1 x.2.1 x.2.2.1 y.1.1 y.1.2.1 y.1.2.2.1)) (fun s26 => self (s26, ())) s.1) (fun n s => z53L0 N x.2.1 x.2.2.1 y.1.2.2.1 (k (.exit 1) (z53L0_tl1 x.2.1 x.2.2.1 y.1.1 y.1.2.1 y.1.2.2.1)) n s.1) (fun _ => rfl) (fun _ _ => rfl)
  (fun I s => z53L0_step N x.2.1 x.2.2.1 y.1.1 y.1.2.1 y.1.2.2.1 (fun j => k (.exit j)) I s.1) N (x.2.2.2.1, ())
theorem z53lp1 (N : Nat) : ∀ st k, (∀ st, k .ret st = (z53R N) st) → z53LP N 1 z53c1 st k = iter (Env.hint (z53E N) 1) (exec (z53E N) N z53c1 1) N st k := fun st k hk => LPc_eq 72 z53L0_fs z53L0_bs _ _ (z53R N) (z53L0_ok N) _ st k hk (rfl)
theorem z53core (N : Nat) (x : SV [.v τ13]) (y : BV []) : runL (z53E N) Tryz.f62 (z53g N) z53pk (z53LP N) x y = ref2_CheckTarget N x.1 := by kernel_rfl
theorem z53sound (N : Nat) : Snd 62 (z53g N) :=
 sndL (z53fn_ok N) Tryz.func62 rfl Tryz.call62 (z53g N) z53pk (fun _ _ => rfl) N (z53LP N) (show LoopsOk (z53LP N) (z53E N) N (z53R N) [(1, z53c1), (3, z53c0)] from ⟨z53lp1 N, z53lp3 N, trivial⟩) (z53core N)
end
end Go.Proofs.YtbekhaioddmliaaGreatDoor

