/- What functions of the program compute, as plain functions (printed). -/
import Derived.Test.YtjiddcchklaiiaaGreatDoorQLStC
import Derived.Test.YtjiddcchklaiiaaGreatDoorQNm
import Derived.Test.YtjiddcchklaiiaaGreatDoorQTsT
import Derived.Shelf.SortM.Plain
namespace Go.Proofs.YtjiddcchklaiiaaGreatDoor
open Go Go.RowKit
set_option maxRecDepth 100000
set_option linter.unusedVariables false
noncomputable section
def blob_inPart (_N : Nat) (x0 : UInt8) : Option Bool :=
 br (decide (x0 ≥ (97 : UInt8)))
   (br (decide (x0 ≤ (122 : UInt8)))
     (some true)
     (br (decide (x0 ≥ (65 : UInt8)))
       (br (decide (x0 ≤ (90 : UInt8)))
         (some true)
         (br (decide (x0 ≥ (48 : UInt8)))
           (br (decide (x0 ≤ (57 : UInt8)))
             (some true)
             (bnd (strings_IndexByte ([46, 95, 45, 43] : Str) x0) fun t27 =>
             some (decide (t27 ≥ (0 : Int)))))
           (bnd (strings_IndexByte ([46, 95, 45, 43] : Str) x0) fun t27_1 =>
           some (decide (t27_1 ≥ (0 : Int))))))
       (br (decide (x0 ≥ (48 : UInt8)))
         (br (decide (x0 ≤ (57 : UInt8)))
           (some true)
           (bnd (strings_IndexByte ([46, 95, 45, 43] : Str) x0) fun t27_2 =>
           some (decide (t27_2 ≥ (0 : Int)))))
         (bnd (strings_IndexByte ([46, 95, 45, 43] : Str) x0) fun t27_3 =>
         some (decide (t27_3 ≥ (0 : Int)))))))
   (br (decide (x0 ≥ (65 : UInt8)))
     (br (decide (x0 ≤ (90 : UInt8)))
       (some true)
       (br (decide (x0 ≥ (48 : UInt8)))
         (br (decide (x0 ≤ (57 : UInt8)))
           (some true)
           (bnd (strings_IndexByte ([46, 95, 45, 43] : Str) x0) fun t27_4 =>
           some (decide (t27_4 ≥ (0 : Int)))))
         (bnd (strings_IndexByte ([46, 95, 45, 43] : Str) x0) fun t27_5 =>
         some (decide (t27_5 ≥ (0 : Int))))))
     (br (decide (x0 ≥ (48 : UInt8)))
       (br (decide (x0 ≤ (57 : UInt8)))
         (some true)
         (bnd (strings_IndexByte ([46, 95, 45, 43] : Str) x0) fun t27_6 =>
         some (decide (t27_6 ≥ (0 : Int)))))
       (bnd (strings_IndexByte ([46, 95, 45, 43] : Str) x0) fun t27_7 =>
       some (decide (t27_7 ≥ (0 : Int))))))
abbrev z47sg (f : SV [.v .u8] → BV [] → Option (Bool)) : AF := { ps := [.v .u8], bs := [], rs := [.v .bool], cs := [], R := Bool, out := fun z => ((z, ()), ()), f := f }
noncomputable abbrev z47g (N : Nat) : AF := z47sg fun x _ => blob_inPart N x.1
abbrev z47pk : SV [.v .bool] → BV [] → Bool := fun x _ => x.1
def z47fn (_N : Nat) : FuncId → Option Tmp → Option AF := fun f _ =>
 match f with
   | 114 => some (z23sg fun x _ => strings_IndexByte x.1 x.2.1)
   | _ => none
theorem z47fn_ok (N : Nat) : FnOk (z47fn N) := by
 intro f q F h
 unfold z47fn at h
 split at h
 · cases h; exact z23sound
 · cases h
def z47h : Nat → Hint := fun i =>
 match i with
 | _ => hint0
abbrev z47E (N : Nat) : Env := mkE z47h (z47fn N) FF FF
noncomputable def z47LP (N : Nat) : Nat → Code → St → (Ex → St → Option Bool) → Option Bool := fun i c =>
 match i with
 | i => fun st k => iter (z47h i) (exec (z47E N) N c i) N st k
theorem z47core (N : Nat) (x : SV [.v .u8]) (y : BV []) : runL (z47E N) Tryz.f88 (z47g N) z47pk (z47LP N) x y = blob_inPart N x.1 := by kernel_rfl
theorem z47sound (N : Nat) : Snd 88 (z47g N) :=
 sndL (z47fn_ok N) Tryz.func88 rfl Tryz.call88 (z47g N) z47pk (fun _ _ => rfl) N (z47LP N) (show LoopsOk (z47LP N) (z47E N) N (resD (z47E N) Tryz.f88 (z47g N) z47pk) [] from trivial) (z47core N)
def z48L0T (N : Nat) (x0 : Str) (c5 : Int) (k0 : Option Bool) (self : Int → Option Bool) (s6 : Int) : Option Bool :=
 br (decide (s6 < c5))
   (bnd (geti x0 s6) fun t11 =>
   bnd (blob_inPart N t11) fun t12 =>
   br (!t12)
     (some false)
     (self (IntKind.i64.wrap (s6 + (1 : Int)))))
   (k0)
def z48L0 (N : Nat) (x0 : Str) (c5 : Int) (k0 : Option Bool) : Nat → Int → Option Bool
 | 0, _ => none
 | n + 1, s6 => z48L0T N x0 c5 k0 (z48L0 N x0 c5 k0 n) s6
def blob_isPart (N : Nat) (x0 : Str) : Option Bool :=
 z48L0 N x0 (x0.length : Int) (br (!(x0 == ([] : Str)))
       (br (!(x0 == ([46] : Str)))
         (some (!(x0 == ([46, 46] : Str))))
         (some false))
       (some false)) N (0 : Int)
abbrev z48sg (f : SV [.v .str] → BV [] → Option (Bool)) : AF := { ps := [.v .str], bs := [], rs := [.v .bool], cs := [], R := Bool, out := fun z => ((z, ()), ()), f := f }
noncomputable abbrev z48g (N : Nat) : AF := z48sg fun x _ => blob_isPart N x.1
abbrev z48pk : SV [.v .bool] → BV [] → Bool := fun x _ => x.1
def z48fn (N : Nat) : FuncId → Option Tmp → Option AF := fun f _ =>
 match f with
   | 88 => some (z47g N)
   | _ => none
theorem z48fn_ok (N : Nat) : FnOk (z48fn N) := by
 intro f q F h
 unfold z48fn at h
 split at h
 · cases h; exact z47sound N
 · cases h
def z48h : Nat → Hint := fun i =>
 match i with
 | 0 => ⟨[], [0, 5, 6], [], [0], [], []⟩
 | _ => hint0
abbrev z48E (N : Nat) : Env := mkE z48h (z48fn N) FF FF
noncomputable abbrev z48c0 : Code := cAt (bodyOf Tryz.f53) [true, false, true, false, false]
noncomputable abbrev z48R (N : Nat) := resD (z48E N) Tryz.f53 (z48g N) z48pk
abbrev z48L0_fs : List (Nat × Sl) := [(0, .v .str), (5, .v τ5), (6, .v τ5)]
abbrev z48L0_bs : List (Nat × Sb) := []
def z48L0_hd (x0 : Str) (c5 : Int) (s6 : Int) : St := ⟨25, [(0, .v .str x0), (5, .v τ5 c5), (6, .v τ5 s6)], []⟩
def z48L0_tl0 (x0 : Str) (_c5 : Int) : St := ⟨25, [(0, .v .str x0)], []⟩
def z48L0_G (N : Nat) (x0 : Str) (c5 : Int) (s6 : Int) (k : Ex → St → Option Bool) : Option Bool :=
 z48L0 N x0 c5 (k (.exit 0) (z48L0_tl0 x0 c5)) N s6
abbrev z48L0_F (N : Nat) : FV z48L0_fs → HV z48L0_bs → (Ex → St → Option Bool) → Option Bool := fun x _ k => z48L0_G N x.1 x.2.1 x.2.2.1 k
noncomputable def z48LP (N : Nat) : Nat → Code → St → (Ex → St → Option Bool) → Option Bool := fun i c =>
 match i with
 | 0 => (LPc 25 z48L0_fs z48L0_bs (z48L0_F N) (fun st k => iter (z48h 0) (exec (z48E N) N c 0) N st k))
 | i => fun st k => iter (z48h i) (exec (z48E N) N c i) N st k
theorem z48L0_step (N : Nat) (x0 : Str) (c5 : Int) (KX : Nat → St → Option Bool) (I : St → Option Bool) (s6 : Int) :
   execL (z48LP N) (z48E N) z48c0 0 (z48L0_hd x0 c5 s6) (roundK (z48h 0) I KX (z48R N)) = z48L0T N x0 c5 (KX 0 (z48L0_tl0 x0 c5)) (fun s6 => I (z48L0_hd x0 c5 s6)) s6 := by kernel_rfl
theorem z48L0_ok (N : Nat) : ∀ x y k, (∀ st, k .ret st = (z48R N) st) → iter (z48h 0) (exec (z48E N) N z48c0 0) N ⟨25, unF z48L0_fs x, unH z48L0_bs y⟩ k = z48L0_F N x y k := fun x _ k hk =>
 iter_link (S := (Int) × Unit) (z48h 0) _ (execL (z48LP N) (z48E N) z48c0 0) (z48R N) (fun st k hk => execL_eq _ _ N _ z48c0 0 (show LoopsOk (z48LP N) (z48E N) N (z48R N) [] from trivial) st k hk) (fun s => z48L0_hd x.1 x.2.1 s.1) k hk
   (fun self s => z48L0T N x.1 x.2.1 (k (.exit 0) (z48L0_tl0 x.1 x.2.1)) (fun s6 => self (s6, ())) s.1) (fun n s => z48L0 N x.1 x.2.1 (k (.exit 0) (z48L0_tl0 x.1 x.2.1)) n s.1) (fun _ => rfl) (fun _ _ => rfl)
   (fun I s => z48L0_step N x.1 x.2.1 (fun j => k (.exit j)) I s.1) N (x.2.2.1, ())
theorem z48lp0 (N : Nat) : ∀ st k, (∀ st, k .ret st = (z48R N) st) → z48LP N 0 z48c0 st k = iter (Env.hint (z48E N) 0) (exec (z48E N) N z48c0 0) N st k := fun st k hk => LPc_eq 25 z48L0_fs z48L0_bs _ _ (z48R N) (z48L0_ok N) _ st k hk (rfl)
theorem z48core (N : Nat) (x : SV [.v .str]) (y : BV []) : runL (z48E N) Tryz.f53 (z48g N) z48pk (z48LP N) x y = blob_isPart N x.1 := by kernel_rfl
theorem z48sound (N : Nat) : Snd 53 (z48g N) :=
 sndL (z48fn_ok N) Tryz.func53 rfl Tryz.call53 (z48g N) z48pk (fun _ _ => rfl) N (z48LP N) (show LoopsOk (z48LP N) (z48E N) N (z48R N) [(0, z48c0)] from ⟨z48lp0 N, trivial⟩) (z48core N)
def z45L0T (N : Nat) (t14 : List Str) (c15 : Int) (k0 : Option Bool) (self : Int → Option Bool) (s16 : Int) : Option Bool :=
 br (decide (s16 < c15))
   (bnd (geti t14 s16) fun t18 =>
   bnd (blob_isPart N t18) fun t21 =>
   br (!t21)
     (some false)
     (self (IntKind.i64.wrap (s16 + (1 : Int)))))
   (k0)
def z45L0 (N : Nat) (t14 : List Str) (c15 : Int) (k0 : Option Bool) : Nat → Int → Option Bool
 | 0, _ => none
 | n + 1, s16 => z45L0T N t14 c15 k0 (z45L0 N t14 c15 k0 n) s16
def blob_IsPath (N : Nat) (x0 : Str) : Option Bool :=
 br (decide ((x0.length : Int) < (1 : Int)))
   (some false)
   (br (decide ((x0.length : Int) > (200 : Int)))
     (some false)
     (bnd (strings_Split x0 ([47] : Str)) fun t14 =>
     z45L0 N t14 (t14.length : Int) (some true) N (0 : Int)))
abbrev z45sg (f : SV [.v .str] → BV [] → Option (Bool)) : AF := { ps := [.v .str], bs := [], rs := [.v .bool], cs := [], R := Bool, out := fun z => ((z, ()), ()), f := f }
noncomputable abbrev z45g (N : Nat) : AF := z45sg fun x _ => blob_IsPath N x.1
abbrev z45pk : SV [.v .bool] → BV [] → Bool := fun x _ => x.1
def z45fn (N : Nat) : FuncId → Option Tmp → Option AF := fun f _ =>
 match f with
   | 52 => some (z35sg fun x _ => strings_Split x.1 x.2.1)
   | 53 => some (z48g N)
   | _ => none
theorem z45fn_ok (N : Nat) : FnOk (z45fn N) := by
 intro f q F h
 unfold z45fn at h
 split at h
 · cases h; exact z35sound
 · cases h; exact z48sound N
 · cases h
def z45h : Nat → Hint := fun i =>
 match i with
 | 0 => ⟨[], [14, 15, 16], [], [], [], []⟩
 | _ => hint0
abbrev z45E (N : Nat) : Env := mkE z45h (z45fn N) FF FF
noncomputable abbrev z45c0 : Code := cAt (bodyOf Tryz.f30) [true, true, false, true, false, false]
noncomputable abbrev z45R (N : Nat) := resD (z45E N) Tryz.f30 (z45g N) z45pk
abbrev z45L0_fs : List (Nat × Sl) := [(14, .v (.sl .str)), (15, .v τ5), (16, .v τ5)]
abbrev z45L0_bs : List (Nat × Sb) := []
def z45L0_hd (t14 : List Str) (c15 : Int) (s16 : Int) : St := ⟨24, [(14, .v (.sl .str) t14), (15, .v τ5 c15), (16, .v τ5 s16)], []⟩
def z45L0_tl0 (_t14 : List Str) (_c15 : Int) : St := ⟨24, [], []⟩
def z45L0_G (N : Nat) (t14 : List Str) (c15 : Int) (s16 : Int) (k : Ex → St → Option Bool) : Option Bool :=
 z45L0 N t14 c15 (k (.exit 0) (z45L0_tl0 t14 c15)) N s16
abbrev z45L0_F (N : Nat) : FV z45L0_fs → HV z45L0_bs → (Ex → St → Option Bool) → Option Bool := fun x _ k => z45L0_G N x.1 x.2.1 x.2.2.1 k
noncomputable def z45LP (N : Nat) : Nat → Code → St → (Ex → St → Option Bool) → Option Bool := fun i c =>
 match i with
 | 0 => (LPc 24 z45L0_fs z45L0_bs (z45L0_F N) (fun st k => iter (z45h 0) (exec (z45E N) N c 0) N st k))
 | i => fun st k => iter (z45h i) (exec (z45E N) N c i) N st k
theorem z45L0_step (N : Nat) (t14 : List Str) (c15 : Int) (KX : Nat → St → Option Bool) (I : St → Option Bool) (s16 : Int) :
   execL (z45LP N) (z45E N) z45c0 0 (z45L0_hd t14 c15 s16) (roundK (z45h 0) I KX (z45R N)) = z45L0T N t14 c15 (KX 0 (z45L0_tl0 t14 c15)) (fun s16 => I (z45L0_hd t14 c15 s16)) s16 := by kernel_rfl
theorem z45L0_ok (N : Nat) : ∀ x y k, (∀ st, k .ret st = (z45R N) st) → iter (z45h 0) (exec (z45E N) N z45c0 0) N ⟨24, unF z45L0_fs x, unH z45L0_bs y⟩ k = z45L0_F N x y k := fun x _ k hk =>
 iter_link (S := (Int) × Unit) (z45h 0) _ (execL (z45LP N) (z45E N) z45c0 0) (z45R N) (fun st k hk => execL_eq _ _ N _ z45c0 0 (show LoopsOk (z45LP N) (z45E N) N (z45R N) [] from trivial) st k hk) (fun s => z45L0_hd x.1 x.2.1 s.1) k hk
   (fun self s => z45L0T N x.1 x.2.1 (k (.exit 0) (z45L0_tl0 x.1 x.2.1)) (fun s16 => self (s16, ())) s.1) (fun n s => z45L0 N x.1 x.2.1 (k (.exit 0) (z45L0_tl0 x.1 x.2.1)) n s.1) (fun _ => rfl) (fun _ _ => rfl)
   (fun I s => z45L0_step N x.1 x.2.1 (fun j => k (.exit j)) I s.1) N (x.2.2.1, ())
theorem z45lp0 (N : Nat) : ∀ st k, (∀ st, k .ret st = (z45R N) st) → z45LP N 0 z45c0 st k = iter (Env.hint (z45E N) 0) (exec (z45E N) N z45c0 0) N st k := fun st k hk => LPc_eq 24 z45L0_fs z45L0_bs _ _ (z45R N) (z45L0_ok N) _ st k hk (rfl)
theorem z45core (N : Nat) (x : SV [.v .str]) (y : BV []) : runL (z45E N) Tryz.f30 (z45g N) z45pk (z45LP N) x y = blob_IsPath N x.1 := by kernel_rfl
theorem z45sound (N : Nat) : Snd 30 (z45g N) :=
 sndL (z45fn_ok N) Tryz.func30 rfl Tryz.call30 (z45g N) z45pk (fun _ _ => rfl) N (z45LP N) (show LoopsOk (z45LP N) (z45E N) N (z45R N) [(0, z45c0)] from ⟨z45lp0 N, trivial⟩) (z45core N)
def z38L0T (_N : Nat) (x0 : List τ11) (x1 : Str) (c7 : Int) (k0 : Option Bool) (self : Int → Option Bool) (s8 : Int) : Option Bool :=
 br (decide (s8 < c7))
   (bnd (geti x1 s8) fun t13 =>
   br (t13 == (47 : UInt8))
     (bnd (slc x1 (0 : Int) s8) fun t19 =>
     br ((mget x0 t19).getD (zero .bool))
       (some true)
       (self (IntKind.i64.wrap (s8 + (1 : Int)))))
     (self (IntKind.i64.wrap (s8 + (1 : Int)))))
   (k0)
def z38L0 (N : Nat) (x0 : List τ11) (x1 : Str) (c7 : Int) (k0 : Option Bool) : Nat → Int → Option Bool
 | 0, _ => none
 | n + 1, s8 => z38L0T N x0 x1 c7 k0 (z38L0 N x0 x1 c7 k0 n) s8
def blob_clashes (N : Nat) (x0 : List τ11) (x1 : Str) : Option Bool :=
 z38L0 N x0 x1 (x1.length : Int) (some false) N (0 : Int)
abbrev z38sg (f : SV [.v (.mp .bool), .v .str] → BV [] → Option (Bool)) : AF := { ps := [.v (.mp .bool), .v .str], bs := [], rs := [.v .bool], cs := [], R := Bool, out := fun z => ((z, ()), ()), f := f }
noncomputable abbrev z38g (N : Nat) : AF := z38sg fun x _ => blob_clashes N x.1 x.2.1
abbrev z38pk : SV [.v .bool] → BV [] → Bool := fun x _ => x.1
def z38fn (_N : Nat) : FuncId → Option Tmp → Option AF := fun f _ =>
 match f with
   | _ => none
theorem z38fn_ok (N : Nat) : FnOk (z38fn N) := by
 intro f q F h
 unfold z38fn at h
 split at h
 · cases h
def z38h : Nat → Hint := fun i =>
 match i with
 | 0 => ⟨[], [0, 1, 7, 8], [], [], [], []⟩
 | _ => hint0
abbrev z38E (N : Nat) : Env := mkE z38h (z38fn N) FF FF
noncomputable abbrev z38c0 : Code := cAt (bodyOf Tryz.f31) [true, false, true, false, false]
noncomputable abbrev z38R (N : Nat) := resD (z38E N) Tryz.f31 (z38g N) z38pk
abbrev z38L0_fs : List (Nat × Sl) := [(0, .v (.mp .bool)), (1, .v .str), (7, .v τ5), (8, .v τ5)]
abbrev z38L0_bs : List (Nat × Sb) := []
def z38L0_hd (x0 : List τ11) (x1 : Str) (c7 : Int) (s8 : Int) : St := ⟨23, [(0, .v (.mp .bool) x0), (1, .v .str x1), (7, .v τ5 c7), (8, .v τ5 s8)], []⟩
def z38L0_tl0 (_x0 : List τ11) (_x1 : Str) (_c7 : Int) : St := ⟨23, [], []⟩
def z38L0_G (N : Nat) (x0 : List τ11) (x1 : Str) (c7 : Int) (s8 : Int) (k : Ex → St → Option Bool) : Option Bool :=
 z38L0 N x0 x1 c7 (k (.exit 0) (z38L0_tl0 x0 x1 c7)) N s8
abbrev z38L0_F (N : Nat) : FV z38L0_fs → HV z38L0_bs → (Ex → St → Option Bool) → Option Bool := fun x _ k => z38L0_G N x.1 x.2.1 x.2.2.1 x.2.2.2.1 k
noncomputable def z38LP (N : Nat) : Nat → Code → St → (Ex → St → Option Bool) → Option Bool := fun i c =>
 match i with
 | 0 => (LPc 23 z38L0_fs z38L0_bs (z38L0_F N) (fun st k => iter (z38h 0) (exec (z38E N) N c 0) N st k))
 | i => fun st k => iter (z38h i) (exec (z38E N) N c i) N st k
theorem z38L0_step (N : Nat) (x0 : List τ11) (x1 : Str) (c7 : Int) (KX : Nat → St → Option Bool) (I : St → Option Bool) (s8 : Int) :
   execL (z38LP N) (z38E N) z38c0 0 (z38L0_hd x0 x1 c7 s8) (roundK (z38h 0) I KX (z38R N)) = z38L0T N x0 x1 c7 (KX 0 (z38L0_tl0 x0 x1 c7)) (fun s8 => I (z38L0_hd x0 x1 c7 s8)) s8 := by kernel_rfl
theorem z38L0_ok (N : Nat) : ∀ x y k, (∀ st, k .ret st = (z38R N) st) → iter (z38h 0) (exec (z38E N) N z38c0 0) N ⟨23, unF z38L0_fs x, unH z38L0_bs y⟩ k = z38L0_F N x y k := fun x _ k hk =>
 iter_link (S := (Int) × Unit) (z38h 0) _ (execL (z38LP N) (z38E N) z38c0 0) (z38R N) (fun st k hk => execL_eq _ _ N _ z38c0 0 (show LoopsOk (z38LP N) (z38E N) N (z38R N) [] from trivial) st k hk) (fun s => z38L0_hd x.1 x.2.1 x.2.2.1 s.1) k hk
   (fun self s => z38L0T N x.1 x.2.1 x.2.2.1 (k (.exit 0) (z38L0_tl0 x.1 x.2.1 x.2.2.1)) (fun s8 => self (s8, ())) s.1) (fun n s => z38L0 N x.1 x.2.1 x.2.2.1 (k (.exit 0) (z38L0_tl0 x.1 x.2.1 x.2.2.1)) n s.1) (fun _ => rfl) (fun _ _ => rfl)
   (fun I s => z38L0_step N x.1 x.2.1 x.2.2.1 (fun j => k (.exit j)) I s.1) N (x.2.2.2.1, ())
theorem z38lp0 (N : Nat) : ∀ st k, (∀ st, k .ret st = (z38R N) st) → z38LP N 0 z38c0 st k = iter (Env.hint (z38E N) 0) (exec (z38E N) N z38c0 0) N st k := fun st k hk => LPc_eq 23 z38L0_fs z38L0_bs _ _ (z38R N) (z38L0_ok N) _ st k hk (rfl)
theorem z38core (N : Nat) (x : SV [.v (.mp .bool), .v .str]) (y : BV []) : runL (z38E N) Tryz.f31 (z38g N) z38pk (z38LP N) x y = blob_clashes N x.1 x.2.1 := by kernel_rfl
theorem z38sound (N : Nat) : Snd 31 (z38g N) :=
 sndL (z38fn_ok N) Tryz.func31 rfl Tryz.call31 (z38g N) z38pk (fun _ _ => rfl) N (z38LP N) (show LoopsOk (z38LP N) (z38E N) N (z38R N) [(0, z38c0)] from ⟨z38lp0 N, trivial⟩) (z38core N)
def z24L0T (N : Nat) (x0 : List τ2) (c13 : List τ2) (c14 : Int) (k0 : Int → (List τ11) → Option Int) (self : Int → Int → (List τ11) → Option Int) (s3 : Int) (s15 : Int) (m1012 : List τ11) : Option Int :=
 br (decide (s15 < c14))
   (bnd (geti c13 s15) fun t18 =>
   bnd (blob_IsPath N t18.1) fun t23 =>
   br (!t23)
     (some (3 : Int))
     (br (decide ((t18.2.2.length : Int) > (100000 : Int)))
       (some (2 : Int))
       (br (decide (s15 > (0 : Int)))
         (bnd (geti x0 (IntKind.i64.wrap (s15 - (1 : Int)))) fun t39 =>
         br (Op.bytesLess t18.1 t39.1 || t18.1 == t39.1)
           (some (8 : Int))
           (self (IntKind.i64.wrap (s3 + (t18.2.2.length : Int))) (IntKind.i64.wrap (s15 + (1 : Int))) (mset m1012 t18.1 true)))
         (self (IntKind.i64.wrap (s3 + (t18.2.2.length : Int))) (IntKind.i64.wrap (s15 + (1 : Int))) (mset m1012 t18.1 true)))))
   (k0 s3 m1012)
def z24L0 (N : Nat) (x0 : List τ2) (c13 : List τ2) (c14 : Int) (k0 : Int → (List τ11) → Option Int) : Nat → Int → Int → (List τ11) → Option Int
 | 0, _, _, _ => none
 | n + 1, s3, s15, m1012 => z24L0T N x0 c13 c14 k0 (z24L0 N x0 c13 c14 k0 n) s3 s15 m1012
def z24L1T (N : Nat) (x0 : List τ2) (c54 : Int) (o0_m1012 : List τ11) (k3 : Option Int) (self : Int → Option Int) (s55 : Int) : Option Int :=
 br (decide (s55 < c54))
   (bnd (geti x0 s55) fun t57 =>
   bnd (blob_clashes N o0_m1012 t57.1) fun t62 =>
   br (t62)
     (some (12 : Int))
     (self (IntKind.i64.wrap (s55 + (1 : Int)))))
   (k3)
def z24L1 (N : Nat) (x0 : List τ2) (c54 : Int) (o0_m1012 : List τ11) (k3 : Option Int) : Nat → Int → Option Int
 | 0, _ => none
 | n + 1, s55 => z24L1T N x0 c54 o0_m1012 k3 (z24L1 N x0 c54 o0_m1012 k3 n) s55
def blob_CheckFiles (N : Nat) (x0 : List τ2) : Option Int :=
 br (decide ((x0.length : Int) > (1000 : Int)))
   (some (2 : Int))
   (z24L0 N x0 x0 (x0.length : Int) (fun o0_3 o0_m1012 =>
       z24L1 N x0 (x0.length : Int) o0_m1012 (br (decide (o0_3 > (2000000 : Int)))
             (some (2 : Int))
             (some (0 : Int))) N (0 : Int)) N (0 : Int) (0 : Int) ([] : List τ11))
abbrev z24sg (f : SV [.v (.sl τ4)] → BV [] → Option (Int)) : AF := { ps := [.v (.sl τ4)], bs := [], rs := [.v τ5], cs := [], R := Int, out := fun z => ((z, ()), ()), f := f }
noncomputable abbrev z24g (N : Nat) : AF := z24sg fun x _ => blob_CheckFiles N x.1
abbrev z24pk : SV [.v τ5] → BV [] → Int := fun x _ => x.1
def z24fn (N : Nat) : FuncId → Option Tmp → Option AF := fun f _ =>
 match f with
   | 30 => some (z45g N)
   | 31 => some (z38g N)
   | _ => none
theorem z24fn_ok (N : Nat) : FnOk (z24fn N) := by
 intro f q F h
 unfold z24fn at h
 split at h
 · cases h; exact z45sound N
 · cases h; exact z38sound N
 · cases h
def z24h : Nat → Hint := fun i =>
 match i with
 | 0 => ⟨[], [0, 3, 4, 13, 14, 15], [1012], [0, 3, 4], [1012], []⟩
 | 3 => ⟨[], [3, 4, 53, 54, 55], [1012], [3], [], []⟩
 | _ => hint0
abbrev z24E (N : Nat) : Env := mkE z24h (z24fn N) FF FF
noncomputable abbrev z24c1 : Code := cAt (bodyOf Tryz.f14) [true, true, true, true, false, true, false, false]
noncomputable abbrev z24c0 : Code := cAt (bodyOf Tryz.f14) [true, true, true, true, true, false, true, false, false]
noncomputable abbrev z24R (N : Nat) := resD (z24E N) Tryz.f14 (z24g N) z24pk
abbrev z24L0_fs : List (Nat × Sl) := [(0, .v (.sl τ4)), (3, .v τ5), (4, .mref 1012), (13, .v (.sl τ4)), (14, .v τ5), (15, .v τ5)]
abbrev z24L0_bs : List (Nat × Sb) := [(1012, .map .bool)]
def z24L0_hd (x0 : List τ2) (c13 : List τ2) (c14 : Int) (s3 : Int) (s15 : Int) (m1012 : List τ11) : St := ⟨66, [(0, .v (.sl τ4) x0), (3, .v τ5 s3), (4, .mref 1012), (13, .v (.sl τ4) c13), (14, .v τ5 c14), (15, .v τ5 s15)], [(1012, .map .bool m1012)]⟩
def z24L0_tl0 (x0 : List τ2) (_c13 : List τ2) (_c14 : Int) (o0_3 : Int) (o0_m1012 : List τ11) : St := ⟨66, [(0, .v (.sl τ4) x0), (3, .v τ5 o0_3), (4, .mref 1012)], [(1012, .map .bool o0_m1012)]⟩
def z24L0_G (N : Nat) (x0 : List τ2) (c13 : List τ2) (c14 : Int) (s3 : Int) (s15 : Int) (m1012 : List τ11) (k : Ex → St → Option Int) : Option Int :=
 z24L0 N x0 c13 c14 (fun o0_3 o0_m1012 => k (.exit 0) (z24L0_tl0 x0 c13 c14 o0_3 o0_m1012)) N s3 s15 m1012
abbrev z24L0_F (N : Nat) : FV z24L0_fs → HV z24L0_bs → (Ex → St → Option Int) → Option Int := fun x y k => z24L0_G N x.1 x.2.2.2.1 x.2.2.2.2.1 x.2.1 x.2.2.2.2.2.1 y.1 k
abbrev z24L1_fs : List (Nat × Sl) := [(3, .v τ5), (4, .mref 1012), (53, .v (.sl τ4)), (54, .v τ5), (55, .v τ5)]
abbrev z24L1_bs : List (Nat × Sb) := [(1012, .map .bool)]
def z24L1_hd (o0_3 : Int) (x0 : List τ2) (c54 : Int) (o0_m1012 : List τ11) (s55 : Int) : St := ⟨66, [(3, .v τ5 o0_3), (4, .mref 1012), (53, .v (.sl τ4) x0), (54, .v τ5 c54), (55, .v τ5 s55)], [(1012, .map .bool o0_m1012)]⟩
def z24L1_tl3 (o0_3 : Int) (_x0 : List τ2) (_c54 : Int) (_o0_m1012 : List τ11) : St := ⟨66, [(3, .v τ5 o0_3)], []⟩
def z24L1_G (N : Nat) (o0_3 : Int) (x0 : List τ2) (c54 : Int) (o0_m1012 : List τ11) (s55 : Int) (k : Ex → St → Option Int) : Option Int :=
 z24L1 N x0 c54 o0_m1012 (k (.exit 3) (z24L1_tl3 o0_3 x0 c54 o0_m1012)) N s55
abbrev z24L1_F (N : Nat) : FV z24L1_fs → HV z24L1_bs → (Ex → St → Option Int) → Option Int := fun x y k => z24L1_G N x.1 x.2.2.1 x.2.2.2.1 y.1 x.2.2.2.2.1 k
noncomputable def z24LP (N : Nat) : Nat → Code → St → (Ex → St → Option Int) → Option Int := fun i c =>
 match i with
 | 0 => (LPc 66 z24L0_fs z24L0_bs (z24L0_F N) (fun st k => iter (z24h 0) (exec (z24E N) N c 0) N st k))
 | 3 => (LPc 66 z24L1_fs z24L1_bs (z24L1_F N) (fun st k => iter (z24h 3) (exec (z24E N) N c 3) N st k))
 | i => fun st k => iter (z24h i) (exec (z24E N) N c i) N st k
theorem z24L1_step (N : Nat) (o0_3 : Int) (x0 : List τ2) (c54 : Int) (o0_m1012 : List τ11) (KX : Nat → St → Option Int) (I : St → Option Int) (s55 : Int) :
   execL (z24LP N) (z24E N) z24c0 3 (z24L1_hd o0_3 x0 c54 o0_m1012 s55) (roundK (z24h 3) I KX (z24R N)) = z24L1T N x0 c54 o0_m1012 (KX 3 (z24L1_tl3 o0_3 x0 c54 o0_m1012)) (fun s55 => I (z24L1_hd o0_3 x0 c54 o0_m1012 s55)) s55 := by kernel_rfl
theorem z24L1_ok (N : Nat) : ∀ x y k, (∀ st, k .ret st = (z24R N) st) → iter (z24h 3) (exec (z24E N) N z24c0 3) N ⟨66, unF z24L1_fs x, unH z24L1_bs y⟩ k = z24L1_F N x y k := fun x y k hk =>
 iter_link (S := (Int) × Unit) (z24h 3) _ (execL (z24LP N) (z24E N) z24c0 3) (z24R N) (fun st k hk => execL_eq _ _ N _ z24c0 3 (show LoopsOk (z24LP N) (z24E N) N (z24R N) [] from trivial) st k hk) (fun s => z24L1_hd x.1 x.2.2.1 x.2.2.2.1 y.1 s.1) k hk
   (fun self s => z24L1T N x.2.2.1 x.2.2.2.1 y.1 (k (.exit 3) (z24L1_tl3 x.1 x.2.2.1 x.2.2.2.1 y.1)) (fun s55 => self (s55, ())) s.1) (fun n s => z24L1 N x.2.2.1 x.2.2.2.1 y.1 (k (.exit 3) (z24L1_tl3 x.1 x.2.2.1 x.2.2.2.1 y.1)) n s.1) (fun _ => rfl) (fun _ _ => rfl)
   (fun I s => z24L1_step N x.1 x.2.2.1 x.2.2.2.1 y.1 (fun j => k (.exit j)) I s.1) N (x.2.2.2.2.1, ())
theorem z24lp3 (N : Nat) : ∀ st k, (∀ st, k .ret st = (z24R N) st) → z24LP N 3 z24c0 st k = iter (Env.hint (z24E N) 3) (exec (z24E N) N z24c0 3) N st k := fun st k hk => LPc_eq 66 z24L1_fs z24L1_bs _ _ (z24R N) (z24L1_ok N) _ st k hk (rfl)
theorem z24L0_step (N : Nat) (x0 : List τ2) (c13 : List τ2) (c14 : Int) (KX : Nat → St → Option Int) (I : St → Option Int) (s3 : Int) (s15 : Int) (m1012 : List τ11) :
   execL (z24LP N) (z24E N) z24c1 0 (z24L0_hd x0 c13 c14 s3 s15 m1012) (roundK (z24h 0) I KX (z24R N)) = z24L0T N x0 c13 c14 (fun o0_3 o0_m1012 => KX 0 (z24L0_tl0 x0 c13 c14 o0_3 o0_m1012)) (fun s3 s15 m1012 => I (z24L0_hd x0 c13 c14 s3 s15 m1012)) s3 s15 m1012 := by kernel_rfl
theorem z24L0_ok (N : Nat) : ∀ x y k, (∀ st, k .ret st = (z24R N) st) → iter (z24h 0) (exec (z24E N) N z24c1 0) N ⟨66, unF z24L0_fs x, unH z24L0_bs y⟩ k = z24L0_F N x y k := fun x y k hk =>
 iter_link (S := (Int) × (Int) × (List τ11) × Unit) (z24h 0) _ (execL (z24LP N) (z24E N) z24c1 0) (z24R N) (fun st k hk => execL_eq _ _ N _ z24c1 0 (show LoopsOk (z24LP N) (z24E N) N (z24R N) [] from trivial) st k hk) (fun s => z24L0_hd x.1 x.2.2.2.1 x.2.2.2.2.1 s.1 s.2.1 s.2.2.1) k hk
   (fun self s => z24L0T N x.1 x.2.2.2.1 x.2.2.2.2.1 (fun o0_3 o0_m1012 => k (.exit 0) (z24L0_tl0 x.1 x.2.2.2.1 x.2.2.2.2.1 o0_3 o0_m1012)) (fun s3 s15 m1012 => self (s3, s15, m1012, ())) s.1 s.2.1 s.2.2.1) (fun n s => z24L0 N x.1 x.2.2.2.1 x.2.2.2.2.1 (fun o0_3 o0_m1012 => k (.exit 0) (z24L0_tl0 x.1 x.2.2.2.1 x.2.2.2.2.1 o0_3 o0_m1012)) n s.1 s.2.1 s.2.2.1) (fun _ => rfl) (fun _ _ => rfl)
   (fun I s => z24L0_step N x.1 x.2.2.2.1 x.2.2.2.2.1 (fun j => k (.exit j)) I s.1 s.2.1 s.2.2.1) N (x.2.1, x.2.2.2.2.2.1, y.1, ())
theorem z24lp0 (N : Nat) : ∀ st k, (∀ st, k .ret st = (z24R N) st) → z24LP N 0 z24c1 st k = iter (Env.hint (z24E N) 0) (exec (z24E N) N z24c1 0) N st k := fun st k hk => LPc_eq 66 z24L0_fs z24L0_bs _ _ (z24R N) (z24L0_ok N) _ st k hk (rfl)
theorem z24core (N : Nat) (x : SV [.v (.sl τ4)]) (y : BV []) : runL (z24E N) Tryz.f14 (z24g N) z24pk (z24LP N) x y = blob_CheckFiles N x.1 := by kernel_rfl
theorem z24sound (N : Nat) : Snd 14 (z24g N) :=
 sndL (z24fn_ok N) Tryz.func14 rfl Tryz.call14 (z24g N) z24pk (fun _ _ => rfl) N (z24LP N) (show LoopsOk (z24LP N) (z24E N) N (z24R N) [(0, z24c1), (3, z24c0)] from ⟨z24lp0 N, z24lp3 N, trivial⟩) (z24core N)
def z43L0T (_N : Nat) (x0 : List UInt8) (c9 : Int) (k0 : Int → Option Str) (self : Int → Int → Option Str) (s3 : Int) (s10 : Int) : Option Str :=
 br (decide (s10 < c9))
   (bnd (geti x0 s10) fun t12 =>
   self (IntKind.u64.wrap ((xorI .u64 s3 (IntKind.u64.wrap (UInt8.toNat t12 : Int))) * (1099511628211 : Int))) (IntKind.i64.wrap (s10 + (1 : Int))))
   (k0 s3)
def z43L0 (N : Nat) (x0 : List UInt8) (c9 : Int) (k0 : Int → Option Str) : Nat → Int → Int → Option Str
 | 0, _, _ => none
 | n + 1, s3, s10 => z43L0T N x0 c9 k0 (z43L0 N x0 c9 k0 n) s3 s10
def z43L1T (_N : Nat) (c22 : Int) (k2 : τ8 → Option Str) (self : Int → Int → τ8 → Option Str) (s3_1 : Int) (s23 : Int) (w1020 : List UInt8) : Option Str :=
 br (decide (s23 < c22))
   (bnd (geti ([48, 49, 50, 51, 52, 53, 54, 55, 56, 57, 97, 98, 99, 100, 101, 102] : Str) (andI .u64 s3_1 (15 : Int))) fun t31 =>
   br (decide (0 ≤ (IntKind.i64.wrap ((15 : Int) - s23)) ∧ (IntKind.i64.wrap ((15 : Int) - s23)) < (w1020.length : Int)))
     (bnd (geti w1020 (IntKind.i64.wrap ((15 : Int) - s23))) fun _ =>
     br (decide (0 ≤ (4 : Int)))
       (self (shrI .u64 s3_1 (4 : Int)) (IntKind.i64.wrap (s23 + (1 : Int))) (seti w1020 (IntKind.i64.wrap ((15 : Int) - s23)) t31))
       none)
     none)
   (k2 w1020)
def z43L1 (N : Nat) (c22 : Int) (k2 : τ8 → Option Str) : Nat → Int → Int → τ8 → Option Str
 | 0, _, _, _ => none
 | n + 1, s3_1, s23, w1020 => z43L1T N c22 k2 (z43L1 N c22 k2 n) s3_1 s23 w1020
def blob_Digest (N : Nat) (x0 : List UInt8) : Option Str :=
 z43L0 N x0 (x0.length : Int) (fun o0_3 =>
     br (decide (0 ≤ (16 : Int) ∧ (16 : Int) ≤ (16 : Int) ∧ (16 : Int) * (24 * Ty.sz .u8 : Nat) ≤ 140737488355328))
       (z43L1 N ((mk0 (16 : Int) (zero .u8)).length : Int) (fun o1_w1020 =>
           some o1_w1020) N o0_3 (0 : Int) (mk0 (16 : Int) (zero .u8)))
       none) N (14695981039346656037 : Int) (0 : Int)
abbrev z43sg (f : SV [.v τ17] → BV [] → Option (Str)) : AF := { ps := [.v τ17], bs := [], rs := [.v .str], cs := [], R := Str, out := fun z => ((z, ()), ()), f := f }
noncomputable abbrev z43g (N : Nat) : AF := z43sg fun x _ => blob_Digest N x.1
abbrev z43pk : SV [.v .str] → BV [] → Str := fun x _ => x.1
def z43fn (_N : Nat) : FuncId → Option Tmp → Option AF := fun f _ =>
 match f with
   | _ => none
theorem z43fn_ok (N : Nat) : FnOk (z43fn N) := by
 intro f q F h
 unfold z43fn at h
 split at h
 · cases h
def z43h : Nat → Hint := fun i =>
 match i with
 | 0 => ⟨[], [3, 8, 9, 10], [], [3], [], []⟩
 | 2 => ⟨[], [3, 6, 22, 23], [1020], [6], [1020], []⟩
 | _ => hint0
abbrev z43E (N : Nat) : Env := mkE z43h (z43fn N) (fun i => match i with | 20 => true | _ => false) (fun _ => false)
noncomputable abbrev z43c1 : Code := cAt (bodyOf Tryz.f19) [true, true, false, true, false, false]
noncomputable abbrev z43c0 : Code := cAt (bodyOf Tryz.f19) [true, true, true, true, false, true, false, false]
noncomputable abbrev z43R (N : Nat) := resD (z43E N) Tryz.f19 (z43g N) z43pk
abbrev z43L0_fs : List (Nat × Sl) := [(3, .v (.int .u64)), (8, .v τ17), (9, .v τ5), (10, .v τ5)]
abbrev z43L0_bs : List (Nat × Sb) := []
def z43L0_hd (x0 : List UInt8) (c9 : Int) (s3 : Int) (s10 : Int) : St := ⟨38, [(3, .v (.int .u64) s3), (8, .v τ17 x0), (9, .v τ5 c9), (10, .v τ5 s10)], []⟩
def z43L0_tl0 (_x0 : List UInt8) (_c9 : Int) (o0_3 : Int) : St := ⟨38, [(3, .v (.int .u64) o0_3)], []⟩
def z43L0_G (N : Nat) (x0 : List UInt8) (c9 : Int) (s3 : Int) (s10 : Int) (k : Ex → St → Option Str) : Option Str :=
 z43L0 N x0 c9 (fun o0_3 => k (.exit 0) (z43L0_tl0 x0 c9 o0_3)) N s3 s10
abbrev z43L0_F (N : Nat) : FV z43L0_fs → HV z43L0_bs → (Ex → St → Option Str) → Option Str := fun x _ k => z43L0_G N x.2.1 x.2.2.1 x.1 x.2.2.2.1 k
abbrev z43L1_fs : List (Nat × Sl) := [(3, .v (.int .u64)), (6, .row 1020), (22, .v τ5), (23, .v τ5)]
abbrev z43L1_bs : List (Nat × Sb) := [(1020, .row 5 .u8 true)]
def z43L1_hd (c22 : Int) (s3_1 : Int) (s23 : Int) (w1020 : List UInt8) : St := ⟨38, [(3, .v (.int .u64) s3_1), (6, .row 1020), (22, .v τ5 c22), (23, .v τ5 s23)], [(1020, .row 5 .u8 true w1020)]⟩
def z43L1_tl2 (_c22 : Int) (o1_w1020 : List UInt8) : St := ⟨38, [(6, .row 1020)], [(1020, .row 5 .u8 true o1_w1020)]⟩
def z43L1_G (N : Nat) (c22 : Int) (s3_1 : Int) (s23 : Int) (w1020 : List UInt8) (k : Ex → St → Option Str) : Option Str :=
 z43L1 N c22 (fun o1_w1020 => k (.exit 2) (z43L1_tl2 c22 o1_w1020)) N s3_1 s23 w1020
abbrev z43L1_F (N : Nat) : FV z43L1_fs → HV z43L1_bs → (Ex → St → Option Str) → Option Str := fun x y k => z43L1_G N x.2.2.1 x.1 x.2.2.2.1 y.1 k
noncomputable def z43LP (N : Nat) : Nat → Code → St → (Ex → St → Option Str) → Option Str := fun i c =>
 match i with
 | 0 => (LPc 38 z43L0_fs z43L0_bs (z43L0_F N) (fun st k => iter (z43h 0) (exec (z43E N) N c 0) N st k))
 | 2 => (LPc 38 z43L1_fs z43L1_bs (z43L1_F N) (fun st k => iter (z43h 2) (exec (z43E N) N c 2) N st k))
 | i => fun st k => iter (z43h i) (exec (z43E N) N c i) N st k
theorem z43L1_step (N : Nat) (c22 : Int) (KX : Nat → St → Option Str) (I : St → Option Str) (s3_1 : Int) (s23 : Int) (w1020 : List UInt8) :
   execL (z43LP N) (z43E N) z43c0 2 (z43L1_hd c22 s3_1 s23 w1020) (roundK (z43h 2) I KX (z43R N)) = z43L1T N c22 (fun o1_w1020 => KX 2 (z43L1_tl2 c22 o1_w1020)) (fun s3_1 s23 w1020 => I (z43L1_hd c22 s3_1 s23 w1020)) s3_1 s23 w1020 := by kernel_rfl
theorem z43L1_ok (N : Nat) : ∀ x y k, (∀ st, k .ret st = (z43R N) st) → iter (z43h 2) (exec (z43E N) N z43c0 2) N ⟨38, unF z43L1_fs x, unH z43L1_bs y⟩ k = z43L1_F N x y k := fun x y k hk =>
 iter_link (S := (Int) × (Int) × τ8 × Unit) (z43h 2) _ (execL (z43LP N) (z43E N) z43c0 2) (z43R N) (fun st k hk => execL_eq _ _ N _ z43c0 2 (show LoopsOk (z43LP N) (z43E N) N (z43R N) [] from trivial) st k hk) (fun s => z43L1_hd x.2.2.1 s.1 s.2.1 s.2.2.1) k hk
   (fun self s => z43L1T N x.2.2.1 (fun o1_w1020 => k (.exit 2) (z43L1_tl2 x.2.2.1 o1_w1020)) (fun s3_1 s23 w1020 => self (s3_1, s23, w1020, ())) s.1 s.2.1 s.2.2.1) (fun n s => z43L1 N x.2.2.1 (fun o1_w1020 => k (.exit 2) (z43L1_tl2 x.2.2.1 o1_w1020)) n s.1 s.2.1 s.2.2.1) (fun _ => rfl) (fun _ _ => rfl)
   (fun I s => z43L1_step N x.2.2.1 (fun j => k (.exit j)) I s.1 s.2.1 s.2.2.1) N (x.1, x.2.2.2.1, y.1, ())
theorem z43lp2 (N : Nat) : ∀ st k, (∀ st, k .ret st = (z43R N) st) → z43LP N 2 z43c0 st k = iter (Env.hint (z43E N) 2) (exec (z43E N) N z43c0 2) N st k := fun st k hk => LPc_eq 38 z43L1_fs z43L1_bs _ _ (z43R N) (z43L1_ok N) _ st k hk (rfl)
theorem z43L0_step (N : Nat) (x0 : List UInt8) (c9 : Int) (KX : Nat → St → Option Str) (I : St → Option Str) (s3 : Int) (s10 : Int) :
   execL (z43LP N) (z43E N) z43c1 0 (z43L0_hd x0 c9 s3 s10) (roundK (z43h 0) I KX (z43R N)) = z43L0T N x0 c9 (fun o0_3 => KX 0 (z43L0_tl0 x0 c9 o0_3)) (fun s3 s10 => I (z43L0_hd x0 c9 s3 s10)) s3 s10 := by kernel_rfl
theorem z43L0_ok (N : Nat) : ∀ x y k, (∀ st, k .ret st = (z43R N) st) → iter (z43h 0) (exec (z43E N) N z43c1 0) N ⟨38, unF z43L0_fs x, unH z43L0_bs y⟩ k = z43L0_F N x y k := fun x _ k hk =>
 iter_link (S := (Int) × (Int) × Unit) (z43h 0) _ (execL (z43LP N) (z43E N) z43c1 0) (z43R N) (fun st k hk => execL_eq _ _ N _ z43c1 0 (show LoopsOk (z43LP N) (z43E N) N (z43R N) [] from trivial) st k hk) (fun s => z43L0_hd x.2.1 x.2.2.1 s.1 s.2.1) k hk
   (fun self s => z43L0T N x.2.1 x.2.2.1 (fun o0_3 => k (.exit 0) (z43L0_tl0 x.2.1 x.2.2.1 o0_3)) (fun s3 s10 => self (s3, s10, ())) s.1 s.2.1) (fun n s => z43L0 N x.2.1 x.2.2.1 (fun o0_3 => k (.exit 0) (z43L0_tl0 x.2.1 x.2.2.1 o0_3)) n s.1 s.2.1) (fun _ => rfl) (fun _ _ => rfl)
   (fun I s => z43L0_step N x.2.1 x.2.2.1 (fun j => k (.exit j)) I s.1 s.2.1) N (x.1, x.2.2.2.1, ())
theorem z43lp0 (N : Nat) : ∀ st k, (∀ st, k .ret st = (z43R N) st) → z43LP N 0 z43c1 st k = iter (Env.hint (z43E N) 0) (exec (z43E N) N z43c1 0) N st k := fun st k hk => LPc_eq 38 z43L0_fs z43L0_bs _ _ (z43R N) (z43L0_ok N) _ st k hk (rfl)
theorem z43core (N : Nat) (x : SV [.v τ17]) (y : BV []) : runL (z43E N) Tryz.f19 (z43g N) z43pk (z43LP N) x y = blob_Digest N x.1 := by kernel_rfl
theorem z43sound (N : Nat) : Snd 19 (z43g N) :=
 runD_sound (mkE_ok z43h (z43fn N) _ _ (z43fn_ok N)) Tryz.func19 rfl Tryz.call19 (z43g N) z43pk (fun _ _ => rfl) N (fun x y _ h => ((runL_eq (z43E N) N Tryz.f19 (z43g N) z43pk (z43LP N) (show LoopsOk (z43LP N) (z43E N) N (z43R N) [(0, z43c1), (2, z43c0)] from ⟨z43lp0 N, z43lp2 N, trivial⟩) x y).trans (z43core N x y)).trans h)
abbrev z39sg (f : SV [.v (.sl τ1)] → BV [] → Option τ8) : AF := { ps := [.v (.sl τ1)], bs := [], rs := [.v τ17], cs := [], R := List UInt8, out := fun z => ((z, ()), ()), f := f }
def z30L0T (N : Nat) (r_blob_dirText : τ6 → Option τ8) (x0 : List τ0) (c8 : Int) (k0 : τ8 → Option τ8) (self : Int → τ8 → Option τ8) (s9 : Int) (w1003 : List UInt8) : Option τ8 :=
 br (decide (s9 < c8))
   (bnd (geti x0 s9) fun t11 =>
   br (!t11.2.1.isNone)
     (bnd (t11.2.1) fun t18 =>
     br (t18.2.1)
       (br (decide (([102, 105, 108, 101, 32] : Str).length + t11.1.length ≤ 9223372036854775807))
         (br (decide ((([102, 105, 108, 101, 32] : Str) ++ t11.1).length + ([32] : Str).length ≤ 9223372036854775807))
           (bnd (t11.2.1) fun t28 =>
           bnd (blob_Digest N t28.2.2) fun t31 =>
           br (decide (((([102, 105, 108, 101, 32] : Str) ++ t11.1) ++ ([32] : Str)).length + t31.length ≤ 9223372036854775807))
             (br (decide ((((([102, 105, 108, 101, 32] : Str) ++ t11.1) ++ ([32] : Str)) ++ t31).length + ([32] : Str).length ≤ 9223372036854775807))
               (br (decide (((((([102, 105, 108, 101, 32] : Str) ++ t11.1) ++ ([32] : Str)) ++ t31) ++ ([32] : Str)).length + ([120] : Str).length ≤ 9223372036854775807))
                 (br (decide ((((((([102, 105, 108, 101, 32] : Str) ++ t11.1) ++ ([32] : Str)) ++ t31) ++ ([32] : Str)) ++ ([120] : Str)).length + ([10] : Str).length ≤ 9223372036854775807))
                   (br (decide ((w1003.length + ((((((([102, 105, 108, 101, 32] : Str) ++ t11.1) ++ ([32] : Str)) ++ t31) ++ ([32] : Str)) ++ ([120] : Str)) ++ ([10] : Str)).length) * (24 * Ty.sz .u8) ≤ 140737488355328))
                     (self (IntKind.i64.wrap (s9 + (1 : Int))) (w1003 ++ ((((((([102, 105, 108, 101, 32] : Str) ++ t11.1) ++ ([32] : Str)) ++ t31) ++ ([32] : Str)) ++ ([120] : Str)) ++ ([10] : Str))))
                     none)
                   none)
                 none)
               none)
             none)
           none)
         none)
       (br (decide (([102, 105, 108, 101, 32] : Str).length + t11.1.length ≤ 9223372036854775807))
         (br (decide ((([102, 105, 108, 101, 32] : Str) ++ t11.1).length + ([32] : Str).length ≤ 9223372036854775807))
           (bnd (t11.2.1) fun t28_1 =>
           bnd (blob_Digest N t28_1.2.2) fun t31_2 =>
           br (decide (((([102, 105, 108, 101, 32] : Str) ++ t11.1) ++ ([32] : Str)).length + t31_2.length ≤ 9223372036854775807))
             (br (decide ((((([102, 105, 108, 101, 32] : Str) ++ t11.1) ++ ([32] : Str)) ++ t31_2).length + ([32] : Str).length ≤ 9223372036854775807))
               (br (decide (((((([102, 105, 108, 101, 32] : Str) ++ t11.1) ++ ([32] : Str)) ++ t31_2) ++ ([32] : Str)).length + ([45] : Str).length ≤ 9223372036854775807))
                 (br (decide ((((((([102, 105, 108, 101, 32] : Str) ++ t11.1) ++ ([32] : Str)) ++ t31_2) ++ ([32] : Str)) ++ ([45] : Str)).length + ([10] : Str).length ≤ 9223372036854775807))
                   (br (decide ((w1003.length + ((((((([102, 105, 108, 101, 32] : Str) ++ t11.1) ++ ([32] : Str)) ++ t31_2) ++ ([32] : Str)) ++ ([45] : Str)) ++ ([10] : Str)).length) * (24 * Ty.sz .u8) ≤ 140737488355328))
                     (self (IntKind.i64.wrap (s9 + (1 : Int))) (w1003 ++ ((((((([102, 105, 108, 101, 32] : Str) ++ t11.1) ++ ([32] : Str)) ++ t31_2) ++ ([32] : Str)) ++ ([45] : Str)) ++ ([10] : Str))))
                     none)
                   none)
                 none)
               none)
             none)
           none)
         none))
     (br (decide (([100, 105, 114, 32] : Str).length + t11.1.length ≤ 9223372036854775807))
       (br (decide ((([100, 105, 114, 32] : Str) ++ t11.1).length + ([32] : Str).length ≤ 9223372036854775807))
         (bnd (blob_nodes t11.2.2) fun t45 =>
         bnd (r_blob_dirText t45) fun t46 =>
         bnd (blob_Digest N t46) fun t47 =>
         br (decide (((([100, 105, 114, 32] : Str) ++ t11.1) ++ ([32] : Str)).length + t47.length ≤ 9223372036854775807))
           (br (decide ((((([100, 105, 114, 32] : Str) ++ t11.1) ++ ([32] : Str)) ++ t47).length + ([10] : Str).length ≤ 9223372036854775807))
             (br (decide ((w1003.length + ((((([100, 105, 114, 32] : Str) ++ t11.1) ++ ([32] : Str)) ++ t47) ++ ([10] : Str)).length) * (24 * Ty.sz .u8) ≤ 140737488355328))
               (self (IntKind.i64.wrap (s9 + (1 : Int))) (w1003 ++ ((((([100, 105, 114, 32] : Str) ++ t11.1) ++ ([32] : Str)) ++ t47) ++ ([10] : Str))))
               none)
             none)
           none)
         none)
       none))
   (k0 w1003)
def z30L0 (N : Nat) (r_blob_dirText : τ6 → Option τ8) (x0 : List τ0) (c8 : Int) (k0 : τ8 → Option τ8) : Nat → Int → τ8 → Option τ8
 | 0, _, _ => none
 | n + 1, s9, w1003 => z30L0T N r_blob_dirText x0 c8 k0 (z30L0 N r_blob_dirText x0 c8 k0 n) s9 w1003
def blob_dirText_b (N : Nat) (r_blob_dirText : τ6 → Option τ8) (x0 : List τ0) : Option τ8 :=
 z30L0 N r_blob_dirText x0 (x0.length : Int) (fun o0_w1003 =>
     some o0_w1003) N (0 : Int) ([] : List UInt8)
abbrev z30sg (f : SV [.v (.sl τ1)] → BV [] → Option τ8) : AF := { ps := [.v (.sl τ1)], bs := [], rs := [.v τ17], cs := [], R := List UInt8, out := fun z => ((z, ()), ()), f := f }
abbrev z30pk : SV [.v τ17] → BV [] → τ8 := fun x _ => x.1
def z30fn (N : Nat) (r_blob_dirText : τ6 → Option τ8) : FuncId → Option Tmp → Option AF := fun f _ =>
 match f with
   | 19 => some (z43g N)
   | 32 => some (z53sg fun x _ => blob_nodes x.1)
   | 34 => some (z39sg fun x _ => r_blob_dirText x.1)
   | _ => none
theorem z30fn_ok (N : Nat) (r_blob_dirText : τ6 → Option τ8) (h_blob_dirText : Sound Tryz.prog GW B0G 34 (z39sg fun x y => r_blob_dirText x.1)) : ∀ f q F, z30fn N r_blob_dirText f q = some F → Sound Tryz.prog GW B0G f F := by
 intro f q F h
 unfold z30fn at h
 split at h
 · cases h; exact z43sound N
 · cases h; exact z53sound
 · cases h; exact h_blob_dirText
 · cases h
def z30h : Nat → Hint := fun i =>
 match i with
 | 0 => ⟨[], [3, 7, 8, 9], [1003], [3], [1003], []⟩
 | 100009 => ⟨[1005], [], [], [], [], []⟩
 | 100010 => ⟨[1005], [], [], [], [], []⟩
 | _ => hint0
abbrev z30E (N : Nat) (r_blob_dirText : τ6 → Option τ8) : Env := mkE z30h (z30fn N r_blob_dirText) (fun _ => false) (fun _ => false)
noncomputable abbrev z30c0 : Code := cAt (bodyOf Tryz.f34) [true, true, false, true, false, false]
abbrev z30L0_fs : List (Nat × Sl) := [(3, .row 1003), (7, .v (.sl τ1)), (8, .v τ5), (9, .v τ5)]
abbrev z30L0_bs : List (Nat × Sb) := [(1003, .row 5 .u8 false)]
def z30L0_hd (x0 : List τ0) (c8 : Int) (s9 : Int) (w1003 : List UInt8) : St := ⟨53, [(3, .row 1003), (7, .v (.sl τ1) x0), (8, .v τ5 c8), (9, .v τ5 s9)], [(1003, .row 5 .u8 false w1003)]⟩
def z30L0_tl0 (_x0 : List τ0) (_c8 : Int) (o0_w1003 : List UInt8) : St := ⟨53, [(3, .row 1003)], [(1003, .row 5 .u8 false o0_w1003)]⟩
def z30L0_G (N : Nat) (r_blob_dirText : τ6 → Option τ8) (x0 : List τ0) (c8 : Int) (s9 : Int) (w1003 : List UInt8) (k : Ex → St → Option τ8) : Option τ8 :=
 z30L0 N r_blob_dirText x0 c8 (fun o0_w1003 => k (.exit 0) (z30L0_tl0 x0 c8 o0_w1003)) N s9 w1003
abbrev z30L0_F (N : Nat) (r_blob_dirText : τ6 → Option τ8) : FV z30L0_fs → HV z30L0_bs → (Ex → St → Option τ8) → Option τ8 := fun x y k => z30L0_G N r_blob_dirText x.2.1 x.2.2.1 x.2.2.2.1 y.1 k
noncomputable def z30LP (N : Nat) (r_blob_dirText : τ6 → Option τ8) : Nat → Code → St → (Ex → St → Option τ8) → Option τ8 := fun i c =>
 match i with
 | 0 => (LPc 53 z30L0_fs z30L0_bs (z30L0_F N r_blob_dirText) (fun st k => iter (z30h 0) (exec (z30E N r_blob_dirText) N c 0) N st k))
 | i => fun st k => iter (z30h i) (exec (z30E N r_blob_dirText) N c i) N st k
theorem z30L0_step (N : Nat) (r_blob_dirText : τ6 → Option τ8) (x0 : List τ0) (c8 : Int) (KX : Nat → St → Option τ8) (I : St → Option τ8) (s9 : Int) (w1003 : List UInt8) :
   execL (z30LP N r_blob_dirText) (z30E N r_blob_dirText) z30c0 0 (z30L0_hd x0 c8 s9 w1003) (roundK (z30h 0) I KX (resD (z30E N r_blob_dirText) Tryz.f34 (z30sg fun x _ => blob_dirText_b N r_blob_dirText x.1) z30pk)) = z30L0T N r_blob_dirText x0 c8 (fun o0_w1003 => KX 0 (z30L0_tl0 x0 c8 o0_w1003)) (fun s9 w1003 => I (z30L0_hd x0 c8 s9 w1003)) s9 w1003 := by kernel_rfl
theorem z30L0_ok (N : Nat) (r_blob_dirText : τ6 → Option τ8) : ∀ x y k, (∀ st, k .ret st = (resD (z30E N r_blob_dirText) Tryz.f34 (z30sg fun x _ => blob_dirText_b N r_blob_dirText x.1) z30pk) st) → iter (z30h 0) (exec (z30E N r_blob_dirText) N z30c0 0) N ⟨53, unF z30L0_fs x, unH z30L0_bs y⟩ k = z30L0_F N r_blob_dirText x y k := fun x y k hk =>
 iter_link (S := (Int) × τ8 × Unit) (z30h 0) _ (execL (z30LP N r_blob_dirText) (z30E N r_blob_dirText) z30c0 0) (resD (z30E N r_blob_dirText) Tryz.f34 (z30sg fun x _ => blob_dirText_b N r_blob_dirText x.1) z30pk) (fun st k hk => execL_eq _ _ N _ z30c0 0 (show LoopsOk (z30LP N r_blob_dirText) (z30E N r_blob_dirText) N (resD (z30E N r_blob_dirText) Tryz.f34 (z30sg fun x _ => blob_dirText_b N r_blob_dirText x.1) z30pk) [] from trivial) st k hk) (fun s => z30L0_hd x.2.1 x.2.2.1 s.1 s.2.1) k hk
   (fun self s => z30L0T N r_blob_dirText x.2.1 x.2.2.1 (fun o0_w1003 => k (.exit 0) (z30L0_tl0 x.2.1 x.2.2.1 o0_w1003)) (fun s9 w1003 => self (s9, w1003, ())) s.1 s.2.1) (fun n s => z30L0 N r_blob_dirText x.2.1 x.2.2.1 (fun o0_w1003 => k (.exit 0) (z30L0_tl0 x.2.1 x.2.2.1 o0_w1003)) n s.1 s.2.1) (fun _ => rfl) (fun _ _ => rfl)
   (fun I s => z30L0_step N r_blob_dirText x.2.1 x.2.2.1 (fun j => k (.exit j)) I s.1 s.2.1) N (x.2.2.2.1, y.1, ())
theorem z30lp0 (N : Nat) (r_blob_dirText : τ6 → Option τ8) : ∀ st k, (∀ st, k .ret st = (resD (z30E N r_blob_dirText) Tryz.f34 (z30sg fun x _ => blob_dirText_b N r_blob_dirText x.1) z30pk) st) → z30LP N r_blob_dirText 0 z30c0 st k = iter (Env.hint (z30E N r_blob_dirText) 0) (exec (z30E N r_blob_dirText) N z30c0 0) N st k := fun st k hk => LPc_eq 53 z30L0_fs z30L0_bs _ _ (resD (z30E N r_blob_dirText) Tryz.f34 (z30sg fun x _ => blob_dirText_b N r_blob_dirText x.1) z30pk) (z30L0_ok N r_blob_dirText) _ st k hk (rfl)
theorem z30core (N : Nat) (r_blob_dirText : τ6 → Option τ8) (x : SV [.v (.sl τ1)]) (y : BV []) : runL (z30E N r_blob_dirText) Tryz.f34 (z30sg fun x _ => blob_dirText_b N r_blob_dirText x.1) z30pk (z30LP N r_blob_dirText) x y = blob_dirText_b N r_blob_dirText x.1 := by kernel_rfl
theorem z30sound (N : Nat) (r_blob_dirText : τ6 → Option τ8) (h_blob_dirText : Sound Tryz.prog GW B0G 34 (z39sg fun x y => r_blob_dirText x.1)) : Sound Tryz.prog GW B0G 34 (z30sg fun x _ => blob_dirText_b N r_blob_dirText x.1) :=
 runD_sound (mkE_ok z30h (z30fn N r_blob_dirText) _ _ (z30fn_ok N r_blob_dirText h_blob_dirText)) Tryz.func34 rfl Tryz.call34 (z30sg fun x _ => blob_dirText_b N r_blob_dirText x.1) z30pk (fun _ _ => rfl) N (fun x y _ h => ((runL_eq (z30E N r_blob_dirText) N Tryz.f34 (z30sg fun x _ => blob_dirText_b N r_blob_dirText x.1) z30pk (z30LP N r_blob_dirText) (show LoopsOk (z30LP N r_blob_dirText) (z30E N r_blob_dirText) N (resD (z30E N r_blob_dirText) Tryz.f34 (z30sg fun x _ => blob_dirText_b N r_blob_dirText x.1) z30pk) [(0, z30c0)] from ⟨z30lp0 N r_blob_dirText, trivial⟩) x y).trans (z30core N r_blob_dirText x y)).trans h)
def blob_dirText (N : Nat) : Nat → τ6 → Option τ8
 | 0 => fun _ => none
 | d + 1 => blob_dirText_b N (blob_dirText N d)
theorem z39sound (N : Nat) : ∀ d, Sound Tryz.prog GW B0G 34 (z39sg fun x y => blob_dirText N d x.1)
 | 0 => Sound.never Tryz.call34 (fun _ _ => rfl)
 | d + 1 => z30sound N (blob_dirText N d) (z39sound N d)
def slices_Clone_byte_byte (_N : Nat) (x0 : List UInt8) : Option τ8 :=
 br ((x0).isEmpty)
   (both
     (some ([] : List UInt8))
     (br (decide ((([] : List UInt8).length + x0.length) * (24 * Ty.sz .u8) ≤ 140737488355328))
       (some (([] : List UInt8) ++ x0))
       none))
   (br (decide ((([] : List UInt8).length + x0.length) * (24 * Ty.sz .u8) ≤ 140737488355328))
     (some (([] : List UInt8) ++ x0))
     none)
abbrev z11sg (f : SV [.v τ17] → BV [] → Option τ8) : AF := { ps := [.v τ17], bs := [], rs := [.row 0], cs := [.row 5 .u8 true], R := List UInt8, out := fun z => (((), ()), (z, ())), f := f }
noncomputable abbrev z11g (N : Nat) : AF := z11sg fun x _ => slices_Clone_byte_byte N x.1
abbrev z11pk : SV [.row 0] → BV [.row 5 .u8 true] → τ8 := fun _ y => y.1
def z11fn (_N : Nat) : FuncId → Option Tmp → Option AF := fun f _ =>
 match f with
   | _ => none
theorem z11fn_ok (N : Nat) : FnOk (z11fn N) := by
 intro f q F h
 unfold z11fn at h
 split at h
 · cases h
def z11h : Nat → Hint := fun i =>
 match i with
 | _ => hint0
abbrev z11E (N : Nat) : Env := mkE z11h (z11fn N) (fun i => match i with | 2 => true | 5 => true | _ => false) (fun _ => false)
noncomputable def z11LP (N : Nat) : Nat → Code → St → (Ex → St → Option τ8) → Option τ8 := fun i c =>
 match i with
 | i => fun st k => iter (z11h i) (exec (z11E N) N c i) N st k
theorem z11core (N : Nat) (x : SV [.v τ17]) (y : BV []) : runL (z11E N) Tryz.f45 (z11g N) z11pk (z11LP N) x y = slices_Clone_byte_byte N x.1 := by kernel_rfl
theorem z11sound (N : Nat) : Snd 45 (z11g N) :=
 runD_sound (mkE_ok z11h (z11fn N) _ _ (z11fn_ok N)) Tryz.func45 rfl Tryz.call45 (z11g N) z11pk (fun _ _ => rfl) N (fun x y _ h => ((runL_eq (z11E N) N Tryz.f45 (z11g N) z11pk (z11LP N) (show LoopsOk (z11LP N) (z11E N) N (resD (z11E N) Tryz.f45 (z11g N) z11pk) [] from trivial) x y).trans (z11core N x y)).trans h)
def blob_writer_put (N : Nat) (x1 : List UInt8) (m1 : List (Str × τ8)) : Option τ12 :=
 bnd (blob_Digest N x1) fun t9 =>
 br (!((mget m1 t9).isSome))
   (bnd (slices_Clone_byte_byte N x1) fun t27 =>
   some (t9, mset m1 t9 t27))
   (some (t9, m1))
abbrev z26sg (f : SV [.box 0 0, .v τ17] → BV [.cells [.mref 1], .map τ17] → Option τ12) : AF := { ps := [.box 0 0, .v τ17], bs := [.cells [.mref 1], .map τ17], rs := [.v .str], cs := [.cells [.mref 1], .map τ17], R := Str × List (Str × τ8), out := fun z => ((z.1, ()), (((), ()), z.2, ())), f := f }
noncomputable abbrev z26g (N : Nat) : AF := z26sg fun x y => blob_writer_put N x.2.1 y.2.1
abbrev z26pk : SV [.v .str] → BV [.cells [.mref 1], .map τ17] → τ12 := fun x y => (x.1, y.2.1)
def z26fn (N : Nat) : FuncId → Option Tmp → Option AF := fun f _ =>
 match f with
   | 19 => some (z43g N)
   | 45 => some (z11g N)
   | _ => none
theorem z26fn_ok (N : Nat) : FnOk (z26fn N) := by
 intro f q F h
 unfold z26fn at h
 split at h
 · cases h; exact z43sound N
 · cases h; exact z11sound N
 · cases h
def z26h : Nat → Hint := fun i =>
 match i with
 | 100004 => ⟨[0, 1], [], [], [], [], []⟩
 | _ => hint0
abbrev z26E (N : Nat) : Env := mkE z26h (z26fn N) FF FF
noncomputable def z26LP (N : Nat) : Nat → Code → St → (Ex → St → Option τ12) → Option τ12 := fun i c =>
 match i with
 | i => fun st k => iter (z26h i) (exec (z26E N) N c i) N st k
theorem z26core (N : Nat) (x : SV [.box 0 0, .v τ17]) (y : BV [.cells [.mref 1], .map τ17]) : runL (z26E N) Tryz.f33 (z26g N) z26pk (z26LP N) x y = blob_writer_put N x.2.1 y.2.1 := by kernel_rfl
theorem z26sound (N : Nat) : Snd 33 (z26g N) :=
 sndL (z26fn_ok N) Tryz.func33 rfl Tryz.call33 (z26g N) z26pk (fun _ _ => rfl) N (z26LP N) (show LoopsOk (z26LP N) (z26E N) N (resD (z26E N) Tryz.f33 (z26g N) z26pk) [] from trivial) (z26core N)
abbrev z25sg (f : SV [.box 0 0, .v (.sl τ4)] → BV [.cells [.mref 1], .map τ17] → Option τ12) : AF := { ps := [.box 0 0, .v (.sl τ4)], bs := [.cells [.mref 1], .map τ17], rs := [.v .str], cs := [.cells [.mref 1], .map τ17], R := Str × List (Str × τ8), out := fun z => ((z.1, ()), (((), ()), z.2, ())), f := f }
end
end Go.Proofs.YtjiddcchklaiiaaGreatDoor


/- A function that turns a row of its caller's where it lies, and gives nothing back: the caller's slice is the one it was. -/
namespace Go.Proofs.YtjiddcchklaiiaaGreatDoor
set_option linter.unusedVariables false
set_option linter.unusedSimpArgs false
open Go Go.RowKit Go.Shelf
theorem Sound.ofRowKept {P : Program} {G : World → Prop} {B0 : Nat} {f : FuncId} {ps : List Sl} {e : TypeId} {t : Ty} {F : SV ps → List t.den → Option (List t.den)}
   (hcall : ∀ (args : Array Value) (w : World), (callFunc f args).run P w = .ok (.enter f args) w) (hz : 0 < t.sz)
   (h : ∀ (M : Nat → Nat → Prop) (w : World) (g : Gh) (v0 : Value) (vs : List Value) (x : SV ps) (xs zs : List t.den) (cs : List Value), G w → (∀ b o, M b o → b < w.heap.size) → (∀ b, v0.ownBlock = some b → ∀ o, M b o) →
     w.ownsRow 0 e t.sz v0 xs.length cs → Els M w t xs cs → All2 (RepD0 M w g) (lays id ps x) vs → F x xs = some zs →
     Calls P f (v0 :: vs).toArray w fun en w' => ∃ cs', en = .returned (.tuple #[]) ∧ ExtX (fun b => v0.ownBlock = some b) w w' ∧
       w'.ownsRow 0 e t.sz v0 zs.length cs' ∧ Els M w t zs cs') :
   Sound P G B0 f ⟨.row 0 :: ps, [.row e t true], [], [.row e t true, .none], List t.den, fun z => ((), (z, ((), ()))), fun x y => F x.2 y.1⟩ := by
 refine ⟨hcall, fun M w g vs0 x y zs hG hB hF hz' => ?_⟩
 obtain ⟨_, x⟩ := x
 obtain ⟨xs, _⟩ := y
 match vs0, hF.args with
 | v0 :: vs, ⟨h0, hA⟩ =>
   obtain ⟨gx, A, n, c, hg0, hv, hv2⟩ := h0
   obtain ⟨gx', hg', _, cs, hown, hblk, hlo, hels⟩ := hF.res 0 (.row e t true xs) rfl
   replace hg0 : g 0 = some gx := hg0
   rw [hg'] at hg0
   cases hg0
   have hlo : gx.lo = 0 := hlo
   rw [← hv] at hown hblk
   have hM : ∀ b, v0.ownBlock = some b → ∀ o, M b o := fun b hb o => (hF.chg 0 gx b o hg' (by rw [hblk]; exact hb)).2 (by rw [hlo]; exact Nat.zero_le _)
   have honly : ∀ r gy, g r = some gy → r = 0 := fun r gy hr => by have := hF.dom r gy hr; exact Nat.lt_one_iff.1 this
   have hX : ∀ b, Xof g b ↔ v0.ownBlock = some b := fun b => by
     constructor
     · rintro ⟨r, gy, hr, hb⟩
       obtain rfl := honly r gy hr
       rw [hg'] at hr; cases hr
       rw [← hblk]; exact hb
     · intro hb
       exact ⟨0, gx, hg', by rw [hblk]; exact hb⟩
   refine (h M w g v0 vs x xs zs cs hG hF.mlt hM hown hels hA hz').mono fun en w' hp => ?_
   obtain ⟨cs', he, hE, hown', hels'⟩ := hp
   have hblk' : ∀ b, v0.ownBlock = some b → v0.ownBlock = some b ∨ w.heap.size ≤ b := fun b h => .inl h
   obtain ⟨v', hv0⟩ : ∃ v', v' = v0 := ⟨v0, rfl⟩
   rw [← hv0] at hown'
   replace hblk' : ∀ b, v'.ownBlock = some b → v0.ownBlock = some b ∨ w.heap.size ≤ b := by rw [hv0]; exact hblk'
   obtain ⟨g', hgd⟩ : ∃ g' : Gh, g' = fun r => if r = 0 then some ⟨v'.ownBlock, 0, v'⟩ else none := ⟨_, rfl⟩
   have hg0' : g' 0 = some ⟨v'.ownBlock, 0, v'⟩ := by rw [hgd]; rfl
   have hgo : ∀ r gy, g' r = some gy → r = 0 ∧ gy = ⟨v'.ownBlock, 0, v'⟩ := fun r gy hr => by
     rw [hgd] at hr
     by_cases h0 : r = 0
     · subst h0; simp at hr; exact ⟨rfl, hr.symm⟩
     · simp [h0] at hr
   have hnew : ∀ b o, Mafter M g g' b o → (M b o ∧ v0.ownBlock ≠ some b) ∨ v'.ownBlock = some b := fun b o hm => by
     rcases hm with ⟨hm, hx⟩ | ⟨r, gy, hr, hb, _⟩
     · exact .inl ⟨hm, fun hb => hx ((hX b).2 hb)⟩
     · obtain ⟨_, rfl⟩ := hgo r gy hr
       exact .inr hb
   have hstep : Step M w (Mafter M g g') w' := by
     have key : ∀ b o, b < w.heap.size → ¬ M b o → w'.heap[b]? = w.heap[b]? ∧ ¬ Mafter M g g' b o := fun b o hb hm => by
       have hnb : v0.ownBlock ≠ some b := fun h => hm (hM b h o)
       refine ⟨hE.block b hb hnb, fun hm' => ?_⟩
       rcases hnew b o hm' with ⟨h1, _⟩ | h1
       · exact hm h1
       · rcases hblk' b h1 with h2 | h2
         · exact hnb h2
         · omega
     refine ⟨fun ad u hu hm => ?_, fun b es c hb hm => ?_⟩
     · have hlt : ad.block < w.heap.size := World.block_lt_of_cell? w _ hu
       obtain ⟨h1, h2⟩ := key ad.block ad.off hlt hm
       exact ⟨(cell_of_block h1).trans hu, h2⟩
     · obtain ⟨h1, h2⟩ := key b 0 (lt_of_map hb) hm
       exact ⟨h1.trans hb, h2⟩
   obtain ⟨A', c', hv', _⟩ := Row.of_own' hown'
   have hlow : ∀ b, v'.ownBlock = some b → B0 ≤ b ∧ b < w'.heap.size := fun b hb => by
     refine ⟨?_, own_lt hown' hb⟩
     rcases hblk' b hb with h1 | h1
     · exact (hF.low 0 gx b hg' (by rw [hblk]; exact h1)).1
     · omega
   have hrow : RepD0 (Mafter M g g') w' g' (.row 0) v' := ⟨_, A', _, c', hg0', rfl, hv'⟩
   refine ⟨[], g', ?_, ⟨hE.os, hE.tape, hE.output, hE.size, fun k hk hx => hE.block k hk fun hb => hx ((hX k).2 hb)⟩, hstep, ?_, fun r gy hr _ => ?_, fun b hb => ?_⟩
   · rw [he]
     rfl
   · exact {
       args := trivial
       res := fun r blk hr => by
         cases r with
         | zero =>
           obtain rfl : Blk.row e t true zs = blk := Option.some.inj hr
           exact ⟨_, hg0', hz, cs', hown', rfl, rfl, fun i hi => RepC.step hstep _ _ _ (hels' i hi)⟩
         | succ r =>
           cases r with
           | zero => cases hr
           | succ r => cases hr
       dom := fun r gy hr => by obtain ⟨rfl, _⟩ := hgo r gy hr; exact Nat.zero_lt_two
       inj := fun r r' gy gy' b hr hr' _ _ => by obtain ⟨rfl, _⟩ := hgo r gy hr; obtain ⟨rfl, _⟩ := hgo r' gy' hr'; rfl
       low := fun r gy b hr hb => by obtain ⟨_, rfl⟩ := hgo r gy hr; exact hlow b hb
       chg := fun r gy b o hr hb => ⟨fun _ => by obtain ⟨_, rfl⟩ := hgo r gy hr; exact Nat.zero_le _, fun hle => .inr ⟨r, gy, hr, hb, hle⟩⟩
       mlt := fun b o hm => by
         rcases hnew b o hm with ⟨h1, _⟩ | h1
         · exact Nat.lt_of_lt_of_le (hF.mlt b o h1) hE.size
         · exact (hlow b h1).2
       row := fun r gy b hr hb h0 => by obtain ⟨_, rfl⟩ := hgo r gy hr; exact absurd h0 (Nat.lt_irrefl 0) }
   · obtain rfl := honly r gy hr
     rw [hg'] at hr; cases hr
     rw [hg0']
     obtain ⟨gb, gl, gv⟩ := gx
     simp only at hblk hlo hv
     subst hv0 hlo hv hblk
     rfl
   · obtain ⟨r, gy, hr, hb⟩ := hb
     obtain ⟨_, rfl⟩ := hgo r gy hr
     rcases hblk' b hb with h1 | h1
     · exact .inl ((hX b).2 h1)
     · exact .inr h1
end Go.Proofs.YtjiddcchklaiiaaGreatDoor


/- What the kit's worlds of a sort hold. -/
namespace Go.Proofs.YtjiddcchklaiiaaGreatDoor
set_option linter.unusedVariables false
set_option linter.unusedSimpArgs false
open Go Go.RowKit Go.Shelf
theorem sortW_block {α : Type} [Inhabited α] (enc : α → Value) {w : World} {n b : Nat} {d : Array α} {os : Array Obj} {cur : Array Value} {e : TypeId} {fz : Nat × Nat} (h : w.heap[b]? = some (.cells cur e fz)) :
   (Sort.grow (Sort.putRow enc (Sort.ahead w n) b 0 d) os).heap[b]? = some (.cells (Sort.putCells enc 0 d cur) e fz) := by
 have hb : b < w.heap.size := by
   apply Classical.byContradiction
   intro hn
   rw [Array.getElem?_eq_none (by omega)] at h
   cases h
 have hb2 : b < (w.heap.modify b (Sort.onCells (Sort.putCells enc 0 d))).size := by rw [Array.size_modify]; exact hb
 show (w.heap.modify b (Sort.onCells (Sort.putCells enc 0 d)) ++ os)[b]? = _
 rw [Array.getElem?_append_left hb2, Array.getElem?_modify, if_pos rfl, h]
 rfl
theorem sortW_ext {α : Type} [Inhabited α] (enc : α → Value) {w : World} {n b : Nat} {d : Array α} {os : Array Obj} : ExtX (fun k => b = k) w (Sort.grow (Sort.putRow enc (Sort.ahead w n) b 0 d) os) := by
 refine ⟨rfl, rfl, rfl, ?_, fun k hk hx => ?_⟩
 · show w.heap.size ≤ (w.heap.modify b (Sort.onCells (Sort.putCells enc 0 d)) ++ os).size
   rw [Array.size_append, Array.size_modify]; omega
 · have hb2 : k < (w.heap.modify b (Sort.onCells (Sort.putCells enc 0 d))).size := by rw [Array.size_modify]; exact hk
   show (w.heap.modify b (Sort.onCells (Sort.putCells enc 0 d)) ++ os)[k]? = _
   rw [Array.getElem?_append_left hb2, Array.getElem?_modify, if_neg hx]
theorem putCells_size {α : Type} [Inhabited α] (enc : α → Value) (d : Array α) (cur : Array Value) : (Sort.putCells enc 0 d cur).size = cur.size := by
 unfold Sort.putCells; simp
theorem putCells_take {α : Type} [Inhabited α] (enc : α → Value) (zs : List α) (cur : Array Value) (h : zs.length ≤ cur.size) : (Sort.putCells enc 0 zs.toArray cur).toList.take zs.length = zs.map enc := by
 apply List.ext_getElem
 · have e : (Sort.putCells enc 0 zs.toArray cur).toList.length = cur.size := by
     rw [Array.length_toList]; exact putCells_size _ _ _
   rw [List.length_take, List.length_map, e]; omega
 · intro k h1 h2
   rw [List.length_map] at h2
   rw [List.getElem_take, Array.getElem_toList, List.getElem_map]
   unfold Sort.putCells
   rw [Array.getElem_mapIdx, if_pos ⟨Nat.zero_le _, by simpa using h2⟩]
   simp [h2]
end Go.Proofs.YtjiddcchklaiiaaGreatDoor

