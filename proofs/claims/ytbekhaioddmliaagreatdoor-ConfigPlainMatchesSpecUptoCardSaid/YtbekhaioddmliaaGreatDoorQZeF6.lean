/- What functions of the program compute, as plain functions (printed). -/
import Derived.Test.YtbekhaioddmliaaGreatDoorQZeF3
namespace Go.Proofs.YtbekhaioddmliaaGreatDoor
open Go Go.RowKit
set_option maxRecDepth 100000
set_option linter.unusedVariables false
noncomputable section
def z35L1T (_N : Nat) (t30 : τ11) (c31 : Int) (κ4_0 : Str) (k2 : τ26) (self : Int → Option Int) (s32 : Int) : Option Int :=
 br (decide (s32 < c31))
  (bnd (geti t30 s32) fun t34 =>
  br (t34.1 == κ4_0)
   (some (7 : Int))
   (self (IntKind.i64.wrap (s32 + (1 : Int)))))
  (k2)
def z35L1 (N : Nat) (t30 : τ11) (c31 : Int) (κ4_0 : Str) (k2 : τ26) : Nat → Int → Option Int
 | 0, _ => none
 | n + 1, s32 => z35L1T N t30 c31 κ4_0 k2 (z35L1 N t30 c31 κ4_0 k2 n) s32
def z35L0T (N : Nat) (x0 : τ11) (c11 : τ11) (c12 : Int) (k0 : τ26) (self : Int → Option Int) (s13 : Int) : Option Int :=
 br (decide (s13 < c12))
  (bnd (geti c11 s13) fun t16 =>
  bnd (ref3_IsWord N t16.1) fun t20 =>
  br (!t20)
   (some (5 : Int))
   (bnd (ref3_checkPairs N t16.2) fun t24 =>
   br (t24 != (0 : Int))
    (some t24)
    (bnd (slc x0 (0 : Int) s13) fun t30 =>
    z35L1 N t30 (t30.length : Int) t16.1 (self (IntKind.i64.wrap (s13 + (1 : Int)))) N (0 : Int))))
  (k0)
def z35L0 (N : Nat) (x0 : τ11) (c11 : τ11) (c12 : Int) (k0 : τ26) : Nat → Int → Option Int
 | 0, _ => none
 | n + 1, s13 => z35L0T N x0 c11 c12 k0 (z35L0 N x0 c11 c12 k0 n) s13
def ref3_CheckPlatforms (N : Nat) (x0 : τ11) : Option Int :=
 br (decide ((x0.length : Int) > (50 : Int)))
  (some (2 : Int))
  (z35L0 N x0 x0 (x0.length : Int) (some (0 : Int)) N (0 : Int))
abbrev z35sg (f : SV [.v τ28] → BV [] → Option (Int)) : AF := { ps := [.v τ28], bs := [], rs := [.v τ6], cs := [], R := Int, out := fun z => ((z, ()), ()), f := f }
noncomputable abbrev z35g (N : Nat) : AF := z35sg fun x _ => ref3_CheckPlatforms N x.1
abbrev z35pk : SV [.v τ6] → BV [] → Int := fun x _ => x.1
def z35fn (N : Nat) : FuncId → Option Tmp → Option AF := fun f _ =>
 match f with
  | 50 => some (z106g N)
  | 125 => some (z68g N)
  | _ => none
theorem z35fn_ok (N : Nat) : FnOk (z35fn N) := by
 intro f q F h
 unfold z35fn at h
 split at h
 · cases h; exact z106sound N
 · cases h; exact z68sound N
 · cases h
def z35h : Nat → Hint := fun i =>
 match i with
 | 0 => ⟨[], [0, 11, 12, 13], [], [], [], []⟩
 | 2 => ⟨[], [0, 4, 11, 12, 13, 30, 31, 32], [1004], [0, 11, 12, 13], [], []⟩
 | _ => hint0
abbrev z35E (N : Nat) : Env := mkE z35h (z35fn N) FF FF
noncomputable abbrev z35c1 : Code := cAt (bodyOf Tryz.f86) [true, true, false, true, false, false]
noncomputable abbrev z35c0 : Code := cAt (bodyOf Tryz.f86) [true, true, false, true, false, false, true, true, false, false, true, true, true, true, false, false]
noncomputable abbrev z35R (N : Nat) := resD (z35E N) Tryz.f86 (z35g N) z35pk
abbrev z35L1_fs : List (Nat × Sl) := [(0, .v τ28), (4, .box 1004 0), (11, .v τ28), (12, .v τ6), (13, .v τ6), (30, .v τ28), (31, .v τ6), (32, .v τ6)]
abbrev z35L1_bs : List (Nat × Sb) := [(1004, .cells [.v .str, .v τ0])]
def z35L1_hd (x0 : τ11) (c11 : τ11) (c12 : Int) (s13 : Int) (t30 : τ11) (c31 : Int) (κ4_0 : Str) (κ4_1 : List τ5) (s32 : Int) : St := ⟨43, [(0, .v τ28 x0), (4, .box 1004 0), (11, .v τ28 c11), (12, .v τ6 c12), (13, .v τ6 s13), (30, .v τ28 t30), (31, .v τ6 c31), (32, .v τ6 s32)], [(1004, .cells [.v .str κ4_0, .v τ0 κ4_1])]⟩
def z35L1_tl2 (x0 : τ11) (c11 : τ11) (c12 : Int) (s13 : Int) (_t30 : τ11) (_c31 : Int) (_κ4_0 : Str) (_κ4_1 : List τ5) : St := ⟨43, [(0, .v τ28 x0), (11, .v τ28 c11), (12, .v τ6 c12), (13, .v τ6 s13)], []⟩
def z35L1_G (N : Nat) (x0 : τ11) (c11 : τ11) (c12 : Int) (s13 : Int) (t30 : τ11) (c31 : Int) (κ4_0 : Str) (κ4_1 : List τ5) (s32 : Int) (k : Ex → St → Option Int) : Option Int :=
 z35L1 N t30 c31 κ4_0 (k (.exit 2) (z35L1_tl2 x0 c11 c12 s13 t30 c31 κ4_0 κ4_1)) N s32
abbrev z35L1_F (N : Nat) : FV z35L1_fs → HV z35L1_bs → (Ex → St → Option Int) → Option Int := fun x y k => z35L1_G N x.1 x.2.2.1 x.2.2.2.1 x.2.2.2.2.1 x.2.2.2.2.2.1 x.2.2.2.2.2.2.1 y.1.1 y.1.2.1 x.2.2.2.2.2.2.2.1 k
abbrev z35L0_fs : List (Nat × Sl) := [(0, .v τ28), (11, .v τ28), (12, .v τ6), (13, .v τ6)]
abbrev z35L0_bs : List (Nat × Sb) := []
def z35L0_hd (x0 : τ11) (c11 : τ11) (c12 : Int) (s13 : Int) : St := ⟨43, [(0, .v τ28 x0), (11, .v τ28 c11), (12, .v τ6 c12), (13, .v τ6 s13)], []⟩
def z35L0_tl0 (_x0 : τ11) (_c11 : τ11) (_c12 : Int) : St := ⟨43, [], []⟩
def z35L0_G (N : Nat) (x0 : τ11) (c11 : τ11) (c12 : Int) (s13 : Int) (k : Ex → St → Option Int) : Option Int :=
 z35L0 N x0 c11 c12 (k (.exit 0) (z35L0_tl0 x0 c11 c12)) N s13
abbrev z35L0_F (N : Nat) : FV z35L0_fs → HV z35L0_bs → (Ex → St → Option Int) → Option Int := fun x _ k => z35L0_G N x.1 x.2.1 x.2.2.1 x.2.2.2.1 k
noncomputable def z35LP (N : Nat) : Nat → Code → St → (Ex → St → Option Int) → Option Int := fun i c =>
 match i with
 | 0 => (LPc 43 z35L0_fs z35L0_bs (z35L0_F N) (fun st k => iter (z35h 0) (exec (z35E N) N c 0) N st k))
 | 2 => (LPc 43 z35L1_fs z35L1_bs (z35L1_F N) (fun st k => iter (z35h 2) (exec (z35E N) N c 2) N st k))
 | i => fun st k => iter (z35h i) (exec (z35E N) N c i) N st k
theorem z35L1_step (N : Nat) (x0 : τ11) (c11 : τ11) (c12 : Int) (s13 : Int) (t30 : τ11) (c31 : Int) (κ4_0 : Str) (κ4_1 : List τ5) (KX : Nat → St → Option Int) (I : St → Option Int) (s32 : Int) :
  execL (z35LP N) (z35E N) z35c0 2 (z35L1_hd x0 c11 c12 s13 t30 c31 κ4_0 κ4_1 s32) (roundK (z35h 2) I KX (z35R N)) = z35L1T N t30 c31 κ4_0 (KX 2 (z35L1_tl2 x0 c11 c12 s13 t30 c31 κ4_0 κ4_1)) (fun s32 => I (z35L1_hd x0 c11 c12 s13 t30 c31 κ4_0 κ4_1 s32)) s32 := by kernel_rfl
theorem z35L1_ok (N : Nat) : ∀ x y k, (∀ st, k .ret st = (z35R N) st) → iter (z35h 2) (exec (z35E N) N z35c0 2) N ⟨43, unF z35L1_fs x, unH z35L1_bs y⟩ k = z35L1_F N x y k := fun x y k hk =>
 iter_link (S := (Int) × Unit) (z35h 2) _ (execL (z35LP N) (z35E N) z35c0 2) (z35R N) (fun st k hk => execL_eq _ _ N _ z35c0 2 (show LoopsOk (z35LP N) (z35E N) N (z35R N) [] from trivial) st k hk) (fun s => z35L1_hd x.1 x.2.2.1 x.2.2.2.1 x.2.2.2.2.1 x.2.2.2.2.2.1 x.2.2.2.2.2.2.1 y.1.1 y.1.2.1 s.1) k hk
  (fun self s => z35L1T N x.2.2.2.2.2.1 x.2.2.2.2.2.2.1 y.1.1 (k (.exit 2) (z35L1_tl2 x.1 x.2.2.1 x.2.2.2.1 x.2.2.2.2.1 x.2.2.2.2.2.1 x.2.2.2.2.2.2.1 y.1.1 y.1.2.1)) (fun s32 => self (s32, ())) s.1) (fun n s => z35L1 N x.2.2.2.2.2.1 x.2.2.2.2.2.2.1 y.1.1 (k (.exit 2) (z35L1_tl2 x.1 x.2.2.1 x.2.2.2.1 x.2.2.2.2.1 x.2.2.2.2.2.1 x.2.2.2.2.2.2.1 y.1.1 y.1.2.1)) n s.1) (fun _ => rfl) (fun _ _ => rfl)
  (fun I s => z35L1_step N x.1 x.2.2.1 x.2.2.2.1 x.2.2.2.2.1 x.2.2.2.2.2.1 x.2.2.2.2.2.2.1 y.1.1 y.1.2.1 (fun j => k (.exit j)) I s.1) N (x.2.2.2.2.2.2.2.1, ())
theorem z35lp2 (N : Nat) : ∀ st k, (∀ st, k .ret st = (z35R N) st) → z35LP N 2 z35c0 st k = iter (Env.hint (z35E N) 2) (exec (z35E N) N z35c0 2) N st k := fun st k hk => LPc_eq 43 z35L1_fs z35L1_bs _ _ (z35R N) (z35L1_ok N) _ st k hk (rfl)
theorem z35L0_step (N : Nat) (x0 : τ11) (c11 : τ11) (c12 : Int) (KX : Nat → St → Option Int) (I : St → Option Int) (s13 : Int) :
  execL (z35LP N) (z35E N) z35c1 0 (z35L0_hd x0 c11 c12 s13) (roundK (z35h 0) I KX (z35R N)) = z35L0T N x0 c11 c12 (KX 0 (z35L0_tl0 x0 c11 c12)) (fun s13 => I (z35L0_hd x0 c11 c12 s13)) s13 := by kernel_rfl
theorem z35L0_ok (N : Nat) : ∀ x y k, (∀ st, k .ret st = (z35R N) st) → iter (z35h 0) (exec (z35E N) N z35c1 0) N ⟨43, unF z35L0_fs x, unH z35L0_bs y⟩ k = z35L0_F N x y k := fun x _ k hk =>
 iter_link (S := (Int) × Unit) (z35h 0) _ (execL (z35LP N) (z35E N) z35c1 0) (z35R N) (fun st k hk => execL_eq _ _ N _ z35c1 0 (show LoopsOk (z35LP N) (z35E N) N (z35R N) [(2, z35c0)] from ⟨z35lp2 N, trivial⟩) st k hk) (fun s => z35L0_hd x.1 x.2.1 x.2.2.1 s.1) k hk
  (fun self s => z35L0T N x.1 x.2.1 x.2.2.1 (k (.exit 0) (z35L0_tl0 x.1 x.2.1 x.2.2.1)) (fun s13 => self (s13, ())) s.1) (fun n s => z35L0 N x.1 x.2.1 x.2.2.1 (k (.exit 0) (z35L0_tl0 x.1 x.2.1 x.2.2.1)) n s.1) (fun _ => rfl) (fun _ _ => rfl)
  (fun I s => z35L0_step N x.1 x.2.1 x.2.2.1 (fun j => k (.exit j)) I s.1) N (x.2.2.2.1, ())
theorem z35lp0 (N : Nat) : ∀ st k, (∀ st, k .ret st = (z35R N) st) → z35LP N 0 z35c1 st k = iter (Env.hint (z35E N) 0) (exec (z35E N) N z35c1 0) N st k := fun st k hk => LPc_eq 43 z35L0_fs z35L0_bs _ _ (z35R N) (z35L0_ok N) _ st k hk (rfl)
theorem z35core (N : Nat) (x : SV [.v τ28]) (y : BV []) : runL (z35E N) Tryz.f86 (z35g N) z35pk (z35LP N) x y = ref3_CheckPlatforms N x.1 := by kernel_rfl
theorem z35sound (N : Nat) : Snd 86 (z35g N) :=
 sndL (z35fn_ok N) Tryz.func86 rfl Tryz.call86 (z35g N) z35pk (fun _ _ => rfl) N (z35LP N) (show LoopsOk (z35LP N) (z35E N) N (z35R N) [(0, z35c1), (2, z35c0)] from ⟨z35lp0 N, z35lp2 N, trivial⟩) (z35core N)
def z116L0T (N : Nat) (x0 : List τ5) (c8 : Int) (κ3_1 : List τ5) (k0 : τ30) (self : Int → Option Bool) (s9 : Int) : Option Bool :=
 br (decide (s9 < c8))
  (bnd (geti x0 s9) fun t11 =>
  bnd (slices_Contains_api_Pair N κ3_1 t11) fun t16 =>
  br (!t16)
   (some false)
   (self (IntKind.i64.wrap (s9 + (1 : Int)))))
  (k0)
def z116L0 (N : Nat) (x0 : List τ5) (c8 : Int) (κ3_1 : List τ5) (k0 : τ30) : Nat → Int → Option Bool
 | 0, _ => none
 | n + 1, s9 => z116L0T N x0 c8 κ3_1 k0 (z116L0 N x0 c8 κ3_1 k0 n) s9
def ref3_fits (N : Nat) (x0 : List τ5) (x1 : Str × List τ5) : Option Bool :=
 z116L0 N x0 (x0.length : Int) x1.2 (some true) N (0 : Int)
abbrev z116sg (f : SV [.v τ0, .v τ16] → BV [] → Option (Bool)) : AF := { ps := [.v τ0, .v τ16], bs := [], rs := [.v .bool], cs := [], R := Bool, out := fun z => ((z, ()), ()), f := f }
noncomputable abbrev z116g (N : Nat) : AF := z116sg fun x _ => ref3_fits N x.1 x.2.1
abbrev z116pk : SV [.v .bool] → BV [] → Bool := fun x _ => x.1
def z116fn (N : Nat) : FuncId → Option Tmp → Option AF := fun f _ =>
 match f with
  | 185 => some (z23g N)
  | _ => none
theorem z116fn_ok (N : Nat) : FnOk (z116fn N) := by
 intro f q F h
 unfold z116fn at h
 split at h
 · cases h; exact z23sound N
 · cases h
def z116h : Nat → Hint := fun i =>
 match i with
 | 0 => ⟨[], [3, 7, 8, 9], [1003], [], [], []⟩
 | _ => hint0
abbrev z116E (N : Nat) : Env := mkE z116h (z116fn N) FF FF
noncomputable abbrev z116c0 : Code := cAt (bodyOf Tryz.f138) [true, false, true, false, false]
noncomputable abbrev z116R (N : Nat) := resD (z116E N) Tryz.f138 (z116g N) z116pk
abbrev z116L0_fs : List (Nat × Sl) := [(3, .box 1003 0), (7, .v τ0), (8, .v τ6), (9, .v τ6)]
abbrev z116L0_bs : List (Nat × Sb) := [(1003, .cells [.v .str, .v τ0])]
def z116L0_hd (x0 : List τ5) (c8 : Int) (κ3_0 : Str) (κ3_1 : List τ5) (s9 : Int) : St := ⟨19, [(3, .box 1003 0), (7, .v τ0 x0), (8, .v τ6 c8), (9, .v τ6 s9)], [(1003, .cells [.v .str κ3_0, .v τ0 κ3_1])]⟩
def z116L0_tl0 (_x0 : List τ5) (_c8 : Int) (_κ3_0 : Str) (_κ3_1 : List τ5) : St := ⟨19, [], []⟩
def z116L0_G (N : Nat) (x0 : List τ5) (c8 : Int) (κ3_0 : Str) (κ3_1 : List τ5) (s9 : Int) (k : Ex → St → Option Bool) : Option Bool :=
 z116L0 N x0 c8 κ3_1 (k (.exit 0) (z116L0_tl0 x0 c8 κ3_0 κ3_1)) N s9
abbrev z116L0_F (N : Nat) : FV z116L0_fs → HV z116L0_bs → (Ex → St → Option Bool) → Option Bool := fun x y k => z116L0_G N x.2.1 x.2.2.1 y.1.1 y.1.2.1 x.2.2.2.1 k
noncomputable def z116LP (N : Nat) : Nat → Code → St → (Ex → St → Option Bool) → Option Bool := fun i c =>
 match i with
 | 0 => (LPc 19 z116L0_fs z116L0_bs (z116L0_F N) (fun st k => iter (z116h 0) (exec (z116E N) N c 0) N st k))
 | i => fun st k => iter (z116h i) (exec (z116E N) N c i) N st k
theorem z116L0_step (N : Nat) (x0 : List τ5) (c8 : Int) (κ3_0 : Str) (κ3_1 : List τ5) (KX : Nat → St → Option Bool) (I : St → Option Bool) (s9 : Int) :
  execL (z116LP N) (z116E N) z116c0 0 (z116L0_hd x0 c8 κ3_0 κ3_1 s9) (roundK (z116h 0) I KX (z116R N)) = z116L0T N x0 c8 κ3_1 (KX 0 (z116L0_tl0 x0 c8 κ3_0 κ3_1)) (fun s9 => I (z116L0_hd x0 c8 κ3_0 κ3_1 s9)) s9 := by kernel_rfl
theorem z116L0_ok (N : Nat) : ∀ x y k, (∀ st, k .ret st = (z116R N) st) → iter (z116h 0) (exec (z116E N) N z116c0 0) N ⟨19, unF z116L0_fs x, unH z116L0_bs y⟩ k = z116L0_F N x y k := fun x y k hk =>
 iter_link (S := (Int) × Unit) (z116h 0) _ (execL (z116LP N) (z116E N) z116c0 0) (z116R N) (fun st k hk => execL_eq _ _ N _ z116c0 0 (show LoopsOk (z116LP N) (z116E N) N (z116R N) [] from trivial) st k hk) (fun s => z116L0_hd x.2.1 x.2.2.1 y.1.1 y.1.2.1 s.1) k hk
  (fun self s => z116L0T N x.2.1 x.2.2.1 y.1.2.1 (k (.exit 0) (z116L0_tl0 x.2.1 x.2.2.1 y.1.1 y.1.2.1)) (fun s9 => self (s9, ())) s.1) (fun n s => z116L0 N x.2.1 x.2.2.1 y.1.2.1 (k (.exit 0) (z116L0_tl0 x.2.1 x.2.2.1 y.1.1 y.1.2.1)) n s.1) (fun _ => rfl) (fun _ _ => rfl)
  (fun I s => z116L0_step N x.2.1 x.2.2.1 y.1.1 y.1.2.1 (fun j => k (.exit j)) I s.1) N (x.2.2.2.1, ())
theorem z116lp0 (N : Nat) : ∀ st k, (∀ st, k .ret st = (z116R N) st) → z116LP N 0 z116c0 st k = iter (Env.hint (z116E N) 0) (exec (z116E N) N z116c0 0) N st k := fun st k hk => LPc_eq 19 z116L0_fs z116L0_bs _ _ (z116R N) (z116L0_ok N) _ st k hk (rfl)
theorem z116core (N : Nat) (x : SV [.v τ0, .v τ16]) (y : BV []) : runL (z116E N) Tryz.f138 (z116g N) z116pk (z116LP N) x y = ref3_fits N x.1 x.2.1 := by kernel_rfl
theorem z116sound (N : Nat) : Snd 138 (z116g N) :=
 sndL (z116fn_ok N) Tryz.func138 rfl Tryz.call138 (z116g N) z116pk (fun _ _ => rfl) N (z116LP N) (show LoopsOk (z116LP N) (z116E N) N (z116R N) [(0, z116c0)] from ⟨z116lp0 N, trivial⟩) (z116core N)
def z113L0T (N : Nat) (x0 : τ7) (x2 : List τ5) (c12 : List τ5) (c13 : Int) (k0 : τ30) (self : Int → Option Bool) (s14 : Int) : Option Bool :=
 br (decide (s14 < c13))
  (bnd (geti c12 s14) fun t16 =>
  bnd (ref3_valueOf N x0 x2 t16.1) fun t22 =>
  br (!(t22 == t16.2))
   (some false)
   (self (IntKind.i64.wrap (s14 + (1 : Int)))))
  (k0)
def z113L0 (N : Nat) (x0 : τ7) (x2 : List τ5) (c12 : List τ5) (c13 : Int) (k0 : τ30) : Nat → Int → Option Bool
 | 0, _ => none
 | n + 1, s14 => z113L0T N x0 x2 c12 c13 k0 (z113L0 N x0 x2 c12 c13 k0 n) s14
def ref3_holds (N : Nat) (x0 : τ7) (x1 : Str × List τ5 × List τ5) (x2 : List τ5) (x3 : Str × List τ5) : Option Bool :=
 z113L0 N x0 x2 x1.2.1 (x1.2.1.length : Int) (bnd (ref3_fits N x1.2.2 x3) fun t30 =>
   some t30) N (0 : Int)
abbrev z113sg (f : SV [.v τ9, .v τ8, .v τ0, .v τ16] → BV [] → Option (Bool)) : AF := { ps := [.v τ9, .v τ8, .v τ0, .v τ16], bs := [], rs := [.v .bool], cs := [], R := Bool, out := fun z => ((z, ()), ()), f := f }
noncomputable abbrev z113g (N : Nat) : AF := z113sg fun x _ => ref3_holds N x.1 x.2.1 x.2.2.1 x.2.2.2.1
abbrev z113pk : SV [.v .bool] → BV [] → Bool := fun x _ => x.1
def z113fn (N : Nat) : FuncId → Option Tmp → Option AF := fun f _ =>
 match f with
  | 101 => some (z91g N)
  | 138 => some (z116g N)
  | _ => none
theorem z113fn_ok (N : Nat) : FnOk (z113fn N) := by
 intro f q F h
 unfold z113fn at h
 split at h
 · cases h; exact z91sound N
 · cases h; exact z116sound N
 · cases h
def z113h : Nat → Hint := fun i =>
 match i with
 | 0 => ⟨[], [0, 2, 5, 7, 12, 13, 14], [1005, 1007], [5, 7], [1005, 1007], []⟩
 | _ => hint0
abbrev z113E (N : Nat) : Env := mkE z113h (z113fn N) FF FF
noncomputable abbrev z113c0 : Code := cAt (bodyOf Tryz.f91) [true, false, true, false, false]
noncomputable abbrev z113R (N : Nat) := resD (z113E N) Tryz.f91 (z113g N) z113pk
abbrev z113L0_fs : List (Nat × Sl) := [(0, .v τ9), (2, .v τ0), (5, .box 1005 0), (7, .box 1007 0), (12, .v τ0), (13, .v τ6), (14, .v τ6)]
abbrev z113L0_bs : List (Nat × Sb) := [(1005, .cells [.v .str, .v τ0, .v τ0]), (1007, .cells [.v .str, .v τ0])]
def z113L0_hd (x0 : τ7) (x2 : List τ5) (c12 : List τ5) (c13 : Int) (κ5_0 : Str) (κ5_1 : List τ5) (κ5_2 : List τ5) (κ7_0 : Str) (κ7_1 : List τ5) (s14 : Int) : St := ⟨31, [(0, .v τ9 x0), (2, .v τ0 x2), (5, .box 1005 0), (7, .box 1007 0), (12, .v τ0 c12), (13, .v τ6 c13), (14, .v τ6 s14)], [(1005, .cells [.v .str κ5_0, .v τ0 κ5_1, .v τ0 κ5_2]), (1007, .cells [.v .str κ7_0, .v τ0 κ7_1])]⟩
def z113L0_tl0 (_x0 : τ7) (_x2 : List τ5) (_c12 : List τ5) (_c13 : Int) (κ5_0 : Str) (κ5_1 : List τ5) (κ5_2 : List τ5) (κ7_0 : Str) (κ7_1 : List τ5) : St := ⟨31, [(5, .box 1005 0), (7, .box 1007 0)], [(1005, .cells [.v .str κ5_0, .v τ0 κ5_1, .v τ0 κ5_2]), (1007, .cells [.v .str κ7_0, .v τ0 κ7_1])]⟩
def z113L0_G (N : Nat) (x0 : τ7) (x2 : List τ5) (c12 : List τ5) (c13 : Int) (κ5_0 : Str) (κ5_1 : List τ5) (κ5_2 : List τ5) (κ7_0 : Str) (κ7_1 : List τ5) (s14 : Int) (k : Ex → St → Option Bool) : Option Bool :=
 z113L0 N x0 x2 c12 c13 (k (.exit 0) (z113L0_tl0 x0 x2 c12 c13 κ5_0 κ5_1 κ5_2 κ7_0 κ7_1)) N s14
abbrev z113L0_F (N : Nat) : FV z113L0_fs → HV z113L0_bs → (Ex → St → Option Bool) → Option Bool := fun x y k => z113L0_G N x.1 x.2.1 x.2.2.2.2.1 x.2.2.2.2.2.1 y.1.1 y.1.2.1 y.1.2.2.1 y.2.1.1 y.2.1.2.1 x.2.2.2.2.2.2.1 k
noncomputable def z113LP (N : Nat) : Nat → Code → St → (Ex → St → Option Bool) → Option Bool := fun i c =>
 match i with
 | 0 => (LPc 31 z113L0_fs z113L0_bs (z113L0_F N) (fun st k => iter (z113h 0) (exec (z113E N) N c 0) N st k))
 | i => fun st k => iter (z113h i) (exec (z113E N) N c i) N st k
theorem z113L0_step (N : Nat) (x0 : τ7) (x2 : List τ5) (c12 : List τ5) (c13 : Int) (κ5_0 : Str) (κ5_1 : List τ5) (κ5_2 : List τ5) (κ7_0 : Str) (κ7_1 : List τ5) (KX : Nat → St → Option Bool) (I : St → Option Bool) (s14 : Int) :
  execL (z113LP N) (z113E N) z113c0 0 (z113L0_hd x0 x2 c12 c13 κ5_0 κ5_1 κ5_2 κ7_0 κ7_1 s14) (roundK (z113h 0) I KX (z113R N)) = z113L0T N x0 x2 c12 c13 (KX 0 (z113L0_tl0 x0 x2 c12 c13 κ5_0 κ5_1 κ5_2 κ7_0 κ7_1)) (fun s14 => I (z113L0_hd x0 x2 c12 c13 κ5_0 κ5_1 κ5_2 κ7_0 κ7_1 s14)) s14 := by kernel_rfl
theorem z113L0_ok (N : Nat) : ∀ x y k, (∀ st, k .ret st = (z113R N) st) → iter (z113h 0) (exec (z113E N) N z113c0 0) N ⟨31, unF z113L0_fs x, unH z113L0_bs y⟩ k = z113L0_F N x y k := fun x y k hk =>
 iter_link (S := (Int) × Unit) (z113h 0) _ (execL (z113LP N) (z113E N) z113c0 0) (z113R N) (fun st k hk => execL_eq _ _ N _ z113c0 0 (show LoopsOk (z113LP N) (z113E N) N (z113R N) [] from trivial) st k hk) (fun s => z113L0_hd x.1 x.2.1 x.2.2.2.2.1 x.2.2.2.2.2.1 y.1.1 y.1.2.1 y.1.2.2.1 y.2.1.1 y.2.1.2.1 s.1) k hk
  (fun self s => z113L0T N x.1 x.2.1 x.2.2.2.2.1 x.2.2.2.2.2.1 (k (.exit 0) (z113L0_tl0 x.1 x.2.1 x.2.2.2.2.1 x.2.2.2.2.2.1 y.1.1 y.1.2.1 y.1.2.2.1 y.2.1.1 y.2.1.2.1)) (fun s14 => self (s14, ())) s.1) (fun n s => z113L0 N x.1 x.2.1 x.2.2.2.2.1 x.2.2.2.2.2.1 (k (.exit 0) (z113L0_tl0 x.1 x.2.1 x.2.2.2.2.1 x.2.2.2.2.2.1 y.1.1 y.1.2.1 y.1.2.2.1 y.2.1.1 y.2.1.2.1)) n s.1) (fun _ => rfl) (fun _ _ => rfl)
  (fun I s => z113L0_step N x.1 x.2.1 x.2.2.2.2.1 x.2.2.2.2.2.1 y.1.1 y.1.2.1 y.1.2.2.1 y.2.1.1 y.2.1.2.1 (fun j => k (.exit j)) I s.1) N (x.2.2.2.2.2.2.1, ())
theorem z113lp0 (N : Nat) : ∀ st k, (∀ st, k .ret st = (z113R N) st) → z113LP N 0 z113c0 st k = iter (Env.hint (z113E N) 0) (exec (z113E N) N z113c0 0) N st k := fun st k hk => LPc_eq 31 z113L0_fs z113L0_bs _ _ (z113R N) (z113L0_ok N) _ st k hk (rfl)
theorem z113core (N : Nat) (x : SV [.v τ9, .v τ8, .v τ0, .v τ16]) (y : BV []) : runL (z113E N) Tryz.f91 (z113g N) z113pk (z113LP N) x y = ref3_holds N x.1 x.2.1 x.2.2.1 x.2.2.2.1 := by kernel_rfl
theorem z113sound (N : Nat) : Snd 91 (z113g N) :=
 sndL (z113fn_ok N) Tryz.func91 rfl Tryz.call91 (z113g N) z113pk (fun _ _ => rfl) N (z113LP N) (show LoopsOk (z113LP N) (z113E N) N (z113R N) [(0, z113c0)] from ⟨z113lp0 N, trivial⟩) (z113core N)
def z16L0T (_N : Nat) (x0 : List Str) (x1 : List Str) (c12 : Int) (k0 : τ30) (self : Int → Option Bool) (s13 : Int) : Option Bool :=
 br (decide (s13 < c12))
  (bnd (geti x0 s13) fun t18 =>
  bnd (geti x1 s13) fun t22 =>
  br (!(t18 == t22))
   (some false)
   (self (IntKind.i64.wrap (s13 + (1 : Int)))))
  (k0)
def z16L0 (N : Nat) (x0 : List Str) (x1 : List Str) (c12 : Int) (k0 : τ30) : Nat → Int → Option Bool
 | 0, _ => none
 | n + 1, s13 => z16L0T N x0 x1 c12 k0 (z16L0 N x0 x1 c12 k0 n) s13
def slices_Equal_string_string (N : Nat) (x0 : List Str) (x1 : List Str) : Option Bool :=
 br ((x0.length : Int) != (x1.length : Int))
  (some false)
  (z16L0 N x0 x1 (x0.length : Int) (some true) N (0 : Int))
abbrev z16sg (f : SV [.v τ22, .v τ22] → BV [] → Option (Bool)) : AF := { ps := [.v τ22, .v τ22], bs := [], rs := [.v .bool], cs := [], R := Bool, out := fun z => ((z, ()), ()), f := f }
noncomputable abbrev z16g (N : Nat) : AF := z16sg fun x _ => slices_Equal_string_string N x.1 x.2.1
abbrev z16pk : SV [.v .bool] → BV [] → Bool := fun x _ => x.1
def z16fn (_N : Nat) : FuncId → Option Tmp → Option AF := fun f _ =>
 match f with
  | _ => none
theorem z16fn_ok (N : Nat) : FnOk (z16fn N) := by
 intro f q F h
 unfold z16fn at h
 split at h
 · cases h
def z16h : Nat → Hint := fun i =>
 match i with
 | 0 => ⟨[], [0, 1, 12, 13], [], [], [], []⟩
 | _ => hint0
abbrev z16E (N : Nat) : Env := mkE z16h (z16fn N) FF FF
noncomputable abbrev z16c0 : Code := cAt (bodyOf Tryz.f20) [true, true, false, true, false, false]
noncomputable abbrev z16R (N : Nat) := resD (z16E N) Tryz.f20 (z16g N) z16pk
abbrev z16L0_fs : List (Nat × Sl) := [(0, .v τ22), (1, .v τ22), (12, .v τ6), (13, .v τ6)]
abbrev z16L0_bs : List (Nat × Sb) := []
def z16L0_hd (x0 : List Str) (x1 : List Str) (c12 : Int) (s13 : Int) : St := ⟨26, [(0, .v τ22 x0), (1, .v τ22 x1), (12, .v τ6 c12), (13, .v τ6 s13)], []⟩
def z16L0_tl0 (_x0 : List Str) (_x1 : List Str) (_c12 : Int) : St := ⟨26, [], []⟩
def z16L0_G (N : Nat) (x0 : List Str) (x1 : List Str) (c12 : Int) (s13 : Int) (k : Ex → St → Option Bool) : Option Bool :=
 z16L0 N x0 x1 c12 (k (.exit 0) (z16L0_tl0 x0 x1 c12)) N s13
abbrev z16L0_F (N : Nat) : FV z16L0_fs → HV z16L0_bs → (Ex → St → Option Bool) → Option Bool := fun x _ k => z16L0_G N x.1 x.2.1 x.2.2.1 x.2.2.2.1 k
noncomputable def z16LP (N : Nat) : Nat → Code → St → (Ex → St → Option Bool) → Option Bool := fun i c =>
 match i with
 | 0 => (LPc 26 z16L0_fs z16L0_bs (z16L0_F N) (fun st k => iter (z16h 0) (exec (z16E N) N c 0) N st k))
 | i => fun st k => iter (z16h i) (exec (z16E N) N c i) N st k
theorem z16L0_step (N : Nat) (x0 : List Str) (x1 : List Str) (c12 : Int) (KX : Nat → St → Option Bool) (I : St → Option Bool) (s13 : Int) :
  execL (z16LP N) (z16E N) z16c0 0 (z16L0_hd x0 x1 c12 s13) (roundK (z16h 0) I KX (z16R N)) = z16L0T N x0 x1 c12 (KX 0 (z16L0_tl0 x0 x1 c12)) (fun s13 => I (z16L0_hd x0 x1 c12 s13)) s13 := by kernel_rfl
theorem z16L0_ok (N : Nat) : ∀ x y k, (∀ st, k .ret st = (z16R N) st) → iter (z16h 0) (exec (z16E N) N z16c0 0) N ⟨26, unF z16L0_fs x, unH z16L0_bs y⟩ k = z16L0_F N x y k := fun x _ k hk =>
 iter_link (S := (Int) × Unit) (z16h 0) _ (execL (z16LP N) (z16E N) z16c0 0) (z16R N) (fun st k hk => execL_eq _ _ N _ z16c0 0 (show LoopsOk (z16LP N) (z16E N) N (z16R N) [] from trivial) st k hk) (fun s => z16L0_hd x.1 x.2.1 x.2.2.1 s.1) k hk
  (fun self s => z16L0T N x.1 x.2.1 x.2.2.1 (k (.exit 0) (z16L0_tl0 x.1 x.2.1 x.2.2.1)) (fun s13 => self (s13, ())) s.1) (fun n s => z16L0 N x.1 x.2.1 x.2.2.1 (k (.exit 0) (z16L0_tl0 x.1 x.2.1 x.2.2.1)) n s.1) (fun _ => rfl) (fun _ _ => rfl)
  (fun I s => z16L0_step N x.1 x.2.1 x.2.2.1 (fun j => k (.exit j)) I s.1) N (x.2.2.2.1, ())
theorem z16lp0 (N : Nat) : ∀ st k, (∀ st, k .ret st = (z16R N) st) → z16LP N 0 z16c0 st k = iter (Env.hint (z16E N) 0) (exec (z16E N) N z16c0 0) N st k := fun st k hk => LPc_eq 26 z16L0_fs z16L0_bs _ _ (z16R N) (z16L0_ok N) _ st k hk (rfl)
theorem z16core (N : Nat) (x : SV [.v τ22, .v τ22]) (y : BV []) : runL (z16E N) Tryz.f20 (z16g N) z16pk (z16LP N) x y = slices_Equal_string_string N x.1 x.2.1 := by kernel_rfl
theorem z16sound (N : Nat) : Snd 20 (z16g N) :=
 sndL (z16fn_ok N) Tryz.func20 rfl Tryz.call20 (z16g N) z16pk (fun _ _ => rfl) N (z16LP N) (show LoopsOk (z16LP N) (z16E N) N (z16R N) [(0, z16c0)] from ⟨z16lp0 N, trivial⟩) (z16core N)
def slices_Clone_string_string (_N : Nat) (x0 : List Str) : Option τ24 :=
 br ((x0).isEmpty)
  (both
   (some ([] : List Str))
   (br (decide ((([] : List Str).length + x0.length) * (24 * Ty.sz .str) ≤ 140737488355328))
    (some (([] : List Str) ++ x0))
    none))
  (br (decide ((([] : List Str).length + x0.length) * (24 * Ty.sz .str) ≤ 140737488355328))
   (some (([] : List Str) ++ x0))
   none)
abbrev z15sg (f : SV [.v τ22] → BV [] → Option τ24) : AF := { ps := [.v τ22], bs := [], rs := [.row 0], cs := [.row 9 .str true], R := List Str, out := fun z => (((), ()), (z, ())), f := f }
noncomputable abbrev z15g (N : Nat) : AF := z15sg fun x _ => slices_Clone_string_string N x.1
abbrev z15pk : SV [.row 0] → BV [.row 9 .str true] → τ24 := fun _ y => y.1
def z15fn (_N : Nat) : FuncId → Option Tmp → Option AF := fun f _ =>
 match f with
  | _ => none
theorem z15fn_ok (N : Nat) : FnOk (z15fn N) := by
 intro f q F h
 unfold z15fn at h
 split at h
 · cases h
def z15h : Nat → Hint := fun i =>
 match i with
 | _ => hint0
abbrev z15E (N : Nat) : Env := mkE z15h (z15fn N) (fun i => match i with | 2 => true | 5 => true | _ => false) (fun _ => false)
noncomputable def z15LP (N : Nat) : Nat → Code → St → (Ex → St → Option τ24) → Option τ24 := fun i c =>
 match i with
 | i => fun st k => iter (z15h i) (exec (z15E N) N c i) N st k
theorem z15core (N : Nat) (x : SV [.v τ22]) (y : BV []) : runL (z15E N) Tryz.f55 (z15g N) z15pk (z15LP N) x y = slices_Clone_string_string N x.1 := by kernel_rfl
theorem z15sound (N : Nat) : Snd 55 (z15g N) :=
 runD_sound (mkE_ok z15h (z15fn N) _ _ (z15fn_ok N)) Tryz.func55 rfl Tryz.call55 (z15g N) z15pk (fun _ _ => rfl) N (fun x y _ h => ((runL_eq (z15E N) N Tryz.f55 (z15g N) z15pk (z15LP N) (show LoopsOk (z15LP N) (z15E N) N (resD (z15E N) Tryz.f55 (z15g N) z15pk) [] from trivial) x y).trans (z15core N x y)).trans h)
end
end Go.Proofs.YtbekhaioddmliaaGreatDoor


/- What functions of the program compute, as plain functions (printed). -/
namespace Go.Proofs.YtbekhaioddmliaaGreatDoor
open Go Go.RowKit
set_option maxRecDepth 100000
set_option linter.unusedVariables false
noncomputable section
end
end Go.Proofs.YtbekhaioddmliaaGreatDoor


/- What functions of the program compute, as plain functions (printed). -/
namespace Go.Proofs.YtbekhaioddmliaaGreatDoor
open Go Go.RowKit
set_option maxRecDepth 100000
set_option linter.unusedVariables false
noncomputable section
def config_checkChoice (N : Nat) (x0 : τ18) (x1 : List τ5) (x2 : Str × List τ5) : Option Int :=
 bnd (config_CheckConditions N x0.1 x0.2.1) fun t13 =>
 br (t13 != (0 : Int))
  (some t13)
  (bnd (config_CheckConfig N x0.1 x1) fun t20 =>
  br (t20 != (0 : Int))
   (some t20)
   (bnd (config_CheckPlatforms N [x2]) fun t26 =>
   some t26))
abbrev z41sg (f : SV [.v τ4, .v τ0, .v τ16] → BV [] → Option (Int)) : AF := { ps := [.v τ4, .v τ0, .v τ16], bs := [], rs := [.v τ6], cs := [], R := Int, out := fun z => ((z, ()), ()), f := f }
noncomputable abbrev z41g (N : Nat) : AF := z41sg fun x _ => config_checkChoice N x.1 x.2.1 x.2.2.1
abbrev z41pk : SV [.v τ6] → BV [] → Int := fun x _ => x.1
def z41fn (N : Nat) : FuncId → Option Tmp → Option AF := fun f _ =>
 match f with
  | 29 => some (z40g N)
  | 64 => some (z25g N)
  | 75 => some (z27g N)
  | _ => none
theorem z41fn_ok (N : Nat) : FnOk (z41fn N) := by
 intro f q F h
 unfold z41fn at h
 split at h
 · cases h; exact z40sound N
 · cases h; exact z25sound N
 · cases h; exact z27sound N
 · cases h
def z41h : Nat → Hint := fun i =>
 match i with
 | _ => hint0
abbrev z41E (N : Nat) : Env := mkE z41h (z41fn N) FF FF
noncomputable def z41LP (N : Nat) : Nat → Code → St → (Ex → St → Option Int) → Option Int := fun i c =>
 match i with
 | i => fun st k => iter (z41h i) (exec (z41E N) N c i) N st k
theorem z41core (N : Nat) (x : SV [.v τ4, .v τ0, .v τ16]) (y : BV []) : runL (z41E N) Tryz.f30 (z41g N) z41pk (z41LP N) x y = config_checkChoice N x.1 x.2.1 x.2.2.1 := by kernel_rfl
theorem z41sound (N : Nat) : Snd 30 (z41g N) :=
 sndL (z41fn_ok N) Tryz.func30 rfl Tryz.call30 (z41g N) z41pk (fun _ _ => rfl) N (z41LP N) (show LoopsOk (z41LP N) (z41E N) N (resD (z41E N) Tryz.f30 (z41g N) z41pk) [] from trivial) (z41core N)
def script_CheckValue_1 (_N : Nat) (x0 : Str) : Option Bool :=
 some (decide ((x0.length : Int) > (1000 : Int)))
abbrev z36sg (f : SV [.v .str] → BV [] → Option (Bool)) : AF := { ps := [.v .str], bs := [], rs := [.v .bool], cs := [], R := Bool, out := fun z => ((z, ()), ()), f := f }
noncomputable abbrev z36g (N : Nat) : AF := z36sg fun x _ => script_CheckValue_1 N x.1
abbrev z36pk : SV [.v .bool] → BV [] → Bool := fun x _ => x.1
def z36fn (_N : Nat) : FuncId → Option Tmp → Option AF := fun f _ =>
 match f with
  | _ => none
theorem z36fn_ok (N : Nat) : FnOk (z36fn N) := by
 intro f q F h
 unfold z36fn at h
 split at h
 · cases h
def z36h : Nat → Hint := fun i =>
 match i with
 | _ => hint0
abbrev z36E (N : Nat) : Env := mkE z36h (z36fn N) FF FF
noncomputable def z36LP (N : Nat) : Nat → Code → St → (Ex → St → Option Bool) → Option Bool := fun i c =>
 match i with
 | i => fun st k => iter (z36h i) (exec (z36E N) N c i) N st k
theorem z36core (N : Nat) (x : SV [.v .str]) (y : BV []) : runL (z36E N) Tryz.f76 (z36g N) z36pk (z36LP N) x y = script_CheckValue_1 N x.1 := by kernel_rfl
theorem z36sound (N : Nat) : Snd 76 (z36g N) :=
 sndL (z36fn_ok N) Tryz.func76 rfl Tryz.call76 (z36g N) z36pk (fun _ _ => rfl) N (z36LP N) (show LoopsOk (z36LP N) (z36E N) N (resD (z36E N) Tryz.f76 (z36g N) z36pk) [] from trivial) (z36core N)
def z85L0T (_N : Nat) (x0 : Str) (c5 : Int) (k0 : τ30) (self : Int → Option Bool) (s6 : Int) : Option Bool :=
 br (decide (s6 < c5))
  (bnd (geti x0 s6) fun t11 =>
  br (t11 != (10 : UInt8))
   (bnd (geti x0 s6) fun t16 =>
   br (decide (t16 < (32 : UInt8)))
    (some false)
    (bnd (geti x0 s6) fun t21 =>
    br (decide (t21 > (126 : UInt8)))
     (some false)
     (self (IntKind.i64.wrap (s6 + (1 : Int))))))
   (self (IntKind.i64.wrap (s6 + (1 : Int)))))
  (k0)
def z85L0 (N : Nat) (x0 : Str) (c5 : Int) (k0 : τ30) : Nat → Int → Option Bool
 | 0, _ => none
 | n + 1, s6 => z85L0T N x0 c5 k0 (z85L0 N x0 c5 k0 n) s6
def script_isText (N : Nat) (x0 : Str) : Option Bool :=
 z85L0 N x0 (x0.length : Int) (some true) N (0 : Int)
abbrev z85sg (f : SV [.v .str] → BV [] → Option (Bool)) : AF := { ps := [.v .str], bs := [], rs := [.v .bool], cs := [], R := Bool, out := fun z => ((z, ()), ()), f := f }
noncomputable abbrev z85g (N : Nat) : AF := z85sg fun x _ => script_isText N x.1
abbrev z85pk : SV [.v .bool] → BV [] → Bool := fun x _ => x.1
def z85fn (_N : Nat) : FuncId → Option Tmp → Option AF := fun f _ =>
 match f with
  | _ => none
theorem z85fn_ok (N : Nat) : FnOk (z85fn N) := by
 intro f q F h
 unfold z85fn at h
 split at h
 · cases h
def z85h : Nat → Hint := fun i =>
 match i with
 | 0 => ⟨[], [0, 5, 6], [], [], [], []⟩
 | _ => hint0
abbrev z85E (N : Nat) : Env := mkE z85h (z85fn N) FF FF
noncomputable abbrev z85c0 : Code := cAt (bodyOf Tryz.f77) [true, false, true, false, false]
noncomputable abbrev z85R (N : Nat) := resD (z85E N) Tryz.f77 (z85g N) z85pk
abbrev z85L0_fs : List (Nat × Sl) := [(0, .v .str), (5, .v τ6), (6, .v τ6)]
abbrev z85L0_bs : List (Nat × Sb) := []
def z85L0_hd (x0 : Str) (c5 : Int) (s6 : Int) : St := ⟨26, [(0, .v .str x0), (5, .v τ6 c5), (6, .v τ6 s6)], []⟩
def z85L0_tl0 (_x0 : Str) (_c5 : Int) : St := ⟨26, [], []⟩
def z85L0_G (N : Nat) (x0 : Str) (c5 : Int) (s6 : Int) (k : Ex → St → Option Bool) : Option Bool :=
 z85L0 N x0 c5 (k (.exit 0) (z85L0_tl0 x0 c5)) N s6
abbrev z85L0_F (N : Nat) : FV z85L0_fs → HV z85L0_bs → (Ex → St → Option Bool) → Option Bool := fun x _ k => z85L0_G N x.1 x.2.1 x.2.2.1 k
noncomputable def z85LP (N : Nat) : Nat → Code → St → (Ex → St → Option Bool) → Option Bool := fun i c =>
 match i with
 | 0 => (LPc 26 z85L0_fs z85L0_bs (z85L0_F N) (fun st k => iter (z85h 0) (exec (z85E N) N c 0) N st k))
 | i => fun st k => iter (z85h i) (exec (z85E N) N c i) N st k
theorem z85L0_step (N : Nat) (x0 : Str) (c5 : Int) (KX : Nat → St → Option Bool) (I : St → Option Bool) (s6 : Int) :
  execL (z85LP N) (z85E N) z85c0 0 (z85L0_hd x0 c5 s6) (roundK (z85h 0) I KX (z85R N)) = z85L0T N x0 c5 (KX 0 (z85L0_tl0 x0 c5)) (fun s6 => I (z85L0_hd x0 c5 s6)) s6 := by kernel_rfl
theorem z85L0_ok (N : Nat) : ∀ x y k, (∀ st, k .ret st = (z85R N) st) → iter (z85h 0) (exec (z85E N) N z85c0 0) N ⟨26, unF z85L0_fs x, unH z85L0_bs y⟩ k = z85L0_F N x y k := fun x _ k hk =>
 iter_link (S := (Int) × Unit) (z85h 0) _ (execL (z85LP N) (z85E N) z85c0 0) (z85R N) (fun st k hk => execL_eq _ _ N _ z85c0 0 (show LoopsOk (z85LP N) (z85E N) N (z85R N) [] from trivial) st k hk) (fun s => z85L0_hd x.1 x.2.1 s.1) k hk
  (fun self s => z85L0T N x.1 x.2.1 (k (.exit 0) (z85L0_tl0 x.1 x.2.1)) (fun s6 => self (s6, ())) s.1) (fun n s => z85L0 N x.1 x.2.1 (k (.exit 0) (z85L0_tl0 x.1 x.2.1)) n s.1) (fun _ => rfl) (fun _ _ => rfl)
  (fun I s => z85L0_step N x.1 x.2.1 (fun j => k (.exit j)) I s.1) N (x.2.2.1, ())
theorem z85lp0 (N : Nat) : ∀ st k, (∀ st, k .ret st = (z85R N) st) → z85LP N 0 z85c0 st k = iter (Env.hint (z85E N) 0) (exec (z85E N) N z85c0 0) N st k := fun st k hk => LPc_eq 26 z85L0_fs z85L0_bs _ _ (z85R N) (z85L0_ok N) _ st k hk (rfl)
theorem z85core (N : Nat) (x : SV [.v .str]) (y : BV []) : runL (z85E N) Tryz.f77 (z85g N) z85pk (z85LP N) x y = script_isText N x.1 := by kernel_rfl
theorem z85sound (N : Nat) : Snd 77 (z85g N) :=
 sndL (z85fn_ok N) Tryz.func77 rfl Tryz.call77 (z85g N) z85pk (fun _ _ => rfl) N (z85LP N) (show LoopsOk (z85LP N) (z85E N) N (z85R N) [(0, z85c0)] from ⟨z85lp0 N, trivial⟩) (z85core N)
def script_CheckValue_2 (N : Nat) (x0 : Str) : Option Bool :=
 bnd (script_isText N x0) fun t4 =>
 some (!t4)
abbrev z37sg (f : SV [.v .str] → BV [] → Option (Bool)) : AF := { ps := [.v .str], bs := [], rs := [.v .bool], cs := [], R := Bool, out := fun z => ((z, ()), ()), f := f }
noncomputable abbrev z37g (N : Nat) : AF := z37sg fun x _ => script_CheckValue_2 N x.1
abbrev z37pk : SV [.v .bool] → BV [] → Bool := fun x _ => x.1
def z37fn (N : Nat) : FuncId → Option Tmp → Option AF := fun f _ =>
 match f with
  | 77 => some (z85g N)
  | _ => none
theorem z37fn_ok (N : Nat) : FnOk (z37fn N) := by
 intro f q F h
 unfold z37fn at h
 split at h
 · cases h; exact z85sound N
 · cases h
def z37h : Nat → Hint := fun i =>
 match i with
 | _ => hint0
abbrev z37E (N : Nat) : Env := mkE z37h (z37fn N) FF FF
noncomputable def z37LP (N : Nat) : Nat → Code → St → (Ex → St → Option Bool) → Option Bool := fun i c =>
 match i with
 | i => fun st k => iter (z37h i) (exec (z37E N) N c i) N st k
theorem z37core (N : Nat) (x : SV [.v .str]) (y : BV []) : runL (z37E N) Tryz.f78 (z37g N) z37pk (z37LP N) x y = script_CheckValue_2 N x.1 := by kernel_rfl
theorem z37sound (N : Nat) : Snd 78 (z37g N) :=
 sndL (z37fn_ok N) Tryz.func78 rfl Tryz.call78 (z37g N) z37pk (fun _ _ => rfl) N (z37LP N) (show LoopsOk (z37LP N) (z37E N) N (resD (z37E N) Tryz.f78 (z37g N) z37pk) [] from trivial) (z37core N)
def script_checkText (N : Nat) (x0 : Str) : Option Int :=
 br (decide ((x0.length : Int) > (1000 : Int)))
  (some (2 : Int))
  (bnd (script_isText N x0) fun t7 =>
  br (!t7)
   (some (3 : Int))
   (some (0 : Int)))
abbrev z60sg (f : SV [.v .str] → BV [] → Option (Int)) : AF := { ps := [.v .str], bs := [], rs := [.v τ6], cs := [], R := Int, out := fun z => ((z, ()), ()), f := f }
noncomputable abbrev z60g (N : Nat) : AF := z60sg fun x _ => script_checkText N x.1
abbrev z60pk : SV [.v τ6] → BV [] → Int := fun x _ => x.1
def z60fn (N : Nat) : FuncId → Option Tmp → Option AF := fun f _ =>
 match f with
  | 77 => some (z85g N)
  | _ => none
theorem z60fn_ok (N : Nat) : FnOk (z60fn N) := by
 intro f q F h
 unfold z60fn at h
 split at h
 · cases h; exact z85sound N
 · cases h
def z60h : Nat → Hint := fun i =>
 match i with
 | _ => hint0
abbrev z60E (N : Nat) : Env := mkE z60h (z60fn N) FF FF
noncomputable def z60LP (N : Nat) : Nat → Code → St → (Ex → St → Option Int) → Option Int := fun i c =>
 match i with
 | i => fun st k => iter (z60h i) (exec (z60E N) N c i) N st k
theorem z60core (N : Nat) (x : SV [.v .str]) (y : BV []) : runL (z60E N) Tryz.f130 (z60g N) z60pk (z60LP N) x y = script_checkText N x.1 := by kernel_rfl
theorem z60sound (N : Nat) : Snd 130 (z60g N) :=
 sndL (z60fn_ok N) Tryz.func130 rfl Tryz.call130 (z60g N) z60pk (fun _ _ => rfl) N (z60LP N) (show LoopsOk (z60LP N) (z60E N) N (resD (z60E N) Tryz.f130 (z60g N) z60pk) [] from trivial) (z60core N)
def script_checkCases_1 (_N : Nat) (x0 : Str × GValue) (x1 : Str × GValue) : Option Bool :=
 some (x0.1 == x1.1)
abbrev z38sg (f : SV [.v τ3, .v (.ptr τ3)] → BV [] → Option (Bool)) : AF := { ps := [.v τ3, .v (.ptr τ3)], bs := [], rs := [.v .bool], cs := [], R := Bool, out := fun z => ((z, ()), ()), f := f }
noncomputable abbrev z38g (N : Nat) : AF := z38sg fun x _ => script_checkCases_1 N x.1 x.2.1
abbrev z38pk : SV [.v .bool] → BV [] → Bool := fun x _ => x.1
def z38fn (_N : Nat) : FuncId → Option Tmp → Option AF := fun f _ =>
 match f with
  | _ => none
theorem z38fn_ok (N : Nat) : FnOk (z38fn N) := by
 intro f q F h
 unfold z38fn at h
 split at h
 · cases h
def z38h : Nat → Hint := fun i =>
 match i with
 | _ => hint0
abbrev z38E (N : Nat) : Env := mkE z38h (z38fn N) FF FF
noncomputable def z38LP (N : Nat) : Nat → Code → St → (Ex → St → Option Bool) → Option Bool := fun i c =>
 match i with
 | i => fun st k => iter (z38h i) (exec (z38E N) N c i) N st k
theorem z38core (N : Nat) (x : SV [.v τ3, .v (.ptr τ3)]) (y : BV []) : runL (z38E N) Tryz.f132 (z38g N) z38pk (z38LP N) x y = script_checkCases_1 N x.1 x.2.1 := by kernel_rfl
theorem z38sound (N : Nat) : Snd 132 (z38g N) :=
 sndL (z38fn_ok N) Tryz.func132 rfl Tryz.call132 (z38g N) z38pk (fun _ _ => rfl) N (z38LP N) (show LoopsOk (z38LP N) (z38E N) N (resD (z38E N) Tryz.f132 (z38g N) z38pk) [] from trivial) (z38core N)
def z20L0T (N : Nat) (x0 : List τ2) (x1 : τ2 × Unit) (c7 : Int) (k0 : τ26) (self : Int → Option Int) (s8 : Int) : Option Int :=
 br (decide (s8 < c7))
  (bnd (geti x0 s8) fun t14 =>
  bnd (script_checkCases_1 N t14 x1.1) fun t16 =>
  br (t16)
   (some s8)
   (self (IntKind.i64.wrap (s8 + (1 : Int)))))
  (k0)
def z20L0 (N : Nat) (x0 : List τ2) (x1 : τ2 × Unit) (c7 : Int) (k0 : τ26) : Nat → Int → Option Int
 | 0, _ => none
 | n + 1, s8 => z20L0T N x0 x1 c7 k0 (z20L0 N x0 x1 c7 k0 n) s8
def slices_IndexFunc_api_Case (N : Nat) (x0 : List τ2) (x1 : τ2 × Unit) : Option Int :=
 z20L0 N x0 x1 (x0.length : Int) (some (-1 : Int)) N (0 : Int)
abbrev z20sg (f : SV [.v (.sl τ3), .v (.clo 132 (.pr (.ptr τ3) .un))] → BV [] → Option (Int)) : AF := { ps := [.v (.sl τ3), .v (.clo 132 (.pr (.ptr τ3) .un))], bs := [], rs := [.v τ6], cs := [], R := Int, out := fun z => ((z, ()), ()), f := f }
noncomputable abbrev z20g (N : Nat) : AF := z20sg fun x _ => slices_IndexFunc_api_Case N x.1 x.2.1
abbrev z20pk : SV [.v τ6] → BV [] → Int := fun x _ => x.1
def z20fn (N : Nat) : FuncId → Option Tmp → Option AF := fun f _ =>
 match f with
  | 132 => some (z38g N)
  | _ => none
theorem z20fn_ok (N : Nat) : FnOk (z20fn N) := by
 intro f q F h
 unfold z20fn at h
 split at h
 · cases h; exact z38sound N
 · cases h
def z20h : Nat → Hint := fun i =>
 match i with
 | 0 => ⟨[], [0, 1, 7, 8], [], [], [], []⟩
 | _ => hint0
abbrev z20E (N : Nat) : Env := mkE z20h (z20fn N) FF FF
noncomputable abbrev z20c0 : Code := cAt (bodyOf Tryz.f82) [true, false, true, false, false]
noncomputable abbrev z20R (N : Nat) := resD (z20E N) Tryz.f82 (z20g N) z20pk
abbrev z20L0_fs : List (Nat × Sl) := [(0, .v (.sl τ3)), (1, .v (.clo 132 (.pr (.ptr τ3) .un))), (7, .v τ6), (8, .v τ6)]
abbrev z20L0_bs : List (Nat × Sb) := []
def z20L0_hd (x0 : List τ2) (x1 : τ2 × Unit) (c7 : Int) (s8 : Int) : St := ⟨19, [(0, .v (.sl τ3) x0), (1, .v (.clo 132 (.pr (.ptr τ3) .un)) x1), (7, .v τ6 c7), (8, .v τ6 s8)], []⟩
def z20L0_tl0 (_x0 : List τ2) (_x1 : τ2 × Unit) (_c7 : Int) : St := ⟨19, [], []⟩
def z20L0_G (N : Nat) (x0 : List τ2) (x1 : τ2 × Unit) (c7 : Int) (s8 : Int) (k : Ex → St → Option Int) : Option Int :=
 z20L0 N x0 x1 c7 (k (.exit 0) (z20L0_tl0 x0 x1 c7)) N s8
abbrev z20L0_F (N : Nat) : FV z20L0_fs → HV z20L0_bs → (Ex → St → Option Int) → Option Int := fun x _ k => z20L0_G N x.1 x.2.1 x.2.2.1 x.2.2.2.1 k
noncomputable def z20LP (N : Nat) : Nat → Code → St → (Ex → St → Option Int) → Option Int := fun i c =>
 match i with
 | 0 => (LPc 19 z20L0_fs z20L0_bs (z20L0_F N) (fun st k => iter (z20h 0) (exec (z20E N) N c 0) N st k))
 | i => fun st k => iter (z20h i) (exec (z20E N) N c i) N st k
theorem z20L0_step (N : Nat) (x0 : List τ2) (x1 : τ2 × Unit) (c7 : Int) (KX : Nat → St → Option Int) (I : St → Option Int) (s8 : Int) :
  execL (z20LP N) (z20E N) z20c0 0 (z20L0_hd x0 x1 c7 s8) (roundK (z20h 0) I KX (z20R N)) = z20L0T N x0 x1 c7 (KX 0 (z20L0_tl0 x0 x1 c7)) (fun s8 => I (z20L0_hd x0 x1 c7 s8)) s8 := by kernel_rfl
theorem z20L0_ok (N : Nat) : ∀ x y k, (∀ st, k .ret st = (z20R N) st) → iter (z20h 0) (exec (z20E N) N z20c0 0) N ⟨19, unF z20L0_fs x, unH z20L0_bs y⟩ k = z20L0_F N x y k := fun x _ k hk =>
 iter_link (S := (Int) × Unit) (z20h 0) _ (execL (z20LP N) (z20E N) z20c0 0) (z20R N) (fun st k hk => execL_eq _ _ N _ z20c0 0 (show LoopsOk (z20LP N) (z20E N) N (z20R N) [] from trivial) st k hk) (fun s => z20L0_hd x.1 x.2.1 x.2.2.1 s.1) k hk
  (fun self s => z20L0T N x.1 x.2.1 x.2.2.1 (k (.exit 0) (z20L0_tl0 x.1 x.2.1 x.2.2.1)) (fun s8 => self (s8, ())) s.1) (fun n s => z20L0 N x.1 x.2.1 x.2.2.1 (k (.exit 0) (z20L0_tl0 x.1 x.2.1 x.2.2.1)) n s.1) (fun _ => rfl) (fun _ _ => rfl)
  (fun I s => z20L0_step N x.1 x.2.1 x.2.2.1 (fun j => k (.exit j)) I s.1) N (x.2.2.2.1, ())
theorem z20lp0 (N : Nat) : ∀ st k, (∀ st, k .ret st = (z20R N) st) → z20LP N 0 z20c0 st k = iter (Env.hint (z20E N) 0) (exec (z20E N) N z20c0 0) N st k := fun st k hk => LPc_eq 19 z20L0_fs z20L0_bs _ _ (z20R N) (z20L0_ok N) _ st k hk (rfl)
theorem z20core (N : Nat) (x : SV [.v (.sl τ3), .v (.clo 132 (.pr (.ptr τ3) .un))]) (y : BV []) : runL (z20E N) Tryz.f82 (z20g N) z20pk (z20LP N) x y = slices_IndexFunc_api_Case N x.1 x.2.1 := by kernel_rfl
theorem z20sound (N : Nat) : Snd 82 (z20g N) :=
 sndL (z20fn_ok N) Tryz.func82 rfl Tryz.call82 (z20g N) z20pk (fun _ _ => rfl) N (z20LP N) (show LoopsOk (z20LP N) (z20E N) N (z20R N) [(0, z20c0)] from ⟨z20lp0 N, trivial⟩) (z20core N)
def slices_ContainsFunc_api_Case (N : Nat) (x0 : List τ2) (x1 : τ2 × Unit) : Option Bool :=
 bnd (slices_IndexFunc_api_Case N x0 x1) fun t7 =>
 some (decide (t7 ≥ (0 : Int)))
abbrev z11sg (f : SV [.v (.sl τ3), .v (.clo 132 (.pr (.ptr τ3) .un))] → BV [] → Option (Bool)) : AF := { ps := [.v (.sl τ3), .v (.clo 132 (.pr (.ptr τ3) .un))], bs := [], rs := [.v .bool], cs := [], R := Bool, out := fun z => ((z, ()), ()), f := f }
noncomputable abbrev z11g (N : Nat) : AF := z11sg fun x _ => slices_ContainsFunc_api_Case N x.1 x.2.1
abbrev z11pk : SV [.v .bool] → BV [] → Bool := fun x _ => x.1
def z11fn (N : Nat) : FuncId → Option Tmp → Option AF := fun f _ =>
 match f with
  | 82 => some (z20g N)
  | _ => none
theorem z11fn_ok (N : Nat) : FnOk (z11fn N) := by
 intro f q F h
 unfold z11fn at h
 split at h
 · cases h; exact z20sound N
 · cases h
def z11h : Nat → Hint := fun i =>
 match i with
 | _ => hint0
abbrev z11E (N : Nat) : Env := mkE z11h (z11fn N) FF FF
noncomputable def z11LP (N : Nat) : Nat → Code → St → (Ex → St → Option Bool) → Option Bool := fun i c =>
 match i with
 | i => fun st k => iter (z11h i) (exec (z11E N) N c i) N st k
theorem z11core (N : Nat) (x : SV [.v (.sl τ3), .v (.clo 132 (.pr (.ptr τ3) .un))]) (y : BV []) : runL (z11E N) Tryz.f131 (z11g N) z11pk (z11LP N) x y = slices_ContainsFunc_api_Case N x.1 x.2.1 := by kernel_rfl
theorem z11sound (N : Nat) : Snd 131 (z11g N) :=
 sndL (z11fn_ok N) Tryz.func131 rfl Tryz.call131 (z11g N) z11pk (fun _ _ => rfl) N (z11LP N) (show LoopsOk (z11LP N) (z11E N) N (resD (z11E N) Tryz.f131 (z11g N) z11pk) [] from trivial) (z11core N)
def z6L0T (N : Nat) (x0 : List Str) (c7 : Int) (k0 : τ26) (self : Int → Option Int) (s8 : Int) : Option Int :=
 br (decide (s8 < c7))
  (bnd (geti x0 s8) fun t14 =>
  bnd (script_CheckValue_1 N t14) fun t16 =>
  br (t16)
   (some s8)
   (self (IntKind.i64.wrap (s8 + (1 : Int)))))
  (k0)
def z6L0 (N : Nat) (x0 : List Str) (c7 : Int) (k0 : τ26) : Nat → Int → Option Int
 | 0, _ => none
 | n + 1, s8 => z6L0T N x0 c7 k0 (z6L0 N x0 c7 k0 n) s8
def slices_IndexFunc_string_string (N : Nat) (x0 : List Str) (_x1 : Unit) : Option Int :=
 z6L0 N x0 (x0.length : Int) (some (-1 : Int)) N (0 : Int)
abbrev z6sg (f : SV [.v τ22, .v (.clo 76 .un)] → BV [] → Option (Int)) : AF := { ps := [.v τ22, .v (.clo 76 .un)], bs := [], rs := [.v τ6], cs := [], R := Int, out := fun z => ((z, ()), ()), f := f }
noncomputable abbrev z6g (N : Nat) : AF := z6sg fun x _ => slices_IndexFunc_string_string N x.1 x.2.1
abbrev z6pk : SV [.v τ6] → BV [] → Int := fun x _ => x.1
def z6fn (N : Nat) : FuncId → Option Tmp → Option AF := fun f _ =>
 match f with
  | 76 => some (z36g N)
  | _ => none
theorem z6fn_ok (N : Nat) : FnOk (z6fn N) := by
 intro f q F h
 unfold z6fn at h
 split at h
 · cases h; exact z36sound N
 · cases h
def z6h : Nat → Hint := fun i =>
 match i with
 | 0 => ⟨[], [0, 1, 7, 8], [], [], [], []⟩
 | _ => hint0
abbrev z6E (N : Nat) : Env := mkE z6h (z6fn N) FF FF
noncomputable abbrev z6c0 : Code := cAt (bodyOf Tryz.f103) [true, false, true, false, false]
noncomputable abbrev z6R (N : Nat) := resD (z6E N) Tryz.f103 (z6g N) z6pk
abbrev z6L0_fs : List (Nat × Sl) := [(0, .v τ22), (1, .v (.clo 76 .un)), (7, .v τ6), (8, .v τ6)]
abbrev z6L0_bs : List (Nat × Sb) := []
def z6L0_hd (x0 : List Str) (x1 : Unit) (c7 : Int) (s8 : Int) : St := ⟨19, [(0, .v τ22 x0), (1, .v (.clo 76 .un) x1), (7, .v τ6 c7), (8, .v τ6 s8)], []⟩
def z6L0_tl0 (_x0 : List Str) (_x1 : Unit) (_c7 : Int) : St := ⟨19, [], []⟩
def z6L0_G (N : Nat) (x0 : List Str) (x1 : Unit) (c7 : Int) (s8 : Int) (k : Ex → St → Option Int) : Option Int :=
 z6L0 N x0 c7 (k (.exit 0) (z6L0_tl0 x0 x1 c7)) N s8
abbrev z6L0_F (N : Nat) : FV z6L0_fs → HV z6L0_bs → (Ex → St → Option Int) → Option Int := fun x _ k => z6L0_G N x.1 x.2.1 x.2.2.1 x.2.2.2.1 k
noncomputable def z6LP (N : Nat) : Nat → Code → St → (Ex → St → Option Int) → Option Int := fun i c =>
 match i with
 | 0 => (LPc 19 z6L0_fs z6L0_bs (z6L0_F N) (fun st k => iter (z6h 0) (exec (z6E N) N c 0) N st k))
 | i => fun st k => iter (z6h i) (exec (z6E N) N c i) N st k
theorem z6L0_step (N : Nat) (x0 : List Str) (x1 : Unit) (c7 : Int) (KX : Nat → St → Option Int) (I : St → Option Int) (s8 : Int) :
  execL (z6LP N) (z6E N) z6c0 0 (z6L0_hd x0 x1 c7 s8) (roundK (z6h 0) I KX (z6R N)) = z6L0T N x0 c7 (KX 0 (z6L0_tl0 x0 x1 c7)) (fun s8 => I (z6L0_hd x0 x1 c7 s8)) s8 := by kernel_rfl
theorem z6L0_ok (N : Nat) : ∀ x y k, (∀ st, k .ret st = (z6R N) st) → iter (z6h 0) (exec (z6E N) N z6c0 0) N ⟨19, unF z6L0_fs x, unH z6L0_bs y⟩ k = z6L0_F N x y k := fun x _ k hk =>
 iter_link (S := (Int) × Unit) (z6h 0) _ (execL (z6LP N) (z6E N) z6c0 0) (z6R N) (fun st k hk => execL_eq _ _ N _ z6c0 0 (show LoopsOk (z6LP N) (z6E N) N (z6R N) [] from trivial) st k hk) (fun s => z6L0_hd x.1 x.2.1 x.2.2.1 s.1) k hk
  (fun self s => z6L0T N x.1 x.2.2.1 (k (.exit 0) (z6L0_tl0 x.1 x.2.1 x.2.2.1)) (fun s8 => self (s8, ())) s.1) (fun n s => z6L0 N x.1 x.2.2.1 (k (.exit 0) (z6L0_tl0 x.1 x.2.1 x.2.2.1)) n s.1) (fun _ => rfl) (fun _ _ => rfl)
  (fun I s => z6L0_step N x.1 x.2.1 x.2.2.1 (fun j => k (.exit j)) I s.1) N (x.2.2.2.1, ())
theorem z6lp0 (N : Nat) : ∀ st k, (∀ st, k .ret st = (z6R N) st) → z6LP N 0 z6c0 st k = iter (Env.hint (z6E N) 0) (exec (z6E N) N z6c0 0) N st k := fun st k hk => LPc_eq 19 z6L0_fs z6L0_bs _ _ (z6R N) (z6L0_ok N) _ st k hk (rfl)
theorem z6core (N : Nat) (x : SV [.v τ22, .v (.clo 76 .un)]) (y : BV []) : runL (z6E N) Tryz.f103 (z6g N) z6pk (z6LP N) x y = slices_IndexFunc_string_string N x.1 x.2.1 := by kernel_rfl
theorem z6sound (N : Nat) : Snd 103 (z6g N) :=
 sndL (z6fn_ok N) Tryz.func103 rfl Tryz.call103 (z6g N) z6pk (fun _ _ => rfl) N (z6LP N) (show LoopsOk (z6LP N) (z6E N) N (z6R N) [(0, z6c0)] from ⟨z6lp0 N, trivial⟩) (z6core N)
def slices_ContainsFunc_string_string (N : Nat) (x0 : List Str) (x1 : Unit) : Option Bool :=
 bnd (slices_IndexFunc_string_string N x0 x1) fun t7 =>
 some (decide (t7 ≥ (0 : Int)))
abbrev z2sg (f : SV [.v τ22, .v (.clo 76 .un)] → BV [] → Option (Bool)) : AF := { ps := [.v τ22, .v (.clo 76 .un)], bs := [], rs := [.v .bool], cs := [], R := Bool, out := fun z => ((z, ()), ()), f := f }
noncomputable abbrev z2g (N : Nat) : AF := z2sg fun x _ => slices_ContainsFunc_string_string N x.1 x.2.1
abbrev z2pk : SV [.v .bool] → BV [] → Bool := fun x _ => x.1
def z2fn (N : Nat) : FuncId → Option Tmp → Option AF := fun f _ =>
 match f with
  | 103 => some (z6g N)
  | _ => none
theorem z2fn_ok (N : Nat) : FnOk (z2fn N) := by
 intro f q F h
 unfold z2fn at h
 split at h
 · cases h; exact z6sound N
 · cases h
def z2h : Nat → Hint := fun i =>
 match i with
 | _ => hint0
abbrev z2E (N : Nat) : Env := mkE z2h (z2fn N) FF FF
noncomputable def z2LP (N : Nat) : Nat → Code → St → (Ex → St → Option Bool) → Option Bool := fun i c =>
 match i with
 | i => fun st k => iter (z2h i) (exec (z2E N) N c i) N st k
theorem z2core (N : Nat) (x : SV [.v τ22, .v (.clo 76 .un)]) (y : BV []) : runL (z2E N) Tryz.f46 (z2g N) z2pk (z2LP N) x y = slices_ContainsFunc_string_string N x.1 x.2.1 := by kernel_rfl
theorem z2sound (N : Nat) : Snd 46 (z2g N) :=
 sndL (z2fn_ok N) Tryz.func46 rfl Tryz.call46 (z2g N) z2pk (fun _ _ => rfl) N (z2LP N) (show LoopsOk (z2LP N) (z2E N) N (resD (z2E N) Tryz.f46 (z2g N) z2pk) [] from trivial) (z2core N)
end
end Go.Proofs.YtbekhaioddmliaaGreatDoor

