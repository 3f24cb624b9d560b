/- What functions of the program compute, as plain functions (printed). -/
import Derived.Test.YtahjncefiegflaaGreatDoorQDiF4
namespace Go.Proofs.YtahjncefiegflaaGreatDoor
open Go Go.RowKit
set_option maxRecDepth 100000
set_option linter.unusedVariables false
noncomputable section
def z28L1T (_N : Nat) (r_ref2_checkCases : τ8 → Option (Int)) (t27 : List τ0) (c28 : Int) (κ4_0 : Str) (k2 : Option Int) (self : Int → Option Int) (s29 : Int) : Option Int :=
 br (decide (s29 < c28))
  (bnd (geti t27 s29) fun t31 =>
  br (t31.1 == κ4_0)
   (some (7 : Int))
   (self (IntKind.i64.wrap (s29 + (1 : Int)))))
  (k2)
def z28L1 (N : Nat) (r_ref2_checkCases : τ8 → Option (Int)) (t27 : List τ0) (c28 : Int) (κ4_0 : Str) (k2 : Option Int) : Nat → Int → Option Int
 | 0, _ => none
 | n + 1, s29 => z28L1T N r_ref2_checkCases t27 c28 κ4_0 k2 (z28L1 N r_ref2_checkCases t27 c28 κ4_0 k2 n) s29
def z28L0T (N : Nat) (r_ref2_checkCases : τ8 → Option (Int)) (x0 : List τ0) (c12 : List τ0) (c13 : Int) (k0 : Option Int) (self : Int → Option Int) (s14 : Int) : Option Int :=
 br (decide (s14 < c13))
  (bnd (geti c12 s14) fun t17 =>
  bnd (ref2_checkText N t17.1) fun t21 =>
  br (t21 != (0 : Int))
   (some t21)
   (bnd (slc x0 (0 : Int) s14) fun t27 =>
   z28L1 N r_ref2_checkCases t27 (t27.length : Int) t17.1 (br (t17.2.kind == (4 : Int))
      (some (4 : Int))
      (bnd (ref2_CheckValue N r_ref2_checkCases (GValue.mk t17.2.kind t17.2.text t17.2.number t17.2.list t17.2.cases)) fun t45 =>
      br (t45 != (0 : Int))
       (some t45)
       (bnd (geti x0 (0 : Int)) fun t53 =>
       br (t17.2.kind != t53.2.kind)
        (some (6 : Int))
        (self (IntKind.i64.wrap (s14 + (1 : Int))))))) N (0 : Int)))
  (k0)
def z28L0 (N : Nat) (r_ref2_checkCases : τ8 → Option (Int)) (x0 : List τ0) (c12 : List τ0) (c13 : Int) (k0 : Option Int) : Nat → Int → Option Int
 | 0, _ => none
 | n + 1, s14 => z28L0T N r_ref2_checkCases x0 c12 c13 k0 (z28L0 N r_ref2_checkCases x0 c12 c13 k0 n) s14
def ref2_checkCases_b (N : Nat) (r_ref2_checkCases : τ8 → Option (Int)) (x0 : List τ0) : Option Int :=
 br ((x0.length : Int) == (0 : Int))
  (some (9 : Int))
  (z28L0 N r_ref2_checkCases x0 x0 (x0.length : Int) (some (0 : Int)) N (0 : Int))
abbrev z28sg (f : SV [.v τ1] → BV [] → Option (Int)) : AF := { ps := [.v τ1], bs := [], rs := [.v τ5], cs := [], R := Int, out := fun z => ((z, ()), ()), f := f }
abbrev z28pk : SV [.v τ5] → BV [] → Int := fun x _ => x.1
def z28fn (N : Nat) (r_ref2_checkCases : τ8 → Option (Int)) : FuncId → Option Tmp → Option AF := fun f _ =>
 match f with
  | 15 => some (z38sg fun x _ => ref2_CheckValue N r_ref2_checkCases x.1)
  | 91 => some (z43g N)
  | _ => none
theorem z28fn_ok (N : Nat) (r_ref2_checkCases : τ8 → Option (Int)) (h_ref2_checkCases : Sound Tryz.prog GW B0G 48 (z39sg fun x y => r_ref2_checkCases x.1)) : ∀ f q F, z28fn N r_ref2_checkCases f q = some F → Sound Tryz.prog GW B0G f F := by
 intro f q F h
 unfold z28fn at h
 split at h
 · cases h; exact z38sound N r_ref2_checkCases h_ref2_checkCases
 · cases h; exact z43sound N
 · cases h
def z28h : Nat → Hint := fun i =>
 match i with
 | 0 => ⟨[], [0, 12, 13, 14], [], [], [], []⟩
 | 2 => ⟨[], [0, 4, 12, 13, 14, 27, 28, 29], [1004], [0, 4, 12, 13, 14], [1004], []⟩
 | _ => hint0
abbrev z28E (N : Nat) (r_ref2_checkCases : τ8 → Option (Int)) : Env := mkE z28h (z28fn N r_ref2_checkCases) (fun _ => false) (fun _ => false)
noncomputable abbrev z28c1 : Code := cAt (bodyOf Tryz.f48) [true, true, false, true, false, false]
noncomputable abbrev z28c0 : Code := cAt (bodyOf Tryz.f48) [true, true, false, true, false, false, true, true, false, false, true, true, false, true, false, false]
abbrev z28L1_fs : List (Nat × Sl) := [(0, .v τ1), (4, .box 1004 0), (12, .v τ1), (13, .v τ5), (14, .v τ5), (27, .v τ1), (28, .v τ5), (29, .v τ5)]
abbrev z28L1_bs : List (Nat × Sb) := [(1004, .cells [.v .str, .v τ5, .v .str, .v τ5, .v τ13, .v τ1])]
def z28L1_hd (x0 : List τ0) (c12 : List τ0) (c13 : Int) (s14 : Int) (t27 : List τ0) (c28 : Int) (κ4_0 : Str) (κ4_1 : Int) (κ4_2 : Str) (κ4_3 : Int) (κ4_4 : List Str) (κ4_5 : List τ0) (s29 : Int) : St := ⟨59, [(0, .v τ1 x0), (4, .box 1004 0), (12, .v τ1 c12), (13, .v τ5 c13), (14, .v τ5 s14), (27, .v τ1 t27), (28, .v τ5 c28), (29, .v τ5 s29)], [(1004, .cells [.v .str κ4_0, .v τ5 κ4_1, .v .str κ4_2, .v τ5 κ4_3, .v τ13 κ4_4, .v τ1 κ4_5])]⟩
def z28L1_tl2 (x0 : List τ0) (c12 : List τ0) (c13 : Int) (s14 : Int) (_t27 : List τ0) (_c28 : Int) (κ4_0 : Str) (κ4_1 : Int) (κ4_2 : Str) (κ4_3 : Int) (κ4_4 : List Str) (κ4_5 : List τ0) : St := ⟨59, [(0, .v τ1 x0), (4, .box 1004 0), (12, .v τ1 c12), (13, .v τ5 c13), (14, .v τ5 s14)], [(1004, .cells [.v .str κ4_0, .v τ5 κ4_1, .v .str κ4_2, .v τ5 κ4_3, .v τ13 κ4_4, .v τ1 κ4_5])]⟩
def z28L1_G (N : Nat) (r_ref2_checkCases : τ8 → Option (Int)) (x0 : List τ0) (c12 : List τ0) (c13 : Int) (s14 : Int) (t27 : List τ0) (c28 : Int) (κ4_0 : Str) (κ4_1 : Int) (κ4_2 : Str) (κ4_3 : Int) (κ4_4 : List Str) (κ4_5 : List τ0) (s29 : Int) (k : Ex → St → Option Int) : Option Int :=
 z28L1 N r_ref2_checkCases t27 c28 κ4_0 (k (.exit 2) (z28L1_tl2 x0 c12 c13 s14 t27 c28 κ4_0 κ4_1 κ4_2 κ4_3 κ4_4 κ4_5)) N s29
abbrev z28L1_F (N : Nat) (r_ref2_checkCases : τ8 → Option (Int)) : FV z28L1_fs → HV z28L1_bs → (Ex → St → Option Int) → Option Int := fun x y k => z28L1_G N r_ref2_checkCases x.1 x.2.2.1 x.2.2.2.1 x.2.2.2.2.1 x.2.2.2.2.2.1 x.2.2.2.2.2.2.1 y.1.1 y.1.2.1 y.1.2.2.1 y.1.2.2.2.1 y.1.2.2.2.2.1 y.1.2.2.2.2.2.1 x.2.2.2.2.2.2.2.1 k
abbrev z28L0_fs : List (Nat × Sl) := [(0, .v τ1), (12, .v τ1), (13, .v τ5), (14, .v τ5)]
abbrev z28L0_bs : List (Nat × Sb) := []
def z28L0_hd (x0 : List τ0) (c12 : List τ0) (c13 : Int) (s14 : Int) : St := ⟨59, [(0, .v τ1 x0), (12, .v τ1 c12), (13, .v τ5 c13), (14, .v τ5 s14)], []⟩
def z28L0_tl0 (_x0 : List τ0) (_c12 : List τ0) (_c13 : Int) : St := ⟨59, [], []⟩
def z28L0_G (N : Nat) (r_ref2_checkCases : τ8 → Option (Int)) (x0 : List τ0) (c12 : List τ0) (c13 : Int) (s14 : Int) (k : Ex → St → Option Int) : Option Int :=
 z28L0 N r_ref2_checkCases x0 c12 c13 (k (.exit 0) (z28L0_tl0 x0 c12 c13)) N s14
abbrev z28L0_F (N : Nat) (r_ref2_checkCases : τ8 → Option (Int)) : FV z28L0_fs → HV z28L0_bs → (Ex → St → Option Int) → Option Int := fun x _ k => z28L0_G N r_ref2_checkCases x.1 x.2.1 x.2.2.1 x.2.2.2.1 k
noncomputable def z28LP (N : Nat) (r_ref2_checkCases : τ8 → Option (Int)) : Nat → Code → St → (Ex → St → Option Int) → Option Int := fun i c =>
 match i with
 | 0 => (LPc 59 z28L0_fs z28L0_bs (z28L0_F N r_ref2_checkCases) (fun st k => iter (z28h 0) (exec (z28E N r_ref2_checkCases) N c 0) N st k))
 | 2 => (LPc 59 z28L1_fs z28L1_bs (z28L1_F N r_ref2_checkCases) (fun st k => iter (z28h 2) (exec (z28E N r_ref2_checkCases) N c 2) N st k))
 | i => fun st k => iter (z28h i) (exec (z28E N r_ref2_checkCases) N c i) N st k
theorem z28L1_step (N : Nat) (r_ref2_checkCases : τ8 → Option (Int)) (x0 : List τ0) (c12 : List τ0) (c13 : Int) (s14 : Int) (t27 : List τ0) (c28 : Int) (κ4_0 : Str) (κ4_1 : Int) (κ4_2 : Str) (κ4_3 : Int) (κ4_4 : List Str) (κ4_5 : List τ0) (KX : Nat → St → Option Int) (I : St → Option Int) (s29 : Int) :
  execL (z28LP N r_ref2_checkCases) (z28E N r_ref2_checkCases) z28c0 2 (z28L1_hd x0 c12 c13 s14 t27 c28 κ4_0 κ4_1 κ4_2 κ4_3 κ4_4 κ4_5 s29) (roundK (z28h 2) I KX (resD (z28E N r_ref2_checkCases) Tryz.f48 (z28sg fun x _ => ref2_checkCases_b N r_ref2_checkCases x.1) z28pk)) = z28L1T N r_ref2_checkCases t27 c28 κ4_0 (KX 2 (z28L1_tl2 x0 c12 c13 s14 t27 c28 κ4_0 κ4_1 κ4_2 κ4_3 κ4_4 κ4_5)) (fun s29 => I (z28L1_hd x0 c12 c13 s14 t27 c28 κ4_0 κ4_1 κ4_2 κ4_3 κ4_4 κ4_5 s29)) s29 := by kernel_rfl
theorem z28L1_ok (N : Nat) (r_ref2_checkCases : τ8 → Option (Int)) : ∀ x y k, (∀ st, k .ret st = (resD (z28E N r_ref2_checkCases) Tryz.f48 (z28sg fun x _ => ref2_checkCases_b N r_ref2_checkCases x.1) z28pk) st) → iter (z28h 2) (exec (z28E N r_ref2_checkCases) N z28c0 2) N ⟨59, unF z28L1_fs x, unH z28L1_bs y⟩ k = z28L1_F N r_ref2_checkCases x y k := fun x y k hk =>
 iter_link (S := (Int) × Unit) (z28h 2) _ (execL (z28LP N r_ref2_checkCases) (z28E N r_ref2_checkCases) z28c0 2) (resD (z28E N r_ref2_checkCases) Tryz.f48 (z28sg fun x _ => ref2_checkCases_b N r_ref2_checkCases x.1) z28pk) (fun st k hk => execL_eq _ _ N _ z28c0 2 (show LoopsOk (z28LP N r_ref2_checkCases) (z28E N r_ref2_checkCases) N (resD (z28E N r_ref2_checkCases) Tryz.f48 (z28sg fun x _ => ref2_checkCases_b N r_ref2_checkCases x.1) z28pk) [] from trivial) st k hk) (fun s => z28L1_hd x.1 x.2.2.1 x.2.2.2.1 x.2.2.2.2.1 x.2.2.2.2.2.1 x.2.2.2.2.2.2.1 y.1.1 y.1.2.1 y.1.2.2.1 y.1.2.2.2.1 y.1.2.2.2.2.1 y.1.2.2.2.2.2.1 s.1) k hk
  (fun self s => z28L1T N r_ref2_checkCases x.2.2.2.2.2.1 x.2.2.2.2.2.2.1 y.1.1 (k (.exit 2) (z28L1_tl2 x.1 x.2.2.1 x.2.2.2.1 x.2.2.2.2.1 x.2.2.2.2.2.1 x.2.2.2.2.2.2.1 y.1.1 y.1.2.1 y.1.2.2.1 y.1.2.2.2.1 y.1.2.2.2.2.1 y.1.2.2.2.2.2.1)) (fun s29 => self (s29, ())) s.1) (fun n s => z28L1 N r_ref2_checkCases x.2.2.2.2.2.1 x.2.2.2.2.2.2.1 y.1.1 (k (.exit 2) (z28L1_tl2 x.1 x.2.2.1 x.2.2.2.1 x.2.2.2.2.1 x.2.2.2.2.2.1 x.2.2.2.2.2.2.1 y.1.1 y.1.2.1 y.1.2.2.1 y.1.2.2.2.1 y.1.2.2.2.2.1 y.1.2.2.2.2.2.1)) n s.1) (fun _ => rfl) (fun _ _ => rfl)
  (fun I s => z28L1_step N r_ref2_checkCases x.1 x.2.2.1 x.2.2.2.1 x.2.2.2.2.1 x.2.2.2.2.2.1 x.2.2.2.2.2.2.1 y.1.1 y.1.2.1 y.1.2.2.1 y.1.2.2.2.1 y.1.2.2.2.2.1 y.1.2.2.2.2.2.1 (fun j => k (.exit j)) I s.1) N (x.2.2.2.2.2.2.2.1, ())
theorem z28lp2 (N : Nat) (r_ref2_checkCases : τ8 → Option (Int)) : ∀ st k, (∀ st, k .ret st = (resD (z28E N r_ref2_checkCases) Tryz.f48 (z28sg fun x _ => ref2_checkCases_b N r_ref2_checkCases x.1) z28pk) st) → z28LP N r_ref2_checkCases 2 z28c0 st k = iter (Env.hint (z28E N r_ref2_checkCases) 2) (exec (z28E N r_ref2_checkCases) N z28c0 2) N st k := fun st k hk => LPc_eq 59 z28L1_fs z28L1_bs _ _ (resD (z28E N r_ref2_checkCases) Tryz.f48 (z28sg fun x _ => ref2_checkCases_b N r_ref2_checkCases x.1) z28pk) (z28L1_ok N r_ref2_checkCases) _ st k hk (rfl)
theorem z28L0_step (N : Nat) (r_ref2_checkCases : τ8 → Option (Int)) (x0 : List τ0) (c12 : List τ0) (c13 : Int) (KX : Nat → St → Option Int) (I : St → Option Int) (s14 : Int) :
  execL (z28LP N r_ref2_checkCases) (z28E N r_ref2_checkCases) z28c1 0 (z28L0_hd x0 c12 c13 s14) (roundK (z28h 0) I KX (resD (z28E N r_ref2_checkCases) Tryz.f48 (z28sg fun x _ => ref2_checkCases_b N r_ref2_checkCases x.1) z28pk)) = z28L0T N r_ref2_checkCases x0 c12 c13 (KX 0 (z28L0_tl0 x0 c12 c13)) (fun s14 => I (z28L0_hd x0 c12 c13 s14)) s14 := by kernel_rfl
theorem z28L0_ok (N : Nat) (r_ref2_checkCases : τ8 → Option (Int)) : ∀ x y k, (∀ st, k .ret st = (resD (z28E N r_ref2_checkCases) Tryz.f48 (z28sg fun x _ => ref2_checkCases_b N r_ref2_checkCases x.1) z28pk) st) → iter (z28h 0) (exec (z28E N r_ref2_checkCases) N z28c1 0) N ⟨59, unF z28L0_fs x, unH z28L0_bs y⟩ k = z28L0_F N r_ref2_checkCases x y k := fun x _ k hk =>
 iter_link (S := (Int) × Unit) (z28h 0) _ (execL (z28LP N r_ref2_checkCases) (z28E N r_ref2_checkCases) z28c1 0) (resD (z28E N r_ref2_checkCases) Tryz.f48 (z28sg fun x _ => ref2_checkCases_b N r_ref2_checkCases x.1) z28pk) (fun st k hk => execL_eq _ _ N _ z28c1 0 (show LoopsOk (z28LP N r_ref2_checkCases) (z28E N r_ref2_checkCases) N (resD (z28E N r_ref2_checkCases) Tryz.f48 (z28sg fun x _ => ref2_checkCases_b N r_ref2_checkCases x.1) z28pk) [(2, z28c0)] from ⟨z28lp2 N r_ref2_checkCases, trivial⟩) st k hk) (fun s => z28L0_hd x.1 x.2.1 x.2.2.1 s.1) k hk
  (fun self s => z28L0T N r_ref2_checkCases x.1 x.2.1 x.2.2.1 (k (.exit 0) (z28L0_tl0 x.1 x.2.1 x.2.2.1)) (fun s14 => self (s14, ())) s.1) (fun n s => z28L0 N r_ref2_checkCases x.1 x.2.1 x.2.2.1 (k (.exit 0) (z28L0_tl0 x.1 x.2.1 x.2.2.1)) n s.1) (fun _ => rfl) (fun _ _ => rfl)
  (fun I s => z28L0_step N r_ref2_checkCases x.1 x.2.1 x.2.2.1 (fun j => k (.exit j)) I s.1) N (x.2.2.2.1, ())
theorem z28lp0 (N : Nat) (r_ref2_checkCases : τ8 → Option (Int)) : ∀ st k, (∀ st, k .ret st = (resD (z28E N r_ref2_checkCases) Tryz.f48 (z28sg fun x _ => ref2_checkCases_b N r_ref2_checkCases x.1) z28pk) st) → z28LP N r_ref2_checkCases 0 z28c1 st k = iter (Env.hint (z28E N r_ref2_checkCases) 0) (exec (z28E N r_ref2_checkCases) N z28c1 0) N st k := fun st k hk => LPc_eq 59 z28L0_fs z28L0_bs _ _ (resD (z28E N r_ref2_checkCases) Tryz.f48 (z28sg fun x _ => ref2_checkCases_b N r_ref2_checkCases x.1) z28pk) (z28L0_ok N r_ref2_checkCases) _ st k hk (rfl)
theorem z28core (N : Nat) (r_ref2_checkCases : τ8 → Option (Int)) (x : SV [.v τ1]) (y : BV []) : runL (z28E N r_ref2_checkCases) Tryz.f48 (z28sg fun x _ => ref2_checkCases_b N r_ref2_checkCases x.1) z28pk (z28LP N r_ref2_checkCases) x y = ref2_checkCases_b N r_ref2_checkCases x.1 := by kernel_rfl
theorem z28sound (N : Nat) (r_ref2_checkCases : τ8 → Option (Int)) (h_ref2_checkCases : Sound Tryz.prog GW B0G 48 (z39sg fun x y => r_ref2_checkCases x.1)) : Sound Tryz.prog GW B0G 48 (z28sg fun x _ => ref2_checkCases_b N r_ref2_checkCases x.1) :=
 runD_sound (mkE_ok z28h (z28fn N r_ref2_checkCases) _ _ (z28fn_ok N r_ref2_checkCases h_ref2_checkCases)) Tryz.func48 rfl Tryz.call48 (z28sg fun x _ => ref2_checkCases_b N r_ref2_checkCases x.1) z28pk (fun _ _ => rfl) N (fun x y _ h => ((runL_eq (z28E N r_ref2_checkCases) N Tryz.f48 (z28sg fun x _ => ref2_checkCases_b N r_ref2_checkCases x.1) z28pk (z28LP N r_ref2_checkCases) (show LoopsOk (z28LP N r_ref2_checkCases) (z28E N r_ref2_checkCases) N (resD (z28E N r_ref2_checkCases) Tryz.f48 (z28sg fun x _ => ref2_checkCases_b N r_ref2_checkCases x.1) z28pk) [(0, z28c1), (2, z28c0)] from ⟨z28lp0 N r_ref2_checkCases, z28lp2 N r_ref2_checkCases, trivial⟩) x y).trans (z28core N r_ref2_checkCases x y)).trans h)
def ref2_checkCases (N : Nat) : Nat → τ8 → Option (Int)
 | 0 => fun _ => none
 | d + 1 => ref2_checkCases_b N (ref2_checkCases N d)
theorem z39sound (N : Nat) : ∀ d, Sound Tryz.prog GW B0G 48 (z39sg fun x y => ref2_checkCases N d x.1)
 | 0 => Sound.never Tryz.call48 (fun _ _ => rfl)
 | d + 1 => z28sound N (ref2_checkCases N d) (z39sound N d)
abbrev z44sg (f : SV [.v τ11, .v τ11] → BV [] → Option (Bool)) : AF := { ps := [.v τ11, .v τ11], bs := [], rs := [.v .bool], cs := [], R := Bool, out := fun z => ((z, ()), ()), f := f }
def z10L0T (_N : Nat) (r_script_Equal_1 : τ0 → τ0 → Option (Bool)) (x1 : List τ0) (x0 : List τ0) (c16 : Int) (k0 : Option Bool) (self : Int → Option Bool) (s17 : Int) : Option Bool :=
 br (decide (s17 < c16))
  (bnd (geti x0 s17) fun t20 =>
  bnd (geti x1 s17) fun t24 =>
  bnd (r_script_Equal_1 (t20.1, GValue.mk t20.2.kind t20.2.text t20.2.number t20.2.list t20.2.cases) (t24.1, GValue.mk t24.2.kind t24.2.text t24.2.number t24.2.list t24.2.cases)) fun t29 =>
  br (!t29)
   (some false)
   (self (IntKind.i64.wrap (s17 + (1 : Int)))))
  (k0)
def z10L0 (N : Nat) (r_script_Equal_1 : τ0 → τ0 → Option (Bool)) (x1 : List τ0) (x0 : List τ0) (c16 : Int) (k0 : Option Bool) : Nat → Int → Option Bool
 | 0, _ => none
 | n + 1, s17 => z10L0T N r_script_Equal_1 x1 x0 c16 k0 (z10L0 N r_script_Equal_1 x1 x0 c16 k0 n) s17
def slices_EqualFunc_api_Case (N : Nat) (r_script_Equal_1 : τ0 → τ0 → Option (Bool)) (x0 : List τ0) (x1 : List τ0) (_x2 : Unit) : Option Bool :=
 br ((x0.length : Int) != (x1.length : Int))
  (some false)
  (z10L0 N r_script_Equal_1 x1 x0 (x0.length : Int) (some true) N (0 : Int))
abbrev z10sg (f : SV [.v τ1, .v τ1, .v (.clo 93 .un)] → BV [] → Option (Bool)) : AF := { ps := [.v τ1, .v τ1, .v (.clo 93 .un)], bs := [], rs := [.v .bool], cs := [], R := Bool, out := fun z => ((z, ()), ()), f := f }
abbrev z10pk : SV [.v .bool] → BV [] → Bool := fun x _ => x.1
def z10fn (_N : Nat) (r_script_Equal_1 : τ0 → τ0 → Option (Bool)) : FuncId → Option Tmp → Option AF := fun f _ =>
 match f with
  | 93 => some (z44sg fun x _ => r_script_Equal_1 x.1 x.2.1)
  | _ => none
theorem z10fn_ok (N : Nat) (r_script_Equal_1 : τ0 → τ0 → Option (Bool)) (h_script_Equal_1 : Sound Tryz.prog GW B0G 93 (z44sg fun x y => r_script_Equal_1 x.1 x.2.1)) : ∀ f q F, z10fn N r_script_Equal_1 f q = some F → Sound Tryz.prog GW B0G f F := by
 intro f q F h
 unfold z10fn at h
 split at h
 · cases h; exact h_script_Equal_1
 · cases h
def z10h : Nat → Hint := fun i =>
 match i with
 | 0 => ⟨[], [1, 2, 15, 16, 17], [], [], [], []⟩
 | _ => hint0
abbrev z10E (N : Nat) (r_script_Equal_1 : τ0 → τ0 → Option (Bool)) : Env := mkE z10h (z10fn N r_script_Equal_1) (fun _ => false) (fun _ => false)
noncomputable abbrev z10c0 : Code := cAt (bodyOf Tryz.f92) [true, true, false, true, false, false]
abbrev z10L0_fs : List (Nat × Sl) := [(1, .v τ1), (2, .v (.clo 93 .un)), (15, .v τ1), (16, .v τ5), (17, .v τ5)]
abbrev z10L0_bs : List (Nat × Sb) := []
def z10L0_hd (x1 : List τ0) (x2 : Unit) (x0 : List τ0) (c16 : Int) (s17 : Int) : St := ⟨32, [(1, .v τ1 x1), (2, .v (.clo 93 .un) x2), (15, .v τ1 x0), (16, .v τ5 c16), (17, .v τ5 s17)], []⟩
def z10L0_tl0 (_x1 : List τ0) (_x2 : Unit) (_x0 : List τ0) (_c16 : Int) : St := ⟨32, [], []⟩
def z10L0_G (N : Nat) (r_script_Equal_1 : τ0 → τ0 → Option (Bool)) (x1 : List τ0) (x2 : Unit) (x0 : List τ0) (c16 : Int) (s17 : Int) (k : Ex → St → Option Bool) : Option Bool :=
 z10L0 N r_script_Equal_1 x1 x0 c16 (k (.exit 0) (z10L0_tl0 x1 x2 x0 c16)) N s17
abbrev z10L0_F (N : Nat) (r_script_Equal_1 : τ0 → τ0 → Option (Bool)) : FV z10L0_fs → HV z10L0_bs → (Ex → St → Option Bool) → Option Bool := fun x _ k => z10L0_G N r_script_Equal_1 x.1 x.2.1 x.2.2.1 x.2.2.2.1 x.2.2.2.2.1 k
noncomputable def z10LP (N : Nat) (r_script_Equal_1 : τ0 → τ0 → Option (Bool)) : Nat → Code → St → (Ex → St → Option Bool) → Option Bool := fun i c =>
 match i with
 | 0 => (LPc 32 z10L0_fs z10L0_bs (z10L0_F N r_script_Equal_1) (fun st k => iter (z10h 0) (exec (z10E N r_script_Equal_1) N c 0) N st k))
 | i => fun st k => iter (z10h i) (exec (z10E N r_script_Equal_1) N c i) N st k
theorem z10L0_step (N : Nat) (r_script_Equal_1 : τ0 → τ0 → Option (Bool)) (x1 : List τ0) (x2 : Unit) (x0 : List τ0) (c16 : Int) (KX : Nat → St → Option Bool) (I : St → Option Bool) (s17 : Int) :
  execL (z10LP N r_script_Equal_1) (z10E N r_script_Equal_1) z10c0 0 (z10L0_hd x1 x2 x0 c16 s17) (roundK (z10h 0) I KX (resD (z10E N r_script_Equal_1) Tryz.f92 (z10sg fun x _ => slices_EqualFunc_api_Case N r_script_Equal_1 x.1 x.2.1 x.2.2.1) z10pk)) = z10L0T N r_script_Equal_1 x1 x0 c16 (KX 0 (z10L0_tl0 x1 x2 x0 c16)) (fun s17 => I (z10L0_hd x1 x2 x0 c16 s17)) s17 := by kernel_rfl
theorem z10L0_ok (N : Nat) (r_script_Equal_1 : τ0 → τ0 → Option (Bool)) : ∀ x y k, (∀ st, k .ret st = (resD (z10E N r_script_Equal_1) Tryz.f92 (z10sg fun x _ => slices_EqualFunc_api_Case N r_script_Equal_1 x.1 x.2.1 x.2.2.1) z10pk) st) → iter (z10h 0) (exec (z10E N r_script_Equal_1) N z10c0 0) N ⟨32, unF z10L0_fs x, unH z10L0_bs y⟩ k = z10L0_F N r_script_Equal_1 x y k := fun x _ k hk =>
 iter_link (S := (Int) × Unit) (z10h 0) _ (execL (z10LP N r_script_Equal_1) (z10E N r_script_Equal_1) z10c0 0) (resD (z10E N r_script_Equal_1) Tryz.f92 (z10sg fun x _ => slices_EqualFunc_api_Case N r_script_Equal_1 x.1 x.2.1 x.2.2.1) z10pk) (fun st k hk => execL_eq _ _ N _ z10c0 0 (show LoopsOk (z10LP N r_script_Equal_1) (z10E N r_script_Equal_1) N (resD (z10E N r_script_Equal_1) Tryz.f92 (z10sg fun x _ => slices_EqualFunc_api_Case N r_script_Equal_1 x.1 x.2.1 x.2.2.1) z10pk) [] from trivial) st k hk) (fun s => z10L0_hd x.1 x.2.1 x.2.2.1 x.2.2.2.1 s.1) k hk
  (fun self s => z10L0T N r_script_Equal_1 x.1 x.2.2.1 x.2.2.2.1 (k (.exit 0) (z10L0_tl0 x.1 x.2.1 x.2.2.1 x.2.2.2.1)) (fun s17 => self (s17, ())) s.1) (fun n s => z10L0 N r_script_Equal_1 x.1 x.2.2.1 x.2.2.2.1 (k (.exit 0) (z10L0_tl0 x.1 x.2.1 x.2.2.1 x.2.2.2.1)) n s.1) (fun _ => rfl) (fun _ _ => rfl)
  (fun I s => z10L0_step N r_script_Equal_1 x.1 x.2.1 x.2.2.1 x.2.2.2.1 (fun j => k (.exit j)) I s.1) N (x.2.2.2.2.1, ())
theorem z10lp0 (N : Nat) (r_script_Equal_1 : τ0 → τ0 → Option (Bool)) : ∀ st k, (∀ st, k .ret st = (resD (z10E N r_script_Equal_1) Tryz.f92 (z10sg fun x _ => slices_EqualFunc_api_Case N r_script_Equal_1 x.1 x.2.1 x.2.2.1) z10pk) st) → z10LP N r_script_Equal_1 0 z10c0 st k = iter (Env.hint (z10E N r_script_Equal_1) 0) (exec (z10E N r_script_Equal_1) N z10c0 0) N st k := fun st k hk => LPc_eq 32 z10L0_fs z10L0_bs _ _ (resD (z10E N r_script_Equal_1) Tryz.f92 (z10sg fun x _ => slices_EqualFunc_api_Case N r_script_Equal_1 x.1 x.2.1 x.2.2.1) z10pk) (z10L0_ok N r_script_Equal_1) _ st k hk (rfl)
theorem z10core (N : Nat) (r_script_Equal_1 : τ0 → τ0 → Option (Bool)) (x : SV [.v τ1, .v τ1, .v (.clo 93 .un)]) (y : BV []) : runL (z10E N r_script_Equal_1) Tryz.f92 (z10sg fun x _ => slices_EqualFunc_api_Case N r_script_Equal_1 x.1 x.2.1 x.2.2.1) z10pk (z10LP N r_script_Equal_1) x y = slices_EqualFunc_api_Case N r_script_Equal_1 x.1 x.2.1 x.2.2.1 := by kernel_rfl
theorem z10sound (N : Nat) (r_script_Equal_1 : τ0 → τ0 → Option (Bool)) (h_script_Equal_1 : Sound Tryz.prog GW B0G 93 (z44sg fun x y => r_script_Equal_1 x.1 x.2.1)) : Sound Tryz.prog GW B0G 92 (z10sg fun x _ => slices_EqualFunc_api_Case N r_script_Equal_1 x.1 x.2.1 x.2.2.1) :=
 runD_sound (mkE_ok z10h (z10fn N r_script_Equal_1) _ _ (z10fn_ok N r_script_Equal_1 h_script_Equal_1)) Tryz.func92 rfl Tryz.call92 (z10sg fun x _ => slices_EqualFunc_api_Case N r_script_Equal_1 x.1 x.2.1 x.2.2.1) z10pk (fun _ _ => rfl) N (fun x y _ h => ((runL_eq (z10E N r_script_Equal_1) N Tryz.f92 (z10sg fun x _ => slices_EqualFunc_api_Case N r_script_Equal_1 x.1 x.2.1 x.2.2.1) z10pk (z10LP N r_script_Equal_1) (show LoopsOk (z10LP N r_script_Equal_1) (z10E N r_script_Equal_1) N (resD (z10E N r_script_Equal_1) Tryz.f92 (z10sg fun x _ => slices_EqualFunc_api_Case N r_script_Equal_1 x.1 x.2.1 x.2.2.1) z10pk) [(0, z10c0)] from ⟨z10lp0 N r_script_Equal_1, trivial⟩) x y).trans (z10core N r_script_Equal_1 x y)).trans h)
def script_Equal (N : Nat) (r_script_Equal_1 : τ0 → τ0 → Option (Bool)) (x0 : GValue) (x1 : GValue) : Option Bool :=
 br (x0.kind == x1.kind)
  (br (x0.text == x1.text)
   (br (x0.number == x1.number)
    (bnd (slices_Equal_string_string N x0.list x1.list) fun t29 =>
    br (t29)
     (bnd (slices_EqualFunc_api_Case N r_script_Equal_1 x0.cases x1.cases ()) fun t36 =>
     some t36)
     (some false))
    (some false))
   (some false))
  (some false)
abbrev z52sg (f : SV [.v τ6, .v τ6] → BV [] → Option (Bool)) : AF := { ps := [.v τ6, .v τ6], bs := [], rs := [.v .bool], cs := [], R := Bool, out := fun z => ((z, ()), ()), f := f }
abbrev z52pk : SV [.v .bool] → BV [] → Bool := fun x _ => x.1
def z52fn (N : Nat) (r_script_Equal_1 : τ0 → τ0 → Option (Bool)) : FuncId → Option Tmp → Option AF := fun f _ =>
 match f with
  | 37 => some (z8g N)
  | 92 => some (z10sg fun x _ => slices_EqualFunc_api_Case N r_script_Equal_1 x.1 x.2.1 x.2.2.1)
  | _ => none
theorem z52fn_ok (N : Nat) (r_script_Equal_1 : τ0 → τ0 → Option (Bool)) (h_script_Equal_1 : Sound Tryz.prog GW B0G 93 (z44sg fun x y => r_script_Equal_1 x.1 x.2.1)) : ∀ f q F, z52fn N r_script_Equal_1 f q = some F → Sound Tryz.prog GW B0G f F := by
 intro f q F h
 unfold z52fn at h
 split at h
 · cases h; exact z8sound N
 · cases h; exact z10sound N r_script_Equal_1 h_script_Equal_1
 · cases h
def z52h : Nat → Hint := fun i =>
 match i with
 | _ => hint0
abbrev z52E (N : Nat) (r_script_Equal_1 : τ0 → τ0 → Option (Bool)) : Env := mkE z52h (z52fn N r_script_Equal_1) (fun _ => false) (fun _ => false)
noncomputable def z52LP (N : Nat) (r_script_Equal_1 : τ0 → τ0 → Option (Bool)) : Nat → Code → St → (Ex → St → Option Bool) → Option Bool := fun i c =>
 match i with
 | i => fun st k => iter (z52h i) (exec (z52E N r_script_Equal_1) N c i) N st k
theorem z52core (N : Nat) (r_script_Equal_1 : τ0 → τ0 → Option (Bool)) (x : SV [.v τ6, .v τ6]) (y : BV []) : runL (z52E N r_script_Equal_1) Tryz.f49 (z52sg fun x _ => script_Equal N r_script_Equal_1 x.1 x.2.1) z52pk (z52LP N r_script_Equal_1) x y = script_Equal N r_script_Equal_1 x.1 x.2.1 := by kernel_rfl
theorem z52sound (N : Nat) (r_script_Equal_1 : τ0 → τ0 → Option (Bool)) (h_script_Equal_1 : Sound Tryz.prog GW B0G 93 (z44sg fun x y => r_script_Equal_1 x.1 x.2.1)) : Sound Tryz.prog GW B0G 49 (z52sg fun x _ => script_Equal N r_script_Equal_1 x.1 x.2.1) :=
 runD_sound (mkE_ok z52h (z52fn N r_script_Equal_1) _ _ (z52fn_ok N r_script_Equal_1 h_script_Equal_1)) Tryz.func49 rfl Tryz.call49 (z52sg fun x _ => script_Equal N r_script_Equal_1 x.1 x.2.1) z52pk (fun _ _ => rfl) N (fun x y _ h => ((runL_eq (z52E N r_script_Equal_1) N Tryz.f49 (z52sg fun x _ => script_Equal N r_script_Equal_1 x.1 x.2.1) z52pk (z52LP N r_script_Equal_1) (show LoopsOk (z52LP N r_script_Equal_1) (z52E N r_script_Equal_1) N (resD (z52E N r_script_Equal_1) Tryz.f49 (z52sg fun x _ => script_Equal N r_script_Equal_1 x.1 x.2.1) z52pk) [] from trivial) x y).trans (z52core N r_script_Equal_1 x y)).trans h)
def script_Equal_1_b (N : Nat) (r_script_Equal_1 : τ0 → τ0 → Option (Bool)) (x0 : Str × GValue) (x1 : Str × GValue) : Option Bool :=
 br (x0.1 == x1.1)
  (bnd (script_Equal N r_script_Equal_1 (GValue.mk x0.2.kind x0.2.text x0.2.number x0.2.list x0.2.cases) (GValue.mk x1.2.kind x1.2.text x1.2.number x1.2.list x1.2.cases)) fun t15 =>
  some t15)
  (some false)
abbrev z34sg (f : SV [.v τ11, .v τ11] → BV [] → Option (Bool)) : AF := { ps := [.v τ11, .v τ11], bs := [], rs := [.v .bool], cs := [], R := Bool, out := fun z => ((z, ()), ()), f := f }
abbrev z34pk : SV [.v .bool] → BV [] → Bool := fun x _ => x.1
def z34fn (N : Nat) (r_script_Equal_1 : τ0 → τ0 → Option (Bool)) : FuncId → Option Tmp → Option AF := fun f _ =>
 match f with
  | 49 => some (z52sg fun x _ => script_Equal N r_script_Equal_1 x.1 x.2.1)
  | _ => none
theorem z34fn_ok (N : Nat) (r_script_Equal_1 : τ0 → τ0 → Option (Bool)) (h_script_Equal_1 : Sound Tryz.prog GW B0G 93 (z44sg fun x y => r_script_Equal_1 x.1 x.2.1)) : ∀ f q F, z34fn N r_script_Equal_1 f q = some F → Sound Tryz.prog GW B0G f F := by
 intro f q F h
 unfold z34fn at h
 split at h
 · cases h; exact z52sound N r_script_Equal_1 h_script_Equal_1
 · cases h
def z34h : Nat → Hint := fun i =>
 match i with
 | _ => hint0
abbrev z34E (N : Nat) (r_script_Equal_1 : τ0 → τ0 → Option (Bool)) : Env := mkE z34h (z34fn N r_script_Equal_1) (fun _ => false) (fun _ => false)
noncomputable def z34LP (N : Nat) (r_script_Equal_1 : τ0 → τ0 → Option (Bool)) : Nat → Code → St → (Ex → St → Option Bool) → Option Bool := fun i c =>
 match i with
 | i => fun st k => iter (z34h i) (exec (z34E N r_script_Equal_1) N c i) N st k
theorem z34core (N : Nat) (r_script_Equal_1 : τ0 → τ0 → Option (Bool)) (x : SV [.v τ11, .v τ11]) (y : BV []) : runL (z34E N r_script_Equal_1) Tryz.f93 (z34sg fun x _ => script_Equal_1_b N r_script_Equal_1 x.1 x.2.1) z34pk (z34LP N r_script_Equal_1) x y = script_Equal_1_b N r_script_Equal_1 x.1 x.2.1 := by kernel_rfl
theorem z34sound (N : Nat) (r_script_Equal_1 : τ0 → τ0 → Option (Bool)) (h_script_Equal_1 : Sound Tryz.prog GW B0G 93 (z44sg fun x y => r_script_Equal_1 x.1 x.2.1)) : Sound Tryz.prog GW B0G 93 (z34sg fun x _ => script_Equal_1_b N r_script_Equal_1 x.1 x.2.1) :=
 runD_sound (mkE_ok z34h (z34fn N r_script_Equal_1) _ _ (z34fn_ok N r_script_Equal_1 h_script_Equal_1)) Tryz.func93 rfl Tryz.call93 (z34sg fun x _ => script_Equal_1_b N r_script_Equal_1 x.1 x.2.1) z34pk (fun _ _ => rfl) N (fun x y _ h => ((runL_eq (z34E N r_script_Equal_1) N Tryz.f93 (z34sg fun x _ => script_Equal_1_b N r_script_Equal_1 x.1 x.2.1) z34pk (z34LP N r_script_Equal_1) (show LoopsOk (z34LP N r_script_Equal_1) (z34E N r_script_Equal_1) N (resD (z34E N r_script_Equal_1) Tryz.f93 (z34sg fun x _ => script_Equal_1_b N r_script_Equal_1 x.1 x.2.1) z34pk) [] from trivial) x y).trans (z34core N r_script_Equal_1 x y)).trans h)
def script_Equal_1 (N : Nat) : Nat → τ0 → τ0 → Option (Bool)
 | 0 => fun _ _ => none
 | d + 1 => script_Equal_1_b N (script_Equal_1 N d)
theorem z44sound (N : Nat) : ∀ d, Sound Tryz.prog GW B0G 93 (z44sg fun x y => script_Equal_1 N d x.1 x.2.1)
 | 0 => Sound.never Tryz.call93 (fun _ _ => rfl)
 | d + 1 => z34sound N (script_Equal_1 N d) (z44sound N d)
def script_isSmall (_N : Nat) (x0 : UInt8) : Option Bool :=
 br (decide (x0 ≥ (97 : UInt8)))
  (some (decide (x0 ≤ (122 : UInt8))))
  (some false)
abbrev z46sg (f : SV [.v .u8] → BV [] → Option (Bool)) : AF := { ps := [.v .u8], bs := [], rs := [.v .bool], cs := [], R := Bool, out := fun z => ((z, ()), ()), f := f }
noncomputable abbrev z46g (N : Nat) : AF := z46sg fun x _ => script_isSmall N x.1
abbrev z46pk : SV [.v .bool] → BV [] → Bool := fun x _ => x.1
def z46fn (_N : Nat) : FuncId → Option Tmp → Option AF := fun f _ =>
 match f with
  | _ => none
theorem z46fn_ok (N : Nat) : FnOk (z46fn N) := by
 intro f q F h
 unfold z46fn at h
 split at h
 · cases h
def z46h : Nat → Hint := fun i =>
 match i with
 | _ => hint0
abbrev z46E (N : Nat) : Env := mkE z46h (z46fn N) FF FF
noncomputable def z46LP (N : Nat) : Nat → Code → St → (Ex → St → Option Bool) → Option Bool := fun i c =>
 match i with
 | i => fun st k => iter (z46h i) (exec (z46E N) N c i) N st k
theorem z46core (N : Nat) (x : SV [.v .u8]) (y : BV []) : runL (z46E N) Tryz.f96 (z46g N) z46pk (z46LP N) x y = script_isSmall N x.1 := by kernel_rfl
theorem z46sound (N : Nat) : Snd 96 (z46g N) :=
 sndL (z46fn_ok N) Tryz.func96 rfl Tryz.call96 (z46g N) z46pk (fun _ _ => rfl) N (z46LP N) (show LoopsOk (z46LP N) (z46E N) N (resD (z46E N) Tryz.f96 (z46g N) z46pk) [] from trivial) (z46core N)
end
end Go.Proofs.YtahjncefiegflaaGreatDoor

