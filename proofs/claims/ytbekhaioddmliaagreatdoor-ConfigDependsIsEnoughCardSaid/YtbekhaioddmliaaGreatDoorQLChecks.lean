/- What functions of the program compute, as plain functions (printed). -/
import Derived.Test.YtbekhaioddmliaaGreatDoorQBmMk
import Derived.Test.YtbekhaioddmliaaGreatDoorQBmI
import Derived.ProofKit
import Derived.OpenShut
import Derived.ShutString
import Derived.DataReads
import Derived.ChangeShapes
import Derived.WideShapes
import Derived.Test.YtbekhaioddmliaaGreatDoorQSlc
import Derived.KernelRfl
namespace Go.Proofs.YtbekhaioddmliaaGreatDoor
open Go Go.RowKit
set_option maxRecDepth 100000
set_option linter.unusedVariables false
noncomputable section
def z62L2T (_N : Nat) (c64 : List τ1) (c65 : Int) (k4 : (List τ21) → Option τ22) (self : Int → (List τ21) → Option τ22) (s66 : Int) (m1031_2 : List τ21) : Option τ22 :=
 br (decide (s66 < c65))
   (bnd (geti c64 s66) fun t68 =>
   self (IntKind.i64.wrap (s66 + (1 : Int))) (mset m1031_2 t68.1 true))
   (k4 m1031_2)
def z62L2 (N : Nat) (c64 : List τ1) (c65 : Int) (k4 : (List τ21) → Option τ22) : Nat → Int → (List τ21) → Option τ22
 | 0, _, _ => none
 | n + 1, s66, m1031_2 => z62L2T N c64 c65 k4 (z62L2 N c64 c65 k4 n) s66 m1031_2
def z62L1T (N : Nat) (c49 : List τ3) (c50 : Int) (κ2_1 : List τ6) (k2 : (List τ21) → Option τ22) (self : Int → (List τ21) → Option τ22) (s51 : Int) (m1031_1 : List τ21) : Option τ22 :=
 br (decide (s51 < c50))
   (bnd (geti c49 s51) fun t53 =>
   bnd (config_conditionOf N κ2_1 t53.1) fun t60 =>
   z62L2 N t60.1.2.1 (t60.1.2.1.length : Int) (fun o2_m1031 =>
       self (IntKind.i64.wrap (s51 + (1 : Int))) o2_m1031) N (0 : Int) m1031_1)
   (k2 m1031_1)
def z62L1 (N : Nat) (c49 : List τ3) (c50 : Int) (κ2_1 : List τ6) (k2 : (List τ21) → Option τ22) : Nat → Int → (List τ21) → Option τ22
 | 0, _, _ => none
 | n + 1, s51, m1031_1 => z62L1T N c49 c50 κ2_1 k2 (z62L1 N c49 c50 κ2_1 k2 n) s51 m1031_1
def z62L0T (N : Nat) (c33 : List τ3) (c34 : Int) (κ2_1 : List τ6) (k0 : (List τ21) → Option τ22) (self : Int → (List τ21) → Option τ22) (s35 : Int) (m1031 : List τ21) : Option τ22 :=
 br (decide (s35 < c34))
   (bnd (geti c33 s35) fun t37 =>
   bnd (config_checkNamed N κ2_1 (GValue.mk t37.2.kind t37.2.text t37.2.number t37.2.list t37.2.cases)) fun t43 =>
   br (t43 != (0 : Int))
     (some (t43, ([] : List Str)))
     (z62L1 N t37.2.cases (t37.2.cases.length : Int) κ2_1 (fun o1_m1031 =>
         self (IntKind.i64.wrap (s35 + (1 : Int))) o1_m1031) N (0 : Int) m1031))
   (k0 m1031)
def z62L0 (N : Nat) (c33 : List τ3) (c34 : Int) (κ2_1 : List τ6) (k0 : (List τ21) → Option τ22) : Nat → Int → (List τ21) → Option τ22
 | 0, _, _ => none
 | n + 1, s35, m1031 => z62L0T N c33 c34 κ2_1 k0 (z62L0 N c33 c34 κ2_1 k0 n) s35 m1031
def config_Depends (N : Nat) (x0 : τ20) (x1 : Str × Str × List τ3) : Option τ22 :=
 bnd (config_CheckConditions N x0.1 x0.2.1) fun t22 =>
 br (t22 != (0 : Int))
   (some (t22, ([] : List Str)))
   (bnd (script_CheckTarget N x1) fun t27 =>
   br (t27 != (0 : Int))
     (some (t27, ([] : List Str)))
     (z62L0 N x1.2.2 (x1.2.2.length : Int) x0.2.1 (fun o0_m1031 =>
         bnd (maps_Keys_bool o0_m1031) fun t77 =>
         bnd (slices_Sorted_keys t77) fun t78 =>
         some ((0 : Int), t78.2)) N (0 : Int) ([] : List τ21)))
abbrev z62sg (f : SV [.v τ4, .v τ10] → BV [] → Option τ22) : AF := { ps := [.v τ4, .v τ10], bs := [], rs := [.row 0, .v τ5], cs := [.row 9 .str false], R := Int × List Str, out := fun z => (((), z.1, ()), (z.2, ())), f := f }
noncomputable abbrev z62g (N : Nat) : AF := z62sg fun x _ => config_Depends N x.1 x.2.1
abbrev z62pk : SV [.row 0, .v τ5] → BV [.row 9 .str false] → τ22 := fun x y => (x.2.1, y.1)
def z62fn (N : Nat) : FuncId → Option Tmp → Option AF := fun f _ =>
 match f with
   | 61 => some (z45g N)
   | 64 => some (z28g N)
   | 65 => some (z50g N)
   | 66 => some (z44g N)
   | 67 => some (z47sg fun _ y => slices_Sorted_keys y.2.1)
   | 68 => some (z65sg fun _ y => maps_Keys_bool y.1)
   | _ => none
theorem z62fn_ok (N : Nat) : FnOk (z62fn N) := by
 intro f q F h
 unfold z62fn at h
 split at h
 · cases h; exact z45sound N
 · cases h; exact z28sound N
 · cases h; exact z50sound N
 · cases h; exact z44sound N
 · cases h; exact z47sound
 · cases h; exact z65sound
 · cases h
def z62h : Nat → Hint := fun i =>
 match i with
 | 0 => ⟨[], [2, 8, 33, 34, 35], [1002, 1031], [8], [1031], []⟩
 | 2 => ⟨[], [2, 8, 33, 34, 35, 49, 50, 51], [1002, 1031], [2, 8, 33, 34, 35], [1002, 1031], []⟩
 | 4 => ⟨[], [2, 8, 33, 34, 35, 49, 50, 51, 64, 65, 66], [1002, 1031], [2, 8, 33, 34, 35, 49, 50, 51], [1002, 1031], []⟩
 | _ => hint0
abbrev z62E (N : Nat) : Env := mkE z62h (z62fn N) FF FF
noncomputable abbrev z62c2 : Code := cAt (bodyOf Tryz.f25) [true, true, true, true, false, true, false, false]
noncomputable abbrev z62c1 : Code := cAt (bodyOf Tryz.f25) [true, true, true, true, false, true, false, false, true, true, false, false, true, true, true, false, false]
noncomputable abbrev z62c0 : Code := cAt (bodyOf Tryz.f25) [true, true, true, true, false, true, false, false, true, true, false, false, true, true, true, false, false, true, true, false, false, true, true, true, false, false]
noncomputable abbrev z62R (N : Nat) := resD (z62E N) Tryz.f25 (z62g N) z62pk
abbrev z62L2_fs : List (Nat × Sl) := [(2, .box 1002 0), (8, .mref 1031), (33, .v (.sl τ2)), (34, .v τ5), (35, .v τ5), (49, .v (.sl τ2)), (50, .v τ5), (51, .v τ5), (64, .v τ0), (65, .v τ5), (66, .v τ5)]
abbrev z62L2_bs : List (Nat × Sb) := [(1002, .cells [.v τ8, .v (.sl τ9), .v (.sl τ15), .v (.sl (.pr .str τ9)), .v (.sl τ16)]), (1031, .map .bool)]
def z62L2_hd (c33 : List τ3) (c34 : Int) (s35 : Int) (c49 : List τ3) (c50 : Int) (s51 : Int) (c64 : List τ1) (c65 : Int) (κ2_0 : τ7) (κ2_1 : List τ6) (κ2_2 : τ12) (κ2_3 : List τ11) (κ2_4 : τ13) (s66 : Int) (m1031_2 : List τ21) : St := ⟨79, [(2, .box 1002 0), (8, .mref 1031), (33, .v (.sl τ2) c33), (34, .v τ5 c34), (35, .v τ5 s35), (49, .v (.sl τ2) c49), (50, .v τ5 c50), (51, .v τ5 s51), (64, .v τ0 c64), (65, .v τ5 c65), (66, .v τ5 s66)], [(1002, .cells [.v τ8 κ2_0, .v (.sl τ9) κ2_1, .v (.sl τ15) κ2_2, .v (.sl (.pr .str τ9)) κ2_3, .v (.sl τ16) κ2_4]), (1031, .map .bool m1031_2)]⟩
def z62L2_tl4 (c33 : List τ3) (c34 : Int) (s35 : Int) (c49 : List τ3) (c50 : Int) (s51 : Int) (_c64 : List τ1) (_c65 : Int) (κ2_0 : τ7) (κ2_1 : List τ6) (κ2_2 : τ12) (κ2_3 : List τ11) (κ2_4 : τ13) (o2_m1031 : List τ21) : St := ⟨79, [(2, .box 1002 0), (8, .mref 1031), (33, .v (.sl τ2) c33), (34, .v τ5 c34), (35, .v τ5 s35), (49, .v (.sl τ2) c49), (50, .v τ5 c50), (51, .v τ5 s51)], [(1002, .cells [.v τ8 κ2_0, .v (.sl τ9) κ2_1, .v (.sl τ15) κ2_2, .v (.sl (.pr .str τ9)) κ2_3, .v (.sl τ16) κ2_4]), (1031, .map .bool o2_m1031)]⟩
def z62L2_G (N : Nat) (c33 : List τ3) (c34 : Int) (s35 : Int) (c49 : List τ3) (c50 : Int) (s51 : Int) (c64 : List τ1) (c65 : Int) (κ2_0 : τ7) (κ2_1 : List τ6) (κ2_2 : τ12) (κ2_3 : List τ11) (κ2_4 : τ13) (s66 : Int) (m1031_2 : List τ21) (k : Ex → St → Option τ22) : Option τ22 :=
 z62L2 N c64 c65 (fun o2_m1031 => k (.exit 4) (z62L2_tl4 c33 c34 s35 c49 c50 s51 c64 c65 κ2_0 κ2_1 κ2_2 κ2_3 κ2_4 o2_m1031)) N s66 m1031_2
abbrev z62L2_F (N : Nat) : FV z62L2_fs → HV z62L2_bs → (Ex → St → Option τ22) → Option τ22 := fun x y k => z62L2_G N x.2.2.1 x.2.2.2.1 x.2.2.2.2.1 x.2.2.2.2.2.1 x.2.2.2.2.2.2.1 x.2.2.2.2.2.2.2.1 x.2.2.2.2.2.2.2.2.1 x.2.2.2.2.2.2.2.2.2.1 y.1.1 y.1.2.1 y.1.2.2.1 y.1.2.2.2.1 y.1.2.2.2.2.1 x.2.2.2.2.2.2.2.2.2.2.1 y.2.1 k
abbrev z62L1_fs : List (Nat × Sl) := [(2, .box 1002 0), (8, .mref 1031), (33, .v (.sl τ2)), (34, .v τ5), (35, .v τ5), (49, .v (.sl τ2)), (50, .v τ5), (51, .v τ5)]
abbrev z62L1_bs : List (Nat × Sb) := [(1002, .cells [.v τ8, .v (.sl τ9), .v (.sl τ15), .v (.sl (.pr .str τ9)), .v (.sl τ16)]), (1031, .map .bool)]
def z62L1_hd (c33 : List τ3) (c34 : Int) (s35 : Int) (c49 : List τ3) (c50 : Int) (κ2_0 : τ7) (κ2_1 : List τ6) (κ2_2 : τ12) (κ2_3 : List τ11) (κ2_4 : τ13) (s51 : Int) (m1031_1 : List τ21) : St := ⟨79, [(2, .box 1002 0), (8, .mref 1031), (33, .v (.sl τ2) c33), (34, .v τ5 c34), (35, .v τ5 s35), (49, .v (.sl τ2) c49), (50, .v τ5 c50), (51, .v τ5 s51)], [(1002, .cells [.v τ8 κ2_0, .v (.sl τ9) κ2_1, .v (.sl τ15) κ2_2, .v (.sl (.pr .str τ9)) κ2_3, .v (.sl τ16) κ2_4]), (1031, .map .bool m1031_1)]⟩
def z62L1_tl2 (c33 : List τ3) (c34 : Int) (s35 : Int) (_c49 : List τ3) (_c50 : Int) (κ2_0 : τ7) (κ2_1 : List τ6) (κ2_2 : τ12) (κ2_3 : List τ11) (κ2_4 : τ13) (o1_m1031 : List τ21) : St := ⟨79, [(2, .box 1002 0), (8, .mref 1031), (33, .v (.sl τ2) c33), (34, .v τ5 c34), (35, .v τ5 s35)], [(1002, .cells [.v τ8 κ2_0, .v (.sl τ9) κ2_1, .v (.sl τ15) κ2_2, .v (.sl (.pr .str τ9)) κ2_3, .v (.sl τ16) κ2_4]), (1031, .map .bool o1_m1031)]⟩
def z62L1_G (N : Nat) (c33 : List τ3) (c34 : Int) (s35 : Int) (c49 : List τ3) (c50 : Int) (κ2_0 : τ7) (κ2_1 : List τ6) (κ2_2 : τ12) (κ2_3 : List τ11) (κ2_4 : τ13) (s51 : Int) (m1031_1 : List τ21) (k : Ex → St → Option τ22) : Option τ22 :=
 z62L1 N c49 c50 κ2_1 (fun o1_m1031 => k (.exit 2) (z62L1_tl2 c33 c34 s35 c49 c50 κ2_0 κ2_1 κ2_2 κ2_3 κ2_4 o1_m1031)) N s51 m1031_1
abbrev z62L1_F (N : Nat) : FV z62L1_fs → HV z62L1_bs → (Ex → St → Option τ22) → Option τ22 := fun x y k => z62L1_G N x.2.2.1 x.2.2.2.1 x.2.2.2.2.1 x.2.2.2.2.2.1 x.2.2.2.2.2.2.1 y.1.1 y.1.2.1 y.1.2.2.1 y.1.2.2.2.1 y.1.2.2.2.2.1 x.2.2.2.2.2.2.2.1 y.2.1 k
abbrev z62L0_fs : List (Nat × Sl) := [(2, .box 1002 0), (8, .mref 1031), (33, .v (.sl τ2)), (34, .v τ5), (35, .v τ5)]
abbrev z62L0_bs : List (Nat × Sb) := [(1002, .cells [.v τ8, .v (.sl τ9), .v (.sl τ15), .v (.sl (.pr .str τ9)), .v (.sl τ16)]), (1031, .map .bool)]
def z62L0_hd (c33 : List τ3) (c34 : Int) (κ2_0 : τ7) (κ2_1 : List τ6) (κ2_2 : τ12) (κ2_3 : List τ11) (κ2_4 : τ13) (s35 : Int) (m1031 : List τ21) : St := ⟨79, [(2, .box 1002 0), (8, .mref 1031), (33, .v (.sl τ2) c33), (34, .v τ5 c34), (35, .v τ5 s35)], [(1002, .cells [.v τ8 κ2_0, .v (.sl τ9) κ2_1, .v (.sl τ15) κ2_2, .v (.sl (.pr .str τ9)) κ2_3, .v (.sl τ16) κ2_4]), (1031, .map .bool m1031)]⟩
def z62L0_tl0 (_c33 : List τ3) (_c34 : Int) (_κ2_0 : τ7) (_κ2_1 : List τ6) (_κ2_2 : τ12) (_κ2_3 : List τ11) (_κ2_4 : τ13) (o0_m1031 : List τ21) : St := ⟨79, [(8, .mref 1031)], [(1031, .map .bool o0_m1031)]⟩
def z62L0_G (N : Nat) (c33 : List τ3) (c34 : Int) (κ2_0 : τ7) (κ2_1 : List τ6) (κ2_2 : τ12) (κ2_3 : List τ11) (κ2_4 : τ13) (s35 : Int) (m1031 : List τ21) (k : Ex → St → Option τ22) : Option τ22 :=
 z62L0 N c33 c34 κ2_1 (fun o0_m1031 => k (.exit 0) (z62L0_tl0 c33 c34 κ2_0 κ2_1 κ2_2 κ2_3 κ2_4 o0_m1031)) N s35 m1031
abbrev z62L0_F (N : Nat) : FV z62L0_fs → HV z62L0_bs → (Ex → St → Option τ22) → Option τ22 := fun x y k => z62L0_G N x.2.2.1 x.2.2.2.1 y.1.1 y.1.2.1 y.1.2.2.1 y.1.2.2.2.1 y.1.2.2.2.2.1 x.2.2.2.2.1 y.2.1 k
noncomputable def z62LP (N : Nat) : Nat → Code → St → (Ex → St → Option τ22) → Option τ22 := fun i c =>
 match i with
 | 0 => (LPc 79 z62L0_fs z62L0_bs (z62L0_F N) (fun st k => iter (z62h 0) (exec (z62E N) N c 0) N st k))
 | 2 => (LPc 79 z62L1_fs z62L1_bs (z62L1_F N) (fun st k => iter (z62h 2) (exec (z62E N) N c 2) N st k))
 | 4 => (LPc 79 z62L2_fs z62L2_bs (z62L2_F N) (fun st k => iter (z62h 4) (exec (z62E N) N c 4) N st k))
 | i => fun st k => iter (z62h i) (exec (z62E N) N c i) N st k
theorem z62L2_step (N : Nat) (c33 : List τ3) (c34 : Int) (s35 : Int) (c49 : List τ3) (c50 : Int) (s51 : Int) (c64 : List τ1) (c65 : Int) (κ2_0 : τ7) (κ2_1 : List τ6) (κ2_2 : τ12) (κ2_3 : List τ11) (κ2_4 : τ13) (KX : Nat → St → Option τ22) (I : St → Option τ22) (s66 : Int) (m1031_2 : List τ21) :
   execL (z62LP N) (z62E N) z62c0 4 (z62L2_hd c33 c34 s35 c49 c50 s51 c64 c65 κ2_0 κ2_1 κ2_2 κ2_3 κ2_4 s66 m1031_2) (roundK (z62h 4) I KX (z62R N)) = z62L2T N c64 c65 (fun o2_m1031 => KX 4 (z62L2_tl4 c33 c34 s35 c49 c50 s51 c64 c65 κ2_0 κ2_1 κ2_2 κ2_3 κ2_4 o2_m1031)) (fun s66 m1031_2 => I (z62L2_hd c33 c34 s35 c49 c50 s51 c64 c65 κ2_0 κ2_1 κ2_2 κ2_3 κ2_4 s66 m1031_2)) s66 m1031_2 := by kernel_rfl
theorem z62L2_ok (N : Nat) : ∀ x y k, (∀ st, k .ret st = (z62R N) st) → iter (z62h 4) (exec (z62E N) N z62c0 4) N ⟨79, unF z62L2_fs x, unH z62L2_bs y⟩ k = z62L2_F N x y k := fun x y k hk =>
 iter_link (S := (Int) × (List τ21) × Unit) (z62h 4) _ (execL (z62LP N) (z62E N) z62c0 4) (z62R N) (fun st k hk => execL_eq _ _ N _ z62c0 4 (show LoopsOk (z62LP N) (z62E N) N (z62R N) [] from trivial) st k hk) (fun s => z62L2_hd x.2.2.1 x.2.2.2.1 x.2.2.2.2.1 x.2.2.2.2.2.1 x.2.2.2.2.2.2.1 x.2.2.2.2.2.2.2.1 x.2.2.2.2.2.2.2.2.1 x.2.2.2.2.2.2.2.2.2.1 y.1.1 y.1.2.1 y.1.2.2.1 y.1.2.2.2.1 y.1.2.2.2.2.1 s.1 s.2.1) k hk
   (fun self s => z62L2T N x.2.2.2.2.2.2.2.2.1 x.2.2.2.2.2.2.2.2.2.1 (fun o2_m1031 => k (.exit 4) (z62L2_tl4 x.2.2.1 x.2.2.2.1 x.2.2.2.2.1 x.2.2.2.2.2.1 x.2.2.2.2.2.2.1 x.2.2.2.2.2.2.2.1 x.2.2.2.2.2.2.2.2.1 x.2.2.2.2.2.2.2.2.2.1 y.1.1 y.1.2.1 y.1.2.2.1 y.1.2.2.2.1 y.1.2.2.2.2.1 o2_m1031)) (fun s66 m1031_2 => self (s66, m1031_2, ())) s.1 s.2.1) (fun n s => z62L2 N x.2.2.2.2.2.2.2.2.1 x.2.2.2.2.2.2.2.2.2.1 (fun o2_m1031 => k (.exit 4) (z62L2_tl4 x.2.2.1 x.2.2.2.1 x.2.2.2.2.1 x.2.2.2.2.2.1 x.2.2.2.2.2.2.1 x.2.2.2.2.2.2.2.1 x.2.2.2.2.2.2.2.2.1 x.2.2.2.2.2.2.2.2.2.1 y.1.1 y.1.2.1 y.1.2.2.1 y.1.2.2.2.1 y.1.2.2.2.2.1 o2_m1031)) n s.1 s.2.1) (fun _ => rfl) (fun _ _ => rfl)
   (fun I s => z62L2_step N x.2.2.1 x.2.2.2.1 x.2.2.2.2.1 x.2.2.2.2.2.1 x.2.2.2.2.2.2.1 x.2.2.2.2.2.2.2.1 x.2.2.2.2.2.2.2.2.1 x.2.2.2.2.2.2.2.2.2.1 y.1.1 y.1.2.1 y.1.2.2.1 y.1.2.2.2.1 y.1.2.2.2.2.1 (fun j => k (.exit j)) I s.1 s.2.1) N (x.2.2.2.2.2.2.2.2.2.2.1, y.2.1, ())
theorem z62lp4 (N : Nat) : ∀ st k, (∀ st, k .ret st = (z62R N) st) → z62LP N 4 z62c0 st k = iter (Env.hint (z62E N) 4) (exec (z62E N) N z62c0 4) N st k := fun st k hk => LPc_eq 79 z62L2_fs z62L2_bs _ _ (z62R N) (z62L2_ok N) _ st k hk (rfl)
theorem z62L1_step (N : Nat) (c33 : List τ3) (c34 : Int) (s35 : Int) (c49 : List τ3) (c50 : Int) (κ2_0 : τ7) (κ2_1 : List τ6) (κ2_2 : τ12) (κ2_3 : List τ11) (κ2_4 : τ13) (KX : Nat → St → Option τ22) (I : St → Option τ22) (s51 : Int) (m1031_1 : List τ21) :
   execL (z62LP N) (z62E N) z62c1 2 (z62L1_hd c33 c34 s35 c49 c50 κ2_0 κ2_1 κ2_2 κ2_3 κ2_4 s51 m1031_1) (roundK (z62h 2) I KX (z62R N)) = z62L1T N c49 c50 κ2_1 (fun o1_m1031 => KX 2 (z62L1_tl2 c33 c34 s35 c49 c50 κ2_0 κ2_1 κ2_2 κ2_3 κ2_4 o1_m1031)) (fun s51 m1031_1 => I (z62L1_hd c33 c34 s35 c49 c50 κ2_0 κ2_1 κ2_2 κ2_3 κ2_4 s51 m1031_1)) s51 m1031_1 := by kernel_rfl
theorem z62L1_ok (N : Nat) : ∀ x y k, (∀ st, k .ret st = (z62R N) st) → iter (z62h 2) (exec (z62E N) N z62c1 2) N ⟨79, unF z62L1_fs x, unH z62L1_bs y⟩ k = z62L1_F N x y k := fun x y k hk =>
 iter_link (S := (Int) × (List τ21) × Unit) (z62h 2) _ (execL (z62LP N) (z62E N) z62c1 2) (z62R N) (fun st k hk => execL_eq _ _ N _ z62c1 2 (show LoopsOk (z62LP N) (z62E N) N (z62R N) [(4, z62c0)] from ⟨z62lp4 N, trivial⟩) st k hk) (fun s => z62L1_hd x.2.2.1 x.2.2.2.1 x.2.2.2.2.1 x.2.2.2.2.2.1 x.2.2.2.2.2.2.1 y.1.1 y.1.2.1 y.1.2.2.1 y.1.2.2.2.1 y.1.2.2.2.2.1 s.1 s.2.1) k hk
   (fun self s => z62L1T N x.2.2.2.2.2.1 x.2.2.2.2.2.2.1 y.1.2.1 (fun o1_m1031 => k (.exit 2) (z62L1_tl2 x.2.2.1 x.2.2.2.1 x.2.2.2.2.1 x.2.2.2.2.2.1 x.2.2.2.2.2.2.1 y.1.1 y.1.2.1 y.1.2.2.1 y.1.2.2.2.1 y.1.2.2.2.2.1 o1_m1031)) (fun s51 m1031_1 => self (s51, m1031_1, ())) s.1 s.2.1) (fun n s => z62L1 N x.2.2.2.2.2.1 x.2.2.2.2.2.2.1 y.1.2.1 (fun o1_m1031 => k (.exit 2) (z62L1_tl2 x.2.2.1 x.2.2.2.1 x.2.2.2.2.1 x.2.2.2.2.2.1 x.2.2.2.2.2.2.1 y.1.1 y.1.2.1 y.1.2.2.1 y.1.2.2.2.1 y.1.2.2.2.2.1 o1_m1031)) n s.1 s.2.1) (fun _ => rfl) (fun _ _ => rfl)
   (fun I s => z62L1_step N x.2.2.1 x.2.2.2.1 x.2.2.2.2.1 x.2.2.2.2.2.1 x.2.2.2.2.2.2.1 y.1.1 y.1.2.1 y.1.2.2.1 y.1.2.2.2.1 y.1.2.2.2.2.1 (fun j => k (.exit j)) I s.1 s.2.1) N (x.2.2.2.2.2.2.2.1, y.2.1, ())
theorem z62lp2 (N : Nat) : ∀ st k, (∀ st, k .ret st = (z62R N) st) → z62LP N 2 z62c1 st k = iter (Env.hint (z62E N) 2) (exec (z62E N) N z62c1 2) N st k := fun st k hk => LPc_eq 79 z62L1_fs z62L1_bs _ _ (z62R N) (z62L1_ok N) _ st k hk (rfl)
theorem z62L0_step (N : Nat) (c33 : List τ3) (c34 : Int) (κ2_0 : τ7) (κ2_1 : List τ6) (κ2_2 : τ12) (κ2_3 : List τ11) (κ2_4 : τ13) (KX : Nat → St → Option τ22) (I : St → Option τ22) (s35 : Int) (m1031 : List τ21) :
   execL (z62LP N) (z62E N) z62c2 0 (z62L0_hd c33 c34 κ2_0 κ2_1 κ2_2 κ2_3 κ2_4 s35 m1031) (roundK (z62h 0) I KX (z62R N)) = z62L0T N c33 c34 κ2_1 (fun o0_m1031 => KX 0 (z62L0_tl0 c33 c34 κ2_0 κ2_1 κ2_2 κ2_3 κ2_4 o0_m1031)) (fun s35 m1031 => I (z62L0_hd c33 c34 κ2_0 κ2_1 κ2_2 κ2_3 κ2_4 s35 m1031)) s35 m1031 := by kernel_rfl
theorem z62L0_ok (N : Nat) : ∀ x y k, (∀ st, k .ret st = (z62R N) st) → iter (z62h 0) (exec (z62E N) N z62c2 0) N ⟨79, unF z62L0_fs x, unH z62L0_bs y⟩ k = z62L0_F N x y k := fun x y k hk =>
 iter_link (S := (Int) × (List τ21) × Unit) (z62h 0) _ (execL (z62LP N) (z62E N) z62c2 0) (z62R N) (fun st k hk => execL_eq _ _ N _ z62c2 0 (show LoopsOk (z62LP N) (z62E N) N (z62R N) [(2, z62c1), (4, z62c0)] from ⟨z62lp2 N, z62lp4 N, trivial⟩) st k hk) (fun s => z62L0_hd x.2.2.1 x.2.2.2.1 y.1.1 y.1.2.1 y.1.2.2.1 y.1.2.2.2.1 y.1.2.2.2.2.1 s.1 s.2.1) k hk
   (fun self s => z62L0T N x.2.2.1 x.2.2.2.1 y.1.2.1 (fun o0_m1031 => k (.exit 0) (z62L0_tl0 x.2.2.1 x.2.2.2.1 y.1.1 y.1.2.1 y.1.2.2.1 y.1.2.2.2.1 y.1.2.2.2.2.1 o0_m1031)) (fun s35 m1031 => self (s35, m1031, ())) s.1 s.2.1) (fun n s => z62L0 N x.2.2.1 x.2.2.2.1 y.1.2.1 (fun o0_m1031 => k (.exit 0) (z62L0_tl0 x.2.2.1 x.2.2.2.1 y.1.1 y.1.2.1 y.1.2.2.1 y.1.2.2.2.1 y.1.2.2.2.2.1 o0_m1031)) n s.1 s.2.1) (fun _ => rfl) (fun _ _ => rfl)
   (fun I s => z62L0_step N x.2.2.1 x.2.2.2.1 y.1.1 y.1.2.1 y.1.2.2.1 y.1.2.2.2.1 y.1.2.2.2.2.1 (fun j => k (.exit j)) I s.1 s.2.1) N (x.2.2.2.2.1, y.2.1, ())
theorem z62lp0 (N : Nat) : ∀ st k, (∀ st, k .ret st = (z62R N) st) → z62LP N 0 z62c2 st k = iter (Env.hint (z62E N) 0) (exec (z62E N) N z62c2 0) N st k := fun st k hk => LPc_eq 79 z62L0_fs z62L0_bs _ _ (z62R N) (z62L0_ok N) _ st k hk (rfl)
theorem z62core (N : Nat) (x : SV [.v τ4, .v τ10]) (y : BV []) : runL (z62E N) Tryz.f25 (z62g N) z62pk (z62LP N) x y = config_Depends N x.1 x.2.1 := by kernel_rfl
theorem z62sound (N : Nat) : Snd 25 (z62g N) :=
 sndL (z62fn_ok N) Tryz.func25 rfl Tryz.call25 (z62g N) z62pk (fun _ _ => rfl) N (z62LP N) (show LoopsOk (z62LP N) (z62E N) N (z62R N) [(0, z62c2), (2, z62c1), (4, z62c0)] from ⟨z62lp0 N, z62lp2 N, z62lp4 N, trivial⟩) (z62core N)
end
end Go.Proofs.YtbekhaioddmliaaGreatDoor


/- What functions of the program compute, as plain functions (printed). -/
namespace Go.Proofs.YtbekhaioddmliaaGreatDoor
open Go Go.RowKit
set_option maxRecDepth 100000
set_option linter.unusedVariables false
noncomputable section
def z15L0T (N : Nat) (x2 : List τ1) (c38 : Int) (κ5_0 : τ7) (cw102600 : List Str) (k0 : (List τ1) → Option Bool) (self : (List τ1) → Int → Option Bool) (s3 : List τ1) (s39 : Int) : Option Bool :=
 br (decide (s39 < c38))
   (bnd (geti cw102600 s39) fun t41 =>
   bnd (config_ValueOf N κ5_0 x2 t41) fun t48 =>
   br (t48.2 != (0 : Int))
     (bnd (law3_awake N) fun t53 =>
     some t53)
     (bnd (config_With N κ5_0 s3 t41 t48.1) fun t60 =>
     br (t60.2 != (0 : Int))
       (bnd (law3_awake N) fun t65 =>
       some t65)
       (self t60.1 (IntKind.i64.wrap (s39 + (1 : Int))))))
   (k0 s3)
def z15L0 (N : Nat) (x2 : List τ1) (c38 : Int) (κ5_0 : τ7) (cw102600 : List Str) (k0 : (List τ1) → Option Bool) : Nat → (List τ1) → Int → Option Bool
 | 0, _, _ => none
 | n + 1, s3, s39 => z15L0T N x2 c38 κ5_0 cw102600 k0 (z15L0 N x2 c38 κ5_0 cw102600 k0 n) s3 s39
def law3_ConfigDependsIsEnough (N : Nat) (x0 : τ20) (x1 : Str × Str × List τ3) (x2 : List τ1) (x3 : List τ1) (x4 : Str × List τ1) : Option Bool :=
 bnd (config_Depends N x0 x1) fun t26 =>
 br (t26.1 != (0 : Int))
   (br ((t26.2.length : Int) == (0 : Int))
     (bnd (law3_awake N) fun t35 =>
     some t35)
     (some false))
   (z15L0 N x2 (t26.2.length : Int) x0.1 t26.2 (fun o0_3 =>
       bnd (config_Plain N x0 x1 x2 x4) fun t73 =>
       bnd (config_Plain N x0 x1 o0_3 x4) fun t82 =>
       bnd (config_CheckConfig N x0.1 x2) fun t89 =>
       br (t89 != (0 : Int))
         (bnd (law3_awake N) fun t98 =>
         some t98)
         (bnd (config_CheckConfig N x0.1 o0_3) fun t95 =>
         br (t95 != (0 : Int))
           (bnd (law3_awake N) fun t98_1 =>
           some t98_1)
           (br (t73.2.2 == t82.2.2)
             (br (t73.2.1 == t82.2.1)
               (bnd (ref2_SamePackage N (([] : Str), [t73.1]) (([] : Str), [t82.1])) fun t114 =>
               br (t114)
                 (bnd (law3_awake N) fun t117 =>
                 some t117)
                 (some false))
               (some false))
             (some false)))) N x3 (0 : Int))
abbrev z15sg (f : SV [.v τ4, .v τ10, .v τ0, .v τ0, .v τ15] → BV [] → Option (Bool)) : AF := { ps := [.v τ4, .v τ10, .v τ0, .v τ0, .v τ15], bs := [], rs := [.v .bool], cs := [], R := Bool, out := fun z => ((z, ()), ()), f := f }
noncomputable abbrev z15g (N : Nat) : AF := z15sg fun x _ => law3_ConfigDependsIsEnough N x.1 x.2.1 x.2.2.1 x.2.2.2.1 x.2.2.2.2.1
abbrev z15pk : SV [.v .bool] → BV [] → Bool := fun x _ => x.1
def z15fn (N : Nat) : FuncId → Option Tmp → Option AF := fun f _ =>
 match f with
   | 11 => some (z94g N)
   | 22 => some (z80g N)
   | 24 => some (z54g N)
   | 25 => some (z62g N)
   | 27 => some (z63g N)
   | 28 => some (z90g N)
   | 29 => some (z42g N)
   | _ => none
theorem z15fn_ok (N : Nat) : FnOk (z15fn N) := by
 intro f q F h
 unfold z15fn at h
 split at h
 · cases h; exact z94sound N
 · cases h; exact z80sound N
 · cases h; exact z54sound N
 · cases h; exact z62sound N
 · cases h; exact z63sound N
 · cases h; exact z90sound N
 · cases h; exact z42sound N
 · cases h
def z15h : Nat → Hint := fun i =>
 match i with
 | 0 => ⟨[], [2, 3, 5, 6, 9, 37, 38, 39], [1005, 1006, 1009, 102600], [2, 3, 5, 6, 9], [1005, 1006, 1009], []⟩
 | _ => hint0
abbrev z15E (N : Nat) : Env := mkE z15h (z15fn N) FF FF
noncomputable abbrev z15c0 : Code := cAt (bodyOf Tryz.f7) [true, true, true, false, true, false, false]
noncomputable abbrev z15R (N : Nat) := resD (z15E N) Tryz.f7 (z15g N) z15pk
abbrev z15L0_fs : List (Nat × Sl) := [(2, .v τ0), (3, .v τ0), (5, .box 1005 0), (6, .box 1006 0), (9, .box 1009 0), (37, .row 102600), (38, .v τ5), (39, .v τ5)]
abbrev z15L0_bs : List (Nat × Sb) := [(1005, .cells [.v τ8, .v (.sl τ9), .v (.sl τ15), .v (.sl (.pr .str τ9)), .v (.sl τ16)]), (1006, .cells [.v .str, .v .str, .v (.sl τ2)]), (1009, .cells [.v .str, .v τ0]), (102600, .row 9 .str false)]
def z15L0_hd (x2 : List τ1) (c38 : Int) (κ5_0 : τ7) (κ5_1 : List τ6) (κ5_2 : τ12) (κ5_3 : List τ11) (κ5_4 : τ13) (κ6_0 : Str) (κ6_1 : Str) (κ6_2 : List τ3) (κ9_0 : Str) (κ9_1 : List τ1) (cw102600 : List Str) (s3 : List τ1) (s39 : Int) : St := ⟨119, [(2, .v τ0 x2), (3, .v τ0 s3), (5, .box 1005 0), (6, .box 1006 0), (9, .box 1009 0), (37, .row 102600), (38, .v τ5 c38), (39, .v τ5 s39)], [(1005, .cells [.v τ8 κ5_0, .v (.sl τ9) κ5_1, .v (.sl τ15) κ5_2, .v (.sl (.pr .str τ9)) κ5_3, .v (.sl τ16) κ5_4]), (1006, .cells [.v .str κ6_0, .v .str κ6_1, .v (.sl τ2) κ6_2]), (1009, .cells [.v .str κ9_0, .v τ0 κ9_1]), (102600, .row 9 .str false cw102600)]⟩
def z15L0_tl0 (x2 : List τ1) (_c38 : Int) (κ5_0 : τ7) (κ5_1 : List τ6) (κ5_2 : τ12) (κ5_3 : List τ11) (κ5_4 : τ13) (κ6_0 : Str) (κ6_1 : Str) (κ6_2 : List τ3) (κ9_0 : Str) (κ9_1 : List τ1) (_cw102600 : List Str) (o0_3 : List τ1) : St := ⟨119, [(2, .v τ0 x2), (3, .v τ0 o0_3), (5, .box 1005 0), (6, .box 1006 0), (9, .box 1009 0)], [(1005, .cells [.v τ8 κ5_0, .v (.sl τ9) κ5_1, .v (.sl τ15) κ5_2, .v (.sl (.pr .str τ9)) κ5_3, .v (.sl τ16) κ5_4]), (1006, .cells [.v .str κ6_0, .v .str κ6_1, .v (.sl τ2) κ6_2]), (1009, .cells [.v .str κ9_0, .v τ0 κ9_1])]⟩
def z15L0_G (N : Nat) (x2 : List τ1) (c38 : Int) (κ5_0 : τ7) (κ5_1 : List τ6) (κ5_2 : τ12) (κ5_3 : List τ11) (κ5_4 : τ13) (κ6_0 : Str) (κ6_1 : Str) (κ6_2 : List τ3) (κ9_0 : Str) (κ9_1 : List τ1) (cw102600 : List Str) (s3 : List τ1) (s39 : Int) (k : Ex → St → Option Bool) : Option Bool :=
 z15L0 N x2 c38 κ5_0 cw102600 (fun o0_3 => k (.exit 0) (z15L0_tl0 x2 c38 κ5_0 κ5_1 κ5_2 κ5_3 κ5_4 κ6_0 κ6_1 κ6_2 κ9_0 κ9_1 cw102600 o0_3)) N s3 s39
abbrev z15L0_F (N : Nat) : FV z15L0_fs → HV z15L0_bs → (Ex → St → Option Bool) → Option Bool := fun x y k => z15L0_G N x.1 x.2.2.2.2.2.2.1 y.1.1 y.1.2.1 y.1.2.2.1 y.1.2.2.2.1 y.1.2.2.2.2.1 y.2.1.1 y.2.1.2.1 y.2.1.2.2.1 y.2.2.1.1 y.2.2.1.2.1 y.2.2.2.1 x.2.1 x.2.2.2.2.2.2.2.1 k
noncomputable def z15LP (N : Nat) : Nat → Code → St → (Ex → St → Option Bool) → Option Bool := fun i c =>
 match i with
 | 0 => (LPc 119 z15L0_fs z15L0_bs (z15L0_F N) (fun st k => iter (z15h 0) (exec (z15E N) N c 0) N st k))
 | i => fun st k => iter (z15h i) (exec (z15E N) N c i) N st k
theorem z15L0_step (N : Nat) (x2 : List τ1) (c38 : Int) (κ5_0 : τ7) (κ5_1 : List τ6) (κ5_2 : τ12) (κ5_3 : List τ11) (κ5_4 : τ13) (κ6_0 : Str) (κ6_1 : Str) (κ6_2 : List τ3) (κ9_0 : Str) (κ9_1 : List τ1) (cw102600 : List Str) (KX : Nat → St → Option Bool) (I : St → Option Bool) (s3 : List τ1) (s39 : Int) :
   execL (z15LP N) (z15E N) z15c0 0 (z15L0_hd x2 c38 κ5_0 κ5_1 κ5_2 κ5_3 κ5_4 κ6_0 κ6_1 κ6_2 κ9_0 κ9_1 cw102600 s3 s39) (roundK (z15h 0) I KX (z15R N)) = z15L0T N x2 c38 κ5_0 cw102600 (fun o0_3 => KX 0 (z15L0_tl0 x2 c38 κ5_0 κ5_1 κ5_2 κ5_3 κ5_4 κ6_0 κ6_1 κ6_2 κ9_0 κ9_1 cw102600 o0_3)) (fun s3 s39 => I (z15L0_hd x2 c38 κ5_0 κ5_1 κ5_2 κ5_3 κ5_4 κ6_0 κ6_1 κ6_2 κ9_0 κ9_1 cw102600 s3 s39)) s3 s39 := by kernel_rfl
theorem z15L0_ok (N : Nat) : ∀ x y k, (∀ st, k .ret st = (z15R N) st) → iter (z15h 0) (exec (z15E N) N z15c0 0) N ⟨119, unF z15L0_fs x, unH z15L0_bs y⟩ k = z15L0_F N x y k := fun x y k hk =>
 iter_link (S := (List τ1) × (Int) × Unit) (z15h 0) _ (execL (z15LP N) (z15E N) z15c0 0) (z15R N) (fun st k hk => execL_eq _ _ N _ z15c0 0 (show LoopsOk (z15LP N) (z15E N) N (z15R N) [] from trivial) st k hk) (fun s => z15L0_hd x.1 x.2.2.2.2.2.2.1 y.1.1 y.1.2.1 y.1.2.2.1 y.1.2.2.2.1 y.1.2.2.2.2.1 y.2.1.1 y.2.1.2.1 y.2.1.2.2.1 y.2.2.1.1 y.2.2.1.2.1 y.2.2.2.1 s.1 s.2.1) k hk
   (fun self s => z15L0T N x.1 x.2.2.2.2.2.2.1 y.1.1 y.2.2.2.1 (fun o0_3 => k (.exit 0) (z15L0_tl0 x.1 x.2.2.2.2.2.2.1 y.1.1 y.1.2.1 y.1.2.2.1 y.1.2.2.2.1 y.1.2.2.2.2.1 y.2.1.1 y.2.1.2.1 y.2.1.2.2.1 y.2.2.1.1 y.2.2.1.2.1 y.2.2.2.1 o0_3)) (fun s3 s39 => self (s3, s39, ())) s.1 s.2.1) (fun n s => z15L0 N x.1 x.2.2.2.2.2.2.1 y.1.1 y.2.2.2.1 (fun o0_3 => k (.exit 0) (z15L0_tl0 x.1 x.2.2.2.2.2.2.1 y.1.1 y.1.2.1 y.1.2.2.1 y.1.2.2.2.1 y.1.2.2.2.2.1 y.2.1.1 y.2.1.2.1 y.2.1.2.2.1 y.2.2.1.1 y.2.2.1.2.1 y.2.2.2.1 o0_3)) n s.1 s.2.1) (fun _ => rfl) (fun _ _ => rfl)
   (fun I s => z15L0_step N x.1 x.2.2.2.2.2.2.1 y.1.1 y.1.2.1 y.1.2.2.1 y.1.2.2.2.1 y.1.2.2.2.2.1 y.2.1.1 y.2.1.2.1 y.2.1.2.2.1 y.2.2.1.1 y.2.2.1.2.1 y.2.2.2.1 (fun j => k (.exit j)) I s.1 s.2.1) N (x.2.1, x.2.2.2.2.2.2.2.1, ())
theorem z15lp0 (N : Nat) : ∀ st k, (∀ st, k .ret st = (z15R N) st) → z15LP N 0 z15c0 st k = iter (Env.hint (z15E N) 0) (exec (z15E N) N z15c0 0) N st k := fun st k hk => LPc_eq 119 z15L0_fs z15L0_bs _ _ (z15R N) (z15L0_ok N) _ st k hk (rfl)
theorem z15core (N : Nat) (x : SV [.v τ4, .v τ10, .v τ0, .v τ0, .v τ15]) (y : BV []) : runL (z15E N) Tryz.f7 (z15g N) z15pk (z15LP N) x y = law3_ConfigDependsIsEnough N x.1 x.2.1 x.2.2.1 x.2.2.2.1 x.2.2.2.2.1 := by kernel_rfl
theorem z15sound (N : Nat) : Snd 7 (z15g N) :=
 sndL (z15fn_ok N) Tryz.func7 rfl Tryz.call7 (z15g N) z15pk (fun _ _ => rfl) N (z15LP N) (show LoopsOk (z15LP N) (z15E N) N (z15R N) [(0, z15c0)] from ⟨z15lp0 N, trivial⟩) (z15core N)
end
end Go.Proofs.YtbekhaioddmliaaGreatDoor


/- The arguments of a law, as the statement's reading hands them over, as data of the machine: any type. -/
namespace Go.Proofs.YtbekhaioddmliaaGreatDoor
set_option linter.unusedVariables false
set_option linter.unusedSimpArgs false
open Go Go.RowKit Go.ChangeShapes Go.WideShapes
def FitG (RR : (i : RC) → i.den → Prop) : (t : Ty) → t.den → Prop
 | .u8, _ => True
 | .int k, x => (Lit.int k x).wf = true
 | .bool, _ => True
 | .str, x => x.length ≤ maxLen
 | .sl t, xs => xs.length ≤ maxLen ∧ ∀ x ∈ xs, FitG RR t x
 | .pr a b, x => FitG RR a x.1 ∧ FitG RR b x.2
 | .un, _ => True
 | .mp _, _ => True
 | .ptr _, _ => True
 | .np _, _ => True
 | .clo _ _, _ => True
 | .rc i, x => RR i x
def FitR (i : RC) (x : i.den) : Prop := ∀ RR : (i : RC) → i.den → Prop, (∀ j y, FitG RR j.body (j.un y) → RR j y) → RR i x
def Fit : (t : Ty) → t.den → Prop := FitG FitR
theorem FitG.mono {RR RR' : (i : RC) → i.den → Prop} (hR : ∀ i x, RR i x → RR' i x) : ∀ (t : Ty) (x : t.den), FitG RR t x → FitG RR' t x
 | .u8, _, h => h
 | .int _, _, h => h
 | .bool, _, h => h
 | .str, _, h => h
 | .sl t, _, h => ⟨h.1, fun x hx => FitG.mono hR t x (h.2 x hx)⟩
 | .pr a b, _, h => ⟨FitG.mono hR a _ h.1, FitG.mono hR b _ h.2⟩
 | .un, _, h => h
 | .mp _, _, h => h
 | .ptr _, _, h => h
 | .np _, _, h => h
 | .clo _ _, _, h => h
 | .rc i, x, h => hR i x h
theorem FitR.intro {i : RC} {x : i.den} (h : Fit i.body (i.un x)) : FitR i x :=
 fun RR hc => hc i x (FitG.mono (fun j y hy => hy RR hc) _ _ h)
theorem FitR.elim {i : RC} {x : i.den} (h : FitR i x) : Fit i.body (i.un x) :=
 h (fun j y => Fit j.body (j.un y)) fun _ _ hy => FitG.mono (fun _ _ h => FitR.intro h) _ _ hy
mutual
inductive Deep (P : Program) (R : RC → Option TypeId) : Ty → TypeId → Prop where
 | u8 {T : TypeId} : P.underlying T = some (.int .u8) → Deep P R .u8 T
 | int {T : TypeId} {k : IntKind} : P.underlying T = some (.int k) → Deep P R (.int k) T
 | bool {T : TypeId} : P.underlying T = some .bool → Deep P R .bool T
 | str {T : TypeId} : P.underlying T = some .string → Deep P R .str T
 | sl {T e : TypeId} {t : Ty} : P.underlying T = some (.slice e) → P.cellsOf e = t.sz → Deep P R t e → Deep P R (.sl t) T
 | st {T : TypeId} {t : Ty} {fs : Array Field} : P.underlying T = some (.struct fs) → P.cellsOf T = t.sz → t.isAgg = true → DeepF P R t fs.toList 0 → Deep P R t T
 | rc {T : TypeId} {i : RC} : R i = some T → Deep P R (.rc i) T
inductive DeepF (P : Program) (R : RC → Option TypeId) : Ty → List Field → Nat → Prop where
 | nil {o : Nat} : DeepF P R .un [] o
 | one {t : Ty} {f : Field} {o : Nat} : f.offset = o → P.cellsOf f.type = t.sz → Deep P R t f.type → DeepF P R t [f] o
 | single {t : Ty} {f : Field} {o : Nat} : f.offset = o → P.cellsOf f.type = t.sz → Deep P R t f.type → DeepF P R (.pr t .un) [f] o
 | cons {a b : Ty} {f : Field} {fs : List Field} {o : Nat} : f.offset = o → P.cellsOf f.type = a.sz → Deep P R a f.type → DeepF P R b fs (o + a.sz) → DeepF P R (.pr a b) (f :: fs) o
end
def RcOk (P : Program) (R : RC → Option TypeId) : Prop := ∀ i T, R i = some T → ∃ fs, P.underlying T = some (.struct fs) ∧ P.cellsOf T = i.sz ∧ DeepF P R i.body fs.toList 0
abbrev M00 : Nat → Nat → Prop := fun _ _ => False
section
variable {H : Type} {enc : TypeId × Value → H} {P : Program} {w : World} {spare : Nat → Bool} {held : Bool} {R : RC → Option TypeId}
theorem choose_list {α : Type} {p : Nat → α → Prop} : ∀ n, (∀ i, i < n → ∃ x, p i x) → ∃ l : List α, l.length = n ∧ ∀ i (h : i < l.length), p i l[i]
 | 0, _ => ⟨[], rfl, fun i h => absurd h (Nat.not_lt_zero _)⟩
 | n + 1, h => by
   obtain ⟨l, hl, hp⟩ := choose_list n fun i hi => h i (Nat.lt_succ_of_lt hi)
   obtain ⟨x, hx⟩ := h n (Nat.lt_succ_self _)
   refine ⟨l ++ [x], by simp [hl], fun i hi => ?_⟩
   rcases Nat.lt_or_ge i l.length with h' | h'
   · rw [List.getElem_append_left h']; exact hp i h'
   · have : i = l.length := by simp at hi; omega
     subst this
     simp [hl, hx]
theorem pl_of_cells {a : Addr} {n : Nat} {cs : List Value} (h : w.cells? 0 a n = some cs) : Pl M00 w a cs := by
 intro j u hu
 refine ⟨?_, id⟩
 unfold World.cells? at h
 rw [if_pos (Nat.zero_le _)] at h
 have hl := mapM_some_length h
 have hj : j < n := by
   rcases Nat.lt_or_ge j cs.length with h' | h'
   · rw [hl, List.length_range] at h'; exact h'
   · rw [List.getElem?_eq_none h'] at hu; cases hu
 have := mapM_some_get h j j (by rw [List.getElem?_range hj])
 rw [this]; exact hu
theorem fields_rep {fuel : Nat} {cs : List Value}
   (ih : ∀ (t : Ty) (T : TypeId) (cs : List Value) (x : DataW H × List MemPlace), Deep P R t T → DataW.trod enc P w 0 spare held fuel T cs = some x → ∃ d : t.den, RepC M00 w t d cs ∧ Fit t d) :
   ∀ (fs : List Field) (t : Ty) (o : Nat) (xs : List (DataW H × List MemPlace)), DeepF P R t fs o →
     (fs.mapM fun f => DataW.trod enc P w 0 spare held fuel f.type ((cs.drop f.offset).take (P.cellsOf f.type))) = some xs → ∃ d : t.den, RepC M00 w t d ((cs.drop o).take t.sz) ∧ Fit t d := by
 intro fs
 induction fs with
 | nil =>
   intro t o xs hd _
   cases hd
   exact ⟨(), List.take_zero, trivial⟩
 | cons f fs hfs =>
   intro t o xs hd hm
   have hhead : ∃ y, DataW.trod enc P w 0 spare held fuel f.type ((cs.drop f.offset).take (P.cellsOf f.type)) = some y := by
     have := mapM_some_get hm 0 f rfl
     cases hx : xs[0]? with
     | none =>
       have hl := mapM_some_length hm
       rw [List.getElem?_eq_none_iff] at hx
       simp at hl; omega
     | some y => exact ⟨y, this.trans hx⟩
   have htail : ∃ ys, (fs.mapM fun f => DataW.trod enc P w 0 spare held fuel f.type ((cs.drop f.offset).take (P.cellsOf f.type))) = some ys := by
     rw [List.mapM_cons] at hm
     obtain ⟨y, hy⟩ := hhead
     rw [hy] at hm
     cases hys : (fs.mapM fun f => DataW.trod enc P w 0 spare held fuel f.type ((cs.drop f.offset).take (P.cellsOf f.type))) with
     | none => rw [hys] at hm; cases hm
     | some ys => exact ⟨ys, rfl⟩
   obtain ⟨y, hy⟩ := hhead
   obtain ⟨ys, hys⟩ := htail
   cases hd with
   | one ho hc h1 =>
     rw [ho, hc] at hy
     exact ih _ _ _ _ h1 hy
   | single ho hc h1 =>
     rw [ho, hc] at hy
     obtain ⟨d, hd1, hd2⟩ := ih _ _ _ _ h1 hy
     exact ⟨(d, ()), ⟨_, [], (List.append_nil _).symm, hd1, rfl⟩, hd2, trivial⟩
   | @cons a b _ _ _ ho hc h1 h2 =>
     rw [ho, hc] at hy
     obtain ⟨d, hd1, hd2⟩ := ih _ _ _ _ h1 hy
     obtain ⟨e, he1, he2⟩ := hfs _ _ _ h2 hys
     refine ⟨(d, e), ⟨_, _, ?_, hd1, he1⟩, hd2, he2⟩
     show (cs.drop o).take (a.sz + b.sz) = _
     rw [List.take_add, List.drop_drop]
theorem trod_rep (hR : RcOk P R) : ∀ (fuel : Nat) (t : Ty) (T : TypeId) (cs : List Value) (x : DataW H × List MemPlace), Deep P R t T → DataW.trod enc P w 0 spare held fuel T cs = some x →
   ∃ d : t.den, RepC M00 w t d cs ∧ Fit t d := by
 intro fuel
 induction fuel with
 | zero => intro t T cs x _ h; cases h
 | succ fuel ih =>
   intro t T cs x hd h
   have hstruct : ∀ (t : Ty) (fs : Array Field), P.underlying T = some (.struct fs) → P.cellsOf T = t.sz → DeepF P R t fs.toList 0 → ∃ d : t.den, RepC M00 w t d cs ∧ Fit t d := fun t fs hu hc hf => by
     unfold DataW.trod at h
     simp only [hu] at h
     split at h
     · rename_i hl
       cases hm : (fs.toList.mapM fun f => DataW.trod enc P w 0 spare held fuel f.type ((cs.drop f.offset).take (P.cellsOf f.type))) with
       | none => rw [hm] at h; cases h
       | some xs =>
         obtain ⟨d, h1, h2⟩ := fields_rep ih fs.toList t 0 xs hf hm
         rw [List.drop_zero, List.take_of_length_le (by omega)] at h1
         exact ⟨d, h1, h2⟩
     · cases h
   cases hd with
   | u8 hu =>
     have hx : ∃ n, cs = [.int .u8 n] ∧ (Lit.int .u8 n).wf = true := by
       unfold DataW.trod at h
       split at h <;> simp_all
     obtain ⟨n, rfl, hn⟩ := hx
     refine ⟨UInt8.ofNat n.toNat, ?_, trivial⟩
     show [Value.int .u8 n] = [Value.int .u8 (UInt8.ofNat n.toNat).toNat]
     simp [Lit.wf, IntKind.min, IntKind.max, IntKind.signed, IntKind.bits] at hn
     have : ((UInt8.ofNat n.toNat).toNat : Int) = n := by simp; omega
     rw [this]
   | @int _ k hu =>
     have hx : ∃ n, cs = [.int k n] ∧ (Lit.int k n).wf = true := by
       unfold DataW.trod at h
       split at h <;> simp_all
     obtain ⟨n, rfl, hn⟩ := hx
     exact ⟨n, rfl, hn⟩
   | bool hu =>
     have hx : ∃ b, cs = [.bool b] := by
       unfold DataW.trod at h
       split at h <;> simp_all
     obtain ⟨b, rfl⟩ := hx
     exact ⟨b, rfl, trivial⟩
   | str hu =>
     have hx : ∃ s : ByteArray, cs = [.string s] ∧ s.size ≤ maxLen := by
       unfold DataW.trod at h
       split at h <;> simp_all
     obtain ⟨s, rfl, hn⟩ := hx
     refine ⟨s.data.toList, ?_, ?_⟩
     · show [Value.string s] = [Value.string ⟨s.data.toList.toArray⟩]
       simp
     · show s.data.toList.length ≤ maxLen
       simpa using hn
   | @sl _ e t hu hc he =>
     have hx : cs = [.slice none 0 0] ∨ ∃ a len cap, cs = [.slice (some a) len cap] ∧ len ≤ cap ∧ cap ≤ maxLen ∧
         ∀ i, i < len → ∃ y, (w.cells? 0 (a.add (i * P.cellsOf e)) (P.cellsOf e)).bind (DataW.trod enc P w 0 spare held fuel e) = some y := by
       unfold DataW.trod at h
       split at h
       all_goals try (simp_all; done)
       · rename_i hu2
         rw [hu] at hu2
         cases hu2
         simp only at h
         split at h
         · rename_i hb
           right
           refine ⟨_, _, _, rfl, hb.2.1, hb.2.2, fun i hi => ?_⟩
           cases hm : ((List.range _).mapM fun i => (w.cells? 0 (Addr.add _ (i * P.cellsOf e)) (P.cellsOf e)).bind (DataW.trod enc P w 0 spare held fuel e)) with
           | none => rw [hm] at h; cases h
           | some ys =>
             have h1 := mapM_some_get hm i i (by rw [List.getElem?_range hi])
             have hl := mapM_some_length hm
             rw [List.length_range] at hl
             exact ⟨ys[i]'(by omega), h1.trans (List.getElem?_eq_getElem (by omega))⟩
         · cases h
     rcases hx with rfl | ⟨a, len, cap, rfl, h1, h2, h3⟩
     · exact ⟨[], ⟨none, 0, rfl, Nat.le_refl _, Nat.zero_le _, fun i h => absurd h (Nat.not_lt_zero _)⟩, Nat.zero_le _, fun x h => by cases h⟩
     · have hall : ∀ i, i < len → ∃ d : t.den, (∃ es, RepC M00 w t d es ∧ Pl M00 w (a.add (i * t.sz)) es) ∧ Fit t d := fun i hi => by
         obtain ⟨y, hy⟩ := h3 i hi
         rw [hc] at hy
         cases hcs : w.cells? 0 (a.add (i * t.sz)) t.sz with
         | none => rw [hcs] at hy; cases hy
         | some es =>
           rw [hcs] at hy
           obtain ⟨d, hd1, hd2⟩ := ih _ _ _ _ he hy
           exact ⟨d, ⟨es, hd1, pl_of_cells hcs⟩, hd2⟩
       obtain ⟨l, hl, hp⟩ := choose_list len hall
       refine ⟨l, ⟨some a, cap, ?_, by omega, h2, fun i hi => ?_⟩, ?_, fun x hx => ?_⟩
       · rw [hl]
       · obtain ⟨⟨es, e1, e2⟩, _⟩ := hp i hi
         exact ⟨a, es, rfl, e1, e2⟩
       · show l.length ≤ maxLen; omega
       · obtain ⟨i, hi, rfl⟩ := List.getElem_of_mem hx
         exact (hp i hi).2
   | st hu hc ha hf => exact hstruct t _ hu hc hf
   | rc hr =>
     obtain ⟨fs, hu, hc, hf⟩ := hR _ _ hr
     rename_i i
     obtain ⟨d, h1, h2⟩ := hstruct i.body fs hu (by rw [hc, RC.sz_body]) hf
     refine ⟨i.mk d, RepC.rc.2 (by rw [RC.un_mk]; exact h1), FitR.intro (by rw [RC.un_mk]; exact h2)⟩
theorem arg_open (hR : RcOk P R) {r : Reach} {base : Nat} {t : Ty} {T : TypeId} {v : Value} {d : DataW H} {p : List MemPlace} (hd : Deep P R t T) (hv : Value.okWide P w r base T v) (h : DataW.Trod enc P w 0 spare held T v d p) :
   ∃ x : t.den, RepV M00 w t x v ∧ Fit t x := by
 obtain ⟨fuel, hf⟩ := h
 obtain ⟨x, h1, h2⟩ := trod_rep hR fuel t T _ _ hd hf
 refine ⟨x, ⟨_, h1, ?_⟩, h2⟩
 have hagg : ∀ fs, P.underlying T = some (.struct fs) → t.isAgg = true → v = mkV t v.cells.toList := fun fs hu ha => by
   obtain ⟨cs, rfl, _⟩ := okWide_struct hu hv
   rw [mkV_agg ha]
   simp [Value.cells]
 have hone : ∀ c : Value, v = c → c.cells = #[c] → t.isAgg = false → v = mkV t v.cells.toList := fun c e hc ha => by
   subst e
   rw [hc, mkV_plain ha]
 cases hd with
 | u8 hu => obtain ⟨n, rfl⟩ := okWide_int hu hv; exact hone _ rfl rfl rfl
 | int hu => obtain ⟨n, rfl⟩ := okWide_int hu hv; exact hone _ rfl rfl rfl
 | bool hu => obtain ⟨n, rfl⟩ := okWide_bool hu hv; exact hone _ rfl rfl rfl
 | str hu => obtain ⟨n, rfl⟩ := okWide_string hu hv; exact hone _ rfl rfl rfl
 | sl hu _ _ => obtain ⟨a, l, c, rfl⟩ := okWide_slice hu hv; exact hone _ rfl rfl rfl
 | st hu _ ha _ => exact hagg _ hu ha
 | rc hr => obtain ⟨fs, hu, _⟩ := hR _ _ hr; exact hagg _ hu rfl
end
theorem law_run {P : Program} {f : FuncId} {ps : List Sl} {F : SV ps → BV [] → Option Bool} {out : Bool → SV [.v .bool] × BV []} (hout : ∀ z, (out z).1 = (z, ())) (hs : Sound P GW B0G f ⟨ps, [], [.v .bool], [], Bool, out, F⟩)
   {W : World} {vs : List Value} {x : SV ps} (hg : GW W) (ha : All2 (RepD0 M00 W g0) (lays id ps x) vs) (hf : F x () = some true) : Calls P f vs.toArray W fun e W' => e = .returned (.bool true) ∧ Ext W W' := by
 refine (hs.2 M00 W g0 vs x () true hg (GW_size hg) { args := ha, res := fun r blk h => (by cases h), dom := fun r gx h => (by cases h), inj := fun _ _ _ _ _ h => (by cases h), low := fun _ _ _ h => (by cases h), chg := fun _ _ _ _ h => (by cases h), mlt := fun b o h => h.elim, row := fun _ _ _ h => (by cases h) } hf).mono fun e W' hp => ?_
 obtain ⟨vs', g', he, hE, _, hF, _⟩ := hp
 refine ⟨?_, hE.ext fun b hb => ?_⟩
 · have := hF.args
   rw [hout] at this
   match vs', this with
   | [v], ⟨h1, _⟩ =>
     have h2 := RepV.plain (t := .bool) rfl h1
     have h3 : [v] = [.bool true] := h2
     injection h3 with h3
     rw [he, h3]
     rfl
 · obtain ⟨r, x, h, _⟩ := hb
   cases h
end Go.Proofs.YtbekhaioddmliaaGreatDoor


/- What the checks of settings and configurations compute. No program in sight. -/
namespace Go.Proofs.YtbekhaioddmliaaGreatDoor
set_option linter.unusedVariables false
set_option linter.unusedSimpArgs false
open Go Go.RowKit
variable {N : Nat}
def wordB (b : UInt8) : Bool := [97, 98, 99, 100, 101, 102, 103, 104, 105, 106, 107, 108, 109, 110, 111, 112, 113, 114, 115, 116, 117, 118, 119, 120, 121, 122, 48, 49, 50, 51, 52, 53, 54, 55, 56, 57, 95, 45].contains b
def isWordS (s : Str) : Bool := match s with
 | [] => false
 | b :: _ => decide (s.length ≤ 40) && decide (97 ≤ b.toNat) && decide (b.toNat ≤ 122) && s.all wordB
theorem dropWhile_nil {α : Type} {p : α → Bool} : ∀ {l : List α}, l.dropWhile p = [] ↔ l.all p = true
 | [] => by simp
 | x :: l => by
   cases h : p x with
   | true => rw [List.dropWhile_cons_of_pos h]; simp [dropWhile_nil, h]
   | false => rw [List.dropWhile_cons_of_neg (by simp [h])]; simp [h]
theorem all_reverse {α : Type} (p : α → Bool) (l : List α) : l.reverse.all p = l.all p := by simp
theorem all_dropWhile {α : Type} (p : α → Bool) : ∀ l : List α, (l.dropWhile p).all p = l.all p
 | [] => rfl
 | x :: l => by
   cases h : p x with
   | true => rw [List.dropWhile_cons_of_pos h]; simp [all_dropWhile p l, h]
   | false => rw [List.dropWhile_cons_of_neg (by simp [h])]
theorem trimS_nil (s cs : Str) : (Lib.trimS s cs == []) = s.all (cs.contains ·) := by
 have h : Lib.trimS s cs = [] ↔ s.all (cs.contains ·) = true := by
   unfold Lib.trimS Lib.trimLeftS Lib.trimRightS
   rw [dropWhile_nil, all_reverse, all_dropWhile, all_reverse]
 cases hb : s.all (cs.contains ·) with
 | true => rw [h.2 hb]; rfl
 | false =>
   cases ht : Lib.trimS s cs with
   | nil => rw [h.1 ht] at hb; cases hb
   | cons => rfl
theorem config_IsWord_eq (x : Str) : config_IsWord N x = some (isWordS x) := by
 cases x with
 | nil => simp [config_IsWord, isWordS]
 | cons b x =>
   unfold config_IsWord isWordS
   simp only [geti_zero, List.getElem?_cons_zero, bnd_some]
   rw [show decide (((b :: x).length : Int) < 1) = false from decide_eq_false (by simp; omega), br_false, v8_lt, v8_gt,
     not_dec (p := b.toNat < UInt8.toNat 97) (q := 97 ≤ b.toNat) (by show b.toNat < 97 ↔ _; omega), not_dec (p := UInt8.toNat 122 < b.toNat) (q := b.toNat ≤ 122) (by show 122 < b.toNat ↔ _; omega)]
   by_cases h40 : (b :: x).length ≤ 40
   · have e5 : ∀ cs : Str, cs.length < 1000000 → cs.all (fun c => decide (c.toNat < 128)) = true → strings_Trim (b :: x) cs = some (Lib.trimS (b :: x) cs) := fun cs h1 h2 => if_pos ⟨by omega, h1, h2⟩
     rw [decide_eq_false (show ¬ ((b :: x).length : Int) > 40 by omega), br_false, e5 _ (by decide) (by decide), bnd_some, trimS_nil, decide_eq_true h40]
     show br (!decide (97 ≤ b.toNat)) (some false) (br (!decide (b.toNat ≤ 122)) (some false) (some ((b :: x).all wordB))) = some (true && decide (97 ≤ b.toNat) && decide (b.toNat ≤ 122) && (b :: x).all wordB)
     generalize (b :: x).all wordB = q
     cases decide (97 ≤ b.toNat) <;> cases decide (b.toNat ≤ 122) <;> simp
   · rw [decide_eq_true (show ((b :: x).length : Int) > 40 by omega), br_true, decide_eq_false h40]; rfl
theorem slices_Index_eq (hN : big ≤ N) (xs : List Str) (hx : xs.length ≤ maxLen) (x : Str) : slices_Index_string_string N xs x = some (idxP (x == ·) xs) := by
 unfold slices_Index_string_string
 refine loop_for (fun _ _ => rfl) xs hx (fun self i h r hr => ?_) (fun self => ?_) hN
 · simp only [z19L0T, geti_lt xs h, wrap_succ hx h, hr, bnd_some]
   rw [lt_tt h, br_true, br_ite]
 · simp [z19L0T]
theorem slices_Contains_eq (hN : big ≤ N) (xs : List Str) (hx : xs.length ≤ maxLen) (x : Str) : slices_Contains_string_string N xs x = some (xs.any (x == ·)) := by
 unfold slices_Contains_string_string
 rw [slices_Index_eq hN xs hx, bnd_some, idxP_nonneg]
theorem find_1_eq (x : Str × List Str) (n : Str) : config_find_1 N x n = some (x.1 == n) := rfl
theorem IndexFunc_eq (hN : big ≤ N) (xs : τ7) (hx : xs.length ≤ maxLen) (n : Str) : slices_IndexFunc_api_Setting N xs (n, ()) = some (idxP (fun x => x.1 == n) xs) := by
 unfold slices_IndexFunc_api_Setting
 refine loop_for (fun _ _ => rfl) xs hx (fun self i h r hr => ?_) (fun self => ?_) hN
 · simp only [z13L0T, geti_lt xs h, wrap_succ hx h, hr, bnd_some, find_1_eq]
   rw [lt_tt h, br_true, br_ite]
 · simp only [z13L0T, lt_ff, br_false]
theorem find_eq (hN : big ≤ N) (xs : τ7) (hx : xs.length ≤ maxLen) (n : Str) : config_find N xs n = some (idxP (fun x => x.1 == n) xs) := by
 unfold config_find
 rw [IndexFunc_eq hN xs hx, bnd_some]
def prevS {α : Type} (l : List (Str × α)) (i : Nat) (n : Str) (r : Int) : Int := if i = 0 then r else match l[i - 1]? with | some y => if (Op.bytesLess n y.1 || n == y.1) then 8 else r | none => r
theorem prev_eq {α : Type} {l : List (Str × α)} (hx : l.length ≤ maxLen) {i : Nat} (h : i < l.length) {n : Str} {r : Int} :
   (br (decide ((i : Int) > 0)) (bnd (geti l (IntKind.i64.wrap ((i : Int) - 1))) fun y => br (Op.bytesLess n y.1 || n == y.1) (some 8) (some r)) (some r)) = some (prevS l i n r) := by
 unfold maxLen at hx
 unfold prevS
 cases i with
 | zero => simp
 | succ j =>
   rw [wrap_pred (by omega), show ((j + 1 : Nat) : Int) - 1 = (j : Int) by omega, geti_lt l (by omega), bnd_some, br_ite, decide_eq_true (show ((j + 1 : Nat) : Int) > 0 by omega), br_true, if_neg (Nat.succ_ne_zero j)]
   rw [show j + 1 - 1 = j from rfl, List.getElem?_eq_getElem (by omega)]
def valuesS (rest : Int) (l : List Str) : Int := forT (fun i w r => if !isWordS w then 5 else if (l.take i).any (w == ·) then 7 else r) rest l 0
def settingsB (l : τ7) (i : Nat) (x : Str × List Str) (r : Int) : Int :=
 if !isWordS x.1 then 5 else if x.2.length = 0 then 9 else if 20 < x.2.length then 2 else
   valuesS (prevS l i x.1 r) x.2
def settingsS (l : τ7) : Int := if 30 < l.length then 2 else forT (settingsB l) 0 l 0
theorem values_eq (hN : big ≤ N) (l : List Str) (hl : l.length ≤ maxLen) {k : Option Int} {r : Int} (hk : k = some r) :
   z34L1 N l (l.length : Int) l k N 0 = some (valuesS r l) := by
 refine loop_for (fun _ _ => rfl) l hl (fun self i h r' hr => ?_) (fun self => ?_) hN
 · have ht : (l.take i).length ≤ maxLen := by rw [List.length_take]; omega
   simp only [z34L1T, geti_lt l h, wrap_succ hl h, hr, bnd_some, config_IsWord_eq, slc_take l (Nat.le_of_lt h), slices_Contains_eq hN _ ht]
   rw [lt_tt h, br_true, br_ite, br_ite]
 · simp only [z34L1T, lt_ff, br_false, hk]
theorem settings_eq (hN : big ≤ N) (l : τ7) (hl : Fit τ8 l) : config_CheckSettings N l = some (settingsS l) := by
 unfold config_CheckSettings settingsS
 have hx : l.length ≤ maxLen := hl.1
 have hL : z34L0 N l l (l.length : Int) (some 0) N 0 = some (forT (settingsB l) 0 l 0) := by
   refine loop_for (fun _ _ => rfl) l hx (fun self i h r hr => ?_) (fun self => ?_) hN
   · have hv : l[i].2.length ≤ maxLen := (hl.2 _ (List.getElem_mem h)).2.1
     simp only [z34L0T, geti_lt l h, wrap_succ hx h, hr, bnd_some, config_IsWord_eq]
     rw [lt_tt h, br_true]
     rw [values_eq hN _ hv (prev_eq hx h)]
     unfold settingsB
     rw [show ((l[i].2.length : Int) == 0) = decide (l[i].2.length = 0) by show decide _ = decide _; exact decide_eq_decide.2 (by omega), (decide_eq_decide.2 (by omega) : decide ((l[i].2.length : Int) > 20) = decide (20 < l[i].2.length))]
     simp only [br_ite, decide_eq_true_eq]
   · simp only [z34L0T, lt_ff, br_false]
 rw [hL, (decide_eq_decide.2 (by omega) : decide ((l.length : Int) > 30) = decide (30 < l.length)), br_ite]
 simp only [decide_eq_true_eq]
theorem forT_keep {α : Type} {p : α → Prop} {body : Nat → α → Int → Int} (h : ∀ i x r, body i x r = 0 → p x ∧ r = 0) : ∀ (xs : List α) (j : Nat), forT body 0 xs j = 0 → ∀ x ∈ xs, p x
 | [], _, _, _, hx => by cases hx
 | y :: ys, j, h0, x, hx => by
   obtain ⟨h1, h2⟩ := h j y _ h0
   rcases List.mem_cons.1 hx with rfl | hx
   · exact h1
   · exact forT_keep h ys (j + 1) h2 x hx
theorem values_keep {r : Int} (l : List Str) (j : Nat) (l0 : List Str) : forT (fun i w r => if !isWordS w then 5 else if (l0.take i).any (w == ·) then 7 else r) r l j = 0 → r = 0 := by
 induction l generalizing j with
 | nil => exact id
 | cons w l ih =>
   intro h
   simp only [forT] at h
   split at h
   · cases h
   · split at h
     · cases h
     · exact ih _ h
theorem settings_some {l : List (Str × List Str)} (h : settingsS l = 0) : ∀ s ∈ l, s.2 ≠ [] := by
 unfold settingsS at h
 split at h
 · cases h
 · refine forT_keep (p := fun s => s.2 ≠ []) (fun i x r hb => ?_) l 0 h
   unfold settingsB at hb
   split at hb
   · cases hb
   · split at hb
     · cases hb
     · split at hb
       · cases hb
       · rename_i h1 h2 h3
         refine ⟨fun e => h2 (by rw [e]; rfl), ?_⟩
         have := values_keep _ _ _ hb
         unfold prevS at this
         split at this
         · exact this
         · split at this
           · split at this
             · cases this
             · exact this
           · exact this
def pairB (l : τ7) (c : List τ1) (strict : Bool) (i : Nat) (x : Str × Str) (r : Int) : Int :=
 match l.find? (fun s => s.1 == x.1) with
 | none => 5
 | some s => if !(s.2.any (x.2 == ·)) then 1 else if strict && s.2.head? == some x.2 then 3 else prevS c i x.1 r
def pairsS (l : τ7) (c : List τ1) (strict : Bool) : Int := forT (pairB l c strict) 0 c 0
theorem checkSet_eq (hN : big ≤ N) (l : τ7) (hl : Fit τ8 l) (c : List τ1) (hc : c.length ≤ maxLen) (hs : ∀ s ∈ l, s.2 ≠ []) (strict : Bool) : config_checkSet N l c strict = some (pairsS l c strict) := by
 unfold config_checkSet
 refine loop_for (fun _ _ => rfl) c hc (fun self i h r hr => ?_) (fun self => ?_) hN
 · simp only [z58L0T, geti_lt c h, wrap_succ hc h, hr, bnd_some, find_eq hN l hl.1]
   rw [lt_tt h, br_true]
   unfold pairB
   rcases idxP_cases (fun s : Str × List Str => s.1 == c[i].1) l with ⟨h1, h2⟩ | ⟨j, s, h1, h2, h3, h4⟩
   · rw [h2, h1]; simp
   · have hm := List.mem_of_getElem? h2
     rw [h4, h1, decide_eq_false (show ¬ ((j : Int) < 0) by omega), br_false, geti_nat, h2, bnd_some, slices_Contains_eq hN _ (hl.2 _ hm).2.1, bnd_some, prev_eq hc h]
     obtain ⟨a, t, ht⟩ : ∃ a t, s.2 = a :: t := by
       cases hq : s.2 with
       | nil => exact absurd hq (hs s hm)
       | cons a t => exact ⟨a, t, rfl⟩
     simp only [bnd_some, ht, geti_zero, List.getElem?_cons_zero, br_ite, List.head?_cons]
     have e : (some a == some c[i].2) = (c[i].2 == a) := by
       show (a == c[i].2) = _
       exact Bool.eq_iff_iff.2 ⟨fun h => by simpa using (eq_of_beq h).symm, fun h => by simpa using (eq_of_beq h).symm⟩
     rw [e]
     cases strict <;> simp
 · simp only [z58L0T, lt_ff, br_false]
abbrev settingTy : Ty := .sl (.pr .str τ24)
abbrev pairTy : Ty := .sl τ23
def configS (l : τ7) (c : List τ1) : Int := if settingsS l ≠ 0 then settingsS l else pairsS l c true
theorem ne_zero_dec (n : Int) : (n != 0) = decide (n ≠ 0) := by
 show (!decide (n = 0)) = decide (n ≠ 0)
 cases h : decide (n = 0) with
 | true => exact (decide_eq_false (fun h' => h' (of_decide_eq_true h))).symm
 | false => exact (decide_eq_true (of_decide_eq_false h)).symm
theorem checkConfig_eq (hN : big ≤ N) (l : τ7) (hl : Fit settingTy l) (c : List τ1) (hc : c.length ≤ maxLen) : config_CheckConfig N l c = some (configS l c) := by
 unfold config_CheckConfig configS
 rw [settings_eq hN l hl, bnd_some, ne_zero_dec]
 by_cases h : settingsS l = 0
 · rw [decide_eq_false (by simpa using h), br_false, if_neg (by simpa using h), checkSet_eq hN l hl c hc (settings_some h), bnd_some]
 · rw [decide_eq_true h, br_true, if_pos h]
def findF {α β : Type} (p : α → Bool) (f : α → β) (d : β) (xs : List α) : β := match xs.find? p with | some x => f x | none => d
theorem forT_find {α β : Type} (p : α → Bool) (f : α → β) (d : β) : ∀ (xs : List α) (j : Nat), forT (fun _ x r => if p x = true then f x else r) d xs j = findF p f d xs
 | [], _ => rfl
 | x :: xs, j => by
   show (if p x = true then f x else forT _ _ xs (j + 1)) = _
   rw [forT_find p f d xs (j + 1)]
   unfold findF
   rw [List.find?_cons]
   cases h : p x <;> simp
def valueS (l : τ7) (c : List τ1) (n : Str) : Str := findF (fun p => p.1 == n) (fun p => p.2) (findF (fun s => s.1 == n) (fun s => s.2.headD []) [] l) c
theorem pairOf_eq (hN : big ≤ N) (c : List τ1) (hx : c.length ≤ maxLen) (n : Str) : config_pairOf N c n = some (findF (fun s => s.1 == n) (fun s => (s.2, true)) ([], false) c) := by
 unfold config_pairOf
 rw [← forT_find (fun s : Str × Str => s.1 == n) (fun s => (s.2, true)) _ c 0]
 refine loop_for (fun _ _ => rfl) c hx (fun self i h r hr => ?_) (fun self => ?_) hN
 · simp only [z74L0T, geti_lt c h, wrap_succ hx h, hr, bnd_some]
   rw [lt_tt h, br_true, br_ite]
 · simp only [z74L0T, lt_ff, br_false]
theorem valueOf_eq (hN : big ≤ N) (l : τ7) (hl : Fit settingTy l) (c : List τ1) (hc : c.length ≤ maxLen) (hs : ∀ s ∈ l, s.2 ≠ []) (n : Str) (hn : (l.find? (fun s => s.1 == n)).isSome = true) : config_valueOf N l c n = some (valueS l c n) := by
 unfold config_valueOf valueS
 rw [pairOf_eq hN c hc, bnd_some]
 unfold findF
 cases hf : c.find? (fun s => s.1 == n) with
 | some p => simp
 | none =>
   rw [br_false, find_eq hN l hl.1, bnd_some]
   rcases idxP_cases (fun s : Str × List Str => s.1 == n) l with ⟨h1, h2⟩ | ⟨j, s, h1, h2, h3, h4⟩
   · rw [h1] at hn; cases hn
   · obtain ⟨a, t, ht⟩ : ∃ a t, s.2 = a :: t := by
       cases hq : s.2 with
       | nil => exact absurd hq (hs s (List.mem_of_getElem? h2))
       | cons a t => exact ⟨a, t, rfl⟩
     rw [h4, geti_nat, h2, bnd_some, h1]
     simp [ht, geti_zero]
def valueOfS (l : τ7) (c : List τ1) (n : Str) : Str × Int := if configS l c ≠ 0 then ([], configS l c) else if (l.find? (fun s => s.1 == n)).isSome then (valueS l c n, 0) else ([], 5)
theorem config_settings {l : List (Str × List Str)} {c : List τ1} (h : configS l c = 0) : settingsS l = 0 := by
 unfold configS at h
 split at h
 · rename_i h'; exact absurd h h'
 · rename_i h'; exact Classical.not_not.1 h'
theorem ValueOf_eq (hN : big ≤ N) (l : τ7) (hl : Fit settingTy l) (c : List τ1) (hc : c.length ≤ maxLen) (n : Str) : config_ValueOf N l c n = some (valueOfS l c n) := by
 unfold config_ValueOf valueOfS
 rw [checkConfig_eq hN l hl c hc, bnd_some, ne_zero_dec]
 by_cases h : configS l c = 0
 · rw [decide_eq_false (by simpa using h), br_false, if_neg (by simpa using h), find_eq hN l hl.1, bnd_some]
   cases hf : l.find? (fun s => s.1 == n) with
   | none =>
     rcases idxP_cases (fun s : Str × List Str => s.1 == n) l with ⟨h1, h2⟩ | ⟨j, s, h1, h2, h3, h4⟩
     · rw [h2]; simp
     · rw [hf] at h1; cases h1
   | some s0 =>
     rcases idxP_cases (fun s : Str × List Str => s.1 == n) l with ⟨h1, h2⟩ | ⟨j, s, h1, h2, h3, h4⟩
     · rw [hf] at h1; cases h1
     · rw [h4, valueOf_eq hN l hl c hc (settings_some (config_settings h)) n (by rw [hf]; rfl), decide_eq_false (show ¬ ((j : Int) < 0) by omega)]
       simp
 · rw [decide_eq_true h, br_true, if_pos h]
theorem awake_eq : law3_awake big = some true := by kernel_rfl
end Go.Proofs.YtbekhaioddmliaaGreatDoor

