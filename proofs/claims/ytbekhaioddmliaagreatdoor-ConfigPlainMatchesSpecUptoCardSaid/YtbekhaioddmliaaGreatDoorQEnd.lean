/- What functions of the program compute, as plain functions (printed). -/
import Derived.Test.YtbekhaioddmliaaGreatDoorQBmMk
import Derived.Test.YtbekhaioddmliaaGreatDoorQZeT
import Derived.ProofKit
import Derived.OpenShut
import Derived.ShutString
import Derived.DataReads
import Derived.ChangeShapes
import Derived.WideShapes
namespace Go.Proofs.YtbekhaioddmliaaGreatDoor
open Go Go.RowKit
set_option maxRecDepth 100000
set_option linter.unusedVariables false
noncomputable section
def z69L2T (_N : Nat) (c64 : List τ5) (c65 : Int) (k4 : (List τ23) → Option τ19) (self : Int → (List τ23) → Option τ19) (s66 : Int) (m1031_2 : List τ23) : Option τ19 :=
 br (decide (s66 < c65))
   (bnd (geti c64 s66) fun t68 =>
   self (IntKind.i64.wrap (s66 + (1 : Int))) (mset m1031_2 t68.1 true))
   (k4 m1031_2)
def z69L2 (N : Nat) (c64 : List τ5) (c65 : Int) (k4 : (List τ23) → Option τ19) : Nat → Int → (List τ23) → Option τ19
 | 0, _, _ => none
 | n + 1, s66, m1031_2 => z69L2T N c64 c65 k4 (z69L2 N c64 c65 k4 n) s66 m1031_2
def z69L1T (N : Nat) (c49 : List τ2) (c50 : Int) (κ2_1 : List τ1) (k2 : (List τ23) → Option τ19) (self : Int → (List τ23) → Option τ19) (s51 : Int) (m1031_1 : List τ23) : Option τ19 :=
 br (decide (s51 < c50))
   (bnd (geti c49 s51) fun t53 =>
   bnd (config_conditionOf N κ2_1 t53.1) fun t60 =>
   z69L2 N t60.1.2.1 (t60.1.2.1.length : Int) (fun o2_m1031 =>
       self (IntKind.i64.wrap (s51 + (1 : Int))) o2_m1031) N (0 : Int) m1031_1)
   (k2 m1031_1)
def z69L1 (N : Nat) (c49 : List τ2) (c50 : Int) (κ2_1 : List τ1) (k2 : (List τ23) → Option τ19) : Nat → Int → (List τ23) → Option τ19
 | 0, _, _ => none
 | n + 1, s51, m1031_1 => z69L1T N c49 c50 κ2_1 k2 (z69L1 N c49 c50 κ2_1 k2 n) s51 m1031_1
def z69L0T (N : Nat) (c33 : List τ2) (c34 : Int) (κ2_1 : List τ1) (k0 : (List τ23) → Option τ19) (self : Int → (List τ23) → Option τ19) (s35 : Int) (m1031 : List τ23) : Option τ19 :=
 br (decide (s35 < c34))
   (bnd (geti c33 s35) fun t37 =>
   bnd (config_checkNamed N κ2_1 (GValue.mk t37.2.kind t37.2.text t37.2.number t37.2.list t37.2.cases)) fun t43 =>
   br (t43 != (0 : Int))
     (some (t43, ([] : List Str)))
     (z69L1 N t37.2.cases (t37.2.cases.length : Int) κ2_1 (fun o1_m1031 =>
         self (IntKind.i64.wrap (s35 + (1 : Int))) o1_m1031) N (0 : Int) m1031))
   (k0 m1031)
def z69L0 (N : Nat) (c33 : List τ2) (c34 : Int) (κ2_1 : List τ1) (k0 : (List τ23) → Option τ19) : Nat → Int → (List τ23) → Option τ19
 | 0, _, _ => none
 | n + 1, s35, m1031 => z69L0T N c33 c34 κ2_1 k0 (z69L0 N c33 c34 κ2_1 k0 n) s35 m1031
def config_Depends (N : Nat) (x0 : τ18) (x1 : Str × Str × List τ2) : Option τ19 :=
 bnd (config_CheckConditions N x0.1 x0.2.1) fun t22 =>
 br (t22 != (0 : Int))
   (some (t22, ([] : List Str)))
   (bnd (script_CheckTarget N x1) fun t27 =>
   br (t27 != (0 : Int))
     (some (t27, ([] : List Str)))
     (z69L0 N x1.2.2 (x1.2.2.length : Int) x0.2.1 (fun o0_m1031 =>
         bnd (maps_Keys_bool o0_m1031) fun t77 =>
         bnd (slices_Sorted_keys t77) fun t78 =>
         some ((0 : Int), t78.2)) N (0 : Int) ([] : List τ23)))
abbrev z69sg (f : SV [.v τ4, .v τ13] → BV [] → Option τ19) : AF := { ps := [.v τ4, .v τ13], bs := [], rs := [.row 0, .v τ6], cs := [.row 9 .str false], R := Int × List Str, out := fun z => (((), z.1, ()), (z.2, ())), f := f }
noncomputable abbrev z69g (N : Nat) : AF := z69sg fun x _ => config_Depends N x.1 x.2.1
abbrev z69pk : SV [.row 0, .v τ6] → BV [.row 9 .str false] → τ19 := fun x y => (x.2.1, y.1)
def z69fn (N : Nat) : FuncId → Option Tmp → Option AF := fun f _ =>
 match f with
   | 61 => some (z44g N)
   | 64 => some (z25g N)
   | 65 => some (z48g N)
   | 66 => some (z42g N)
   | 67 => some (z45sg fun _ y => slices_Sorted_keys y.2.1)
   | 68 => some (z71sg fun _ y => maps_Keys_bool y.1)
   | _ => none
theorem z69fn_ok (N : Nat) : FnOk (z69fn N) := by
 intro f q F h
 unfold z69fn at h
 split at h
 · cases h; exact z44sound N
 · cases h; exact z25sound N
 · cases h; exact z48sound N
 · cases h; exact z42sound N
 · cases h; exact z45sound
 · cases h; exact z71sound
 · cases h
def z69h : Nat → Hint := fun i =>
 match i with
 | 0 => ⟨[], [2, 8, 33, 34, 35], [1002, 1031], [8], [1031], []⟩
 | 2 => ⟨[], [2, 8, 33, 34, 35, 49, 50, 51], [1002, 1031], [2, 8, 33, 34, 35], [1002, 1031], []⟩
 | 4 => ⟨[], [2, 8, 33, 34, 35, 49, 50, 51, 64, 65, 66], [1002, 1031], [2, 8, 33, 34, 35, 49, 50, 51], [1002, 1031], []⟩
 | _ => hint0
abbrev z69E (N : Nat) : Env := mkE z69h (z69fn N) FF FF
noncomputable abbrev z69c2 : Code := cAt (bodyOf Tryz.f25) [true, true, true, true, false, true, false, false]
noncomputable abbrev z69c1 : Code := cAt (bodyOf Tryz.f25) [true, true, true, true, false, true, false, false, true, true, false, false, true, true, true, false, false]
noncomputable abbrev z69c0 : Code := cAt (bodyOf Tryz.f25) [true, true, true, true, false, true, false, false, true, true, false, false, true, true, true, false, false, true, true, false, false, true, true, true, false, false]
noncomputable abbrev z69R (N : Nat) := resD (z69E N) Tryz.f25 (z69g N) z69pk
abbrev z69L2_fs : List (Nat × Sl) := [(2, .box 1002 0), (8, .mref 1031), (33, .v (.sl τ3)), (34, .v τ6), (35, .v τ6), (49, .v (.sl τ3)), (50, .v τ6), (51, .v τ6), (64, .v τ0), (65, .v τ6), (66, .v τ6)]
abbrev z69L2_bs : List (Nat × Sb) := [(1002, .cells [.v τ9, .v (.sl τ8), .v τ28, .v τ25, .v τ20]), (1031, .map .bool)]
def z69L2_hd (c33 : List τ2) (c34 : Int) (s35 : Int) (c49 : List τ2) (c50 : Int) (s51 : Int) (c64 : List τ5) (c65 : Int) (κ2_0 : τ7) (κ2_1 : List τ1) (κ2_2 : τ11) (κ2_3 : List τ10) (κ2_4 : τ12) (s66 : Int) (m1031_2 : List τ23) : St := ⟨79, [(2, .box 1002 0), (8, .mref 1031), (33, .v (.sl τ3) c33), (34, .v τ6 c34), (35, .v τ6 s35), (49, .v (.sl τ3) c49), (50, .v τ6 c50), (51, .v τ6 s51), (64, .v τ0 c64), (65, .v τ6 c65), (66, .v τ6 s66)], [(1002, .cells [.v τ9 κ2_0, .v (.sl τ8) κ2_1, .v τ28 κ2_2, .v τ25 κ2_3, .v τ20 κ2_4]), (1031, .map .bool m1031_2)]⟩
def z69L2_tl4 (c33 : List τ2) (c34 : Int) (s35 : Int) (c49 : List τ2) (c50 : Int) (s51 : Int) (_c64 : List τ5) (_c65 : Int) (κ2_0 : τ7) (κ2_1 : List τ1) (κ2_2 : τ11) (κ2_3 : List τ10) (κ2_4 : τ12) (o2_m1031 : List τ23) : St := ⟨79, [(2, .box 1002 0), (8, .mref 1031), (33, .v (.sl τ3) c33), (34, .v τ6 c34), (35, .v τ6 s35), (49, .v (.sl τ3) c49), (50, .v τ6 c50), (51, .v τ6 s51)], [(1002, .cells [.v τ9 κ2_0, .v (.sl τ8) κ2_1, .v τ28 κ2_2, .v τ25 κ2_3, .v τ20 κ2_4]), (1031, .map .bool o2_m1031)]⟩
def z69L2_G (N : Nat) (c33 : List τ2) (c34 : Int) (s35 : Int) (c49 : List τ2) (c50 : Int) (s51 : Int) (c64 : List τ5) (c65 : Int) (κ2_0 : τ7) (κ2_1 : List τ1) (κ2_2 : τ11) (κ2_3 : List τ10) (κ2_4 : τ12) (s66 : Int) (m1031_2 : List τ23) (k : Ex → St → Option τ19) : Option τ19 :=
 z69L2 N c64 c65 (fun o2_m1031 => k (.exit 4) (z69L2_tl4 c33 c34 s35 c49 c50 s51 c64 c65 κ2_0 κ2_1 κ2_2 κ2_3 κ2_4 o2_m1031)) N s66 m1031_2
abbrev z69L2_F (N : Nat) : FV z69L2_fs → HV z69L2_bs → (Ex → St → Option τ19) → Option τ19 := fun x y k => z69L2_G N x.2.2.1 x.2.2.2.1 x.2.2.2.2.1 x.2.2.2.2.2.1 x.2.2.2.2.2.2.1 x.2.2.2.2.2.2.2.1 x.2.2.2.2.2.2.2.2.1 x.2.2.2.2.2.2.2.2.2.1 y.1.1 y.1.2.1 y.1.2.2.1 y.1.2.2.2.1 y.1.2.2.2.2.1 x.2.2.2.2.2.2.2.2.2.2.1 y.2.1 k
abbrev z69L1_fs : List (Nat × Sl) := [(2, .box 1002 0), (8, .mref 1031), (33, .v (.sl τ3)), (34, .v τ6), (35, .v τ6), (49, .v (.sl τ3)), (50, .v τ6), (51, .v τ6)]
abbrev z69L1_bs : List (Nat × Sb) := [(1002, .cells [.v τ9, .v (.sl τ8), .v τ28, .v τ25, .v τ20]), (1031, .map .bool)]
def z69L1_hd (c33 : List τ2) (c34 : Int) (s35 : Int) (c49 : List τ2) (c50 : Int) (κ2_0 : τ7) (κ2_1 : List τ1) (κ2_2 : τ11) (κ2_3 : List τ10) (κ2_4 : τ12) (s51 : Int) (m1031_1 : List τ23) : St := ⟨79, [(2, .box 1002 0), (8, .mref 1031), (33, .v (.sl τ3) c33), (34, .v τ6 c34), (35, .v τ6 s35), (49, .v (.sl τ3) c49), (50, .v τ6 c50), (51, .v τ6 s51)], [(1002, .cells [.v τ9 κ2_0, .v (.sl τ8) κ2_1, .v τ28 κ2_2, .v τ25 κ2_3, .v τ20 κ2_4]), (1031, .map .bool m1031_1)]⟩
def z69L1_tl2 (c33 : List τ2) (c34 : Int) (s35 : Int) (_c49 : List τ2) (_c50 : Int) (κ2_0 : τ7) (κ2_1 : List τ1) (κ2_2 : τ11) (κ2_3 : List τ10) (κ2_4 : τ12) (o1_m1031 : List τ23) : St := ⟨79, [(2, .box 1002 0), (8, .mref 1031), (33, .v (.sl τ3) c33), (34, .v τ6 c34), (35, .v τ6 s35)], [(1002, .cells [.v τ9 κ2_0, .v (.sl τ8) κ2_1, .v τ28 κ2_2, .v τ25 κ2_3, .v τ20 κ2_4]), (1031, .map .bool o1_m1031)]⟩
def z69L1_G (N : Nat) (c33 : List τ2) (c34 : Int) (s35 : Int) (c49 : List τ2) (c50 : Int) (κ2_0 : τ7) (κ2_1 : List τ1) (κ2_2 : τ11) (κ2_3 : List τ10) (κ2_4 : τ12) (s51 : Int) (m1031_1 : List τ23) (k : Ex → St → Option τ19) : Option τ19 :=
 z69L1 N c49 c50 κ2_1 (fun o1_m1031 => k (.exit 2) (z69L1_tl2 c33 c34 s35 c49 c50 κ2_0 κ2_1 κ2_2 κ2_3 κ2_4 o1_m1031)) N s51 m1031_1
abbrev z69L1_F (N : Nat) : FV z69L1_fs → HV z69L1_bs → (Ex → St → Option τ19) → Option τ19 := fun x y k => z69L1_G N x.2.2.1 x.2.2.2.1 x.2.2.2.2.1 x.2.2.2.2.2.1 x.2.2.2.2.2.2.1 y.1.1 y.1.2.1 y.1.2.2.1 y.1.2.2.2.1 y.1.2.2.2.2.1 x.2.2.2.2.2.2.2.1 y.2.1 k
abbrev z69L0_fs : List (Nat × Sl) := [(2, .box 1002 0), (8, .mref 1031), (33, .v (.sl τ3)), (34, .v τ6), (35, .v τ6)]
abbrev z69L0_bs : List (Nat × Sb) := [(1002, .cells [.v τ9, .v (.sl τ8), .v τ28, .v τ25, .v τ20]), (1031, .map .bool)]
def z69L0_hd (c33 : List τ2) (c34 : Int) (κ2_0 : τ7) (κ2_1 : List τ1) (κ2_2 : τ11) (κ2_3 : List τ10) (κ2_4 : τ12) (s35 : Int) (m1031 : List τ23) : St := ⟨79, [(2, .box 1002 0), (8, .mref 1031), (33, .v (.sl τ3) c33), (34, .v τ6 c34), (35, .v τ6 s35)], [(1002, .cells [.v τ9 κ2_0, .v (.sl τ8) κ2_1, .v τ28 κ2_2, .v τ25 κ2_3, .v τ20 κ2_4]), (1031, .map .bool m1031)]⟩
def z69L0_tl0 (_c33 : List τ2) (_c34 : Int) (_κ2_0 : τ7) (_κ2_1 : List τ1) (_κ2_2 : τ11) (_κ2_3 : List τ10) (_κ2_4 : τ12) (o0_m1031 : List τ23) : St := ⟨79, [(8, .mref 1031)], [(1031, .map .bool o0_m1031)]⟩
def z69L0_G (N : Nat) (c33 : List τ2) (c34 : Int) (κ2_0 : τ7) (κ2_1 : List τ1) (κ2_2 : τ11) (κ2_3 : List τ10) (κ2_4 : τ12) (s35 : Int) (m1031 : List τ23) (k : Ex → St → Option τ19) : Option τ19 :=
 z69L0 N c33 c34 κ2_1 (fun o0_m1031 => k (.exit 0) (z69L0_tl0 c33 c34 κ2_0 κ2_1 κ2_2 κ2_3 κ2_4 o0_m1031)) N s35 m1031
abbrev z69L0_F (N : Nat) : FV z69L0_fs → HV z69L0_bs → (Ex → St → Option τ19) → Option τ19 := fun x y k => z69L0_G N x.2.2.1 x.2.2.2.1 y.1.1 y.1.2.1 y.1.2.2.1 y.1.2.2.2.1 y.1.2.2.2.2.1 x.2.2.2.2.1 y.2.1 k
noncomputable def z69LP (N : Nat) : Nat → Code → St → (Ex → St → Option τ19) → Option τ19 := fun i c =>
 match i with
 | 0 => (LPc 79 z69L0_fs z69L0_bs (z69L0_F N) (fun st k => iter (z69h 0) (exec (z69E N) N c 0) N st k))
 | 2 => (LPc 79 z69L1_fs z69L1_bs (z69L1_F N) (fun st k => iter (z69h 2) (exec (z69E N) N c 2) N st k))
 | 4 => (LPc 79 z69L2_fs z69L2_bs (z69L2_F N) (fun st k => iter (z69h 4) (exec (z69E N) N c 4) N st k))
 | i => fun st k => iter (z69h i) (exec (z69E N) N c i) N st k
theorem z69L2_step (N : Nat) (c33 : List τ2) (c34 : Int) (s35 : Int) (c49 : List τ2) (c50 : Int) (s51 : Int) (c64 : List τ5) (c65 : Int) (κ2_0 : τ7) (κ2_1 : List τ1) (κ2_2 : τ11) (κ2_3 : List τ10) (κ2_4 : τ12) (KX : Nat → St → Option τ19) (I : St → Option τ19) (s66 : Int) (m1031_2 : List τ23) :
   execL (z69LP N) (z69E N) z69c0 4 (z69L2_hd c33 c34 s35 c49 c50 s51 c64 c65 κ2_0 κ2_1 κ2_2 κ2_3 κ2_4 s66 m1031_2) (roundK (z69h 4) I KX (z69R N)) = z69L2T N c64 c65 (fun o2_m1031 => KX 4 (z69L2_tl4 c33 c34 s35 c49 c50 s51 c64 c65 κ2_0 κ2_1 κ2_2 κ2_3 κ2_4 o2_m1031)) (fun s66 m1031_2 => I (z69L2_hd c33 c34 s35 c49 c50 s51 c64 c65 κ2_0 κ2_1 κ2_2 κ2_3 κ2_4 s66 m1031_2)) s66 m1031_2 := by kernel_rfl
theorem z69L2_ok (N : Nat) : ∀ x y k, (∀ st, k .ret st = (z69R N) st) → iter (z69h 4) (exec (z69E N) N z69c0 4) N ⟨79, unF z69L2_fs x, unH z69L2_bs y⟩ k = z69L2_F N x y k := fun x y k hk =>
 iter_link (S := (Int) × (List τ23) × Unit) (z69h 4) _ (execL (z69LP N) (z69E N) z69c0 4) (z69R N) (fun st k hk => execL_eq _ _ N _ z69c0 4 (show LoopsOk (z69LP N) (z69E N) N (z69R N) [] from trivial) st k hk) (fun s => z69L2_hd x.2.2.1 x.2.2.2.1 x.2.2.2.2.1 x.2.2.2.2.2.1 x.2.2.2.2.2.2.1 x.2.2.2.2.2.2.2.1 x.2.2.2.2.2.2.2.2.1 x.2.2.2.2.2.2.2.2.2.1 y.1.1 y.1.2.1 y.1.2.2.1 y.1.2.2.2.1 y.1.2.2.2.2.1 s.1 s.2.1) k hk
   (fun self s => z69L2T N x.2.2.2.2.2.2.2.2.1 x.2.2.2.2.2.2.2.2.2.1 (fun o2_m1031 => k (.exit 4) (z69L2_tl4 x.2.2.1 x.2.2.2.1 x.2.2.2.2.1 x.2.2.2.2.2.1 x.2.2.2.2.2.2.1 x.2.2.2.2.2.2.2.1 x.2.2.2.2.2.2.2.2.1 x.2.2.2.2.2.2.2.2.2.1 y.1.1 y.1.2.1 y.1.2.2.1 y.1.2.2.2.1 y.1.2.2.2.2.1 o2_m1031)) (fun s66 m1031_2 => self (s66, m1031_2, ())) s.1 s.2.1) (fun n s => z69L2 N x.2.2.2.2.2.2.2.2.1 x.2.2.2.2.2.2.2.2.2.1 (fun o2_m1031 => k (.exit 4) (z69L2_tl4 x.2.2.1 x.2.2.2.1 x.2.2.2.2.1 x.2.2.2.2.2.1 x.2.2.2.2.2.2.1 x.2.2.2.2.2.2.2.1 x.2.2.2.2.2.2.2.2.1 x.2.2.2.2.2.2.2.2.2.1 y.1.1 y.1.2.1 y.1.2.2.1 y.1.2.2.2.1 y.1.2.2.2.2.1 o2_m1031)) n s.1 s.2.1) (fun _ => rfl) (fun _ _ => rfl)
   (fun I s => z69L2_step N x.2.2.1 x.2.2.2.1 x.2.2.2.2.1 x.2.2.2.2.2.1 x.2.2.2.2.2.2.1 x.2.2.2.2.2.2.2.1 x.2.2.2.2.2.2.2.2.1 x.2.2.2.2.2.2.2.2.2.1 y.1.1 y.1.2.1 y.1.2.2.1 y.1.2.2.2.1 y.1.2.2.2.2.1 (fun j => k (.exit j)) I s.1 s.2.1) N (x.2.2.2.2.2.2.2.2.2.2.1, y.2.1, ())
theorem z69lp4 (N : Nat) : ∀ st k, (∀ st, k .ret st = (z69R N) st) → z69LP N 4 z69c0 st k = iter (Env.hint (z69E N) 4) (exec (z69E N) N z69c0 4) N st k := fun st k hk => LPc_eq 79 z69L2_fs z69L2_bs _ _ (z69R N) (z69L2_ok N) _ st k hk (rfl)
theorem z69L1_step (N : Nat) (c33 : List τ2) (c34 : Int) (s35 : Int) (c49 : List τ2) (c50 : Int) (κ2_0 : τ7) (κ2_1 : List τ1) (κ2_2 : τ11) (κ2_3 : List τ10) (κ2_4 : τ12) (KX : Nat → St → Option τ19) (I : St → Option τ19) (s51 : Int) (m1031_1 : List τ23) :
   execL (z69LP N) (z69E N) z69c1 2 (z69L1_hd c33 c34 s35 c49 c50 κ2_0 κ2_1 κ2_2 κ2_3 κ2_4 s51 m1031_1) (roundK (z69h 2) I KX (z69R N)) = z69L1T N c49 c50 κ2_1 (fun o1_m1031 => KX 2 (z69L1_tl2 c33 c34 s35 c49 c50 κ2_0 κ2_1 κ2_2 κ2_3 κ2_4 o1_m1031)) (fun s51 m1031_1 => I (z69L1_hd c33 c34 s35 c49 c50 κ2_0 κ2_1 κ2_2 κ2_3 κ2_4 s51 m1031_1)) s51 m1031_1 := by kernel_rfl
theorem z69L1_ok (N : Nat) : ∀ x y k, (∀ st, k .ret st = (z69R N) st) → iter (z69h 2) (exec (z69E N) N z69c1 2) N ⟨79, unF z69L1_fs x, unH z69L1_bs y⟩ k = z69L1_F N x y k := fun x y k hk =>
 iter_link (S := (Int) × (List τ23) × Unit) (z69h 2) _ (execL (z69LP N) (z69E N) z69c1 2) (z69R N) (fun st k hk => execL_eq _ _ N _ z69c1 2 (show LoopsOk (z69LP N) (z69E N) N (z69R N) [(4, z69c0)] from ⟨z69lp4 N, trivial⟩) st k hk) (fun s => z69L1_hd x.2.2.1 x.2.2.2.1 x.2.2.2.2.1 x.2.2.2.2.2.1 x.2.2.2.2.2.2.1 y.1.1 y.1.2.1 y.1.2.2.1 y.1.2.2.2.1 y.1.2.2.2.2.1 s.1 s.2.1) k hk
   (fun self s => z69L1T N x.2.2.2.2.2.1 x.2.2.2.2.2.2.1 y.1.2.1 (fun o1_m1031 => k (.exit 2) (z69L1_tl2 x.2.2.1 x.2.2.2.1 x.2.2.2.2.1 x.2.2.2.2.2.1 x.2.2.2.2.2.2.1 y.1.1 y.1.2.1 y.1.2.2.1 y.1.2.2.2.1 y.1.2.2.2.2.1 o1_m1031)) (fun s51 m1031_1 => self (s51, m1031_1, ())) s.1 s.2.1) (fun n s => z69L1 N x.2.2.2.2.2.1 x.2.2.2.2.2.2.1 y.1.2.1 (fun o1_m1031 => k (.exit 2) (z69L1_tl2 x.2.2.1 x.2.2.2.1 x.2.2.2.2.1 x.2.2.2.2.2.1 x.2.2.2.2.2.2.1 y.1.1 y.1.2.1 y.1.2.2.1 y.1.2.2.2.1 y.1.2.2.2.2.1 o1_m1031)) n s.1 s.2.1) (fun _ => rfl) (fun _ _ => rfl)
   (fun I s => z69L1_step N x.2.2.1 x.2.2.2.1 x.2.2.2.2.1 x.2.2.2.2.2.1 x.2.2.2.2.2.2.1 y.1.1 y.1.2.1 y.1.2.2.1 y.1.2.2.2.1 y.1.2.2.2.2.1 (fun j => k (.exit j)) I s.1 s.2.1) N (x.2.2.2.2.2.2.2.1, y.2.1, ())
theorem z69lp2 (N : Nat) : ∀ st k, (∀ st, k .ret st = (z69R N) st) → z69LP N 2 z69c1 st k = iter (Env.hint (z69E N) 2) (exec (z69E N) N z69c1 2) N st k := fun st k hk => LPc_eq 79 z69L1_fs z69L1_bs _ _ (z69R N) (z69L1_ok N) _ st k hk (rfl)
theorem z69L0_step (N : Nat) (c33 : List τ2) (c34 : Int) (κ2_0 : τ7) (κ2_1 : List τ1) (κ2_2 : τ11) (κ2_3 : List τ10) (κ2_4 : τ12) (KX : Nat → St → Option τ19) (I : St → Option τ19) (s35 : Int) (m1031 : List τ23) :
   execL (z69LP N) (z69E N) z69c2 0 (z69L0_hd c33 c34 κ2_0 κ2_1 κ2_2 κ2_3 κ2_4 s35 m1031) (roundK (z69h 0) I KX (z69R N)) = z69L0T N c33 c34 κ2_1 (fun o0_m1031 => KX 0 (z69L0_tl0 c33 c34 κ2_0 κ2_1 κ2_2 κ2_3 κ2_4 o0_m1031)) (fun s35 m1031 => I (z69L0_hd c33 c34 κ2_0 κ2_1 κ2_2 κ2_3 κ2_4 s35 m1031)) s35 m1031 := by kernel_rfl
theorem z69L0_ok (N : Nat) : ∀ x y k, (∀ st, k .ret st = (z69R N) st) → iter (z69h 0) (exec (z69E N) N z69c2 0) N ⟨79, unF z69L0_fs x, unH z69L0_bs y⟩ k = z69L0_F N x y k := fun x y k hk =>
 iter_link (S := (Int) × (List τ23) × Unit) (z69h 0) _ (execL (z69LP N) (z69E N) z69c2 0) (z69R N) (fun st k hk => execL_eq _ _ N _ z69c2 0 (show LoopsOk (z69LP N) (z69E N) N (z69R N) [(2, z69c1), (4, z69c0)] from ⟨z69lp2 N, z69lp4 N, trivial⟩) st k hk) (fun s => z69L0_hd x.2.2.1 x.2.2.2.1 y.1.1 y.1.2.1 y.1.2.2.1 y.1.2.2.2.1 y.1.2.2.2.2.1 s.1 s.2.1) k hk
   (fun self s => z69L0T N x.2.2.1 x.2.2.2.1 y.1.2.1 (fun o0_m1031 => k (.exit 0) (z69L0_tl0 x.2.2.1 x.2.2.2.1 y.1.1 y.1.2.1 y.1.2.2.1 y.1.2.2.2.1 y.1.2.2.2.2.1 o0_m1031)) (fun s35 m1031 => self (s35, m1031, ())) s.1 s.2.1) (fun n s => z69L0 N x.2.2.1 x.2.2.2.1 y.1.2.1 (fun o0_m1031 => k (.exit 0) (z69L0_tl0 x.2.2.1 x.2.2.2.1 y.1.1 y.1.2.1 y.1.2.2.1 y.1.2.2.2.1 y.1.2.2.2.2.1 o0_m1031)) n s.1 s.2.1) (fun _ => rfl) (fun _ _ => rfl)
   (fun I s => z69L0_step N x.2.2.1 x.2.2.2.1 y.1.1 y.1.2.1 y.1.2.2.1 y.1.2.2.2.1 y.1.2.2.2.2.1 (fun j => k (.exit j)) I s.1 s.2.1) N (x.2.2.2.2.1, y.2.1, ())
theorem z69lp0 (N : Nat) : ∀ st k, (∀ st, k .ret st = (z69R N) st) → z69LP N 0 z69c2 st k = iter (Env.hint (z69E N) 0) (exec (z69E N) N z69c2 0) N st k := fun st k hk => LPc_eq 79 z69L0_fs z69L0_bs _ _ (z69R N) (z69L0_ok N) _ st k hk (rfl)
theorem z69core (N : Nat) (x : SV [.v τ4, .v τ13]) (y : BV []) : runL (z69E N) Tryz.f25 (z69g N) z69pk (z69LP N) x y = config_Depends N x.1 x.2.1 := by kernel_rfl
theorem z69sound (N : Nat) : Snd 25 (z69g N) :=
 sndL (z69fn_ok N) Tryz.func25 rfl Tryz.call25 (z69g N) z69pk (fun _ _ => rfl) N (z69LP N) (show LoopsOk (z69LP N) (z69E N) N (z69R N) [(0, z69c2), (2, z69c1), (4, z69c0)] from ⟨z69lp0 N, z69lp2 N, z69lp4 N, trivial⟩) (z69core N)
def z90L2T (_N : Nat) (c62 : List τ5) (c63 : Int) (k4 : τ24 → Option τ19) (self : Int → τ24 → Option τ19) (s64 : Int) (w1008_2 : List Str) : Option τ19 :=
 br (decide (s64 < c63))
   (bnd (geti c62 s64) fun t66 =>
   br (decide ((w1008_2.length + [t66.1].length) * (24 * Ty.sz .str) ≤ 140737488355328))
     (self (IntKind.i64.wrap (s64 + (1 : Int))) (w1008_2 ++ [t66.1]))
     none)
   (k4 w1008_2)
def z90L2 (N : Nat) (c62 : List τ5) (c63 : Int) (k4 : τ24 → Option τ19) : Nat → Int → τ24 → Option τ19
 | 0, _, _ => none
 | n + 1, s64, w1008_2 => z90L2T N c62 c63 k4 (z90L2 N c62 c63 k4 n) s64 w1008_2
def z90L1T (N : Nat) (c47 : List τ2) (c48 : Int) (κ2_1 : List τ1) (k2 : τ24 → Option τ19) (self : Int → τ24 → Option τ19) (s49 : Int) (w1008_1 : List Str) : Option τ19 :=
 br (decide (s49 < c48))
   (bnd (geti c47 s49) fun t51 =>
   bnd (ref3_conditionOf N κ2_1 t51.1) fun t58 =>
   z90L2 N t58.1.2.1 (t58.1.2.1.length : Int) (fun o2_w1008 =>
       self (IntKind.i64.wrap (s49 + (1 : Int))) o2_w1008) N (0 : Int) w1008_1)
   (k2 w1008_1)
def z90L1 (N : Nat) (c47 : List τ2) (c48 : Int) (κ2_1 : List τ1) (k2 : τ24 → Option τ19) : Nat → Int → τ24 → Option τ19
 | 0, _, _ => none
 | n + 1, s49, w1008_1 => z90L1T N c47 c48 κ2_1 k2 (z90L1 N c47 c48 κ2_1 k2 n) s49 w1008_1
def z90L0T (N : Nat) (c32 : List τ2) (c33 : Int) (κ2_0 : τ7) (κ2_1 : List τ1) (κ2_2 : τ11) (κ2_3 : List τ10) (κ2_4 : τ12) (k0 : τ24 → Option τ19) (self : Int → τ24 → Option τ19) (s34 : Int) (w1008 : List Str) : Option τ19 :=
 br (decide (s34 < c33))
   (bnd (geti c32 s34) fun t36 =>
   bnd (ref3_checkWhen N (κ2_0, (κ2_1, (κ2_2, (κ2_3, κ2_4)))) (GValue.mk t36.2.kind t36.2.text t36.2.number t36.2.list t36.2.cases)) fun t41 =>
   br (t41 != (0 : Int))
     (some (t41, ([] : List Str)))
     (z90L1 N t36.2.cases (t36.2.cases.length : Int) κ2_1 (fun o1_w1008 =>
         self (IntKind.i64.wrap (s34 + (1 : Int))) o1_w1008) N (0 : Int) w1008))
   (k0 w1008)
def z90L0 (N : Nat) (c32 : List τ2) (c33 : Int) (κ2_0 : τ7) (κ2_1 : List τ1) (κ2_2 : τ11) (κ2_3 : List τ10) (κ2_4 : τ12) (k0 : τ24 → Option τ19) : Nat → Int → τ24 → Option τ19
 | 0, _, _ => none
 | n + 1, s34, w1008 => z90L0T N c32 c33 κ2_0 κ2_1 κ2_2 κ2_3 κ2_4 k0 (z90L0 N c32 c33 κ2_0 κ2_1 κ2_2 κ2_3 κ2_4 k0 n) s34 w1008
def ref3_Depends (N : Nat) (x0 : τ18) (x1 : Str × Str × List τ2) : Option τ19 :=
 bnd (ref3_CheckConditions N x0.1 x0.2.1) fun t22 =>
 br (t22 != (0 : Int))
   (some (t22, ([] : List Str)))
   (bnd (ref2_CheckTarget N x1) fun t27 =>
   br (t27 != (0 : Int))
     (some (t27, ([] : List Str)))
     (z90L0 N x1.2.2 (x1.2.2.length : Int) x0.1 x0.2.1 x0.2.2.1 x0.2.2.2.1 x0.2.2.2.2 (fun o0_w1008 =>
         bnd (slices_Sort_string_string o0_w1008) fun t77 =>
         bnd (slices_Compact_string_string t77) fun t79 =>
         some ((0 : Int), t79)) N (0 : Int) ([] : List Str)))
abbrev z90sg (f : SV [.v τ4, .v τ13] → BV [] → Option τ19) : AF := { ps := [.v τ4, .v τ13], bs := [], rs := [.row 0, .v τ6], cs := [.row 9 .str true], R := Int × List Str, out := fun z => (((), z.1, ()), (z.2, ())), f := f }
noncomputable abbrev z90g (N : Nat) : AF := z90sg fun x _ => ref3_Depends N x.1 x.2.1
abbrev z90pk : SV [.row 0, .v τ6] → BV [.row 9 .str true] → τ19 := fun x y => (x.2.1, y.1)
def z90fn (N : Nat) : FuncId → Option Tmp → Option AF := fun f _ =>
 match f with
   | 57 => some (z21sg fun _ y => slices_Sort_string_string y.1)
   | 62 => some (z53g N)
   | 69 => some (z32g N)
   | 70 => some (z74g N)
   | 71 => some (z57g N)
   | 72 => some (z9sg fun _ y => slices_Compact_string_string y.1)
   | _ => none
theorem z90fn_ok (N : Nat) : FnOk (z90fn N) := by
 intro f q F h
 unfold z90fn at h
 split at h
 · cases h; exact z21sound
 · cases h; exact z53sound N
 · cases h; exact z32sound N
 · cases h; exact z74sound N
 · cases h; exact z57sound N
 · cases h; exact z9sound
 · cases h
def z90h : Nat → Hint := fun i =>
 match i with
 | 0 => ⟨[], [2, 8, 32, 33, 34], [1002, 1008], [8], [1008], []⟩
 | 2 => ⟨[], [2, 8, 32, 33, 34, 47, 48, 49], [1002, 1008], [2, 8, 32, 33, 34], [1002, 1008], []⟩
 | 4 => ⟨[], [2, 8, 32, 33, 34, 47, 48, 49, 62, 63, 64], [1002, 1008], [2, 8, 32, 33, 34, 47, 48, 49], [1002, 1008], []⟩
 | _ => hint0
abbrev z90E (N : Nat) : Env := mkE z90h (z90fn N) (fun i => match i with | 4 => true | 5 => true | 6 => true | 7 => true | 8 => true | 11 => true | 15 => true | 33 => true | 48 => true | 63 => true | 71 => true | 72 => true | _ => false) (fun _ => false)
noncomputable abbrev z90c2 : Code := cAt (bodyOf Tryz.f26) [true, true, true, true, false, true, false, false]
noncomputable abbrev z90c1 : Code := cAt (bodyOf Tryz.f26) [true, true, true, true, false, true, false, false, true, true, false, false, true, true, true, false, false]
noncomputable abbrev z90c0 : Code := cAt (bodyOf Tryz.f26) [true, true, true, true, false, true, false, false, true, true, false, false, true, true, true, false, false, true, true, false, false, true, true, true, false, false]
noncomputable abbrev z90R (N : Nat) := resD (z90E N) Tryz.f26 (z90g N) z90pk
abbrev z90L2_fs : List (Nat × Sl) := [(2, .box 1002 0), (8, .row 1008), (32, .v (.sl τ3)), (33, .v τ6), (34, .v τ6), (47, .v (.sl τ3)), (48, .v τ6), (49, .v τ6), (62, .v τ0), (63, .v τ6), (64, .v τ6)]
abbrev z90L2_bs : List (Nat × Sb) := [(1002, .cells [.v τ9, .v (.sl τ8), .v τ28, .v τ25, .v τ20]), (1008, .row 9 .str true)]
def z90L2_hd (c32 : List τ2) (c33 : Int) (s34 : Int) (c47 : List τ2) (c48 : Int) (s49 : Int) (c62 : List τ5) (c63 : Int) (κ2_0 : τ7) (κ2_1 : List τ1) (κ2_2 : τ11) (κ2_3 : List τ10) (κ2_4 : τ12) (s64 : Int) (w1008_2 : List Str) : St := ⟨80, [(2, .box 1002 0), (8, .row 1008), (32, .v (.sl τ3) c32), (33, .v τ6 c33), (34, .v τ6 s34), (47, .v (.sl τ3) c47), (48, .v τ6 c48), (49, .v τ6 s49), (62, .v τ0 c62), (63, .v τ6 c63), (64, .v τ6 s64)], [(1002, .cells [.v τ9 κ2_0, .v (.sl τ8) κ2_1, .v τ28 κ2_2, .v τ25 κ2_3, .v τ20 κ2_4]), (1008, .row 9 .str true w1008_2)]⟩
def z90L2_tl4 (c32 : List τ2) (c33 : Int) (s34 : Int) (c47 : List τ2) (c48 : Int) (s49 : Int) (_c62 : List τ5) (_c63 : Int) (κ2_0 : τ7) (κ2_1 : List τ1) (κ2_2 : τ11) (κ2_3 : List τ10) (κ2_4 : τ12) (o2_w1008 : List Str) : St := ⟨80, [(2, .box 1002 0), (8, .row 1008), (32, .v (.sl τ3) c32), (33, .v τ6 c33), (34, .v τ6 s34), (47, .v (.sl τ3) c47), (48, .v τ6 c48), (49, .v τ6 s49)], [(1002, .cells [.v τ9 κ2_0, .v (.sl τ8) κ2_1, .v τ28 κ2_2, .v τ25 κ2_3, .v τ20 κ2_4]), (1008, .row 9 .str true o2_w1008)]⟩
def z90L2_G (N : Nat) (c32 : List τ2) (c33 : Int) (s34 : Int) (c47 : List τ2) (c48 : Int) (s49 : Int) (c62 : List τ5) (c63 : Int) (κ2_0 : τ7) (κ2_1 : List τ1) (κ2_2 : τ11) (κ2_3 : List τ10) (κ2_4 : τ12) (s64 : Int) (w1008_2 : List Str) (k : Ex → St → Option τ19) : Option τ19 :=
 z90L2 N c62 c63 (fun o2_w1008 => k (.exit 4) (z90L2_tl4 c32 c33 s34 c47 c48 s49 c62 c63 κ2_0 κ2_1 κ2_2 κ2_3 κ2_4 o2_w1008)) N s64 w1008_2
abbrev z90L2_F (N : Nat) : FV z90L2_fs → HV z90L2_bs → (Ex → St → Option τ19) → Option τ19 := fun x y k => z90L2_G N x.2.2.1 x.2.2.2.1 x.2.2.2.2.1 x.2.2.2.2.2.1 x.2.2.2.2.2.2.1 x.2.2.2.2.2.2.2.1 x.2.2.2.2.2.2.2.2.1 x.2.2.2.2.2.2.2.2.2.1 y.1.1 y.1.2.1 y.1.2.2.1 y.1.2.2.2.1 y.1.2.2.2.2.1 x.2.2.2.2.2.2.2.2.2.2.1 y.2.1 k
abbrev z90L1_fs : List (Nat × Sl) := [(2, .box 1002 0), (8, .row 1008), (32, .v (.sl τ3)), (33, .v τ6), (34, .v τ6), (47, .v (.sl τ3)), (48, .v τ6), (49, .v τ6)]
abbrev z90L1_bs : List (Nat × Sb) := [(1002, .cells [.v τ9, .v (.sl τ8), .v τ28, .v τ25, .v τ20]), (1008, .row 9 .str true)]
def z90L1_hd (c32 : List τ2) (c33 : Int) (s34 : Int) (c47 : List τ2) (c48 : Int) (κ2_0 : τ7) (κ2_1 : List τ1) (κ2_2 : τ11) (κ2_3 : List τ10) (κ2_4 : τ12) (s49 : Int) (w1008_1 : List Str) : St := ⟨80, [(2, .box 1002 0), (8, .row 1008), (32, .v (.sl τ3) c32), (33, .v τ6 c33), (34, .v τ6 s34), (47, .v (.sl τ3) c47), (48, .v τ6 c48), (49, .v τ6 s49)], [(1002, .cells [.v τ9 κ2_0, .v (.sl τ8) κ2_1, .v τ28 κ2_2, .v τ25 κ2_3, .v τ20 κ2_4]), (1008, .row 9 .str true w1008_1)]⟩
def z90L1_tl2 (c32 : List τ2) (c33 : Int) (s34 : Int) (_c47 : List τ2) (_c48 : Int) (κ2_0 : τ7) (κ2_1 : List τ1) (κ2_2 : τ11) (κ2_3 : List τ10) (κ2_4 : τ12) (o1_w1008 : List Str) : St := ⟨80, [(2, .box 1002 0), (8, .row 1008), (32, .v (.sl τ3) c32), (33, .v τ6 c33), (34, .v τ6 s34)], [(1002, .cells [.v τ9 κ2_0, .v (.sl τ8) κ2_1, .v τ28 κ2_2, .v τ25 κ2_3, .v τ20 κ2_4]), (1008, .row 9 .str true o1_w1008)]⟩
def z90L1_G (N : Nat) (c32 : List τ2) (c33 : Int) (s34 : Int) (c47 : List τ2) (c48 : Int) (κ2_0 : τ7) (κ2_1 : List τ1) (κ2_2 : τ11) (κ2_3 : List τ10) (κ2_4 : τ12) (s49 : Int) (w1008_1 : List Str) (k : Ex → St → Option τ19) : Option τ19 :=
 z90L1 N c47 c48 κ2_1 (fun o1_w1008 => k (.exit 2) (z90L1_tl2 c32 c33 s34 c47 c48 κ2_0 κ2_1 κ2_2 κ2_3 κ2_4 o1_w1008)) N s49 w1008_1
abbrev z90L1_F (N : Nat) : FV z90L1_fs → HV z90L1_bs → (Ex → St → Option τ19) → Option τ19 := fun x y k => z90L1_G N x.2.2.1 x.2.2.2.1 x.2.2.2.2.1 x.2.2.2.2.2.1 x.2.2.2.2.2.2.1 y.1.1 y.1.2.1 y.1.2.2.1 y.1.2.2.2.1 y.1.2.2.2.2.1 x.2.2.2.2.2.2.2.1 y.2.1 k
abbrev z90L0_fs : List (Nat × Sl) := [(2, .box 1002 0), (8, .row 1008), (32, .v (.sl τ3)), (33, .v τ6), (34, .v τ6)]
abbrev z90L0_bs : List (Nat × Sb) := [(1002, .cells [.v τ9, .v (.sl τ8), .v τ28, .v τ25, .v τ20]), (1008, .row 9 .str true)]
def z90L0_hd (c32 : List τ2) (c33 : Int) (κ2_0 : τ7) (κ2_1 : List τ1) (κ2_2 : τ11) (κ2_3 : List τ10) (κ2_4 : τ12) (s34 : Int) (w1008 : List Str) : St := ⟨80, [(2, .box 1002 0), (8, .row 1008), (32, .v (.sl τ3) c32), (33, .v τ6 c33), (34, .v τ6 s34)], [(1002, .cells [.v τ9 κ2_0, .v (.sl τ8) κ2_1, .v τ28 κ2_2, .v τ25 κ2_3, .v τ20 κ2_4]), (1008, .row 9 .str true w1008)]⟩
def z90L0_tl0 (_c32 : List τ2) (_c33 : Int) (_κ2_0 : τ7) (_κ2_1 : List τ1) (_κ2_2 : τ11) (_κ2_3 : List τ10) (_κ2_4 : τ12) (o0_w1008 : List Str) : St := ⟨80, [(8, .row 1008)], [(1008, .row 9 .str true o0_w1008)]⟩
def z90L0_G (N : Nat) (c32 : List τ2) (c33 : Int) (κ2_0 : τ7) (κ2_1 : List τ1) (κ2_2 : τ11) (κ2_3 : List τ10) (κ2_4 : τ12) (s34 : Int) (w1008 : List Str) (k : Ex → St → Option τ19) : Option τ19 :=
 z90L0 N c32 c33 κ2_0 κ2_1 κ2_2 κ2_3 κ2_4 (fun o0_w1008 => k (.exit 0) (z90L0_tl0 c32 c33 κ2_0 κ2_1 κ2_2 κ2_3 κ2_4 o0_w1008)) N s34 w1008
abbrev z90L0_F (N : Nat) : FV z90L0_fs → HV z90L0_bs → (Ex → St → Option τ19) → Option τ19 := fun x y k => z90L0_G N x.2.2.1 x.2.2.2.1 y.1.1 y.1.2.1 y.1.2.2.1 y.1.2.2.2.1 y.1.2.2.2.2.1 x.2.2.2.2.1 y.2.1 k
noncomputable def z90LP (N : Nat) : Nat → Code → St → (Ex → St → Option τ19) → Option τ19 := fun i c =>
 match i with
 | 0 => (LPc 80 z90L0_fs z90L0_bs (z90L0_F N) (fun st k => iter (z90h 0) (exec (z90E N) N c 0) N st k))
 | 2 => (LPc 80 z90L1_fs z90L1_bs (z90L1_F N) (fun st k => iter (z90h 2) (exec (z90E N) N c 2) N st k))
 | 4 => (LPc 80 z90L2_fs z90L2_bs (z90L2_F N) (fun st k => iter (z90h 4) (exec (z90E N) N c 4) N st k))
 | i => fun st k => iter (z90h i) (exec (z90E N) N c i) N st k
theorem z90L2_step (N : Nat) (c32 : List τ2) (c33 : Int) (s34 : Int) (c47 : List τ2) (c48 : Int) (s49 : Int) (c62 : List τ5) (c63 : Int) (κ2_0 : τ7) (κ2_1 : List τ1) (κ2_2 : τ11) (κ2_3 : List τ10) (κ2_4 : τ12) (KX : Nat → St → Option τ19) (I : St → Option τ19) (s64 : Int) (w1008_2 : List Str) :
   execL (z90LP N) (z90E N) z90c0 4 (z90L2_hd c32 c33 s34 c47 c48 s49 c62 c63 κ2_0 κ2_1 κ2_2 κ2_3 κ2_4 s64 w1008_2) (roundK (z90h 4) I KX (z90R N)) = z90L2T N c62 c63 (fun o2_w1008 => KX 4 (z90L2_tl4 c32 c33 s34 c47 c48 s49 c62 c63 κ2_0 κ2_1 κ2_2 κ2_3 κ2_4 o2_w1008)) (fun s64 w1008_2 => I (z90L2_hd c32 c33 s34 c47 c48 s49 c62 c63 κ2_0 κ2_1 κ2_2 κ2_3 κ2_4 s64 w1008_2)) s64 w1008_2 := by kernel_rfl
theorem z90L2_ok (N : Nat) : ∀ x y k, (∀ st, k .ret st = (z90R N) st) → iter (z90h 4) (exec (z90E N) N z90c0 4) N ⟨80, unF z90L2_fs x, unH z90L2_bs y⟩ k = z90L2_F N x y k := fun x y k hk =>
 iter_link (S := (Int) × τ24 × Unit) (z90h 4) _ (execL (z90LP N) (z90E N) z90c0 4) (z90R N) (fun st k hk => execL_eq _ _ N _ z90c0 4 (show LoopsOk (z90LP N) (z90E N) N (z90R N) [] from trivial) st k hk) (fun s => z90L2_hd x.2.2.1 x.2.2.2.1 x.2.2.2.2.1 x.2.2.2.2.2.1 x.2.2.2.2.2.2.1 x.2.2.2.2.2.2.2.1 x.2.2.2.2.2.2.2.2.1 x.2.2.2.2.2.2.2.2.2.1 y.1.1 y.1.2.1 y.1.2.2.1 y.1.2.2.2.1 y.1.2.2.2.2.1 s.1 s.2.1) k hk
   (fun self s => z90L2T N x.2.2.2.2.2.2.2.2.1 x.2.2.2.2.2.2.2.2.2.1 (fun o2_w1008 => k (.exit 4) (z90L2_tl4 x.2.2.1 x.2.2.2.1 x.2.2.2.2.1 x.2.2.2.2.2.1 x.2.2.2.2.2.2.1 x.2.2.2.2.2.2.2.1 x.2.2.2.2.2.2.2.2.1 x.2.2.2.2.2.2.2.2.2.1 y.1.1 y.1.2.1 y.1.2.2.1 y.1.2.2.2.1 y.1.2.2.2.2.1 o2_w1008)) (fun s64 w1008_2 => self (s64, w1008_2, ())) s.1 s.2.1) (fun n s => z90L2 N x.2.2.2.2.2.2.2.2.1 x.2.2.2.2.2.2.2.2.2.1 (fun o2_w1008 => k (.exit 4) (z90L2_tl4 x.2.2.1 x.2.2.2.1 x.2.2.2.2.1 x.2.2.2.2.2.1 x.2.2.2.2.2.2.1 x.2.2.2.2.2.2.2.1 x.2.2.2.2.2.2.2.2.1 x.2.2.2.2.2.2.2.2.2.1 y.1.1 y.1.2.1 y.1.2.2.1 y.1.2.2.2.1 y.1.2.2.2.2.1 o2_w1008)) n s.1 s.2.1) (fun _ => rfl) (fun _ _ => rfl)
   (fun I s => z90L2_step N x.2.2.1 x.2.2.2.1 x.2.2.2.2.1 x.2.2.2.2.2.1 x.2.2.2.2.2.2.1 x.2.2.2.2.2.2.2.1 x.2.2.2.2.2.2.2.2.1 x.2.2.2.2.2.2.2.2.2.1 y.1.1 y.1.2.1 y.1.2.2.1 y.1.2.2.2.1 y.1.2.2.2.2.1 (fun j => k (.exit j)) I s.1 s.2.1) N (x.2.2.2.2.2.2.2.2.2.2.1, y.2.1, ())
theorem z90lp4 (N : Nat) : ∀ st k, (∀ st, k .ret st = (z90R N) st) → z90LP N 4 z90c0 st k = iter (Env.hint (z90E N) 4) (exec (z90E N) N z90c0 4) N st k := fun st k hk => LPc_eq 80 z90L2_fs z90L2_bs _ _ (z90R N) (z90L2_ok N) _ st k hk (rfl)
theorem z90L1_step (N : Nat) (c32 : List τ2) (c33 : Int) (s34 : Int) (c47 : List τ2) (c48 : Int) (κ2_0 : τ7) (κ2_1 : List τ1) (κ2_2 : τ11) (κ2_3 : List τ10) (κ2_4 : τ12) (KX : Nat → St → Option τ19) (I : St → Option τ19) (s49 : Int) (w1008_1 : List Str) :
   execL (z90LP N) (z90E N) z90c1 2 (z90L1_hd c32 c33 s34 c47 c48 κ2_0 κ2_1 κ2_2 κ2_3 κ2_4 s49 w1008_1) (roundK (z90h 2) I KX (z90R N)) = z90L1T N c47 c48 κ2_1 (fun o1_w1008 => KX 2 (z90L1_tl2 c32 c33 s34 c47 c48 κ2_0 κ2_1 κ2_2 κ2_3 κ2_4 o1_w1008)) (fun s49 w1008_1 => I (z90L1_hd c32 c33 s34 c47 c48 κ2_0 κ2_1 κ2_2 κ2_3 κ2_4 s49 w1008_1)) s49 w1008_1 := by kernel_rfl
theorem z90L1_ok (N : Nat) : ∀ x y k, (∀ st, k .ret st = (z90R N) st) → iter (z90h 2) (exec (z90E N) N z90c1 2) N ⟨80, unF z90L1_fs x, unH z90L1_bs y⟩ k = z90L1_F N x y k := fun x y k hk =>
 iter_link (S := (Int) × τ24 × Unit) (z90h 2) _ (execL (z90LP N) (z90E N) z90c1 2) (z90R N) (fun st k hk => execL_eq _ _ N _ z90c1 2 (show LoopsOk (z90LP N) (z90E N) N (z90R N) [(4, z90c0)] from ⟨z90lp4 N, trivial⟩) st k hk) (fun s => z90L1_hd x.2.2.1 x.2.2.2.1 x.2.2.2.2.1 x.2.2.2.2.2.1 x.2.2.2.2.2.2.1 y.1.1 y.1.2.1 y.1.2.2.1 y.1.2.2.2.1 y.1.2.2.2.2.1 s.1 s.2.1) k hk
   (fun self s => z90L1T N x.2.2.2.2.2.1 x.2.2.2.2.2.2.1 y.1.2.1 (fun o1_w1008 => k (.exit 2) (z90L1_tl2 x.2.2.1 x.2.2.2.1 x.2.2.2.2.1 x.2.2.2.2.2.1 x.2.2.2.2.2.2.1 y.1.1 y.1.2.1 y.1.2.2.1 y.1.2.2.2.1 y.1.2.2.2.2.1 o1_w1008)) (fun s49 w1008_1 => self (s49, w1008_1, ())) s.1 s.2.1) (fun n s => z90L1 N x.2.2.2.2.2.1 x.2.2.2.2.2.2.1 y.1.2.1 (fun o1_w1008 => k (.exit 2) (z90L1_tl2 x.2.2.1 x.2.2.2.1 x.2.2.2.2.1 x.2.2.2.2.2.1 x.2.2.2.2.2.2.1 y.1.1 y.1.2.1 y.1.2.2.1 y.1.2.2.2.1 y.1.2.2.2.2.1 o1_w1008)) n s.1 s.2.1) (fun _ => rfl) (fun _ _ => rfl)
   (fun I s => z90L1_step N x.2.2.1 x.2.2.2.1 x.2.2.2.2.1 x.2.2.2.2.2.1 x.2.2.2.2.2.2.1 y.1.1 y.1.2.1 y.1.2.2.1 y.1.2.2.2.1 y.1.2.2.2.2.1 (fun j => k (.exit j)) I s.1 s.2.1) N (x.2.2.2.2.2.2.2.1, y.2.1, ())
theorem z90lp2 (N : Nat) : ∀ st k, (∀ st, k .ret st = (z90R N) st) → z90LP N 2 z90c1 st k = iter (Env.hint (z90E N) 2) (exec (z90E N) N z90c1 2) N st k := fun st k hk => LPc_eq 80 z90L1_fs z90L1_bs _ _ (z90R N) (z90L1_ok N) _ st k hk (rfl)
theorem z90L0_step (N : Nat) (c32 : List τ2) (c33 : Int) (κ2_0 : τ7) (κ2_1 : List τ1) (κ2_2 : τ11) (κ2_3 : List τ10) (κ2_4 : τ12) (KX : Nat → St → Option τ19) (I : St → Option τ19) (s34 : Int) (w1008 : List Str) :
   execL (z90LP N) (z90E N) z90c2 0 (z90L0_hd c32 c33 κ2_0 κ2_1 κ2_2 κ2_3 κ2_4 s34 w1008) (roundK (z90h 0) I KX (z90R N)) = z90L0T N c32 c33 κ2_0 κ2_1 κ2_2 κ2_3 κ2_4 (fun o0_w1008 => KX 0 (z90L0_tl0 c32 c33 κ2_0 κ2_1 κ2_2 κ2_3 κ2_4 o0_w1008)) (fun s34 w1008 => I (z90L0_hd c32 c33 κ2_0 κ2_1 κ2_2 κ2_3 κ2_4 s34 w1008)) s34 w1008 := by kernel_rfl
theorem z90L0_ok (N : Nat) : ∀ x y k, (∀ st, k .ret st = (z90R N) st) → iter (z90h 0) (exec (z90E N) N z90c2 0) N ⟨80, unF z90L0_fs x, unH z90L0_bs y⟩ k = z90L0_F N x y k := fun x y k hk =>
 iter_link (S := (Int) × τ24 × Unit) (z90h 0) _ (execL (z90LP N) (z90E N) z90c2 0) (z90R N) (fun st k hk => execL_eq _ _ N _ z90c2 0 (show LoopsOk (z90LP N) (z90E N) N (z90R N) [(2, z90c1), (4, z90c0)] from ⟨z90lp2 N, z90lp4 N, trivial⟩) st k hk) (fun s => z90L0_hd x.2.2.1 x.2.2.2.1 y.1.1 y.1.2.1 y.1.2.2.1 y.1.2.2.2.1 y.1.2.2.2.2.1 s.1 s.2.1) k hk
   (fun self s => z90L0T N x.2.2.1 x.2.2.2.1 y.1.1 y.1.2.1 y.1.2.2.1 y.1.2.2.2.1 y.1.2.2.2.2.1 (fun o0_w1008 => k (.exit 0) (z90L0_tl0 x.2.2.1 x.2.2.2.1 y.1.1 y.1.2.1 y.1.2.2.1 y.1.2.2.2.1 y.1.2.2.2.2.1 o0_w1008)) (fun s34 w1008 => self (s34, w1008, ())) s.1 s.2.1) (fun n s => z90L0 N x.2.2.1 x.2.2.2.1 y.1.1 y.1.2.1 y.1.2.2.1 y.1.2.2.2.1 y.1.2.2.2.2.1 (fun o0_w1008 => k (.exit 0) (z90L0_tl0 x.2.2.1 x.2.2.2.1 y.1.1 y.1.2.1 y.1.2.2.1 y.1.2.2.2.1 y.1.2.2.2.2.1 o0_w1008)) n s.1 s.2.1) (fun _ => rfl) (fun _ _ => rfl)
   (fun I s => z90L0_step N x.2.2.1 x.2.2.2.1 y.1.1 y.1.2.1 y.1.2.2.1 y.1.2.2.2.1 y.1.2.2.2.2.1 (fun j => k (.exit j)) I s.1 s.2.1) N (x.2.2.2.2.1, y.2.1, ())
theorem z90lp0 (N : Nat) : ∀ st k, (∀ st, k .ret st = (z90R N) st) → z90LP N 0 z90c2 st k = iter (Env.hint (z90E N) 0) (exec (z90E N) N z90c2 0) N st k := fun st k hk => LPc_eq 80 z90L0_fs z90L0_bs _ _ (z90R N) (z90L0_ok N) _ st k hk (rfl)
theorem z90core (N : Nat) (x : SV [.v τ4, .v τ13]) (y : BV []) : runL (z90E N) Tryz.f26 (z90g N) z90pk (z90LP N) x y = ref3_Depends N x.1 x.2.1 := by kernel_rfl
theorem z90sound (N : Nat) : Snd 26 (z90g N) :=
 runD_sound (mkE_ok z90h (z90fn N) _ _ (z90fn_ok N)) Tryz.func26 rfl Tryz.call26 (z90g N) z90pk (fun _ _ => rfl) N (fun x y _ h => ((runL_eq (z90E N) N Tryz.f26 (z90g N) z90pk (z90LP N) (show LoopsOk (z90LP N) (z90E N) N (z90R N) [(0, z90c2), (2, z90c1), (4, z90c0)] from ⟨z90lp0 N, z90lp2 N, z90lp4 N, trivial⟩) x y).trans (z90core N x y)).trans h)
def law3_ConfigPlainMatchesSpec (N : Nat) (x0 : τ18) (x1 : Str × Str × List τ2) (x2 : List τ5) (x3 : Str × List τ5) : Option Bool :=
 bnd (config_Plain N x0 x1 x2 x3) fun t22 =>
 bnd (ref3_Plain N x0 x1 x2 x3) fun t31 =>
 br (t22.2.2 != t31.2.2)
   (some false)
   (br (!(t22.2.1 == t31.2.1))
     (some false)
     (bnd (ref2_SamePackage N (([] : Str), [t22.1]) (([] : Str), [t31.1])) fun t50 =>
     br (!t50)
       (some false)
       (bnd (config_Depends N x0 x1) fun t56 =>
       bnd (ref3_Depends N x0 x1) fun t62 =>
       br (t56.1 == t62.1)
         (bnd (slices_Equal_string_string N t56.2 t62.2) fun t71 =>
         br (t71)
           (bnd (law3_awake N) fun t74 =>
           some t74)
           (some false))
         (some false))))
abbrev z13sg (f : SV [.v τ4, .v τ13, .v τ0, .v τ16] → BV [] → Option (Bool)) : AF := { ps := [.v τ4, .v τ13, .v τ0, .v τ16], bs := [], rs := [.v .bool], cs := [], R := Bool, out := fun z => ((z, ()), ()), f := f }
noncomputable abbrev z13g (N : Nat) : AF := z13sg fun x _ => law3_ConfigPlainMatchesSpec N x.1 x.2.1 x.2.2.1 x.2.2.2.1
abbrev z13pk : SV [.v .bool] → BV [] → Bool := fun x _ => x.1
def z13fn (N : Nat) : FuncId → Option Tmp → Option AF := fun f _ =>
 match f with
   | 11 => some (z111g N)
   | 20 => some (z16g N)
   | 22 => some (z87g N)
   | 23 => some (z112g N)
   | 24 => some (z54g N)
   | 25 => some (z69g N)
   | 26 => some (z90g N)
   | _ => none
theorem z13fn_ok (N : Nat) : FnOk (z13fn N) := by
 intro f q F h
 unfold z13fn at h
 split at h
 · cases h; exact z111sound N
 · cases h; exact z16sound N
 · cases h; exact z87sound N
 · cases h; exact z112sound N
 · cases h; exact z54sound N
 · cases h; exact z69sound N
 · cases h; exact z90sound N
 · cases h
def z13h : Nat → Hint := fun i =>
 match i with
 | _ => hint0
abbrev z13E (N : Nat) : Env := mkE z13h (z13fn N) FF FF
noncomputable def z13LP (N : Nat) : Nat → Code → St → (Ex → St → Option Bool) → Option Bool := fun i c =>
 match i with
 | i => fun st k => iter (z13h i) (exec (z13E N) N c i) N st k
theorem z13core (N : Nat) (x : SV [.v τ4, .v τ13, .v τ0, .v τ16]) (y : BV []) : runL (z13E N) Tryz.f6 (z13g N) z13pk (z13LP N) x y = law3_ConfigPlainMatchesSpec N x.1 x.2.1 x.2.2.1 x.2.2.2.1 := by kernel_rfl
theorem z13sound (N : Nat) : Snd 6 (z13g N) :=
 sndL (z13fn_ok N) Tryz.func6 rfl Tryz.call6 (z13g N) z13pk (fun _ _ => rfl) N (z13LP N) (show LoopsOk (z13LP N) (z13E N) N (resD (z13E N) Tryz.f6 (z13g N) z13pk) [] from trivial) (z13core N)
end
end Go.Proofs.YtbekhaioddmliaaGreatDoor


/- What functions of the program compute, as plain functions (printed). -/
namespace Go.Proofs.YtbekhaioddmliaaGreatDoor
open Go Go.RowKit
set_option maxRecDepth 100000
set_option linter.unusedVariables false
noncomputable section
end
end Go.Proofs.YtbekhaioddmliaaGreatDoor


/- The arguments of a law, as the statement's reading hands them over, as data of the machine: any type. -/
namespace Go.Proofs.YtbekhaioddmliaaGreatDoor
set_option linter.unusedVariables false
set_option linter.unusedSimpArgs false
open Go Go.RowKit Go.ChangeShapes Go.WideShapes
def FitG (RR : (i : RC) → i.den → Prop) : (t : Ty) → t.den → Prop
 | .u8, _ => True
 | .int k, x => (Lit.int k x).wf = true
 | .bool, _ => True
 | .str, x => x.length ≤ maxLen
 | .sl t, xs => xs.length ≤ maxLen ∧ ∀ x ∈ xs, FitG RR t x
 | .pr a b, x => FitG RR a x.1 ∧ FitG RR b x.2
 | .un, _ => True
 | .mp _, _ => True
 | .ptr _, _ => True
 | .np _, _ => True
 | .clo _ _, _ => True
 | .rc i, x => RR i x
def FitR (i : RC) (x : i.den) : Prop := ∀ RR : (i : RC) → i.den → Prop, (∀ j y, FitG RR j.body (j.un y) → RR j y) → RR i x
def Fit : (t : Ty) → t.den → Prop := FitG FitR
theorem FitG.mono {RR RR' : (i : RC) → i.den → Prop} (hR : ∀ i x, RR i x → RR' i x) : ∀ (t : Ty) (x : t.den), FitG RR t x → FitG RR' t x
 | .u8, _, h => h
 | .int _, _, h => h
 | .bool, _, h => h
 | .str, _, h => h
 | .sl t, _, h => ⟨h.1, fun x hx => FitG.mono hR t x (h.2 x hx)⟩
 | .pr a b, _, h => ⟨FitG.mono hR a _ h.1, FitG.mono hR b _ h.2⟩
 | .un, _, h => h
 | .mp _, _, h => h
 | .ptr _, _, h => h
 | .np _, _, h => h
 | .clo _ _, _, h => h
 | .rc i, x, h => hR i x h
theorem FitR.intro {i : RC} {x : i.den} (h : Fit i.body (i.un x)) : FitR i x :=
 fun RR hc => hc i x (FitG.mono (fun j y hy => hy RR hc) _ _ h)
theorem FitR.elim {i : RC} {x : i.den} (h : FitR i x) : Fit i.body (i.un x) :=
 h (fun j y => Fit j.body (j.un y)) fun _ _ hy => FitG.mono (fun _ _ h => FitR.intro h) _ _ hy
mutual
inductive Deep (P : Program) (R : RC → Option TypeId) : Ty → TypeId → Prop where
 | u8 {T : TypeId} : P.underlying T = some (.int .u8) → Deep P R .u8 T
 | int {T : TypeId} {k : IntKind} : P.underlying T = some (.int k) → Deep P R (.int k) T
 | bool {T : TypeId} : P.underlying T = some .bool → Deep P R .bool T
 | str {T : TypeId} : P.underlying T = some .string → Deep P R .str T
 | sl {T e : TypeId} {t : Ty} : P.underlying T = some (.slice e) → P.cellsOf e = t.sz → Deep P R t e → Deep P R (.sl t) T
 | st {T : TypeId} {t : Ty} {fs : Array Field} : P.underlying T = some (.struct fs) → P.cellsOf T = t.sz → t.isAgg = true → DeepF P R t fs.toList 0 → Deep P R t T
 | rc {T : TypeId} {i : RC} : R i = some T → Deep P R (.rc i) T
inductive DeepF (P : Program) (R : RC → Option TypeId) : Ty → List Field → Nat → Prop where
 | nil {o : Nat} : DeepF P R .un [] o
 | one {t : Ty} {f : Field} {o : Nat} : f.offset = o → P.cellsOf f.type = t.sz → Deep P R t f.type → DeepF P R t [f] o
 | single {t : Ty} {f : Field} {o : Nat} : f.offset = o → P.cellsOf f.type = t.sz → Deep P R t f.type → DeepF P R (.pr t .un) [f] o
 | cons {a b : Ty} {f : Field} {fs : List Field} {o : Nat} : f.offset = o → P.cellsOf f.type = a.sz → Deep P R a f.type → DeepF P R b fs (o + a.sz) → DeepF P R (.pr a b) (f :: fs) o
end
def RcOk (P : Program) (R : RC → Option TypeId) : Prop := ∀ i T, R i = some T → ∃ fs, P.underlying T = some (.struct fs) ∧ P.cellsOf T = i.sz ∧ DeepF P R i.body fs.toList 0
abbrev M00 : Nat → Nat → Prop := fun _ _ => False
section
variable {H : Type} {enc : TypeId × Value → H} {P : Program} {w : World} {spare : Nat → Bool} {held : Bool} {R : RC → Option TypeId}
theorem choose_list {α : Type} {p : Nat → α → Prop} : ∀ n, (∀ i, i < n → ∃ x, p i x) → ∃ l : List α, l.length = n ∧ ∀ i (h : i < l.length), p i l[i]
 | 0, _ => ⟨[], rfl, fun i h => absurd h (Nat.not_lt_zero _)⟩
 | n + 1, h => by
   obtain ⟨l, hl, hp⟩ := choose_list n fun i hi => h i (Nat.lt_succ_of_lt hi)
   obtain ⟨x, hx⟩ := h n (Nat.lt_succ_self _)
   refine ⟨l ++ [x], by simp [hl], fun i hi => ?_⟩
   rcases Nat.lt_or_ge i l.length with h' | h'
   · rw [List.getElem_append_left h']; exact hp i h'
   · have : i = l.length := by simp at hi; omega
     subst this
     simp [hl, hx]
theorem pl_of_cells {a : Addr} {n : Nat} {cs : List Value} (h : w.cells? 0 a n = some cs) : Pl M00 w a cs := by
 intro j u hu
 refine ⟨?_, id⟩
 unfold World.cells? at h
 rw [if_pos (Nat.zero_le _)] at h
 have hl := mapM_some_length h
 have hj : j < n := by
   rcases Nat.lt_or_ge j cs.length with h' | h'
   · rw [hl, List.length_range] at h'; exact h'
   · rw [List.getElem?_eq_none h'] at hu; cases hu
 have := mapM_some_get h j j (by rw [List.getElem?_range hj])
 rw [this]; exact hu
end
theorem law_run {P : Program} {f : FuncId} {ps : List Sl} {F : SV ps → BV [] → Option Bool} {out : Bool → SV [.v .bool] × BV []} (hout : ∀ z, (out z).1 = (z, ())) (hs : Sound P GW B0G f ⟨ps, [], [.v .bool], [], Bool, out, F⟩)
   {W : World} {vs : List Value} {x : SV ps} (hg : GW W) (ha : All2 (RepD0 M00 W g0) (lays id ps x) vs) (hf : F x () = some true) : Calls P f vs.toArray W fun e W' => e = .returned (.bool true) ∧ Ext W W' := by
 refine (hs.2 M00 W g0 vs x () true hg (GW_size hg) { args := ha, res := fun r blk h => (by cases h), dom := fun r gx h => (by cases h), inj := fun _ _ _ _ _ h => (by cases h), low := fun _ _ _ h => (by cases h), chg := fun _ _ _ _ h => (by cases h), mlt := fun b o h => h.elim, row := fun _ _ _ h => (by cases h) } hf).mono fun e W' hp => ?_
 obtain ⟨vs', g', he, hE, _, hF, _⟩ := hp
 refine ⟨?_, hE.ext fun b hb => ?_⟩
 · have := hF.args
   rw [hout] at this
   match vs', this with
   | [v], ⟨h1, _⟩ =>
     have h2 := RepV.plain (t := .bool) rfl h1
     have h3 : [v] = [.bool true] := h2
     injection h3 with h3
     rw [he, h3]
     rfl
 · obtain ⟨r, x, h, _⟩ := hb
   cases h
end Go.Proofs.YtbekhaioddmliaaGreatDoor

