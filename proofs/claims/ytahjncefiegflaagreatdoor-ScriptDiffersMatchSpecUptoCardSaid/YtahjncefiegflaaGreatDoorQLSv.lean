/- What functions of the program compute, as plain functions (printed). -/
import Derived.Test.YtahjncefiegflaaGreatDoorQDiF8
import Derived.Test.YtahjncefiegflaaGreatDoorQCnV
import Derived.ProofKit
import Derived.OpenShut
import Derived.ShutString
import Derived.DataReads
import Derived.ChangeShapes
import Derived.WideShapes
import Derived.Test.YtahjncefiegflaaGreatDoorRows
import Derived.Test.YtahjncefiegflaaGreatDoorQFor2
namespace Go.Proofs.YtahjncefiegflaaGreatDoor
open Go Go.RowKit
set_option maxRecDepth 100000
set_option linter.unusedVariables false
noncomputable section
def z58L0T (_N : Nat) (c35 : Int) (t34 : List τ2) (k0 : τ10 → Option τ9) (self : Int → τ10 → Option τ9) (s36 : Int) (w1008 : List Str) : Option τ9 :=
 br (decide (s36 < c35))
   (bnd (geti t34 s36) fun t38 =>
   br (decide ((w1008.length + [t38.1].length) * (24 * Ty.sz .str) ≤ 140737488355328))
     (self (IntKind.i64.wrap (s36 + (1 : Int))) (w1008 ++ [t38.1]))
     none)
   (k0 w1008)
def z58L0 (N : Nat) (c35 : Int) (t34 : List τ2) (k0 : τ10 → Option τ9) : Nat → Int → τ10 → Option τ9
 | 0, _, _ => none
 | n + 1, s36, w1008 => z58L0T N c35 t34 k0 (z58L0 N c35 t34 k0 n) s36 w1008
def z58L1T (N : Nat) (c50 : Int) (c1002_0_1 : Str) (c1002_1_2 : List τ2) (c1003_0_3 : Str) (c1003_1_4 : List τ2) (t49 : List Str) (k2 : (List τ4) → Option τ9) (self : Int → (List τ4) → Option τ9) (s51 : Int) (w1011 : List τ4) : Option τ9 :=
 br (decide (s51 < c50))
   (br (decide (0 ≤ s51 ∧ s51 < (t49.length : Int)))
     (bnd (geti t49 s51) fun t54 =>
     bnd (ref2_targetOf N (c1002_0_1, c1002_1_2) t54) fun t58 =>
     bnd (ref2_targetOf N (c1003_0_3, c1003_1_4) t54) fun t64 =>
     bnd (ref2_otherAttrs N t58.1 t64.1) fun t69 =>
     br (!t58.2)
       (br (decide ((w1011.length + [(t54, ((1 : Int), ([] : List Str)))].length) * (24 * Ty.sz τ7) ≤ 140737488355328))
         (self (IntKind.i64.wrap (s51 + (1 : Int))) (w1011 ++ [(t54, ((1 : Int), ([] : List Str)))]))
         none)
       (br (!t64.2)
         (br (decide ((w1011.length + [(t54, ((2 : Int), ([] : List Str)))].length) * (24 * Ty.sz τ7) ≤ 140737488355328))
           (self (IntKind.i64.wrap (s51 + (1 : Int))) (w1011 ++ [(t54, ((2 : Int), ([] : List Str)))]))
           none)
         (br (decide ((t69.length : Int) > (0 : Int)))
           (br (decide ((w1011.length + [(t54, ((3 : Int), t69))].length) * (24 * Ty.sz τ7) ≤ 140737488355328))
             (self (IntKind.i64.wrap (s51 + (1 : Int))) (w1011 ++ [(t54, ((3 : Int), t69))]))
             none)
           (self (IntKind.i64.wrap (s51 + (1 : Int))) w1011))))
     none)
   (k2 w1011)
def z58L1 (N : Nat) (c50 : Int) (c1002_0_1 : Str) (c1002_1_2 : List τ2) (c1003_0_3 : Str) (c1003_1_4 : List τ2) (t49 : List Str) (k2 : (List τ4) → Option τ9) : Nat → Int → (List τ4) → Option τ9
 | 0, _, _ => none
 | n + 1, s51, w1011 => z58L1T N c50 c1002_0_1 c1002_1_2 c1003_0_3 c1003_1_4 t49 k2 (z58L1 N c50 c1002_0_1 c1002_1_2 c1003_0_3 c1003_1_4 t49 k2 n) s51 w1011
def ref2_Differ (N : Nat) (x0 : Str × List τ2) (x1 : Str × List τ2) : Option τ9 :=
 bnd (ref2_CheckPackage N x0) fun t20 =>
 br (t20 != (0 : Int))
   (some (t20, ([] : List τ4)))
   (bnd (ref2_CheckPackage N x1) fun t25 =>
   br (t25 != (0 : Int))
     (some (t25, ([] : List τ4)))
     (bnd (slices_Concat_api_Target N [x0.2, x1.2]) fun t34 =>
     z58L0 N (t34.length : Int) t34 (fun o0_w1008 =>
         bnd (slices_Sort_string_string o0_w1008) fun t47 =>
         bnd (slices_Compact_string_string t47) fun t49 =>
         z58L1 N (t49.length : Int) x0.1 x0.2 x1.1 x1.2 t49 (fun o1_w1011 =>
             some ((0 : Int), o1_w1011)) N (0 : Int) ([] : List τ4)) N (0 : Int) ([] : List Str)))
abbrev z58sg (f : SV [.v τ12, .v τ12] → BV [] → Option τ9) : AF := { ps := [.v τ12, .v τ12], bs := [], rs := [.row 0, .v τ5], cs := [.row 98 τ7 true], R := Int × List τ4, out := fun z => (((), z.1, ()), (z.2, ())), f := f }
noncomputable abbrev z58g (N : Nat) : AF := z58sg fun x _ => ref2_Differ N x.1 x.2.1
abbrev z58pk : SV [.row 0, .v τ5] → BV [.row 98 τ7 true] → τ9 := fun x y => (x.2.1, y.1)
def z58fn (N : Nat) : FuncId → Option Tmp → Option AF := fun f _ =>
 match f with
   | 21 => some (z27g N)
   | 69 => some (z13g N)
   | 70 => some (slices_Sort_string_string_sg fun _ y => slices_Sort_string_string y.1)
   | 71 => some (slices_Compact_string_string_sg fun _ y => slices_Compact_string_string y.1)
   | 72 => some (z47g N)
   | 73 => some (z41g N)
   | _ => none
theorem z58fn_ok (N : Nat) : FnOk (z58fn N) := by
 intro f q F h
 unfold z58fn at h
 split at h
 · cases h; exact z27sound N
 · cases h; exact z13sound N
 · cases h; exact slices_Sort_string_string_sound
 · cases h; exact slices_Compact_string_string_sound
 · cases h; exact z47sound N
 · cases h; exact z41sound N
 · cases h
def z58h : Nat → Hint := fun i =>
 match i with
 | 0 => ⟨[], [2, 3, 8, 34, 35, 36], [1002, 1003, 1008, 103400], [2, 3, 8], [1002, 1003, 1008], []⟩
 | 2 => ⟨[], [2, 3, 11, 49, 50, 51], [1002, 1003, 1008, 1011], [11], [1011], []⟩
 | _ => hint0
abbrev z58E (N : Nat) : Env := mkE z58h (z58fn N) (fun i => match i with | 4 => true | 5 => true | 6 => true | 7 => true | 8 => true | 11 => true | 13 => true | 15 => true | 17 => true | 18 => true | 33 => true | 35 => true | 43 => true | 44 => true | 50 => true | 70 => true | 76 => true | 77 => true | 78 => true | 84 => true | 85 => true | 86 => true | 88 => true | 94 => true | 95 => true | _ => false) (fun _ => false)
noncomputable abbrev z58c1 : Code := cAt (bodyOf Tryz.f29) [true, true, true, true, false, true, false, false]
noncomputable abbrev z58c0 : Code := cAt (bodyOf Tryz.f29) [true, true, true, true, true, true, true, false, true, false, false]
noncomputable abbrev z58R (N : Nat) := resD (z58E N) Tryz.f29 (z58g N) z58pk
abbrev z58L0_fs : List (Nat × Sl) := [(2, .box 1002 0), (3, .box 1003 0), (8, .row 1008), (34, .row 103400), (35, .v τ5), (36, .v τ5)]
abbrev z58L0_bs : List (Nat × Sb) := [(1002, .cells [.v .str, .v (.sl τ3)]), (1003, .cells [.v .str, .v (.sl τ3)]), (1008, .row 9 .str true), (103400, .row 40 τ3 false)]
def z58L0_hd (c35 : Int) (κ2_0 : Str) (κ2_1 : List τ2) (κ3_0 : Str) (κ3_1 : List τ2) (t34 : List τ2) (s36 : Int) (w1008 : List Str) : St := ⟨98, [(2, .box 1002 0), (3, .box 1003 0), (8, .row 1008), (34, .row 103400), (35, .v τ5 c35), (36, .v τ5 s36)], [(1002, .cells [.v .str κ2_0, .v (.sl τ3) κ2_1]), (1003, .cells [.v .str κ3_0, .v (.sl τ3) κ3_1]), (1008, .row 9 .str true w1008), (103400, .row 40 τ3 false t34)]⟩
def z58L0_tl0 (_c35 : Int) (κ2_0 : Str) (κ2_1 : List τ2) (κ3_0 : Str) (κ3_1 : List τ2) (_t34 : List τ2) (o0_w1008 : List Str) : St := ⟨98, [(2, .box 1002 0), (3, .box 1003 0), (8, .row 1008)], [(1002, .cells [.v .str κ2_0, .v (.sl τ3) κ2_1]), (1003, .cells [.v .str κ3_0, .v (.sl τ3) κ3_1]), (1008, .row 9 .str true o0_w1008)]⟩
def z58L0_G (N : Nat) (c35 : Int) (κ2_0 : Str) (κ2_1 : List τ2) (κ3_0 : Str) (κ3_1 : List τ2) (t34 : List τ2) (s36 : Int) (w1008 : List Str) (k : Ex → St → Option τ9) : Option τ9 :=
 z58L0 N c35 t34 (fun o0_w1008 => k (.exit 0) (z58L0_tl0 c35 κ2_0 κ2_1 κ3_0 κ3_1 t34 o0_w1008)) N s36 w1008
abbrev z58L0_F (N : Nat) : FV z58L0_fs → HV z58L0_bs → (Ex → St → Option τ9) → Option τ9 := fun x y k => z58L0_G N x.2.2.2.2.1 y.1.1 y.1.2.1 y.2.1.1 y.2.1.2.1 y.2.2.2.1 x.2.2.2.2.2.1 y.2.2.1 k
abbrev z58L1_fs : List (Nat × Sl) := [(2, .box 1002 0), (3, .box 1003 0), (11, .row 1011), (49, .row 1008), (50, .v τ5), (51, .v τ5)]
abbrev z58L1_bs : List (Nat × Sb) := [(1002, .cells [.v .str, .v (.sl τ3)]), (1003, .cells [.v .str, .v (.sl τ3)]), (1008, .row 9 .str true), (1011, .row 98 τ7 true)]
def z58L1_hd (c50 : Int) (c1002_0_1 : Str) (c1002_1_2 : List τ2) (c1003_0_3 : Str) (c1003_1_4 : List τ2) (t49 : List Str) (s51 : Int) (w1011 : List τ4) : St := ⟨98, [(2, .box 1002 0), (3, .box 1003 0), (11, .row 1011), (49, .row 1008), (50, .v τ5 c50), (51, .v τ5 s51)], [(1002, .cells [.v .str c1002_0_1, .v (.sl τ3) c1002_1_2]), (1003, .cells [.v .str c1003_0_3, .v (.sl τ3) c1003_1_4]), (1008, .row 9 .str true t49), (1011, .row 98 τ7 true w1011)]⟩
def z58L1_tl2 (_c50 : Int) (_c1002_0_1 : Str) (_c1002_1_2 : List τ2) (_c1003_0_3 : Str) (_c1003_1_4 : List τ2) (_t49 : List Str) (o1_w1011 : List τ4) : St := ⟨98, [(11, .row 1011)], [(1011, .row 98 τ7 true o1_w1011)]⟩
def z58L1_G (N : Nat) (c50 : Int) (c1002_0_1 : Str) (c1002_1_2 : List τ2) (c1003_0_3 : Str) (c1003_1_4 : List τ2) (t49 : List Str) (s51 : Int) (w1011 : List τ4) (k : Ex → St → Option τ9) : Option τ9 :=
 z58L1 N c50 c1002_0_1 c1002_1_2 c1003_0_3 c1003_1_4 t49 (fun o1_w1011 => k (.exit 2) (z58L1_tl2 c50 c1002_0_1 c1002_1_2 c1003_0_3 c1003_1_4 t49 o1_w1011)) N s51 w1011
abbrev z58L1_F (N : Nat) : FV z58L1_fs → HV z58L1_bs → (Ex → St → Option τ9) → Option τ9 := fun x y k => z58L1_G N x.2.2.2.2.1 y.1.1 y.1.2.1 y.2.1.1 y.2.1.2.1 y.2.2.1 x.2.2.2.2.2.1 y.2.2.2.1 k
noncomputable def z58LP (N : Nat) : Nat → Code → St → (Ex → St → Option τ9) → Option τ9 := fun i c =>
 match i with
 | 0 => (LPc 98 z58L0_fs z58L0_bs (z58L0_F N) (fun st k => iter (z58h 0) (exec (z58E N) N c 0) N st k))
 | 2 => (LPc 98 z58L1_fs z58L1_bs (z58L1_F N) (fun st k => iter (z58h 2) (exec (z58E N) N c 2) N st k))
 | i => fun st k => iter (z58h i) (exec (z58E N) N c i) N st k
theorem z58L1_step (N : Nat) (c50 : Int) (c1002_0_1 : Str) (c1002_1_2 : List τ2) (c1003_0_3 : Str) (c1003_1_4 : List τ2) (t49 : List Str) (KX : Nat → St → Option τ9) (I : St → Option τ9) (s51 : Int) (w1011 : List τ4) :
   execL (z58LP N) (z58E N) z58c0 2 (z58L1_hd c50 c1002_0_1 c1002_1_2 c1003_0_3 c1003_1_4 t49 s51 w1011) (roundK (z58h 2) I KX (z58R N)) = z58L1T N c50 c1002_0_1 c1002_1_2 c1003_0_3 c1003_1_4 t49 (fun o1_w1011 => KX 2 (z58L1_tl2 c50 c1002_0_1 c1002_1_2 c1003_0_3 c1003_1_4 t49 o1_w1011)) (fun s51 w1011 => I (z58L1_hd c50 c1002_0_1 c1002_1_2 c1003_0_3 c1003_1_4 t49 s51 w1011)) s51 w1011 := by kernel_rfl
theorem z58L1_ok (N : Nat) : ∀ x y k, (∀ st, k .ret st = (z58R N) st) → iter (z58h 2) (exec (z58E N) N z58c0 2) N ⟨98, unF z58L1_fs x, unH z58L1_bs y⟩ k = z58L1_F N x y k := fun x y k hk =>
 iter_link (S := (Int) × (List τ4) × Unit) (z58h 2) _ (execL (z58LP N) (z58E N) z58c0 2) (z58R N) (fun st k hk => execL_eq _ _ N _ z58c0 2 (show LoopsOk (z58LP N) (z58E N) N (z58R N) [] from trivial) st k hk) (fun s => z58L1_hd x.2.2.2.2.1 y.1.1 y.1.2.1 y.2.1.1 y.2.1.2.1 y.2.2.1 s.1 s.2.1) k hk
   (fun self s => z58L1T N x.2.2.2.2.1 y.1.1 y.1.2.1 y.2.1.1 y.2.1.2.1 y.2.2.1 (fun o1_w1011 => k (.exit 2) (z58L1_tl2 x.2.2.2.2.1 y.1.1 y.1.2.1 y.2.1.1 y.2.1.2.1 y.2.2.1 o1_w1011)) (fun s51 w1011 => self (s51, w1011, ())) s.1 s.2.1) (fun n s => z58L1 N x.2.2.2.2.1 y.1.1 y.1.2.1 y.2.1.1 y.2.1.2.1 y.2.2.1 (fun o1_w1011 => k (.exit 2) (z58L1_tl2 x.2.2.2.2.1 y.1.1 y.1.2.1 y.2.1.1 y.2.1.2.1 y.2.2.1 o1_w1011)) n s.1 s.2.1) (fun _ => rfl) (fun _ _ => rfl)
   (fun I s => z58L1_step N x.2.2.2.2.1 y.1.1 y.1.2.1 y.2.1.1 y.2.1.2.1 y.2.2.1 (fun j => k (.exit j)) I s.1 s.2.1) N (x.2.2.2.2.2.1, y.2.2.2.1, ())
theorem z58lp2 (N : Nat) : ∀ st k, (∀ st, k .ret st = (z58R N) st) → z58LP N 2 z58c0 st k = iter (Env.hint (z58E N) 2) (exec (z58E N) N z58c0 2) N st k := fun st k hk => LPc_eq 98 z58L1_fs z58L1_bs _ _ (z58R N) (z58L1_ok N) _ st k hk (rfl)
theorem z58L0_step (N : Nat) (c35 : Int) (κ2_0 : Str) (κ2_1 : List τ2) (κ3_0 : Str) (κ3_1 : List τ2) (t34 : List τ2) (KX : Nat → St → Option τ9) (I : St → Option τ9) (s36 : Int) (w1008 : List Str) :
   execL (z58LP N) (z58E N) z58c1 0 (z58L0_hd c35 κ2_0 κ2_1 κ3_0 κ3_1 t34 s36 w1008) (roundK (z58h 0) I KX (z58R N)) = z58L0T N c35 t34 (fun o0_w1008 => KX 0 (z58L0_tl0 c35 κ2_0 κ2_1 κ3_0 κ3_1 t34 o0_w1008)) (fun s36 w1008 => I (z58L0_hd c35 κ2_0 κ2_1 κ3_0 κ3_1 t34 s36 w1008)) s36 w1008 := by kernel_rfl
theorem z58L0_ok (N : Nat) : ∀ x y k, (∀ st, k .ret st = (z58R N) st) → iter (z58h 0) (exec (z58E N) N z58c1 0) N ⟨98, unF z58L0_fs x, unH z58L0_bs y⟩ k = z58L0_F N x y k := fun x y k hk =>
 iter_link (S := (Int) × τ10 × Unit) (z58h 0) _ (execL (z58LP N) (z58E N) z58c1 0) (z58R N) (fun st k hk => execL_eq _ _ N _ z58c1 0 (show LoopsOk (z58LP N) (z58E N) N (z58R N) [] from trivial) st k hk) (fun s => z58L0_hd x.2.2.2.2.1 y.1.1 y.1.2.1 y.2.1.1 y.2.1.2.1 y.2.2.2.1 s.1 s.2.1) k hk
   (fun self s => z58L0T N x.2.2.2.2.1 y.2.2.2.1 (fun o0_w1008 => k (.exit 0) (z58L0_tl0 x.2.2.2.2.1 y.1.1 y.1.2.1 y.2.1.1 y.2.1.2.1 y.2.2.2.1 o0_w1008)) (fun s36 w1008 => self (s36, w1008, ())) s.1 s.2.1) (fun n s => z58L0 N x.2.2.2.2.1 y.2.2.2.1 (fun o0_w1008 => k (.exit 0) (z58L0_tl0 x.2.2.2.2.1 y.1.1 y.1.2.1 y.2.1.1 y.2.1.2.1 y.2.2.2.1 o0_w1008)) n s.1 s.2.1) (fun _ => rfl) (fun _ _ => rfl)
   (fun I s => z58L0_step N x.2.2.2.2.1 y.1.1 y.1.2.1 y.2.1.1 y.2.1.2.1 y.2.2.2.1 (fun j => k (.exit j)) I s.1 s.2.1) N (x.2.2.2.2.2.1, y.2.2.1, ())
theorem z58lp0 (N : Nat) : ∀ st k, (∀ st, k .ret st = (z58R N) st) → z58LP N 0 z58c1 st k = iter (Env.hint (z58E N) 0) (exec (z58E N) N z58c1 0) N st k := fun st k hk => LPc_eq 98 z58L0_fs z58L0_bs _ _ (z58R N) (z58L0_ok N) _ st k hk (rfl)
theorem z58core (N : Nat) (x : SV [.v τ12, .v τ12]) (y : BV []) : runL (z58E N) Tryz.f29 (z58g N) z58pk (z58LP N) x y = ref2_Differ N x.1 x.2.1 := by kernel_rfl
theorem z58sound (N : Nat) : Snd 29 (z58g N) :=
 runD_sound (mkE_ok z58h (z58fn N) _ _ (z58fn_ok N)) Tryz.func29 rfl Tryz.call29 (z58g N) z58pk (fun _ _ => rfl) N (fun x y _ h => ((runL_eq (z58E N) N Tryz.f29 (z58g N) z58pk (z58LP N) (show LoopsOk (z58LP N) (z58E N) N (z58R N) [(0, z58c1), (2, z58c0)] from ⟨z58lp0 N, z58lp2 N, trivial⟩) x y).trans (z58core N x y)).trans h)
def z32L0T (N : Nat) (x0 : List τ4) (x1 : List τ4) (c12 : Int) (k0 : Option Bool) (self : Int → Option Bool) (s13 : Int) : Option Bool :=
 br (decide (s13 < c12))
   (bnd (geti x0 s13) fun t18 =>
   bnd (geti x1 s13) fun t23 =>
   br (!(t18.1 == t23.1))
     (some false)
     (bnd (geti x0 s13) fun t30 =>
     bnd (geti x1 s13) fun t35 =>
     br (t30.2.1 != t35.2.1)
       (some false)
       (bnd (geti x0 s13) fun t43 =>
       bnd (geti x1 s13) fun t48 =>
       bnd (slices_Equal_string_string N t43.2.2 t48.2.2) fun t51 =>
       br (!t51)
         (some false)
         (self (IntKind.i64.wrap (s13 + (1 : Int)))))))
   (k0)
def z32L0 (N : Nat) (x0 : List τ4) (x1 : List τ4) (c12 : Int) (k0 : Option Bool) : Nat → Int → Option Bool
 | 0, _ => none
 | n + 1, s13 => z32L0T N x0 x1 c12 k0 (z32L0 N x0 x1 c12 k0 n) s13
def ref2_SameChanges (N : Nat) (x0 : List τ4) (x1 : List τ4) : Option Bool :=
 br ((x0.length : Int) != (x1.length : Int))
   (some false)
   (z32L0 N x0 x1 (x0.length : Int) (some true) N (0 : Int))
abbrev z32sg (f : SV [.v (.sl τ7), .v (.sl τ7)] → BV [] → Option (Bool)) : AF := { ps := [.v (.sl τ7), .v (.sl τ7)], bs := [], rs := [.v .bool], cs := [], R := Bool, out := fun z => ((z, ()), ()), f := f }
noncomputable abbrev z32g (N : Nat) : AF := z32sg fun x _ => ref2_SameChanges N x.1 x.2.1
abbrev z32pk : SV [.v .bool] → BV [] → Bool := fun x _ => x.1
def z32fn (N : Nat) : FuncId → Option Tmp → Option AF := fun f _ =>
 match f with
   | 37 => some (z8g N)
   | _ => none
theorem z32fn_ok (N : Nat) : FnOk (z32fn N) := by
 intro f q F h
 unfold z32fn at h
 split at h
 · cases h; exact z8sound N
 · cases h
def z32h : Nat → Hint := fun i =>
 match i with
 | 0 => ⟨[], [0, 1, 12, 13], [], [], [], []⟩
 | _ => hint0
abbrev z32E (N : Nat) : Env := mkE z32h (z32fn N) FF FF
noncomputable abbrev z32c0 : Code := cAt (bodyOf Tryz.f30) [true, true, false, true, false, false]
noncomputable abbrev z32R (N : Nat) := resD (z32E N) Tryz.f30 (z32g N) z32pk
abbrev z32L0_fs : List (Nat × Sl) := [(0, .v (.sl τ7)), (1, .v (.sl τ7)), (12, .v τ5), (13, .v τ5)]
abbrev z32L0_bs : List (Nat × Sb) := []
def z32L0_hd (x0 : List τ4) (x1 : List τ4) (c12 : Int) (s13 : Int) : St := ⟨55, [(0, .v (.sl τ7) x0), (1, .v (.sl τ7) x1), (12, .v τ5 c12), (13, .v τ5 s13)], []⟩
def z32L0_tl0 (_x0 : List τ4) (_x1 : List τ4) (_c12 : Int) : St := ⟨55, [], []⟩
def z32L0_G (N : Nat) (x0 : List τ4) (x1 : List τ4) (c12 : Int) (s13 : Int) (k : Ex → St → Option Bool) : Option Bool :=
 z32L0 N x0 x1 c12 (k (.exit 0) (z32L0_tl0 x0 x1 c12)) N s13
abbrev z32L0_F (N : Nat) : FV z32L0_fs → HV z32L0_bs → (Ex → St → Option Bool) → Option Bool := fun x _ k => z32L0_G N x.1 x.2.1 x.2.2.1 x.2.2.2.1 k
noncomputable def z32LP (N : Nat) : Nat → Code → St → (Ex → St → Option Bool) → Option Bool := fun i c =>
 match i with
 | 0 => (LPc 55 z32L0_fs z32L0_bs (z32L0_F N) (fun st k => iter (z32h 0) (exec (z32E N) N c 0) N st k))
 | i => fun st k => iter (z32h i) (exec (z32E N) N c i) N st k
theorem z32L0_step (N : Nat) (x0 : List τ4) (x1 : List τ4) (c12 : Int) (KX : Nat → St → Option Bool) (I : St → Option Bool) (s13 : Int) :
   execL (z32LP N) (z32E N) z32c0 0 (z32L0_hd x0 x1 c12 s13) (roundK (z32h 0) I KX (z32R N)) = z32L0T N x0 x1 c12 (KX 0 (z32L0_tl0 x0 x1 c12)) (fun s13 => I (z32L0_hd x0 x1 c12 s13)) s13 := by kernel_rfl
theorem z32L0_ok (N : Nat) : ∀ x y k, (∀ st, k .ret st = (z32R N) st) → iter (z32h 0) (exec (z32E N) N z32c0 0) N ⟨55, unF z32L0_fs x, unH z32L0_bs y⟩ k = z32L0_F N x y k := fun x _ k hk =>
 iter_link (S := (Int) × Unit) (z32h 0) _ (execL (z32LP N) (z32E N) z32c0 0) (z32R N) (fun st k hk => execL_eq _ _ N _ z32c0 0 (show LoopsOk (z32LP N) (z32E N) N (z32R N) [] from trivial) st k hk) (fun s => z32L0_hd x.1 x.2.1 x.2.2.1 s.1) k hk
   (fun self s => z32L0T N x.1 x.2.1 x.2.2.1 (k (.exit 0) (z32L0_tl0 x.1 x.2.1 x.2.2.1)) (fun s13 => self (s13, ())) s.1) (fun n s => z32L0 N x.1 x.2.1 x.2.2.1 (k (.exit 0) (z32L0_tl0 x.1 x.2.1 x.2.2.1)) n s.1) (fun _ => rfl) (fun _ _ => rfl)
   (fun I s => z32L0_step N x.1 x.2.1 x.2.2.1 (fun j => k (.exit j)) I s.1) N (x.2.2.2.1, ())
theorem z32lp0 (N : Nat) : ∀ st k, (∀ st, k .ret st = (z32R N) st) → z32LP N 0 z32c0 st k = iter (Env.hint (z32E N) 0) (exec (z32E N) N z32c0 0) N st k := fun st k hk => LPc_eq 55 z32L0_fs z32L0_bs _ _ (z32R N) (z32L0_ok N) _ st k hk (rfl)
theorem z32core (N : Nat) (x : SV [.v (.sl τ7), .v (.sl τ7)]) (y : BV []) : runL (z32E N) Tryz.f30 (z32g N) z32pk (z32LP N) x y = ref2_SameChanges N x.1 x.2.1 := by kernel_rfl
theorem z32sound (N : Nat) : Snd 30 (z32g N) :=
 sndL (z32fn_ok N) Tryz.func30 rfl Tryz.call30 (z32g N) z32pk (fun _ _ => rfl) N (z32LP N) (show LoopsOk (z32LP N) (z32E N) N (z32R N) [(0, z32c0)] from ⟨z32lp0 N, trivial⟩) (z32core N)
def law2_ScriptDiffersMatchSpec (N : Nat) (x0 : Str × List τ2) (x1 : Str × List τ2) : Option Bool :=
 bnd (script_Differ N x0 x1) fun t12 =>
 bnd (ref2_Differ N x0 x1) fun t18 =>
 br (t12.1 != t18.1)
   (some false)
   (bnd (ref2_SameChanges N t12.2 t18.2) fun t27 =>
   br (!t27)
     (some false)
     (bnd (law2_awake) fun t31 =>
     br (!t31)
       (some false)
       (br (t12.1 != (0 : Int))
         (some true)
         (bnd (script_Differ N x0 x0) fun t39 =>
         br (t39.1 == (0 : Int))
           (some ((t39.2.length : Int) == (0 : Int)))
           (some false)))))
abbrev z7sg (f : SV [.v τ12, .v τ12] → BV [] → Option (Bool)) : AF := { ps := [.v τ12, .v τ12], bs := [], rs := [.v .bool], cs := [], R := Bool, out := fun z => ((z, ()), ()), f := f }
noncomputable abbrev z7g (N : Nat) : AF := z7sg fun x _ => law2_ScriptDiffersMatchSpec N x.1 x.2.1
abbrev z7pk : SV [.v .bool] → BV [] → Bool := fun x _ => x.1
def z7fn (N : Nat) : FuncId → Option Tmp → Option AF := fun f _ =>
 match f with
   | 11 => some (law2_awake_sg fun _ _ => law2_awake)
   | 28 => some (z48g N)
   | 29 => some (z58g N)
   | 30 => some (z32g N)
   | _ => none
theorem z7fn_ok (N : Nat) : FnOk (z7fn N) := by
 intro f q F h
 unfold z7fn at h
 split at h
 · cases h; exact law2_awake_sound
 · cases h; exact z48sound N
 · cases h; exact z58sound N
 · cases h; exact z32sound N
 · cases h
def z7h : Nat → Hint := fun i =>
 match i with
 | _ => hint0
abbrev z7E (N : Nat) : Env := mkE z7h (z7fn N) FF FF
noncomputable def z7LP (N : Nat) : Nat → Code → St → (Ex → St → Option Bool) → Option Bool := fun i c =>
 match i with
 | i => fun st k => iter (z7h i) (exec (z7E N) N c i) N st k
theorem z7core (N : Nat) (x : SV [.v τ12, .v τ12]) (y : BV []) : runL (z7E N) Tryz.f8 (z7g N) z7pk (z7LP N) x y = law2_ScriptDiffersMatchSpec N x.1 x.2.1 := by kernel_rfl
theorem z7sound (N : Nat) : Snd 8 (z7g N) :=
 sndL (z7fn_ok N) Tryz.func8 rfl Tryz.call8 (z7g N) z7pk (fun _ _ => rfl) N (z7LP N) (show LoopsOk (z7LP N) (z7E N) N (resD (z7E N) Tryz.f8 (z7g N) z7pk) [] from trivial) (z7core N)
end
end Go.Proofs.YtahjncefiegflaaGreatDoor


/- Splitting, cutting and joining at one byte. No program in sight. -/
namespace Go.Proofs.YtahjncefiegflaaGreatDoor
set_option linter.unusedVariables false
set_option linter.unusedSimpArgs false
open Go Go.RowKit
def splitC (c : UInt8) : Str → List Str
 | [] => [[]]
 | b :: s => if b = c then [] :: splitC c s else match splitC c s with
   | x :: xs => (b :: x) :: xs
   | [] => [[b]]
theorem splitC_ne (c : UInt8) (s : Str) : splitC c s ≠ [] := by
 cases s with
 | nil => simp [splitC]
 | cons b s => unfold splitC; split; simp; split <;> simp
theorem indexByte_cons (b c : UInt8) (s : Str) : Lib.indexByte (b :: s) c = if b = c then 0 else if Lib.indexByte s c = -1 then -1 else Lib.indexByte s c + 1 := by
 have h := Lib.indexByte_ge s c
 rw [Lib.indexByte]
 by_cases hb : b = c
 · simp [hb]
 · simp only [beq_iff_eq, hb, if_false]
theorem splitK_one (c : UInt8) : ∀ (s : Str), Lib.splitK [c] 0 (Lib.count s [c]) s = splitC c s
 | [] => by simp [Lib.count_one, Lib.splitK, splitC]
 | b :: s => by
   have ih := splitK_one c s
   by_cases hb : b = c
   · subst hb
     rw [Lib.count_cons_eq, Nat.add_comm, Lib.splitK, Lib.index_one, indexByte_cons]
     simp only [if_true]
     show (_ :: Lib.splitK [b] 0 (Lib.count s [b]) s) = _
     rw [ih]
     simp [splitC]
   · rw [Lib.count_cons_ne _ _ _ hb]
     unfold splitC
     rw [if_neg hb, ← ih]
     cases hk : Lib.count s [c] with
     | zero => simp [Lib.splitK]
     | succ k =>
       rw [Lib.splitK, Lib.splitK, Lib.index_one, Lib.index_one, indexByte_cons, if_neg hb]
       have h0 := Lib.indexByte_ge s c
       by_cases h1 : Lib.indexByte s c = -1
       · simp [h1]
       · have h2 : ∃ n : Nat, Lib.indexByte s c = n := ⟨(Lib.indexByte s c).toNat, by omega⟩
         obtain ⟨n, hn⟩ := h2
         have e : ((n : Int) + 1).toNat = n + 1 := by omega
         have e1 : ¬ ((n : Int) = -1) := by omega
         have e2 : ¬ ((n : Int) + 1 = -1) := by omega
         simp [hn, e, e1, e2, Nat.add_right_comm]
theorem splitS_one (s : Str) (c : UInt8) : splitS s [c] = splitC c s := by
 unfold splitS
 have := Lib.splitB_data ⟨[c].toArray⟩ 0 (Lib.countB ⟨s.toArray⟩ ⟨[c].toArray⟩) ⟨s.toArray⟩
 rw [this]
 exact splitK_one c s
theorem splitC_len (c : UInt8) : ∀ s : Str, (splitC c s).length = s.count c + 1
 | [] => rfl
 | b :: s => by
   have ih := splitC_len c s
   unfold splitC
   by_cases hb : b = c
   · rw [if_pos hb]; simp [hb, ih]
   · rw [if_neg hb, List.count_cons_of_ne hb, ← ih]
     have := splitC_ne c s
     cases h : splitC c s with
     | nil => exact absurd h this
     | cons => rfl
theorem strings_Split_one (s : Str) (c : UInt8) (h : s.length < 4294967281) : strings_Split s [c] = some (splitC c s) := by
 have hc : s.count c ≤ s.length := List.count_le_length
 unfold strings_Split
 rw [splitS_one, splitC_len]
 refine if_pos ⟨h, by simp, ?_, by omega⟩
 show _ = Lib.count s [c] + 1
 rw [Lib.count_one]
theorem splitC_mem (c : UInt8) (s : Str) : ∀ x ∈ splitC c s, c ∉ x ∧ x.length ≤ s.length := by
 induction s with
 | nil => intro x hx; simp [splitC] at hx; subst hx; simp
 | cons b s ih =>
   intro x hx
   unfold splitC at hx
   by_cases hb : b = c
   · rw [if_pos hb] at hx
     rcases List.mem_cons.1 hx with rfl | hx
     · simp
     · have := ih x hx; exact ⟨this.1, by simp; omega⟩
   · rw [if_neg hb] at hx
     cases h : splitC c s with
     | nil => exact absurd h (splitC_ne c s)
     | cons y ys =>
       rw [h] at hx ih
       rcases List.mem_cons.1 hx with rfl | hx
       · have := ih y (by simp)
         refine ⟨fun hm => ?_, by simp; omega⟩
         rcases List.mem_cons.1 hm with e | hm
         · exact hb e.symm
         · exact this.1 hm
       · have := ih x (List.mem_cons_of_mem _ hx); exact ⟨this.1, by simp; omega⟩
end Go.Proofs.YtahjncefiegflaaGreatDoor


/- The arguments of a law, as the statement's reading hands them over, as data of the machine: any type. -/
namespace Go.Proofs.YtahjncefiegflaaGreatDoor
set_option linter.unusedVariables false
set_option linter.unusedSimpArgs false
open Go Go.RowKit Go.ChangeShapes Go.WideShapes
def FitG (RR : (i : RC) → i.den → Prop) : (t : Ty) → t.den → Prop
 | .u8, _ => True
 | .int k, x => (Lit.int k x).wf = true
 | .bool, _ => True
 | .str, x => x.length ≤ maxLen
 | .sl t, xs => xs.length ≤ maxLen ∧ ∀ x ∈ xs, FitG RR t x
 | .pr a b, x => FitG RR a x.1 ∧ FitG RR b x.2
 | .un, _ => True
 | .mp _, _ => True
 | .ptr _, _ => True
 | .np _, _ => True
 | .clo _ _, _ => True
 | .rc i, x => RR i x
def FitR (i : RC) (x : i.den) : Prop := ∀ RR : (i : RC) → i.den → Prop, (∀ j y, FitG RR j.body (j.un y) → RR j y) → RR i x
def Fit : (t : Ty) → t.den → Prop := FitG FitR
theorem FitG.mono {RR RR' : (i : RC) → i.den → Prop} (hR : ∀ i x, RR i x → RR' i x) : ∀ (t : Ty) (x : t.den), FitG RR t x → FitG RR' t x
 | .u8, _, h => h
 | .int _, _, h => h
 | .bool, _, h => h
 | .str, _, h => h
 | .sl t, _, h => ⟨h.1, fun x hx => FitG.mono hR t x (h.2 x hx)⟩
 | .pr a b, _, h => ⟨FitG.mono hR a _ h.1, FitG.mono hR b _ h.2⟩
 | .un, _, h => h
 | .mp _, _, h => h
 | .ptr _, _, h => h
 | .np _, _, h => h
 | .clo _ _, _, h => h
 | .rc i, x, h => hR i x h
theorem FitR.intro {i : RC} {x : i.den} (h : Fit i.body (i.un x)) : FitR i x :=
 fun RR hc => hc i x (FitG.mono (fun j y hy => hy RR hc) _ _ h)
theorem FitR.elim {i : RC} {x : i.den} (h : FitR i x) : Fit i.body (i.un x) :=
 h (fun j y => Fit j.body (j.un y)) fun _ _ hy => FitG.mono (fun _ _ h => FitR.intro h) _ _ hy
mutual
inductive Deep (P : Program) (R : RC → Option TypeId) : Ty → TypeId → Prop where
 | u8 {T : TypeId} : P.underlying T = some (.int .u8) → Deep P R .u8 T
 | int {T : TypeId} {k : IntKind} : P.underlying T = some (.int k) → Deep P R (.int k) T
 | bool {T : TypeId} : P.underlying T = some .bool → Deep P R .bool T
 | str {T : TypeId} : P.underlying T = some .string → Deep P R .str T
 | sl {T e : TypeId} {t : Ty} : P.underlying T = some (.slice e) → P.cellsOf e = t.sz → Deep P R t e → Deep P R (.sl t) T
 | st {T : TypeId} {t : Ty} {fs : Array Field} : P.underlying T = some (.struct fs) → P.cellsOf T = t.sz → t.isAgg = true → DeepF P R t fs.toList 0 → Deep P R t T
 | rc {T : TypeId} {i : RC} : R i = some T → Deep P R (.rc i) T
inductive DeepF (P : Program) (R : RC → Option TypeId) : Ty → List Field → Nat → Prop where
 | nil {o : Nat} : DeepF P R .un [] o
 | one {t : Ty} {f : Field} {o : Nat} : f.offset = o → P.cellsOf f.type = t.sz → Deep P R t f.type → DeepF P R t [f] o
 | single {t : Ty} {f : Field} {o : Nat} : f.offset = o → P.cellsOf f.type = t.sz → Deep P R t f.type → DeepF P R (.pr t .un) [f] o
 | cons {a b : Ty} {f : Field} {fs : List Field} {o : Nat} : f.offset = o → P.cellsOf f.type = a.sz → Deep P R a f.type → DeepF P R b fs (o + a.sz) → DeepF P R (.pr a b) (f :: fs) o
end
def RcOk (P : Program) (R : RC → Option TypeId) : Prop := ∀ i T, R i = some T → ∃ fs, P.underlying T = some (.struct fs) ∧ P.cellsOf T = i.sz ∧ DeepF P R i.body fs.toList 0
abbrev M00 : Nat → Nat → Prop := fun _ _ => False
section
variable {H : Type} {enc : TypeId × Value → H} {P : Program} {w : World} {spare : Nat → Bool} {held : Bool} {R : RC → Option TypeId}
theorem choose_list {α : Type} {p : Nat → α → Prop} : ∀ n, (∀ i, i < n → ∃ x, p i x) → ∃ l : List α, l.length = n ∧ ∀ i (h : i < l.length), p i l[i]
 | 0, _ => ⟨[], rfl, fun i h => absurd h (Nat.not_lt_zero _)⟩
 | n + 1, h => by
   obtain ⟨l, hl, hp⟩ := choose_list n fun i hi => h i (Nat.lt_succ_of_lt hi)
   obtain ⟨x, hx⟩ := h n (Nat.lt_succ_self _)
   refine ⟨l ++ [x], by simp [hl], fun i hi => ?_⟩
   rcases Nat.lt_or_ge i l.length with h' | h'
   · rw [List.getElem_append_left h']; exact hp i h'
   · have : i = l.length := by simp at hi; omega
     subst this
     simp [hl, hx]
theorem pl_of_cells {a : Addr} {n : Nat} {cs : List Value} (h : w.cells? 0 a n = some cs) : Pl M00 w a cs := by
 intro j u hu
 refine ⟨?_, id⟩
 unfold World.cells? at h
 rw [if_pos (Nat.zero_le _)] at h
 have hl := mapM_some_length h
 have hj : j < n := by
   rcases Nat.lt_or_ge j cs.length with h' | h'
   · rw [hl, List.length_range] at h'; exact h'
   · rw [List.getElem?_eq_none h'] at hu; cases hu
 have := mapM_some_get h j j (by rw [List.getElem?_range hj])
 rw [this]; exact hu
end
theorem law_run {P : Program} {f : FuncId} {ps : List Sl} {F : SV ps → BV [] → Option Bool} {out : Bool → SV [.v .bool] × BV []} (hout : ∀ z, (out z).1 = (z, ())) (hs : Sound P GW B0G f ⟨ps, [], [.v .bool], [], Bool, out, F⟩)
   {W : World} {vs : List Value} {x : SV ps} (hg : GW W) (ha : All2 (RepD0 M00 W g0) (lays id ps x) vs) (hf : F x () = some true) : Calls P f vs.toArray W fun e W' => e = .returned (.bool true) ∧ Ext W W' := by
 refine (hs.2 M00 W g0 vs x () true hg (GW_size hg) { args := ha, res := fun r blk h => (by cases h), dom := fun r gx h => (by cases h), inj := fun _ _ _ _ _ h => (by cases h), low := fun _ _ _ h => (by cases h), chg := fun _ _ _ _ h => (by cases h), mlt := fun b o h => h.elim, row := fun _ _ _ h => (by cases h) } hf).mono fun e W' hp => ?_
 obtain ⟨vs', g', he, hE, _, hF, _⟩ := hp
 refine ⟨?_, hE.ext fun b hb => ?_⟩
 · have := hF.args
   rw [hout] at this
   match vs', this with
   | [v], ⟨h1, _⟩ =>
     have h2 := RepV.plain (t := .bool) rfl h1
     have h3 : [v] = [.bool true] := h2
     injection h3 with h3
     rw [he, h3]
     rfl
 · obtain ⟨r, x, h, _⟩ := hb
   cases h
end Go.Proofs.YtahjncefiegflaaGreatDoor


/- The arguments of a law, with how much they hold together ('bulk'). -/
namespace Go.Proofs.YtahjncefiegflaaGreatDoor
set_option linter.unusedVariables false
set_option linter.unusedSimpArgs false
open Go Go.RowKit Go.ChangeShapes Go.WideShapes
def bulkG (rb : (i : RC) → i.den → Nat) : (t : Ty) → t.den → Nat
 | .u8, _ => 1
 | .int _, _ => 1
 | .bool, _ => 1
 | .str, x => x.length + 1
 | .sl t, xs => (xs.map (bulkG rb t)).sum + 1
 | .pr a b, x => bulkG rb a x.1 + bulkG rb b x.2
 | .un, _ => 0
 | .mp _, _ => 0
 | .ptr _, _ => 0
 | .np _, _ => 0
 | .clo _ _, _ => 0
 | .rc i, x => rb i x
def RbOk (rb : (i : RC) → i.den → Nat) : Prop := ∀ i x, rb i (i.mk x) ≤ bulkG rb i.body x + 1
def GValue.bulk : GValue → Nat
 | .mk _ t _ l cs => 1 + (t.length + 1 + (1 + ((l.map (·.length + 1)).sum + 1 + ((cs.attach.map (fun c => c.1.1.length + 1 + GValue.bulk c.1.2)).sum + 1)))) + 1
termination_by v => SizeOf.sizeOf v
decreasing_by
 have := List.sizeOf_lt_of_mem c.2
 have h2 : SizeOf.sizeOf c.1 = 1 + SizeOf.sizeOf c.1.1 + SizeOf.sizeOf c.1.2 := by cases c.1; rfl
 simp_wf
 omega
def GExpr.bulk : GExpr → Nat
 | .mk _ t _ l cs => 1 + (t.length + 1 + (1 + ((l.map (·.length + 1)).sum + 1 + ((cs.attach.map (fun c => GExpr.bulk c.1)).sum + 1)))) + 1
termination_by v => SizeOf.sizeOf v
decreasing_by
 have := List.sizeOf_lt_of_mem c.2
 simp_wf
 omega
def GStmt.bulk : GStmt → Nat
 | .mk _ n t l a e b f _ => 1 + (n.length + 1 + (t.length + 1 + ((l.map (·.length + 1)).sum + 1 + ((a.map (fun c => c.1.length + 1 + c.2.bulk)).sum + 1 + (e.bulk + ((b.attach.map (fun c => GStmt.bulk c.1)).sum + 1 + ((f.attach.map (fun c => GStmt.bulk c.1)).sum + 1 + 1))))))) + 1
termination_by v => SizeOf.sizeOf v
decreasing_by
 all_goals
   have := List.sizeOf_lt_of_mem c.2
   simp_wf
   omega
def rbC : (i : RC) → i.den → Nat
 | .value, x => GValue.bulk x
 | .expr, x => GExpr.bulk x
 | .stmt, x => GStmt.bulk x
 | .part, _ => 0
theorem attach_map {α β : Type} (f : α → β) (l : List α) : l.attach.map (fun c => f c.1) = l.map f := by
 rw [show (fun c : {x // x ∈ l} => f c.1) = f ∘ Subtype.val from rfl, ← List.map_map, List.attach_map_subtype_val]
theorem rbC_ok : RbOk rbC := by
 intro i x
 cases i with
 | value =>
   obtain ⟨k, t, n, l, cs⟩ := x
   have e : GValue.bulk (.mk k t n l cs) = bulkG rbC RC.value.body ((k, t, n, l, cs) : RC.value.body.den) + 1 := by
     rw [GValue.bulk, attach_map (fun c : Str × GValue => c.1.length + 1 + GValue.bulk c.2) cs]; rfl
   exact Nat.le_of_eq e
 | expr =>
   obtain ⟨k, t, n, l, cs⟩ := x
   have e : GExpr.bulk (.mk k t n l cs) = bulkG rbC RC.expr.body ((k, t, n, l, cs) : RC.expr.body.den) + 1 := by
     rw [GExpr.bulk, attach_map (fun c : GExpr => GExpr.bulk c) cs]; rfl
   exact Nat.le_of_eq e
 | stmt =>
   obtain ⟨k, n, t, l, a, e, b, f, p⟩ := x
   have e : GStmt.bulk (.mk k n t l a e b f p) = bulkG rbC RC.stmt.body ((k, n, t, l, a, e, b, f, p) : RC.stmt.body.den) + 1 := by
     rw [GStmt.bulk, attach_map (fun c : GStmt => GStmt.bulk c) b, attach_map (fun c : GStmt => GStmt.bulk c) f]; rfl
   exact Nat.le_of_eq e
 | part => exact Nat.zero_le _
section
variable {H : Type} {enc : TypeId × Value → H} {P : Program} {w : World} {spare : Nat → Bool} {held : Bool} {R : RC → Option TypeId} {rb : (i : RC) → i.den → Nat}
theorem uptoAll_cons (d : DataW H) (r : List (DataW H)) : Rows.uptoBulkAll (d :: r) = Rows.uptoBulk d + Rows.uptoBulkAll r := by simp [Rows.uptoBulkAll]
theorem uptoAll_nil : Rows.uptoBulkAll ([] : List (DataW H)) = 0 := by simp [Rows.uptoBulkAll]
theorem sum_le {α : Type} (f : α → Nat) : ∀ (l : List α) (e : List (DataW H × List MemPlace)), l.length = e.length → (∀ i (h : i < l.length) (h' : i < e.length), f l[i] ≤ Rows.uptoBulk e[i].1) → (l.map f).sum ≤ Rows.uptoBulkAll (e.map (·.1))
 | [], e, _, _ => by simp
 | x :: l, [], h, _ => by simp at h
 | x :: l, y :: e, h, hf => by
   have h0 := hf 0 (by simp) (by simp)
   have ih := sum_le f l e (by simpa using h) (fun i h1 h2 => by have := hf (i + 1) (by simpa using h1) (by simpa using h2); simpa using this)
   simp only [List.map_cons, List.sum_cons, uptoAll_cons]
   simp only [List.getElem_cons_zero] at h0
   omega
theorem fields_bulk {fuel : Nat} {cs : List Value}
   (ih : ∀ (t : Ty) (T : TypeId) (cs : List Value) (x : DataW H × List MemPlace), Deep P R t T → DataW.trod enc P w 0 spare held fuel T cs = some x → ∃ d : t.den, RepC M00 w t d cs ∧ Fit t d ∧ bulkG rb t d ≤ Rows.uptoBulk x.1) :
   ∀ (fs : List Field) (t : Ty) (o : Nat) (xs : List (DataW H × List MemPlace)), DeepF P R t fs o →
     (fs.mapM fun f => DataW.trod enc P w 0 spare held fuel f.type ((cs.drop f.offset).take (P.cellsOf f.type))) = some xs → ∃ d : t.den, RepC M00 w t d ((cs.drop o).take t.sz) ∧ Fit t d ∧ bulkG rb t d ≤ Rows.uptoBulkAll (xs.map (·.1)) := by
 intro fs
 induction fs with
 | nil =>
   intro t o xs hd _
   cases hd
   exact ⟨(), List.take_zero, trivial, Nat.zero_le _⟩
 | cons f fs hfs =>
   intro t o xs hd hm
   obtain ⟨y, ys, hy, hys, rfl⟩ : ∃ y ys, DataW.trod enc P w 0 spare held fuel f.type ((cs.drop f.offset).take (P.cellsOf f.type)) = some y ∧ (fs.mapM fun f => DataW.trod enc P w 0 spare held fuel f.type ((cs.drop f.offset).take (P.cellsOf f.type))) = some ys ∧ xs = y :: ys := by
     rw [List.mapM_cons] at hm
     cases hy : DataW.trod enc P w 0 spare held fuel f.type ((cs.drop f.offset).take (P.cellsOf f.type)) with
     | none => rw [hy] at hm; cases hm
     | some y =>
       rw [hy] at hm
       cases hys : (fs.mapM fun f => DataW.trod enc P w 0 spare held fuel f.type ((cs.drop f.offset).take (P.cellsOf f.type))) with
       | none => rw [hys] at hm; cases hm
       | some ys => rw [hys] at hm; exact ⟨y, ys, rfl, rfl, (Option.some.inj hm).symm⟩
   rw [List.map_cons, uptoAll_cons]
   cases hd with
   | one ho hc h1 =>
     rw [ho, hc] at hy
     obtain ⟨d, h1, h2, h3⟩ := ih _ _ _ _ h1 hy
     exact ⟨d, h1, h2, by omega⟩
   | single ho hc h1 =>
     rw [ho, hc] at hy
     obtain ⟨d, hd1, hd2, hd3⟩ := ih _ _ _ _ h1 hy
     refine ⟨(d, ()), ⟨_, [], (List.append_nil _).symm, hd1, rfl⟩, ⟨hd2, trivial⟩, ?_⟩
     show bulkG rb _ d + 0 ≤ _
     omega
   | @cons a b _ _ _ ho hc h1 h2 =>
     rw [ho, hc] at hy
     obtain ⟨d, hd1, hd2, hd3⟩ := ih _ _ _ _ h1 hy
     obtain ⟨e, he1, he2, he3⟩ := hfs _ _ _ h2 hys
     refine ⟨(d, e), ⟨_, _, ?_, hd1, he1⟩, ⟨hd2, he2⟩, ?_⟩
     · show (cs.drop o).take (a.sz + b.sz) = _
       rw [List.take_add, List.drop_drop]
     · show bulkG rb a d + bulkG rb b e ≤ _
       omega
theorem trod_bulk (hR : RcOk P R) (hrb : RbOk rb) : ∀ (fuel : Nat) (t : Ty) (T : TypeId) (cs : List Value) (x : DataW H × List MemPlace), Deep P R t T → DataW.trod enc P w 0 spare held fuel T cs = some x →
   ∃ d : t.den, RepC M00 w t d cs ∧ Fit t d ∧ bulkG rb t d ≤ Rows.uptoBulk x.1 := by
 intro fuel
 induction fuel with
 | zero => intro t T cs x _ h; cases h
 | succ fuel ih =>
   intro t T cs x hd h
   have hstruct : ∀ (t : Ty) (fs : Array Field), P.underlying T = some (.struct fs) → P.cellsOf T = t.sz → DeepF P R t fs.toList 0 → ∃ d : t.den, RepC M00 w t d cs ∧ Fit t d ∧ bulkG rb t d + 1 ≤ Rows.uptoBulk x.1 := fun t fs hu hc hf => by
     unfold DataW.trod at h
     simp only [hu] at h
     split at h
     · rename_i hl
       cases hm : (fs.toList.mapM fun f => DataW.trod enc P w 0 spare held fuel f.type ((cs.drop f.offset).take (P.cellsOf f.type))) with
       | none => rw [hm] at h; cases h
       | some xs =>
         rw [hm] at h
         obtain ⟨d, h1, h2, h3⟩ := fields_bulk ih fs.toList t 0 xs hf hm
         rw [List.drop_zero, List.take_of_length_le (by omega)] at h1
         refine ⟨d, h1, h2, ?_⟩
         injection h with h
         subst h
         simp only [Rows.uptoBulk]
         omega
     · cases h
   cases hd with
   | u8 hu =>
     have hx : ∃ n, cs = [.int .u8 n] ∧ (Lit.int .u8 n).wf = true ∧ x.1 = .lit (.int .u8 n) := by
       unfold DataW.trod at h
       split at h
       all_goals try (simp_all; done)
       rename_i k' n hu2
       rw [hu] at hu2
       cases hu2
       split at h
       · rename_i hc
         obtain ⟨rfl, hc⟩ := hc
         exact ⟨n, rfl, hc, by injection h with h; rw [← h]⟩
       · cases h
     obtain ⟨n, rfl, hn, hx⟩ := hx
     refine ⟨UInt8.ofNat n.toNat, ?_, trivial, by rw [hx]; simp [Rows.uptoBulk, bulkG]⟩
     show [Value.int .u8 n] = [Value.int .u8 (UInt8.ofNat n.toNat).toNat]
     simp [Lit.wf, IntKind.min, IntKind.max, IntKind.signed, IntKind.bits] at hn
     have : ((UInt8.ofNat n.toNat).toNat : Int) = n := by simp; omega
     rw [this]
   | @int _ k hu =>
     have hx : ∃ n, cs = [.int k n] ∧ (Lit.int k n).wf = true ∧ x.1 = .lit (.int k n) := by
       unfold DataW.trod at h
       split at h
       all_goals try (simp_all; done)
       rename_i k1 k' n hu2
       rw [hu] at hu2
       cases hu2
       split at h
       · rename_i hc
         obtain ⟨rfl, hc⟩ := hc
         exact ⟨n, rfl, hc, by injection h with h; rw [← h]⟩
       · cases h
     obtain ⟨n, rfl, hn, hx⟩ := hx
     exact ⟨n, rfl, hn, by rw [hx]; simp [Rows.uptoBulk, bulkG]⟩
   | bool hu =>
     have hx : ∃ b, cs = [.bool b] ∧ x.1 = .lit (.bool b) := by
       unfold DataW.trod at h
       split at h
       all_goals try (simp_all; done)
       injection h with h
       exact ⟨_, rfl, by rw [← h]⟩
     obtain ⟨b, rfl, hx⟩ := hx
     exact ⟨b, rfl, trivial, by rw [hx]; simp [Rows.uptoBulk, bulkG]⟩
   | str hu =>
     have hx : ∃ s : ByteArray, cs = [.string s] ∧ s.size ≤ maxLen ∧ x.1 = .lit (.string s.data.toList) := by
       unfold DataW.trod at h
       split at h
       all_goals try (simp_all; done)
       split at h
       · rename_i hc
         injection h with h
         exact ⟨_, rfl, hc, by rw [← h]⟩
       · cases h
     obtain ⟨s, rfl, hn, hx⟩ := hx
     refine ⟨s.data.toList, ?_, ?_, by rw [hx]; simp [Rows.uptoBulk, bulkG]⟩
     · show [Value.string s] = [Value.string ⟨s.data.toList.toArray⟩]
       simp
     · show s.data.toList.length ≤ maxLen
       simpa using hn
   | @sl _ e t hu hc he =>
     have hx : (cs = [.slice none 0 0] ∧ x.1 = .nil) ∨ ∃ a len cap elems rest, cs = [.slice (some a) len cap] ∧ len ≤ cap ∧ cap ≤ maxLen ∧
         ((List.range len).mapM fun i => (w.cells? 0 (a.add (i * P.cellsOf e)) (P.cellsOf e)).bind (DataW.trod enc P w 0 spare held fuel e)) = some elems ∧ x.1 = .slice (elems.map (·.1)) rest := by
       unfold DataW.trod at h
       split at h
       all_goals try (simp_all; done)
       · injection h with h
         exact .inl ⟨rfl, by rw [← h]⟩
       · rename_i hu2
         rw [hu] at hu2
         cases hu2
         simp only at h
         split at h
         · rename_i hb
           right
           cases hm : ((List.range _).mapM fun i => (w.cells? 0 (Addr.add _ (i * P.cellsOf e)) (P.cellsOf e)).bind (DataW.trod enc P w 0 spare held fuel e)) with
           | none => rw [hm] at h; cases h
           | some ys =>
             rw [hm] at h
             simp only [Option.bind_some, Option.map_eq_some_iff] at h
             obtain ⟨rest, _, h⟩ := h
             exact ⟨_, _, _, ys, rest.map (·.1), rfl, hb.2.1, hb.2.2, hm, by rw [← h]⟩
         · cases h
     rcases hx with ⟨rfl, hx⟩ | ⟨a, len, cap, elems, rest, rfl, h1, h2, hm, hx⟩
     · refine ⟨[], ⟨none, 0, rfl, Nat.le_refl _, Nat.zero_le _, fun i h => absurd h (Nat.not_lt_zero _)⟩, ⟨Nat.zero_le _, fun x h => (by cases h)⟩, ?_⟩
       rw [hx]; simp [Rows.uptoBulk, bulkG]
     · have hl := mapM_some_length hm
       rw [List.length_range] at hl
       have hall : ∀ i, i < len → ∃ d : t.den, (∃ es, RepC M00 w t d es ∧ Pl M00 w (a.add (i * t.sz)) es) ∧ Fit t d ∧ ∀ h : i < elems.length, bulkG rb t d ≤ Rows.uptoBulk elems[i].1 := fun i hi => by
         have hi' : i < elems.length := by omega
         have hy := mapM_some_get hm i i (by rw [List.getElem?_range hi])
         rw [List.getElem?_eq_getElem hi'] at hy
         simp only [hc] at hy
         cases hcs : w.cells? 0 (a.add (i * t.sz)) t.sz with
         | none => rw [hcs] at hy; cases hy
         | some es =>
           rw [hcs] at hy
           obtain ⟨d, hd1, hd2, hd3⟩ := ih _ _ _ _ he hy
           exact ⟨d, ⟨es, hd1, pl_of_cells hcs⟩, hd2, fun _ => hd3⟩
       obtain ⟨l, hll, hp⟩ := choose_list len hall
       refine ⟨l, ⟨some a, cap, ?_, by omega, h2, fun i hi => ?_⟩, ⟨?_, fun x hx => ?_⟩, ?_⟩
       · rw [hll]
       · obtain ⟨⟨es, e1, e2⟩, _⟩ := hp i hi
         exact ⟨a, es, rfl, e1, e2⟩
       · show l.length ≤ maxLen; omega
       · obtain ⟨i, hi, rfl⟩ := List.getElem_of_mem hx
         exact (hp i hi).2.1
       · rw [hx]
         simp only [Rows.uptoBulk, bulkG]
         have := sum_le (bulkG rb t) l elems (by omega) (fun i h1 h2 => (hp i h1).2.2 h2)
         omega
   | st hu hc ha hf =>
     obtain ⟨d, h1, h2, h3⟩ := hstruct t _ hu hc hf
     exact ⟨d, h1, h2, by omega⟩
   | rc hr =>
     obtain ⟨fs, hu, hc, hf⟩ := hR _ _ hr
     rename_i i
     obtain ⟨d, h1, h2, h3⟩ := hstruct i.body fs hu (by rw [hc, RC.sz_body]) hf
     refine ⟨i.mk d, RepC.rc.2 (by rw [RC.un_mk]; exact h1), FitR.intro (by rw [RC.un_mk]; exact h2), ?_⟩
     have := hrb i d
     show rb i (i.mk d) ≤ _
     omega
theorem arg_openU (hR : RcOk P R) (hrb : RbOk rb) {r : Reach} {base : Nat} {t : Ty} {T : TypeId} {v : Value} {d : DataW H} {p : List MemPlace} (hd : Deep P R t T) (hv : Value.okWide P w r base T v) (h : DataW.Trod enc P w 0 spare held T v d p) :
   ∃ x : t.den, RepV M00 w t x v ∧ Fit t x ∧ bulkG rb t x ≤ Rows.uptoBulk d := by
 obtain ⟨fuel, hf⟩ := h
 obtain ⟨x, h1, h2, h3⟩ := trod_bulk hR hrb fuel t T _ _ hd hf
 refine ⟨x, ⟨_, h1, ?_⟩, h2, h3⟩
 have hagg : ∀ fs, P.underlying T = some (.struct fs) → t.isAgg = true → v = mkV t v.cells.toList := fun fs hu ha => by
   obtain ⟨cs, rfl, _⟩ := okWide_struct hu hv
   rw [mkV_agg ha]
   simp [Value.cells]
 have hone : ∀ c : Value, v = c → c.cells = #[c] → t.isAgg = false → v = mkV t v.cells.toList := fun c e hc ha => by
   subst e
   rw [hc, mkV_plain ha]
 cases hd with
 | u8 hu => obtain ⟨n, rfl⟩ := okWide_int hu hv; exact hone _ rfl rfl rfl
 | int hu => obtain ⟨n, rfl⟩ := okWide_int hu hv; exact hone _ rfl rfl rfl
 | bool hu => obtain ⟨n, rfl⟩ := okWide_bool hu hv; exact hone _ rfl rfl rfl
 | str hu => obtain ⟨n, rfl⟩ := okWide_string hu hv; exact hone _ rfl rfl rfl
 | sl hu _ _ => obtain ⟨a, l, c, rfl⟩ := okWide_slice hu hv; exact hone _ rfl rfl rfl
 | st hu _ ha _ => exact hagg _ hu ha
 | rc hr => obtain ⟨fs, hu, _⟩ := hR _ _ hr; exact hagg _ hu rfl
end
end Go.Proofs.YtahjncefiegflaaGreatDoor


/- Labels in the program and in its reference (laws 44 and 45), in plain Lean. -/
namespace Go.Proofs.YtahjncefiegflaaGreatDoor
set_option linter.unusedVariables false
set_option linter.unusedSimpArgs false
open Go Go.RowKit
theorem scan_loop {α R : Type} {xs : List α} (ok : α → Bool) {k bad : Option R} {f : Nat → Int → Option R} (hstep : ∀ n i (hi : i < xs.length), f (n + 1) (i : Int) = if ok xs[i] = true then f n ((i + 1 : Nat) : Int) else bad)
   (hend : ∀ n, f (n + 1) (xs.length : Int) = k) : ∀ n, xs.length < n → f n 0 = if xs.all ok = true then k else bad := by
 have gen : ∀ (d n i : Nat), i + d = xs.length → d < n → f n (i : Int) = if (xs.drop i).all ok = true then k else bad := by
   intro d
   induction d with
   | zero =>
     intro n i h hn
     obtain ⟨n, rfl⟩ : ∃ j, n = j + 1 := ⟨n - 1, by omega⟩
     obtain rfl : i = xs.length := by omega
     rw [hend, List.drop_length]; rfl
   | succ d ih =>
     intro n i h hn
     obtain ⟨n, rfl⟩ : ∃ j, n = j + 1 := ⟨n - 1, by omega⟩
     have hi : i < xs.length := by omega
     rw [hstep n i hi, ih n (i + 1) (by omega) (by omega), List.drop_eq_getElem_cons hi, List.all_cons]
     cases ok xs[i] <;> simp
 intro n hn
 have := gen xs.length n 0 (by omega) hn
 simpa using this
def byteB (c : UInt8) : Bool := (blob_inPart 0 c).getD false
theorem byte_fin : ∀ n : Fin 256, blob_inPart 0 (UInt8.ofNat n.1) = some (byteB (UInt8.ofNat n.1)) := by decide +kernel
theorem byte_eq (N : Nat) (c : UInt8) : blob_inPart N c = some (byteB c) := by
 have h := byte_fin ⟨c.toNat, c.toNat_lt⟩
 have e : UInt8.ofNat c.toNat = c := by simp
 simp only [e] at h
 exact h
theorem rb1 : ∀ n : Fin 256, z61L0T 0 [UInt8.ofNat n.1] 1 none (fun _ => none) 0 = if byteB (UInt8.ofNat n.1) = true then none else some false := by decide +kernel
theorem rb2 : ∀ n : Fin 256, z61L0T 0 [UInt8.ofNat n.1] 1 none (fun _ => some true) 0 = if byteB (UInt8.ofNat n.1) = true then some true else some false := by decide +kernel
theorem rb3 : ∀ n : Fin 256, z61L0T 0 [UInt8.ofNat n.1] 1 none (fun _ => some false) 0 = if byteB (UInt8.ofNat n.1) = true then some false else some false := by decide +kernel
theorem ref_byte (c : UInt8) (A : Option Bool) : z61L0T 0 [c] 1 none (fun _ => A) 0 = if byteB c = true then A else some false := by
 have e : UInt8.ofNat c.toNat = c := by simp
 match A with
 | none => have h := rb1 ⟨c.toNat, c.toNat_lt⟩; simp only [e] at h; exact h
 | some true => have h := rb2 ⟨c.toNat, c.toNat_lt⟩; simp only [e] at h; exact h
 | some false => have h := rb3 ⟨c.toNat, c.toNat_lt⟩; simp only [e] at h; exact h
theorem blob_scan {N : Nat} {x : Str} (hx : x.length ≤ 1048576) (k : Option Bool) : ∀ n, x.length < n → z57L0 N x (x.length : Int) k n 0 = if x.all byteB = true then k else some false := by
 refine scan_loop byteB (fun n i hi => ?_) (fun n => ?_)
 · show z57L0T N x _ k _ (i : Int) = _
   have hw : IntKind.i64.wrap ((i : Int) + 1) = ((i + 1 : Nat) : Int) := by rw [wrap_id (by omega) (by omega)]; omega
   unfold z57L0T
   rw [br_pos (by omega : (i : Int) < (x.length : Int)), geti_lt x hi, bnd_some, byte_eq, bnd_some, hw]
   cases byteB x[i] <;> simp
 · show z57L0T N x _ k _ (x.length : Int) = _
   unfold z57L0T
   rw [br_neg (by omega)]
theorem ref_scan {N : Nat} {x : Str} (hx : x.length ≤ 1048576) (k : Option Bool) : ∀ n, x.length < n → z61L0 N x (x.length : Int) k n 0 = if x.all byteB = true then k else some false := by
 refine scan_loop byteB (fun n i hi => ?_) (fun n => ?_)
 · show z61L0T N x _ k _ (i : Int) = _
   have hw : IntKind.i64.wrap ((i : Int) + 1) = ((i + 1 : Nat) : Int) := by rw [wrap_id (by omega) (by omega)]; omega
   have h := ref_byte x[i] (z61L0 N x (x.length : Int) k n ((i + 1 : Nat) : Int))
   have hg : geti [x[i]] (0 : Int) = some x[i] := rfl
   unfold z61L0T at h ⊢
   rw [br_pos (by decide : (0 : Int) < 1), hg] at h
   rw [br_pos (by omega : (i : Int) < (x.length : Int)), geti_lt x hi, hw]
   exact h
 · show z61L0T N x _ k _ (x.length : Int) = _
   unfold z61L0T
   rw [br_neg (by omega)]
def partP (x : Str) : Bool := x.all byteB && !(x == []) && !(x == [46]) && !(x == [46, 46])
theorem blob_isPart_val {N : Nat} (hN : big ≤ N) {x : Str} (hx : x.length ≤ 1048576) : blob_isPart N x = some (partP x) := by
 have hb : (18446744073709551616 : Nat) ≤ N := hN
 unfold blob_isPart partP
 rw [blob_scan hx _ N (by omega)]
 cases x.all byteB <;> cases (x == ([] : Str)) <;> cases (x == ([46] : Str)) <;> cases (x == ([46, 46] : Str)) <;> simp
theorem ref_isPart_val {N : Nat} (hN : big ≤ N) {x : Str} (hx : x.length ≤ 1048576) : ref2_isPart N x = some (partP x) := by
 have hb : (18446744073709551616 : Nat) ≤ N := hN
 unfold ref2_isPart partP
 rw [ref_scan hx _ N (by omega)]
 cases x.all byteB <;> cases (x == ([] : Str)) <;> cases (x == ([46] : Str)) <;> cases (x == ([46, 46] : Str)) <;> simp
def pathB (x : Str) : Bool := decide (1 ≤ x.length) && (decide (x.length ≤ 200) && (splitC 47 x).all partP)
theorem parts_len {x : Str} (h : x.length ≤ 1048576) : (splitC 47 x).length ≤ 1048576 + 1 := by
 rw [splitC_len]; have : x.count 47 ≤ x.length := List.count_le_length; omega
theorem parts_le {x : Str} (h : x.length ≤ 1048576) : ∀ q ∈ splitC 47 x, q.length ≤ 1048576 := fun q hq => by
 have := (splitC_mem 47 x q hq).2; omega
theorem blob_path_loop {N : Nat} (hN : big ≤ N) {P : List Str} (hl : P.length ≤ 1048576 + 1) (hP : ∀ q ∈ P, q.length ≤ 1048576) (k : Option Bool) : z55L0 N P (P.length : Int) k N 0 = if P.all partP = true then k else some false := by
 have hb : (18446744073709551616 : Nat) ≤ N := hN
 refine scan_loop partP (fun n i hi => ?_) (fun n => ?_) N (by omega)
 · show z55L0T N P _ _ _ (i : Int) = _
   have hw : IntKind.i64.wrap ((i : Int) + 1) = ((i + 1 : Nat) : Int) := by rw [wrap_id (by omega) (by omega)]; omega
   unfold z55L0T
   rw [br_pos (by omega : (i : Int) < (P.length : Int)), geti_lt P hi, bnd_some, hw, blob_isPart_val hN (hP P[i] (List.getElem_mem _)), bnd_some]
   cases partP P[i] <;> simp
 · show z55L0T N P _ _ _ (P.length : Int) = _
   unfold z55L0T
   rw [br_neg (by omega)]
theorem ref_path_loop {N : Nat} (hN : big ≤ N) {P : List Str} (hl : P.length ≤ 1048576 + 1) (hP : ∀ q ∈ P, q.length ≤ 1048576) (k : Option Bool) : z60L0 N P (P.length : Int) k N 0 = if P.all partP = true then k else some false := by
 have hb : (18446744073709551616 : Nat) ≤ N := hN
 refine scan_loop partP (fun n i hi => ?_) (fun n => ?_) N (by omega)
 · show z60L0T N P _ _ _ (i : Int) = _
   have hw : IntKind.i64.wrap ((i : Int) + 1) = ((i + 1 : Nat) : Int) := by rw [wrap_id (by omega) (by omega)]; omega
   unfold z60L0T
   rw [br_pos (by omega : (i : Int) < (P.length : Int)), geti_lt P hi, bnd_some, hw, ref_isPart_val hN (hP P[i] (List.getElem_mem _)), bnd_some]
   cases partP P[i] <;> simp
 · show z60L0T N P _ _ _ (P.length : Int) = _
   unfold z60L0T
   rw [br_neg (by omega)]
theorem blob_path {N : Nat} (hN : big ≤ N) {x : Str} (h : x.length ≤ 1048576) : blob_IsPath N x = some (pathB x) := by
 unfold blob_IsPath pathB
 by_cases g1 : (x.length : Int) < 1
 · rw [br_pos g1, decide_eq_false (by omega : ¬ 1 ≤ x.length)]; rfl
 · rw [br_neg g1, decide_eq_true (by omega : 1 ≤ x.length)]
   by_cases g2 : (x.length : Int) > 200
   · rw [br_pos g2, decide_eq_false (by omega : ¬ x.length ≤ 200)]; rfl
   · rw [br_neg g2, decide_eq_true (by omega : x.length ≤ 200), strings_Split_one _ _ (by omega), bnd_some, blob_path_loop hN (parts_len h) (parts_le h)]
     cases (splitC 47 x).all partP <;> simp
theorem ref_path {N : Nat} (hN : big ≤ N) {x : Str} (h : x.length ≤ 1048576) : ref2_IsPath N x = some (pathB x) := by
 unfold ref2_IsPath pathB ref2_within
 rw [strings_Split_one _ _ (by omega), bnd_some, ref_path_loop hN (parts_len h) (parts_le h)]
 by_cases g1 : 1 ≤ x.length
 · rw [br_pos (by omega : (1 : Int) ≤ (x.length : Int)), decide_eq_true g1]
   by_cases g2 : x.length ≤ 200
   · rw [decide_eq_true (by omega : (x.length : Int) ≤ 200), decide_eq_true g2]
     cases (splitC 47 x).all partP <;> simp
   · rw [decide_eq_false (by omega : ¬ (x.length : Int) ≤ 200), decide_eq_false g2]
     cases (splitC 47 x).all partP <;> simp
 · rw [br_neg (by omega : ¬ (1 : Int) ≤ (x.length : Int)), decide_eq_false g1]
   cases (splitC 47 x).all partP <;> simp
def pkgB (x : Str) : Bool := (x == []) || pathB x
theorem ref_pkg {N : Nat} (hN : big ≤ N) {x : Str} (h : x.length ≤ 1048576) : ref2_isPkg N x = some (pkgB x) := by
 unfold ref2_isPkg pkgB
 rw [ref_path hN h]
 cases (x == ([] : Str)) <;> simp
end Go.Proofs.YtahjncefiegflaaGreatDoor


/- Values of chapter 2: when they are right, when they are the same, their sums, in the program and in the reference. No program in sight. -/
namespace Go.Proofs.YtahjncefiegflaaGreatDoor
set_option linter.unusedVariables false
set_option linter.unusedSimpArgs false
open Go Go.RowKit
variable {N : Nat}
theorem forT_every {α : Type} (p : α → Bool) (k : Bool) : ∀ (xs : List α) (j : Nat), forT (fun _ x r => if (!p x) = true then false else r) k xs j = (xs.all p && k)
 | [], _ => by simp [forT]
 | x :: xs, j => by
   show (if (!p x) = true then false else forT _ _ xs (j + 1)) = _
   rw [forT_every p k xs (j + 1), List.all_cons]
   cases h : p x <;> simp
theorem br_ne {R : Type} (n : Int) (x y : Option R) : br (n != 0) x y = if n ≠ 0 then x else y := by
 by_cases h : n = 0
 · subst h; simp
 · rw [show (n != 0) = true by simp [h], br_true, if_pos h]
theorem forT_zero {α : Type} {q : Nat → α → Prop} {body : Nat → α → Int → Int} (h : ∀ i x r, body i x r = 0 ↔ q i x ∧ r = 0) : ∀ (xs : List α) (j : Nat), forT body 0 xs j = 0 ↔ ∀ i (hi : i < xs.length), q (j + i) xs[i]
 | [], _ => by simp [forT]
 | x :: xs, j => by
   show body j x (forT body 0 xs (j + 1)) = 0 ↔ _
   rw [h, forT_zero h xs (j + 1)]
   constructor
   · rintro ⟨h0, h1⟩ i hi
     cases i with
     | zero => exact h0
     | succ i => have := h1 i (by simpa using hi); simpa [Nat.add_assoc, Nat.add_comm 1] using this
   · intro h'
     refine ⟨h' 0 (by simp), fun i hi => ?_⟩
     have := h' (i + 1) (by simpa using hi)
     simpa [Nat.add_assoc, Nat.add_comm 1] using this
def zeroV : GValue := .mk 0 [] 0 [] []
theorem GValue.eta (v : GValue) : GValue.mk v.kind v.text v.number v.list v.cases = v := by cases v; rfl
abbrev Case : Type := Str × GValue
abbrev caseTy : Ty := .pr .str τ6
def textB (b : UInt8) : Bool := b == 10 || (!decide (b < 32) && !decide (b > 126))
theorem isText_eq (hN : big ≤ N) (s : Str) (hs : s.length ≤ maxLen) : script_isText N s = some (s.all textB) := by
 unfold script_isText
 rw [show s.all textB = (s.all textB && true) by simp, ← forT_every textB true s 0]
 refine loop_for (fun _ _ => rfl) s hs (fun self i h r hr => ?_) (fun self => ?_) hN
 · simp only [z50L0T, geti_lt s h, wrap_succ hs h, hr, bnd_some]
   rw [lt_tt h, br_true]
   unfold textB
   cases h1 : (s[i] == (10 : UInt8)) <;> cases h2 : decide (s[i] < (32 : UInt8)) <;> cases h3 : decide (s[i] > (126 : UInt8)) <;> simp [h1, bne]
 · simp only [z50L0T, lt_ff, br_false]
def textE (s : Str) : Int := if decide ((s.length : Int) > 1000) then 2 else if s.all textB then 0 else 3
theorem checkText_eq (hN : big ≤ N) (s : Str) (hs : s.length ≤ maxLen) : script_checkText N s = some (textE s) := by
 unfold script_checkText textE
 rw [isText_eq hN s hs, bnd_some]
 cases decide ((s.length : Int) > 1000) <;> cases s.all textB <;> simp
theorem idx_any {α : Type} (p : α → Bool) (xs : List α) : decide (idxP p xs ≥ (0 : Int)) = xs.any p := idxP_nonneg p xs
theorem Contains_long (hN : big ≤ N) (l : List Str) (hl : l.length ≤ maxLen) : slices_ContainsFunc_string_string N l () = some (l.any fun s => decide ((s.length : Int) > 1000)) := by
 unfold slices_ContainsFunc_string_string
 have : slices_IndexFunc_string_string N l () = some (idxP (fun s => decide ((s.length : Int) > 1000)) l) := by
   unfold slices_IndexFunc_string_string
   refine loop_for (fun _ _ => rfl) l hl (fun self i h r hr => ?_) (fun self => ?_) hN
   · simp only [z3L0T, geti_lt l h, wrap_succ hl h, hr, bnd_some, script_CheckValue_1]
     rw [lt_tt h, br_true, br_ite]
   · simp only [z3L0T, lt_ff, br_false]
 rw [this, bnd_some, idx_any]
theorem Contains_odd (hN : big ≤ N) (l : List Str) (hl : Fit τ13 l) : slices_ContainsFunc_string_string_2 N l () = some (l.any fun s => !s.all textB) := by
 unfold slices_ContainsFunc_string_string_2
 have : slices_IndexFunc_string_string_2 N l () = some (idxP (fun s => !s.all textB) l) := by
   unfold slices_IndexFunc_string_string_2
   refine loop_for (fun _ _ => rfl) l hl.1 (fun self i h r hr => ?_) (fun self => ?_) hN
   · simp only [z2L0T, geti_lt l h, wrap_succ hl.1 h, hr, bnd_some, script_CheckValue_2, isText_eq hN _ (hl.2 _ (List.getElem_mem h))]
     rw [lt_tt h, br_true, br_ite]
   · simp only [z2L0T, lt_ff, br_false]
 rw [this, bnd_some, idx_any]
def tailV (cc : Int) (v : GValue) : Int :=
 if decide ((v.text.length : Int) > 1000) then 2 else if decide ((v.list.length : Int) > 1000) then 2 else if v.list.any (fun s => decide ((s.length : Int) > 1000)) then 2 else if decide ((v.cases.length : Int) > 50) then 2 else
   if !v.text.all textB then 3 else if v.list.any (fun s => !s.all textB) then 3 else if decide (v.number < 0) then 1 else if decide (v.number > 999999999) then 1 else if v.kind == 4 then cc else 0
def formV (v : GValue) : Bool := (!(v.text == []) && v.kind != 1) || (v.number != 0 && v.kind != 2) || (decide ((v.list.length : Int) > 0) && v.kind != 3) || (decide ((v.cases.length : Int) > 0) && v.kind != 4)
def valS (cc : Int) (v : GValue) : Int :=
 if decide (v.kind < 1) then 4 else if decide (v.kind > 4) then 4 else if formV v then 3 else tailV cc v
theorem valFit {v : GValue} (h : Fit τ6 v) : (Lit.int .i64 v.kind).wf = true ∧ v.text.length ≤ maxLen ∧ (Lit.int .i64 v.number).wf = true ∧ Fit τ13 v.list ∧ Fit (.sl caseTy) v.cases := FitR.elim h
theorem CheckValue_eq (hN : big ≤ N) {r : List Case → Option Int} {cc : Int} (v : GValue) (hv : Fit τ6 v) (hr : v.kind = 4 → r v.cases = some cc) : script_CheckValue N r v = some (valS cc v) := by
 obtain ⟨_, ht, _, hl, hc⟩ := valFit hv
 have hT : (br (decide ((v.text.length : Int) > (1000 : Int))) (some (2 : Int)) (br (decide ((v.list.length : Int) > (1000 : Int))) (some (2 : Int)) (bnd (slices_ContainsFunc_string_string N v.list ()) fun t61 => br (t61) (some (2 : Int)) (br (decide ((v.cases.length : Int) > (50 : Int))) (some (2 : Int)) (bnd (script_isText N v.text) fun t72 => br (!t72) (some (3 : Int)) (bnd (slices_ContainsFunc_string_string_2 N v.list ()) fun t77 => br (t77) (some (3 : Int)) (br (decide (v.number < (0 : Int))) (some (1 : Int)) (br (decide (v.number > (999999999 : Int))) (some (1 : Int)) (br (v.kind == (4 : Int)) (bnd (r v.cases) fun t94 => some t94) (some (0 : Int)))))))))))= some (tailV cc v) := by
   simp only [Contains_long hN _ hl.1, Contains_odd hN _ hl, isText_eq hN _ ht, bnd_some]
   have hk : (br (v.kind == (4 : Int)) (bnd (r v.cases) fun t94 => some t94) (some (0 : Int))) = some (if v.kind == 4 then cc else 0) := by
     by_cases h4 : v.kind = 4
     · rw [hr h4]; simp [h4]
     · rw [show (v.kind == (4 : Int)) = false from beq_false_of_ne h4]; simp
   rw [hk]
   simp only [br_ite]
   rfl
 unfold script_CheckValue
 simp only [hT]
 unfold valS formV
 generalize tailV cc v = t
 generalize decide (v.kind < 1) = b1
 generalize decide (v.kind > 4) = b2
 generalize (v.text == ([] : Str)) = b3
 generalize (v.kind != (1 : Int)) = b4
 generalize (v.number != (0 : Int)) = b5
 generalize (v.kind != (2 : Int)) = b6
 generalize decide ((v.list.length : Int) > 0) = b7
 generalize (v.kind != (3 : Int)) = b8
 generalize decide ((v.cases.length : Int) > 0) = b9
 generalize (v.kind != (4 : Int)) = b10
 cases b1
 · cases b2
   · cases b3 <;> cases b5 <;> cases b7 <;> cases b9 <;> simp only [br_true, br_false, Bool.not_true, Bool.not_false] <;> cases b4 <;> cases b6 <;> cases b8 <;> cases b10 <;> simp
   · simp
 · simp
def caseB (l : List Case) (i : Nat) (c : Case) (r : Int) : Int :=
 if textE c.1 ≠ 0 then textE c.1 else if (l.take i).any (fun d => d.1 == c.1) then 7 else if c.2.kind == 4 then 4 else if valS 0 c.2 ≠ 0 then valS 0 c.2 else
   if c.2.kind != (match l[0]? with | some d => d.2.kind | none => 0) then 6 else r
def casesS (l : List Case) : Int := if l.length = 0 then 9 else forT (caseB l) 0 l 0
def valueE (v : GValue) : Int := valS (casesS v.cases) v
theorem IndexFunc_case (hN : big ≤ N) (xs : List Case) (hx : xs.length ≤ maxLen) (q : Case) : slices_IndexFunc_api_Case N xs (q, ()) = some (idxP (fun x => x.1 == q.1) xs) := by
 unfold slices_IndexFunc_api_Case
 refine loop_for (fun _ _ => rfl) xs hx (fun self i h r hr => ?_) (fun self => ?_) hN
 · simp only [z12L0T, geti_lt xs h, wrap_succ hx h, hr, bnd_some, script_checkCases_1]
   rw [lt_tt h, br_true, br_ite]
 · simp only [z12L0T, lt_ff, br_false]
theorem checkCases_eq (hN : big ≤ N) (r : List Case → Option Int) (l : List Case) (hl : Fit (.sl caseTy) l) : script_checkCases_b N r l = some (casesS l) := by
 unfold script_checkCases_b casesS
 by_cases h0 : l.length = 0
 · simp [h0]
 · rw [if_neg h0, show ((l.length : Int) == (0 : Int)) = false from beq_false_of_ne (by omega), br_false]
   refine loop_for (fun _ _ => rfl) l hl.1 (fun self i h r' hr => ?_) (fun self => ?_) hN
   · have hx := hl.2 _ (List.getElem_mem h)
     have ht : (l.take i).length ≤ maxLen := by have := hl.1; rw [List.length_take]; omega
     have h00 : 0 < l.length := by omega
     simp only [z23L0T, geti_lt l h, wrap_succ hl.1 h, hr, bnd_some, checkText_eq hN _ hx.1, slc_take l (Nat.le_of_lt h), slices_ContainsFunc_api_Case, IndexFunc_case hN _ ht, idxP_nonneg, GValue.eta, geti_zero, List.getElem?_eq_getElem h00]
     rw [lt_tt h, br_true]
     unfold caseB
     rw [List.getElem?_eq_getElem h00]
     by_cases h4 : l[i].2.kind = 4
     · simp only [h4, beq_self_eq_true, br_true, br_ite, br_ne, if_true]
       by_cases h1 : textE l[i].1 = 0 <;> simp [h1]
     · rw [CheckValue_eq hN (cc := 0) _ hx.2 (fun h => absurd h h4), bnd_some]
       have e4 : (l[i].2.kind == (4 : Int)) = false := beq_false_of_ne h4
       simp only [e4, br_false, br_ite, br_ne, Bool.false_eq_true, if_false]
       by_cases h1 : textE l[i].1 = 0 <;> by_cases h2 : valS 0 l[i].2 = 0 <;> simp [h1, h2]
       all_goals (try (split <;> (try split) <;> simp_all))
   · simp only [z23L0T, lt_ff, br_false]
theorem CheckValue_all (hN : big ≤ N) (v : GValue) (hv : Fit τ6 v) : script_CheckValue N (script_checkCases N N) v = some (valueE v) := by
 obtain ⟨_, _, _, _, hc⟩ := valFit hv
 refine CheckValue_eq hN v hv fun _ => ?_
 obtain ⟨d, rfl⟩ : ∃ d, N = d + 1 := ⟨N - 1, by unfold big at hN; omega⟩
 exact checkCases_eq hN _ _ hc
structure PlainV (v : GValue) : Prop where
 kind : v.kind ≠ 4
 cases : v.cases = []
 list : v.list.length ≤ 1000
theorem plain_of {v : GValue} {cc : Int} (h : valS cc v = 0) (h4 : v.kind ≠ 4) : PlainV v := by
 unfold valS at h
 split at h
 · cases h
 · split at h
   · cases h
   · split at h
     · cases h
     · rename_i hf
       unfold formV at hf
       unfold tailV at h
       refine ⟨h4, ?_, ?_⟩
       · simp only [Bool.or_eq_true, Bool.and_eq_true, not_or, not_and, bne_iff_ne, ne_eq] at hf
         have := hf.2
         have h5 : ¬ ((v.cases.length : Int) > 0) := fun h6 => this (decide_eq_true h6) h4
         exact List.eq_nil_of_length_eq_zero (by omega)
       · split at h
         · cases h
         · split at h
           · cases h
           · rename_i h6
             have : ¬ ((v.list.length : Int) > 1000) := fun h7 => h6 (decide_eq_true h7)
             omega
structure CasesOk (l : List Case) : Prop where
 some : l ≠ []
 plain : ∀ c ∈ l, PlainV c.2
 right : ∀ c ∈ l, valS 0 c.2 = 0
 once : ∀ i (hi : i < l.length) (j : Nat) (hj : j < i), l[j].1 ≠ l[i].1
theorem cases_ok {l : List Case} (h : casesS l = 0) : CasesOk l := by
 unfold casesS at h
 split at h
 · cases h
 · rename_i h0
   have := (forT_zero (q := fun i c => textE c.1 = 0 ∧ (l.take i).any (fun d => d.1 == c.1) = false ∧ c.2.kind ≠ 4 ∧ valS 0 c.2 = 0 ∧ c.2.kind = (match l[0]? with | some d => d.2.kind | none => 0)) (body := caseB l) (fun i c r => by
     unfold caseB
     by_cases h1 : textE c.1 = 0 <;> by_cases h2 : (l.take i).any (fun d => d.1 == c.1) = true <;> by_cases h3 : c.2.kind = 4 <;> by_cases h4 : valS 0 c.2 = 0 <;> simp [h1, h2, h3, h4]
     all_goals (first | (split <;> (first | (split <;> simp_all) | simp_all)) | skip)) l 0).1 h
   refine ⟨fun e => h0 (by rw [e]; rfl), fun c hc => ?_, fun c hc => ?_, fun i hi j hj he => ?_⟩
   · obtain ⟨i, hi, rfl⟩ := List.mem_iff_getElem.1 hc
     have := this i hi
     exact plain_of this.2.2.2.1 this.2.2.1
   · obtain ⟨i, hi, rfl⟩ := List.mem_iff_getElem.1 hc
     exact (this i hi).2.2.2.1
   · have := (this i hi).2.1
     rw [Nat.zero_add, List.any_eq_false] at this
     have hm : l[j] ∈ l.take i := List.mem_take_iff_getElem.2 ⟨j, by omega, rfl⟩
     have := this _ hm
     simp [he] at this
theorem value_ok {v : GValue} (h : valueE v = 0) : (v.kind ≠ 4 ∧ PlainV v) ∨ (v.kind = 4 ∧ CasesOk v.cases ∧ v.cases.length ≤ 50) := by
 by_cases h4 : v.kind = 4
 · refine .inr ⟨h4, ?_⟩
   unfold valueE valS at h
   split at h
   · cases h
   · split at h
     · cases h
     · split at h
       · cases h
       · unfold tailV at h
         split at h
         · cases h
         · split at h
           · cases h
           · split at h
             · cases h
             · split at h
               · cases h
               · rename_i h5
                 have h5' : ¬ ((v.cases.length : Int) > 50) := fun h7 => h5 (decide_eq_true h7)
                 split at h
                 · cases h
                 · split at h
                   · cases h
                   · split at h
                     · cases h
                     · split at h
                       · cases h
                       · rw [h4] at h
                         exact ⟨cases_ok h, by omega⟩
 · exact .inl ⟨h4, plain_of h h4⟩
theorem Equal_str_from (a b : List Str) (ha : a.length ≤ maxLen) (he : a.length = b.length) : ∀ (m n i : Nat), i + m = a.length → m < n → z8L0 N a b (a.length : Int) (some true) n (i : Int) = some (decide (a.drop i = b.drop i))
 | 0, n, i, hi, hn => by
   obtain ⟨n, rfl⟩ : ∃ j, n = j + 1 := ⟨n - 1, by omega⟩
   have : i = a.length := by omega
   subst this
   show z8L0T _ _ _ _ _ _ _ = _
   simp only [z8L0T, lt_ff, br_false, List.drop_length]
   rw [he, List.drop_length]; simp
 | m + 1, n, i, hi, hn => by
   obtain ⟨n, rfl⟩ : ∃ j, n = j + 1 := ⟨n - 1, by omega⟩
   have h : i < a.length := by omega
   have hb : i < b.length := by omega
   have ih := Equal_str_from a b ha he m n (i + 1) (by omega) (by omega)
   show z8L0T _ _ _ _ _ _ _ = _
   simp only [z8L0T, geti_lt a h, geti_lt b hb, wrap_succ ha h, ih, bnd_some]
   rw [lt_tt h, br_true, List.drop_eq_getElem_cons h, List.drop_eq_getElem_cons hb]
   by_cases hq : a[i] = b[i]
   · rw [show (a[i] == b[i]) = true from beq_iff_eq.2 hq]
     simp only [List.cons.injEq, hq, true_and, Bool.not_true, br_false]
   · rw [show (a[i] == b[i]) = false from beq_false_of_ne hq]
     simp only [List.cons.injEq, hq, false_and, Bool.not_false, br_true, decide_false]
theorem Equal_str (hN : big ≤ N) (a b : List Str) (ha : a.length ≤ maxLen) (hb : b.length ≤ maxLen) : slices_Equal_string_string N a b = some (decide (a = b)) := by
 unfold slices_Equal_string_string
 by_cases he : a.length = b.length
 · have := Equal_str_from (N := N) a b ha he a.length N 0 (by omega) (by unfold maxLen at ha; unfold big at hN; omega)
   rw [show ((0 : Nat) : Int) = 0 from rfl, List.drop_zero, List.drop_zero] at this
   rw [this]; simp [he]
 · have hne : a ≠ b := fun e => he (by rw [e])
   simp only [decide_eq_false hne]
   have : ((a.length : Int) != (b.length : Int)) = true := by simp; omega
   simp [this]
def sameP (a b : GValue) : Bool := a.kind == b.kind && (a.text == b.text && (a.number == b.number && (decide (a.list = b.list) && b.cases.isEmpty)))
theorem sameP_self {a : GValue} (h : a.cases = []) : sameP a a = true := by simp [sameP, h]
theorem SameValue_eq (hN : big ≤ N) (d : Nat) (a b : GValue) (ha : a.cases = []) (hla : a.list.length ≤ maxLen) (hlb : b.list.length ≤ maxLen) : ref2_SameValue N (d + 1) a b = some (sameP a b) := by
 show ref2_SameValue_b N _ a b = _
 unfold ref2_SameValue_b sameP
 rw [Equal_str hN _ _ hla hlb, bnd_some, ha]
 have hL : ∀ r c k, z33L0 N r ((([] : List Case).length : Nat) : Int) [] c k N 0 = k := fun r c k => by
   obtain ⟨n, rfl⟩ : ∃ n, N = n + 1 := ⟨N - 1, by unfold big at hN; omega⟩
   show z33L0T _ _ _ _ _ _ _ _ = _
   simp [z33L0T]
 rw [hL]
 have hk : (a.kind != b.kind) = !(a.kind == b.kind) := rfl
 have hn : (a.number != b.number) = !(a.number == b.number) := rfl
 have hcs : (((([] : List Case).length : Nat) : Int) != (b.cases.length : Int)) = !b.cases.isEmpty := by
   cases hb : b.cases with
   | nil => rfl
   | cons => simp; omega
 rw [hk, hn, hcs]
 cases a.kind == b.kind <;> cases a.text == b.text <;> cases a.number == b.number <;> cases decide (a.list = b.list) <;> cases b.cases.isEmpty <;> simp
theorem Clone_case (l : List Case) (h : l.length ≤ 1000) : slices_Clone_api_Case N l = some l := by
 unfold slices_Clone_api_Case
 have e : decide ((([] : List Case).length + l.length) * (24 * Ty.sz τ11) ≤ 140737488355328) = true := decide_eq_true (by show (0 + l.length) * (24 * 6) ≤ _; omega)
 rw [e, br_true]
 cases l with
 | nil => simp
 | cons a l => simp
theorem Clone_strs (l : List Str) (h : l.length ≤ 1000000) : slices_Clone_string_string N l = some l := by
 unfold slices_Clone_string_string
 have e : decide ((([] : List Str).length + l.length) * (24 * Ty.sz .str) ≤ 140737488355328) = true := decide_eq_true (by show (0 + l.length) * (24 * 1) ≤ _; omega)
 rw [e, br_true]
 cases l with
 | nil => simp
 | cons a l => simp
theorem Own_eq (hN : big ≤ N) (d : Nat) (v : GValue) (h : v.cases = []) (hl : v.list.length ≤ 1000000) : script_Own N (d + 1) v = some v := by
 show script_Own_b N _ v = _
 unfold script_Own_b
 rw [Clone_strs _ hl, bnd_some, h, Clone_case [] (by simp), bnd_some]
 obtain ⟨n, rfl⟩ : ∃ n, N = n + 1 := ⟨N - 1, by unfold big at hN; omega⟩
 show z53L0T _ _ _ _ _ _ _ = _
 simp only [z53L0T]
 rw [show decide ((0 : Int) < (([] : List Case).length : Int)) = false by simp, br_false, ← h, GValue.eta]
theorem text_of {v : GValue} {cc : Int} (h : valS cc v = 0) : v.text.length ≤ 1000 := by
 apply Classical.byContradiction
 intro hn
 have e : decide ((v.text.length : Int) > 1000) = true := decide_eq_true (by omega)
 unfold valS at h
 by_cases c1 : decide (v.kind < 1) = true
 · rw [if_pos c1] at h; cases h
 · rw [if_neg c1] at h
   by_cases c2 : decide (v.kind > 4) = true
   · rw [if_pos c2] at h; cases h
   · rw [if_neg c2] at h
     by_cases c3 : formV v = true
     · rw [if_pos c3] at h; cases h
     · rw [if_neg c3] at h
       unfold tailV at h
       rw [if_pos e] at h; cases h
structure Small (v : GValue) : Prop where
 text : v.text.length ≤ 1000
 list : v.list.length ≤ 1000
theorem small_of {v : GValue} {cc : Int} (h : valS cc v = 0) (h4 : v.kind ≠ 4) : Small v := ⟨text_of h, (plain_of h h4).list⟩
end Go.Proofs.YtahjncefiegflaaGreatDoor

