/- What functions of the program compute, as plain functions (printed). -/
import Derived.Test.YtjiddcchklaiiaaGreatDoorQTsF1
namespace Go.Proofs.YtjiddcchklaiiaaGreatDoor
open Go Go.RowKit
set_option maxRecDepth 100000
set_option linter.unusedVariables false
noncomputable section
def z2L0T (N : Nat) (r_slices_symMergeCmpFunc_blob_node : Int → Int → Int → Unit → τ6 → Option τ6) (x1 : Int) (w0 : List τ0) (k0 : Int → Option τ6) (self : Int → Int → Option τ6) (s10 : Int) (s11 : Int) : Option τ6 :=
 br (decide (s10 < s11))
  (br (decide (0 ≤ (1 : Int)))
   (br (decide (0 ≤ (IntKind.i64.wrap (shrI .u64 (IntKind.u64.wrap (IntKind.i64.wrap (s10 + s11))) (1 : Int))) ∧ (IntKind.i64.wrap (shrI .u64 (IntKind.u64.wrap (IntKind.i64.wrap (s10 + s11))) (1 : Int))) < (w0.length : Int)))
    (bnd (geti w0 (IntKind.i64.wrap (shrI .u64 (IntKind.u64.wrap (IntKind.i64.wrap (s10 + s11))) (1 : Int)))) fun t44 =>
    br (decide (0 ≤ x1 ∧ x1 < (w0.length : Int)))
     (bnd (geti w0 x1) fun t48 =>
     bnd (blob_nodes_1 N t44 t48) fun t49 =>
     br (decide (t49 < (0 : Int)))
      (self (IntKind.i64.wrap ((IntKind.i64.wrap (shrI .u64 (IntKind.u64.wrap (IntKind.i64.wrap (s10 + s11))) (1 : Int))) + (1 : Int))) s11)
      (self s10 (IntKind.i64.wrap (shrI .u64 (IntKind.u64.wrap (IntKind.i64.wrap (s10 + s11))) (1 : Int)))))
     none)
    none)
   none)
  (k0 s10)
def z2L0 (N : Nat) (r_slices_symMergeCmpFunc_blob_node : Int → Int → Int → Unit → τ6 → Option τ6) (x1 : Int) (w0 : List τ0) (k0 : Int → Option τ6) : Nat → Int → Int → Option τ6
 | 0, _, _ => none
 | n + 1, s10, s11 => z2L0T N r_slices_symMergeCmpFunc_blob_node x1 w0 k0 (z2L0 N r_slices_symMergeCmpFunc_blob_node x1 w0 k0 n) s10 s11
def z2L1T (_N : Nat) (r_slices_symMergeCmpFunc_blob_node : Int → Int → Int → Unit → τ6 → Option τ6) (o0_10 : Int) (k2 : τ6 → Option τ6) (self : Int → τ6 → Option τ6) (s13 : Int) (w0_1 : List τ0) : Option τ6 :=
 br (decide (s13 < (IntKind.i64.wrap (o0_10 - (1 : Int)))))
  (br (decide (0 ≤ (IntKind.i64.wrap (s13 + (1 : Int))) ∧ (IntKind.i64.wrap (s13 + (1 : Int))) < (w0_1.length : Int)))
   (br (decide (0 ≤ s13 ∧ s13 < (w0_1.length : Int)))
    (both
     (bnd (geti w0_1 (IntKind.i64.wrap (s13 + (1 : Int)))) fun t70 =>
     bnd (geti w0_1 s13) fun t74 =>
     br (decide (0 ≤ s13 ∧ s13 < (w0_1.length : Int)))
      (bnd (geti w0_1 s13) fun _ =>
      br (decide (0 ≤ (IntKind.i64.wrap (s13 + (1 : Int))) ∧ (IntKind.i64.wrap (s13 + (1 : Int))) < ((seti w0_1 s13 t70).length : Int)))
       (bnd (geti (seti w0_1 s13 t70) (IntKind.i64.wrap (s13 + (1 : Int)))) fun _ =>
       self (IntKind.i64.wrap (s13 + (1 : Int))) (seti (seti w0_1 s13 t70) (IntKind.i64.wrap (s13 + (1 : Int))) t74))
       none)
      none)
     (bnd (geti w0_1 s13) fun t74 =>
     bnd (geti w0_1 (IntKind.i64.wrap (s13 + (1 : Int)))) fun t70 =>
     br (decide (0 ≤ s13 ∧ s13 < (w0_1.length : Int)))
      (bnd (geti w0_1 s13) fun _ =>
      br (decide (0 ≤ (IntKind.i64.wrap (s13 + (1 : Int))) ∧ (IntKind.i64.wrap (s13 + (1 : Int))) < ((seti w0_1 s13 t70).length : Int)))
       (bnd (geti (seti w0_1 s13 t70) (IntKind.i64.wrap (s13 + (1 : Int)))) fun _ =>
       self (IntKind.i64.wrap (s13 + (1 : Int))) (seti (seti w0_1 s13 t70) (IntKind.i64.wrap (s13 + (1 : Int))) t74))
       none)
      none))
    none)
   none)
  (k2 w0_1)
def z2L1 (N : Nat) (r_slices_symMergeCmpFunc_blob_node : Int → Int → Int → Unit → τ6 → Option τ6) (o0_10 : Int) (k2 : τ6 → Option τ6) : Nat → Int → τ6 → Option τ6
 | 0, _, _ => none
 | n + 1, s13, w0_1 => z2L1T N r_slices_symMergeCmpFunc_blob_node o0_10 k2 (z2L1 N r_slices_symMergeCmpFunc_blob_node o0_10 k2 n) s13 w0_1
def z2L2T (N : Nat) (r_slices_symMergeCmpFunc_blob_node : Int → Int → Int → Unit → τ6 → Option τ6) (x2 : Int) (w0 : List τ0) (k4 : Int → Option τ6) (self : Int → Int → Option τ6) (s14 : Int) (s15 : Int) : Option τ6 :=
 br (decide (s14 < s15))
  (br (decide (0 ≤ (1 : Int)))
   (br (decide (0 ≤ x2 ∧ x2 < (w0.length : Int)))
    (bnd (geti w0 x2) fun t96 =>
    br (decide (0 ≤ (IntKind.i64.wrap (shrI .u64 (IntKind.u64.wrap (IntKind.i64.wrap (s14 + s15))) (1 : Int))) ∧ (IntKind.i64.wrap (shrI .u64 (IntKind.u64.wrap (IntKind.i64.wrap (s14 + s15))) (1 : Int))) < (w0.length : Int)))
     (bnd (geti w0 (IntKind.i64.wrap (shrI .u64 (IntKind.u64.wrap (IntKind.i64.wrap (s14 + s15))) (1 : Int)))) fun t100 =>
     bnd (blob_nodes_1 N t96 t100) fun t101 =>
     br (!(decide (t101 < (0 : Int))))
      (self (IntKind.i64.wrap ((IntKind.i64.wrap (shrI .u64 (IntKind.u64.wrap (IntKind.i64.wrap (s14 + s15))) (1 : Int))) + (1 : Int))) s15)
      (self s14 (IntKind.i64.wrap (shrI .u64 (IntKind.u64.wrap (IntKind.i64.wrap (s14 + s15))) (1 : Int)))))
     none)
    none)
   none)
  (k4 s14)
def z2L2 (N : Nat) (r_slices_symMergeCmpFunc_blob_node : Int → Int → Int → Unit → τ6 → Option τ6) (x2 : Int) (w0 : List τ0) (k4 : Int → Option τ6) : Nat → Int → Int → Option τ6
 | 0, _, _ => none
 | n + 1, s14, s15 => z2L2T N r_slices_symMergeCmpFunc_blob_node x2 w0 k4 (z2L2 N r_slices_symMergeCmpFunc_blob_node x2 w0 k4 n) s14 s15
def z2L3T (_N : Nat) (r_slices_symMergeCmpFunc_blob_node : Int → Int → Int → Unit → τ6 → Option τ6) (o2_14 : Int) (k6 : τ6 → Option τ6) (self : Int → τ6 → Option τ6) (s17 : Int) (w0_3 : List τ0) : Option τ6 :=
 br (decide (s17 > o2_14))
  (br (decide (0 ≤ (IntKind.i64.wrap (s17 - (1 : Int))) ∧ (IntKind.i64.wrap (s17 - (1 : Int))) < (w0_3.length : Int)))
   (br (decide (0 ≤ s17 ∧ s17 < (w0_3.length : Int)))
    (both
     (bnd (geti w0_3 (IntKind.i64.wrap (s17 - (1 : Int)))) fun t122 =>
     bnd (geti w0_3 s17) fun t126 =>
     br (decide (0 ≤ s17 ∧ s17 < (w0_3.length : Int)))
      (bnd (geti w0_3 s17) fun _ =>
      br (decide (0 ≤ (IntKind.i64.wrap (s17 - (1 : Int))) ∧ (IntKind.i64.wrap (s17 - (1 : Int))) < ((seti w0_3 s17 t122).length : Int)))
       (bnd (geti (seti w0_3 s17 t122) (IntKind.i64.wrap (s17 - (1 : Int)))) fun _ =>
       self (IntKind.i64.wrap (s17 - (1 : Int))) (seti (seti w0_3 s17 t122) (IntKind.i64.wrap (s17 - (1 : Int))) t126))
       none)
      none)
     (bnd (geti w0_3 s17) fun t126 =>
     bnd (geti w0_3 (IntKind.i64.wrap (s17 - (1 : Int)))) fun t122 =>
     br (decide (0 ≤ s17 ∧ s17 < (w0_3.length : Int)))
      (bnd (geti w0_3 s17) fun _ =>
      br (decide (0 ≤ (IntKind.i64.wrap (s17 - (1 : Int))) ∧ (IntKind.i64.wrap (s17 - (1 : Int))) < ((seti w0_3 s17 t122).length : Int)))
       (bnd (geti (seti w0_3 s17 t122) (IntKind.i64.wrap (s17 - (1 : Int)))) fun _ =>
       self (IntKind.i64.wrap (s17 - (1 : Int))) (seti (seti w0_3 s17 t122) (IntKind.i64.wrap (s17 - (1 : Int))) t126))
       none)
      none))
    none)
   none)
  (k6 w0_3)
def z2L3 (N : Nat) (r_slices_symMergeCmpFunc_blob_node : Int → Int → Int → Unit → τ6 → Option τ6) (o2_14 : Int) (k6 : τ6 → Option τ6) : Nat → Int → τ6 → Option τ6
 | 0, _, _ => none
 | n + 1, s17, w0_3 => z2L3T N r_slices_symMergeCmpFunc_blob_node o2_14 k6 (z2L3 N r_slices_symMergeCmpFunc_blob_node o2_14 k6 n) s17 w0_3
def z2L4T (N : Nat) (r_slices_symMergeCmpFunc_blob_node : Int → Int → Int → Unit → τ6 → Option τ6) (c22 : Int) (w0 : List τ0) (k8 : Int → Option τ6) (self : Int → Int → Option τ6) (s20 : Int) (s21 : Int) : Option τ6 :=
 br (decide (s20 < s21))
  (br (decide (0 ≤ (1 : Int)))
   (br (decide (0 ≤ (IntKind.i64.wrap (c22 - (IntKind.i64.wrap (shrI .u64 (IntKind.u64.wrap (IntKind.i64.wrap (s20 + s21))) (1 : Int))))) ∧ (IntKind.i64.wrap (c22 - (IntKind.i64.wrap (shrI .u64 (IntKind.u64.wrap (IntKind.i64.wrap (s20 + s21))) (1 : Int))))) < (w0.length : Int)))
    (bnd (geti w0 (IntKind.i64.wrap (c22 - (IntKind.i64.wrap (shrI .u64 (IntKind.u64.wrap (IntKind.i64.wrap (s20 + s21))) (1 : Int)))))) fun t164 =>
    br (decide (0 ≤ (IntKind.i64.wrap (shrI .u64 (IntKind.u64.wrap (IntKind.i64.wrap (s20 + s21))) (1 : Int))) ∧ (IntKind.i64.wrap (shrI .u64 (IntKind.u64.wrap (IntKind.i64.wrap (s20 + s21))) (1 : Int))) < (w0.length : Int)))
     (bnd (geti w0 (IntKind.i64.wrap (shrI .u64 (IntKind.u64.wrap (IntKind.i64.wrap (s20 + s21))) (1 : Int)))) fun t168 =>
     bnd (blob_nodes_1 N t164 t168) fun t169 =>
     br (!(decide (t169 < (0 : Int))))
      (self (IntKind.i64.wrap ((IntKind.i64.wrap (shrI .u64 (IntKind.u64.wrap (IntKind.i64.wrap (s20 + s21))) (1 : Int))) + (1 : Int))) s21)
      (self s20 (IntKind.i64.wrap (shrI .u64 (IntKind.u64.wrap (IntKind.i64.wrap (s20 + s21))) (1 : Int)))))
     none)
    none)
   none)
  (k8 s20)
def z2L4 (N : Nat) (r_slices_symMergeCmpFunc_blob_node : Int → Int → Int → Unit → τ6 → Option τ6) (c22 : Int) (w0 : List τ0) (k8 : Int → Option τ6) : Nat → Int → Int → Option τ6
 | 0, _, _ => none
 | n + 1, s20, s21 => z2L4T N r_slices_symMergeCmpFunc_blob_node c22 w0 k8 (z2L4 N r_slices_symMergeCmpFunc_blob_node c22 w0 k8 n) s20 s21
def slices_symMergeCmpFunc_blob_node_b (N : Nat) (r_slices_symMergeCmpFunc_blob_node : Int → Int → Int → Unit → τ6 → Option τ6) (x1 : Int) (x2 : Int) (x3 : Int) (x4 : Unit) (w0 : List τ0) : Option τ6 :=
 br ((IntKind.i64.wrap (x2 - x1)) == (1 : Int))
  (z2L0 N r_slices_symMergeCmpFunc_blob_node x1 w0 (fun o0_10 =>
    z2L1 N r_slices_symMergeCmpFunc_blob_node o0_10 (fun o1_w0 =>
      some o1_w0) N x1 w0) N x2 x3)
  (br ((IntKind.i64.wrap (x3 - x2)) == (1 : Int))
   (z2L2 N r_slices_symMergeCmpFunc_blob_node x2 w0 (fun o2_14 =>
     z2L3 N r_slices_symMergeCmpFunc_blob_node o2_14 (fun o3_w0 =>
       some o3_w0) N x2 w0) N x1 x2)
   (br (decide (0 ≤ (1 : Int)))
    (br (decide (x2 > (IntKind.i64.wrap (shrI .u64 (IntKind.u64.wrap (IntKind.i64.wrap (x1 + x3))) (1 : Int)))))
     (z2L4 N r_slices_symMergeCmpFunc_blob_node (IntKind.i64.wrap ((IntKind.i64.wrap ((IntKind.i64.wrap (shrI .u64 (IntKind.u64.wrap (IntKind.i64.wrap (x1 + x3))) (1 : Int))) + x2)) - (1 : Int))) w0 (fun o4_20 =>
       br (decide (o4_20 < x2))
        (br (decide (x2 < (IntKind.i64.wrap ((IntKind.i64.wrap ((IntKind.i64.wrap (shrI .u64 (IntKind.u64.wrap (IntKind.i64.wrap (x1 + x3))) (1 : Int))) + x2)) - o4_20))))
         (bnd (slices_rotateCmpFunc_blob_node N o4_20 x2 (IntKind.i64.wrap ((IntKind.i64.wrap ((IntKind.i64.wrap (shrI .u64 (IntKind.u64.wrap (IntKind.i64.wrap (x1 + x3))) (1 : Int))) + x2)) - o4_20)) x4 w0) fun t191 =>
         br (decide (x1 < o4_20))
          (br (decide (o4_20 < (IntKind.i64.wrap (shrI .u64 (IntKind.u64.wrap (IntKind.i64.wrap (x1 + x3))) (1 : Int)))))
           (bnd (r_slices_symMergeCmpFunc_blob_node x1 o4_20 (IntKind.i64.wrap (shrI .u64 (IntKind.u64.wrap (IntKind.i64.wrap (x1 + x3))) (1 : Int))) x4 t191) fun t205 =>
           br (decide ((IntKind.i64.wrap (shrI .u64 (IntKind.u64.wrap (IntKind.i64.wrap (x1 + x3))) (1 : Int))) < (IntKind.i64.wrap ((IntKind.i64.wrap ((IntKind.i64.wrap (shrI .u64 (IntKind.u64.wrap (IntKind.i64.wrap (x1 + x3))) (1 : Int))) + x2)) - o4_20))))
            (br (decide ((IntKind.i64.wrap ((IntKind.i64.wrap ((IntKind.i64.wrap (shrI .u64 (IntKind.u64.wrap (IntKind.i64.wrap (x1 + x3))) (1 : Int))) + x2)) - o4_20)) < x3))
             (bnd (r_slices_symMergeCmpFunc_blob_node (IntKind.i64.wrap (shrI .u64 (IntKind.u64.wrap (IntKind.i64.wrap (x1 + x3))) (1 : Int))) (IntKind.i64.wrap ((IntKind.i64.wrap ((IntKind.i64.wrap (shrI .u64 (IntKind.u64.wrap (IntKind.i64.wrap (x1 + x3))) (1 : Int))) + x2)) - o4_20)) x3 x4 t205) fun t219 =>
             some t219)
             (some t205))
            (some t205))
           (br (decide ((IntKind.i64.wrap (shrI .u64 (IntKind.u64.wrap (IntKind.i64.wrap (x1 + x3))) (1 : Int))) < (IntKind.i64.wrap ((IntKind.i64.wrap ((IntKind.i64.wrap (shrI .u64 (IntKind.u64.wrap (IntKind.i64.wrap (x1 + x3))) (1 : Int))) + x2)) - o4_20))))
            (br (decide ((IntKind.i64.wrap ((IntKind.i64.wrap ((IntKind.i64.wrap (shrI .u64 (IntKind.u64.wrap (IntKind.i64.wrap (x1 + x3))) (1 : Int))) + x2)) - o4_20)) < x3))
             (bnd (r_slices_symMergeCmpFunc_blob_node (IntKind.i64.wrap (shrI .u64 (IntKind.u64.wrap (IntKind.i64.wrap (x1 + x3))) (1 : Int))) (IntKind.i64.wrap ((IntKind.i64.wrap ((IntKind.i64.wrap (shrI .u64 (IntKind.u64.wrap (IntKind.i64.wrap (x1 + x3))) (1 : Int))) + x2)) - o4_20)) x3 x4 t191) fun t219_6 =>
             some t219_6)
             (some t191))
            (some t191)))
          (br (decide ((IntKind.i64.wrap (shrI .u64 (IntKind.u64.wrap (IntKind.i64.wrap (x1 + x3))) (1 : Int))) < (IntKind.i64.wrap ((IntKind.i64.wrap ((IntKind.i64.wrap (shrI .u64 (IntKind.u64.wrap (IntKind.i64.wrap (x1 + x3))) (1 : Int))) + x2)) - o4_20))))
           (br (decide ((IntKind.i64.wrap ((IntKind.i64.wrap ((IntKind.i64.wrap (shrI .u64 (IntKind.u64.wrap (IntKind.i64.wrap (x1 + x3))) (1 : Int))) + x2)) - o4_20)) < x3))
            (bnd (r_slices_symMergeCmpFunc_blob_node (IntKind.i64.wrap (shrI .u64 (IntKind.u64.wrap (IntKind.i64.wrap (x1 + x3))) (1 : Int))) (IntKind.i64.wrap ((IntKind.i64.wrap ((IntKind.i64.wrap (shrI .u64 (IntKind.u64.wrap (IntKind.i64.wrap (x1 + x3))) (1 : Int))) + x2)) - o4_20)) x3 x4 t191) fun t219_7 =>
            some t219_7)
            (some t191))
           (some t191)))
         (br (decide (x1 < o4_20))
          (br (decide (o4_20 < (IntKind.i64.wrap (shrI .u64 (IntKind.u64.wrap (IntKind.i64.wrap (x1 + x3))) (1 : Int)))))
           (bnd (r_slices_symMergeCmpFunc_blob_node x1 o4_20 (IntKind.i64.wrap (shrI .u64 (IntKind.u64.wrap (IntKind.i64.wrap (x1 + x3))) (1 : Int))) x4 w0) fun t205_8 =>
           br (decide ((IntKind.i64.wrap (shrI .u64 (IntKind.u64.wrap (IntKind.i64.wrap (x1 + x3))) (1 : Int))) < (IntKind.i64.wrap ((IntKind.i64.wrap ((IntKind.i64.wrap (shrI .u64 (IntKind.u64.wrap (IntKind.i64.wrap (x1 + x3))) (1 : Int))) + x2)) - o4_20))))
            (br (decide ((IntKind.i64.wrap ((IntKind.i64.wrap ((IntKind.i64.wrap (shrI .u64 (IntKind.u64.wrap (IntKind.i64.wrap (x1 + x3))) (1 : Int))) + x2)) - o4_20)) < x3))
             (bnd (r_slices_symMergeCmpFunc_blob_node (IntKind.i64.wrap (shrI .u64 (IntKind.u64.wrap (IntKind.i64.wrap (x1 + x3))) (1 : Int))) (IntKind.i64.wrap ((IntKind.i64.wrap ((IntKind.i64.wrap (shrI .u64 (IntKind.u64.wrap (IntKind.i64.wrap (x1 + x3))) (1 : Int))) + x2)) - o4_20)) x3 x4 t205_8) fun t219_9 =>
             some t219_9)
             (some t205_8))
            (some t205_8))
           (br (decide ((IntKind.i64.wrap (shrI .u64 (IntKind.u64.wrap (IntKind.i64.wrap (x1 + x3))) (1 : Int))) < (IntKind.i64.wrap ((IntKind.i64.wrap ((IntKind.i64.wrap (shrI .u64 (IntKind.u64.wrap (IntKind.i64.wrap (x1 + x3))) (1 : Int))) + x2)) - o4_20))))
            (br (decide ((IntKind.i64.wrap ((IntKind.i64.wrap ((IntKind.i64.wrap (shrI .u64 (IntKind.u64.wrap (IntKind.i64.wrap (x1 + x3))) (1 : Int))) + x2)) - o4_20)) < x3))
             (bnd (r_slices_symMergeCmpFunc_blob_node (IntKind.i64.wrap (shrI .u64 (IntKind.u64.wrap (IntKind.i64.wrap (x1 + x3))) (1 : Int))) (IntKind.i64.wrap ((IntKind.i64.wrap ((IntKind.i64.wrap (shrI .u64 (IntKind.u64.wrap (IntKind.i64.wrap (x1 + x3))) (1 : Int))) + x2)) - o4_20)) x3 x4 w0) fun t219_10 =>
             some t219_10)
             (some w0))
            (some w0)))
          (br (decide ((IntKind.i64.wrap (shrI .u64 (IntKind.u64.wrap (IntKind.i64.wrap (x1 + x3))) (1 : Int))) < (IntKind.i64.wrap ((IntKind.i64.wrap ((IntKind.i64.wrap (shrI .u64 (IntKind.u64.wrap (IntKind.i64.wrap (x1 + x3))) (1 : Int))) + x2)) - o4_20))))
           (br (decide ((IntKind.i64.wrap ((IntKind.i64.wrap ((IntKind.i64.wrap (shrI .u64 (IntKind.u64.wrap (IntKind.i64.wrap (x1 + x3))) (1 : Int))) + x2)) - o4_20)) < x3))
            (bnd (r_slices_symMergeCmpFunc_blob_node (IntKind.i64.wrap (shrI .u64 (IntKind.u64.wrap (IntKind.i64.wrap (x1 + x3))) (1 : Int))) (IntKind.i64.wrap ((IntKind.i64.wrap ((IntKind.i64.wrap (shrI .u64 (IntKind.u64.wrap (IntKind.i64.wrap (x1 + x3))) (1 : Int))) + x2)) - o4_20)) x3 x4 w0) fun t219_11 =>
            some t219_11)
            (some w0))
           (some w0))))
        (br (decide (x1 < o4_20))
         (br (decide (o4_20 < (IntKind.i64.wrap (shrI .u64 (IntKind.u64.wrap (IntKind.i64.wrap (x1 + x3))) (1 : Int)))))
          (bnd (r_slices_symMergeCmpFunc_blob_node x1 o4_20 (IntKind.i64.wrap (shrI .u64 (IntKind.u64.wrap (IntKind.i64.wrap (x1 + x3))) (1 : Int))) x4 w0) fun t205_12 =>
          br (decide ((IntKind.i64.wrap (shrI .u64 (IntKind.u64.wrap (IntKind.i64.wrap (x1 + x3))) (1 : Int))) < (IntKind.i64.wrap ((IntKind.i64.wrap ((IntKind.i64.wrap (shrI .u64 (IntKind.u64.wrap (IntKind.i64.wrap (x1 + x3))) (1 : Int))) + x2)) - o4_20))))
           (br (decide ((IntKind.i64.wrap ((IntKind.i64.wrap ((IntKind.i64.wrap (shrI .u64 (IntKind.u64.wrap (IntKind.i64.wrap (x1 + x3))) (1 : Int))) + x2)) - o4_20)) < x3))
            (bnd (r_slices_symMergeCmpFunc_blob_node (IntKind.i64.wrap (shrI .u64 (IntKind.u64.wrap (IntKind.i64.wrap (x1 + x3))) (1 : Int))) (IntKind.i64.wrap ((IntKind.i64.wrap ((IntKind.i64.wrap (shrI .u64 (IntKind.u64.wrap (IntKind.i64.wrap (x1 + x3))) (1 : Int))) + x2)) - o4_20)) x3 x4 t205_12) fun t219_13 =>
            some t219_13)
            (some t205_12))
           (some t205_12))
          (br (decide ((IntKind.i64.wrap (shrI .u64 (IntKind.u64.wrap (IntKind.i64.wrap (x1 + x3))) (1 : Int))) < (IntKind.i64.wrap ((IntKind.i64.wrap ((IntKind.i64.wrap (shrI .u64 (IntKind.u64.wrap (IntKind.i64.wrap (x1 + x3))) (1 : Int))) + x2)) - o4_20))))
           (br (decide ((IntKind.i64.wrap ((IntKind.i64.wrap ((IntKind.i64.wrap (shrI .u64 (IntKind.u64.wrap (IntKind.i64.wrap (x1 + x3))) (1 : Int))) + x2)) - o4_20)) < x3))
            (bnd (r_slices_symMergeCmpFunc_blob_node (IntKind.i64.wrap (shrI .u64 (IntKind.u64.wrap (IntKind.i64.wrap (x1 + x3))) (1 : Int))) (IntKind.i64.wrap ((IntKind.i64.wrap ((IntKind.i64.wrap (shrI .u64 (IntKind.u64.wrap (IntKind.i64.wrap (x1 + x3))) (1 : Int))) + x2)) - o4_20)) x3 x4 w0) fun t219_14 =>
            some t219_14)
            (some w0))
           (some w0)))
         (br (decide ((IntKind.i64.wrap (shrI .u64 (IntKind.u64.wrap (IntKind.i64.wrap (x1 + x3))) (1 : Int))) < (IntKind.i64.wrap ((IntKind.i64.wrap ((IntKind.i64.wrap (shrI .u64 (IntKind.u64.wrap (IntKind.i64.wrap (x1 + x3))) (1 : Int))) + x2)) - o4_20))))
          (br (decide ((IntKind.i64.wrap ((IntKind.i64.wrap ((IntKind.i64.wrap (shrI .u64 (IntKind.u64.wrap (IntKind.i64.wrap (x1 + x3))) (1 : Int))) + x2)) - o4_20)) < x3))
           (bnd (r_slices_symMergeCmpFunc_blob_node (IntKind.i64.wrap (shrI .u64 (IntKind.u64.wrap (IntKind.i64.wrap (x1 + x3))) (1 : Int))) (IntKind.i64.wrap ((IntKind.i64.wrap ((IntKind.i64.wrap (shrI .u64 (IntKind.u64.wrap (IntKind.i64.wrap (x1 + x3))) (1 : Int))) + x2)) - o4_20)) x3 x4 w0) fun t219_15 =>
           some t219_15)
           (some w0))
          (some w0)))) N (IntKind.i64.wrap ((IntKind.i64.wrap ((IntKind.i64.wrap (shrI .u64 (IntKind.u64.wrap (IntKind.i64.wrap (x1 + x3))) (1 : Int))) + x2)) - x3)) (IntKind.i64.wrap (shrI .u64 (IntKind.u64.wrap (IntKind.i64.wrap (x1 + x3))) (1 : Int))))
     (z2L4 N r_slices_symMergeCmpFunc_blob_node (IntKind.i64.wrap ((IntKind.i64.wrap ((IntKind.i64.wrap (shrI .u64 (IntKind.u64.wrap (IntKind.i64.wrap (x1 + x3))) (1 : Int))) + x2)) - (1 : Int))) w0 (fun o4_20 =>
       br (decide (o4_20 < x2))
        (br (decide (x2 < (IntKind.i64.wrap ((IntKind.i64.wrap ((IntKind.i64.wrap (shrI .u64 (IntKind.u64.wrap (IntKind.i64.wrap (x1 + x3))) (1 : Int))) + x2)) - o4_20))))
         (bnd (slices_rotateCmpFunc_blob_node N o4_20 x2 (IntKind.i64.wrap ((IntKind.i64.wrap ((IntKind.i64.wrap (shrI .u64 (IntKind.u64.wrap (IntKind.i64.wrap (x1 + x3))) (1 : Int))) + x2)) - o4_20)) x4 w0) fun t191_16 =>
         br (decide (x1 < o4_20))
          (br (decide (o4_20 < (IntKind.i64.wrap (shrI .u64 (IntKind.u64.wrap (IntKind.i64.wrap (x1 + x3))) (1 : Int)))))
           (bnd (r_slices_symMergeCmpFunc_blob_node x1 o4_20 (IntKind.i64.wrap (shrI .u64 (IntKind.u64.wrap (IntKind.i64.wrap (x1 + x3))) (1 : Int))) x4 t191_16) fun t205_17 =>
           br (decide ((IntKind.i64.wrap (shrI .u64 (IntKind.u64.wrap (IntKind.i64.wrap (x1 + x3))) (1 : Int))) < (IntKind.i64.wrap ((IntKind.i64.wrap ((IntKind.i64.wrap (shrI .u64 (IntKind.u64.wrap (IntKind.i64.wrap (x1 + x3))) (1 : Int))) + x2)) - o4_20))))
            (br (decide ((IntKind.i64.wrap ((IntKind.i64.wrap ((IntKind.i64.wrap (shrI .u64 (IntKind.u64.wrap (IntKind.i64.wrap (x1 + x3))) (1 : Int))) + x2)) - o4_20)) < x3))
             (bnd (r_slices_symMergeCmpFunc_blob_node (IntKind.i64.wrap (shrI .u64 (IntKind.u64.wrap (IntKind.i64.wrap (x1 + x3))) (1 : Int))) (IntKind.i64.wrap ((IntKind.i64.wrap ((IntKind.i64.wrap (shrI .u64 (IntKind.u64.wrap (IntKind.i64.wrap (x1 + x3))) (1 : Int))) + x2)) - o4_20)) x3 x4 t205_17) fun t219_18 =>
             some t219_18)
             (some t205_17))
            (some t205_17))
           (br (decide ((IntKind.i64.wrap (shrI .u64 (IntKind.u64.wrap (IntKind.i64.wrap (x1 + x3))) (1 : Int))) < (IntKind.i64.wrap ((IntKind.i64.wrap ((IntKind.i64.wrap (shrI .u64 (IntKind.u64.wrap (IntKind.i64.wrap (x1 + x3))) (1 : Int))) + x2)) - o4_20))))
            (br (decide ((IntKind.i64.wrap ((IntKind.i64.wrap ((IntKind.i64.wrap (shrI .u64 (IntKind.u64.wrap (IntKind.i64.wrap (x1 + x3))) (1 : Int))) + x2)) - o4_20)) < x3))
             (bnd (r_slices_symMergeCmpFunc_blob_node (IntKind.i64.wrap (shrI .u64 (IntKind.u64.wrap (IntKind.i64.wrap (x1 + x3))) (1 : Int))) (IntKind.i64.wrap ((IntKind.i64.wrap ((IntKind.i64.wrap (shrI .u64 (IntKind.u64.wrap (IntKind.i64.wrap (x1 + x3))) (1 : Int))) + x2)) - o4_20)) x3 x4 t191_16) fun t219_19 =>
             some t219_19)
             (some t191_16))
            (some t191_16)))
          (br (decide ((IntKind.i64.wrap (shrI .u64 (IntKind.u64.wrap (IntKind.i64.wrap (x1 + x3))) (1 : Int))) < (IntKind.i64.wrap ((IntKind.i64.wrap ((IntKind.i64.wrap (shrI .u64 (IntKind.u64.wrap (IntKind.i64.wrap (x1 + x3))) (1 : Int))) + x2)) - o4_20))))
           (br (decide ((IntKind.i64.wrap ((IntKind.i64.wrap ((IntKind.i64.wrap (shrI .u64 (IntKind.u64.wrap (IntKind.i64.wrap (x1 + x3))) (1 : Int))) + x2)) - o4_20)) < x3))
            (bnd (r_slices_symMergeCmpFunc_blob_node (IntKind.i64.wrap (shrI .u64 (IntKind.u64.wrap (IntKind.i64.wrap (x1 + x3))) (1 : Int))) (IntKind.i64.wrap ((IntKind.i64.wrap ((IntKind.i64.wrap (shrI .u64 (IntKind.u64.wrap (IntKind.i64.wrap (x1 + x3))) (1 : Int))) + x2)) - o4_20)) x3 x4 t191_16) fun t219_20 =>
            some t219_20)
            (some t191_16))
           (some t191_16)))
         (br (decide (x1 < o4_20))
          (br (decide (o4_20 < (IntKind.i64.wrap (shrI .u64 (IntKind.u64.wrap (IntKind.i64.wrap (x1 + x3))) (1 : Int)))))
           (bnd (r_slices_symMergeCmpFunc_blob_node x1 o4_20 (IntKind.i64.wrap (shrI .u64 (IntKind.u64.wrap (IntKind.i64.wrap (x1 + x3))) (1 : Int))) x4 w0) fun t205_21 =>
           br (decide ((IntKind.i64.wrap (shrI .u64 (IntKind.u64.wrap (IntKind.i64.wrap (x1 + x3))) (1 : Int))) < (IntKind.i64.wrap ((IntKind.i64.wrap ((IntKind.i64.wrap (shrI .u64 (IntKind.u64.wrap (IntKind.i64.wrap (x1 + x3))) (1 : Int))) + x2)) - o4_20))))
            (br (decide ((IntKind.i64.wrap ((IntKind.i64.wrap ((IntKind.i64.wrap (shrI .u64 (IntKind.u64.wrap (IntKind.i64.wrap (x1 + x3))) (1 : Int))) + x2)) - o4_20)) < x3))
             (bnd (r_slices_symMergeCmpFunc_blob_node (IntKind.i64.wrap (shrI .u64 (IntKind.u64.wrap (IntKind.i64.wrap (x1 + x3))) (1 : Int))) (IntKind.i64.wrap ((IntKind.i64.wrap ((IntKind.i64.wrap (shrI .u64 (IntKind.u64.wrap (IntKind.i64.wrap (x1 + x3))) (1 : Int))) + x2)) - o4_20)) x3 x4 t205_21) fun t219_22 =>
             some t219_22)
             (some t205_21))
            (some t205_21))
           (br (decide ((IntKind.i64.wrap (shrI .u64 (IntKind.u64.wrap (IntKind.i64.wrap (x1 + x3))) (1 : Int))) < (IntKind.i64.wrap ((IntKind.i64.wrap ((IntKind.i64.wrap (shrI .u64 (IntKind.u64.wrap (IntKind.i64.wrap (x1 + x3))) (1 : Int))) + x2)) - o4_20))))
            (br (decide ((IntKind.i64.wrap ((IntKind.i64.wrap ((IntKind.i64.wrap (shrI .u64 (IntKind.u64.wrap (IntKind.i64.wrap (x1 + x3))) (1 : Int))) + x2)) - o4_20)) < x3))
             (bnd (r_slices_symMergeCmpFunc_blob_node (IntKind.i64.wrap (shrI .u64 (IntKind.u64.wrap (IntKind.i64.wrap (x1 + x3))) (1 : Int))) (IntKind.i64.wrap ((IntKind.i64.wrap ((IntKind.i64.wrap (shrI .u64 (IntKind.u64.wrap (IntKind.i64.wrap (x1 + x3))) (1 : Int))) + x2)) - o4_20)) x3 x4 w0) fun t219_23 =>
             some t219_23)
             (some w0))
            (some w0)))
          (br (decide ((IntKind.i64.wrap (shrI .u64 (IntKind.u64.wrap (IntKind.i64.wrap (x1 + x3))) (1 : Int))) < (IntKind.i64.wrap ((IntKind.i64.wrap ((IntKind.i64.wrap (shrI .u64 (IntKind.u64.wrap (IntKind.i64.wrap (x1 + x3))) (1 : Int))) + x2)) - o4_20))))
           (br (decide ((IntKind.i64.wrap ((IntKind.i64.wrap ((IntKind.i64.wrap (shrI .u64 (IntKind.u64.wrap (IntKind.i64.wrap (x1 + x3))) (1 : Int))) + x2)) - o4_20)) < x3))
            (bnd (r_slices_symMergeCmpFunc_blob_node (IntKind.i64.wrap (shrI .u64 (IntKind.u64.wrap (IntKind.i64.wrap (x1 + x3))) (1 : Int))) (IntKind.i64.wrap ((IntKind.i64.wrap ((IntKind.i64.wrap (shrI .u64 (IntKind.u64.wrap (IntKind.i64.wrap (x1 + x3))) (1 : Int))) + x2)) - o4_20)) x3 x4 w0) fun t219_24 =>
            some t219_24)
            (some w0))
           (some w0))))
        (br (decide (x1 < o4_20))
         (br (decide (o4_20 < (IntKind.i64.wrap (shrI .u64 (IntKind.u64.wrap (IntKind.i64.wrap (x1 + x3))) (1 : Int)))))
          (bnd (r_slices_symMergeCmpFunc_blob_node x1 o4_20 (IntKind.i64.wrap (shrI .u64 (IntKind.u64.wrap (IntKind.i64.wrap (x1 + x3))) (1 : Int))) x4 w0) fun t205_25 =>
          br (decide ((IntKind.i64.wrap (shrI .u64 (IntKind.u64.wrap (IntKind.i64.wrap (x1 + x3))) (1 : Int))) < (IntKind.i64.wrap ((IntKind.i64.wrap ((IntKind.i64.wrap (shrI .u64 (IntKind.u64.wrap (IntKind.i64.wrap (x1 + x3))) (1 : Int))) + x2)) - o4_20))))
           (br (decide ((IntKind.i64.wrap ((IntKind.i64.wrap ((IntKind.i64.wrap (shrI .u64 (IntKind.u64.wrap (IntKind.i64.wrap (x1 + x3))) (1 : Int))) + x2)) - o4_20)) < x3))
            (bnd (r_slices_symMergeCmpFunc_blob_node (IntKind.i64.wrap (shrI .u64 (IntKind.u64.wrap (IntKind.i64.wrap (x1 + x3))) (1 : Int))) (IntKind.i64.wrap ((IntKind.i64.wrap ((IntKind.i64.wrap (shrI .u64 (IntKind.u64.wrap (IntKind.i64.wrap (x1 + x3))) (1 : Int))) + x2)) - o4_20)) x3 x4 t205_25) fun t219_26 =>
            some t219_26)
            (some t205_25))
           (some t205_25))
          (br (decide ((IntKind.i64.wrap (shrI .u64 (IntKind.u64.wrap (IntKind.i64.wrap (x1 + x3))) (1 : Int))) < (IntKind.i64.wrap ((IntKind.i64.wrap ((IntKind.i64.wrap (shrI .u64 (IntKind.u64.wrap (IntKind.i64.wrap (x1 + x3))) (1 : Int))) + x2)) - o4_20))))
           (br (decide ((IntKind.i64.wrap ((IntKind.i64.wrap ((IntKind.i64.wrap (shrI .u64 (IntKind.u64.wrap (IntKind.i64.wrap (x1 + x3))) (1 : Int))) + x2)) - o4_20)) < x3))
            (bnd (r_slices_symMergeCmpFunc_blob_node (IntKind.i64.wrap (shrI .u64 (IntKind.u64.wrap (IntKind.i64.wrap (x1 + x3))) (1 : Int))) (IntKind.i64.wrap ((IntKind.i64.wrap ((IntKind.i64.wrap (shrI .u64 (IntKind.u64.wrap (IntKind.i64.wrap (x1 + x3))) (1 : Int))) + x2)) - o4_20)) x3 x4 w0) fun t219_27 =>
            some t219_27)
            (some w0))
           (some w0)))
         (br (decide ((IntKind.i64.wrap (shrI .u64 (IntKind.u64.wrap (IntKind.i64.wrap (x1 + x3))) (1 : Int))) < (IntKind.i64.wrap ((IntKind.i64.wrap ((IntKind.i64.wrap (shrI .u64 (IntKind.u64.wrap (IntKind.i64.wrap (x1 + x3))) (1 : Int))) + x2)) - o4_20))))
          (br (decide ((IntKind.i64.wrap ((IntKind.i64.wrap ((IntKind.i64.wrap (shrI .u64 (IntKind.u64.wrap (IntKind.i64.wrap (x1 + x3))) (1 : Int))) + x2)) - o4_20)) < x3))
           (bnd (r_slices_symMergeCmpFunc_blob_node (IntKind.i64.wrap (shrI .u64 (IntKind.u64.wrap (IntKind.i64.wrap (x1 + x3))) (1 : Int))) (IntKind.i64.wrap ((IntKind.i64.wrap ((IntKind.i64.wrap (shrI .u64 (IntKind.u64.wrap (IntKind.i64.wrap (x1 + x3))) (1 : Int))) + x2)) - o4_20)) x3 x4 w0) fun t219_28 =>
           some t219_28)
           (some w0))
          (some w0)))) N x1 x2))
    none))
abbrev z2sg (f : SV [.row 0, .v τ5, .v τ5, .v τ5, .v (.clo 55 .un)] → BV [.row 81 τ1 true] → Option τ6) : AF := { ps := [.row 0, .v τ5, .v τ5, .v τ5, .v (.clo 55 .un)], bs := [.row 81 τ1 true], rs := [], cs := [.row 81 τ1 true], R := List τ0, out := fun z => ((), (z, ())), f := f }
abbrev z2pk : SV [] → BV [.row 81 τ1 true] → τ6 := fun _ y => y.1
def z2fn (N : Nat) (r_slices_symMergeCmpFunc_blob_node : Int → Int → Int → Unit → τ6 → Option τ6) : FuncId → Option Tmp → Option AF := fun f _ =>
 match f with
  | 55 => some (z40g N)
  | 116 => some (z4sg fun x y => r_slices_symMergeCmpFunc_blob_node x.2.1 x.2.2.1 x.2.2.2.1 x.2.2.2.2.1 y.1)
  | 131 => some (z6g N)
  | _ => none
theorem z2fn_ok (N : Nat) (r_slices_symMergeCmpFunc_blob_node : Int → Int → Int → Unit → τ6 → Option τ6) (h_slices_symMergeCmpFunc_blob_node : Sound Tryz.prog GW B0G 116 (z4sg fun x y => r_slices_symMergeCmpFunc_blob_node x.2.1 x.2.2.1 x.2.2.2.1 x.2.2.2.2.1 y.1)) : ∀ f q F, z2fn N r_slices_symMergeCmpFunc_blob_node f q = some F → Sound Tryz.prog GW B0G f F := by
 intro f q F h
 unfold z2fn at h
 split at h
 · cases h; exact z40sound N
 · cases h; exact h_slices_symMergeCmpFunc_blob_node
 · cases h; exact z6sound N
 · cases h
def z2h : Nat → Hint := fun i =>
 match i with
 | 0 => ⟨[], [0, 1, 4, 10, 11], [0], [0, 1, 10], [0], []⟩
 | 2 => ⟨[], [0, 10, 13], [0], [], [0], []⟩
 | 4 => ⟨[], [0, 2, 4, 14, 15], [0], [0, 2, 14], [0], []⟩
 | 6 => ⟨[], [0, 14, 17], [0], [], [0], []⟩
 | 8 => ⟨[], [0, 1, 2, 3, 4, 18, 19, 20, 21, 22], [0], [0, 1, 2, 3, 4, 18, 19, 20], [0], []⟩
 | 100005 => ⟨[0], [], [], [], [], []⟩
 | 100011 => ⟨[], [1, 2], [], [], [], []⟩
 | 100017 => ⟨[0], [], [], [], [], []⟩
 | 100023 => ⟨[], [1, 2], [], [], [], []⟩
 | 100035 => ⟨[0], [], [], [], [], []⟩
 | _ => hint0
abbrev z2E (N : Nat) (r_slices_symMergeCmpFunc_blob_node : Int → Int → Int → Unit → τ6 → Option τ6) : Env := mkE z2h (z2fn N r_slices_symMergeCmpFunc_blob_node) (fun _ => false) (fun _ => false)
noncomputable abbrev z2c4 : Code := cAt (bodyOf Tryz.f116) [false, true, false, true, true, false, false, false]
noncomputable abbrev z2c3 : Code := cAt (bodyOf Tryz.f116) [false, true, false, true, true, true, false, true, false, false]
noncomputable abbrev z2c2 : Code := cAt (bodyOf Tryz.f116) [true, false, true, false, true, true, false, false, false]
noncomputable abbrev z2c1 : Code := cAt (bodyOf Tryz.f116) [true, false, true, false, true, true, true, false, true, false, false]
noncomputable abbrev z2c0 : Code := cAt (bodyOf Tryz.f116) [true, true, true, true, true, true, true, false, false, false]
abbrev z2L0_fs : List (Nat × Sl) := [(0, .row 0), (1, .v τ5), (4, .v (.clo 55 .un)), (10, .v τ5), (11, .v τ5)]
abbrev z2L0_bs : List (Nat × Sb) := [(0, .row 81 τ1 true)]
def z2L0_hd (x1 : Int) (x4 : Unit) (w0 : List τ0) (s10 : Int) (s11 : Int) : St := ⟨220, [(0, .row 0), (1, .v τ5 x1), (4, .v (.clo 55 .un) x4), (10, .v τ5 s10), (11, .v τ5 s11)], [(0, .row 81 τ1 true w0)]⟩
def z2L0_tl0 (x1 : Int) (_x4 : Unit) (w0 : List τ0) (o0_10 : Int) : St := ⟨220, [(0, .row 0), (1, .v τ5 x1), (10, .v τ5 o0_10)], [(0, .row 81 τ1 true w0)]⟩
def z2L0_G (N : Nat) (r_slices_symMergeCmpFunc_blob_node : Int → Int → Int → Unit → τ6 → Option τ6) (x1 : Int) (x4 : Unit) (w0 : List τ0) (s10 : Int) (s11 : Int) (k : Ex → St → Option τ6) : Option τ6 :=
 z2L0 N r_slices_symMergeCmpFunc_blob_node x1 w0 (fun o0_10 => k (.exit 0) (z2L0_tl0 x1 x4 w0 o0_10)) N s10 s11
abbrev z2L0_F (N : Nat) (r_slices_symMergeCmpFunc_blob_node : Int → Int → Int → Unit → τ6 → Option τ6) : FV z2L0_fs → HV z2L0_bs → (Ex → St → Option τ6) → Option τ6 := fun x y k => z2L0_G N r_slices_symMergeCmpFunc_blob_node x.2.1 x.2.2.1 y.1 x.2.2.2.1 x.2.2.2.2.1 k
abbrev z2L1_fs : List (Nat × Sl) := [(0, .row 0), (10, .v τ5), (13, .v τ5)]
abbrev z2L1_bs : List (Nat × Sb) := [(0, .row 81 τ1 true)]
def z2L1_hd (o0_10 : Int) (s13 : Int) (w0_1 : List τ0) : St := ⟨220, [(0, .row 0), (10, .v τ5 o0_10), (13, .v τ5 s13)], [(0, .row 81 τ1 true w0_1)]⟩
def z2L1_tl2 (_o0_10 : Int) (o1_w0 : List τ0) : St := ⟨220, [], [(0, .row 81 τ1 true o1_w0)]⟩
def z2L1_G (N : Nat) (r_slices_symMergeCmpFunc_blob_node : Int → Int → Int → Unit → τ6 → Option τ6) (o0_10 : Int) (s13 : Int) (w0_1 : List τ0) (k : Ex → St → Option τ6) : Option τ6 :=
 z2L1 N r_slices_symMergeCmpFunc_blob_node o0_10 (fun o1_w0 => k (.exit 2) (z2L1_tl2 o0_10 o1_w0)) N s13 w0_1
abbrev z2L1_F (N : Nat) (r_slices_symMergeCmpFunc_blob_node : Int → Int → Int → Unit → τ6 → Option τ6) : FV z2L1_fs → HV z2L1_bs → (Ex → St → Option τ6) → Option τ6 := fun x y k => z2L1_G N r_slices_symMergeCmpFunc_blob_node x.2.1 x.2.2.1 y.1 k
abbrev z2L2_fs : List (Nat × Sl) := [(0, .row 0), (2, .v τ5), (4, .v (.clo 55 .un)), (14, .v τ5), (15, .v τ5)]
abbrev z2L2_bs : List (Nat × Sb) := [(0, .row 81 τ1 true)]
def z2L2_hd (x2 : Int) (x4 : Unit) (w0 : List τ0) (s14 : Int) (s15 : Int) : St := ⟨220, [(0, .row 0), (2, .v τ5 x2), (4, .v (.clo 55 .un) x4), (14, .v τ5 s14), (15, .v τ5 s15)], [(0, .row 81 τ1 true w0)]⟩
def z2L2_tl4 (x2 : Int) (_x4 : Unit) (w0 : List τ0) (o2_14 : Int) : St := ⟨220, [(0, .row 0), (2, .v τ5 x2), (14, .v τ5 o2_14)], [(0, .row 81 τ1 true w0)]⟩
def z2L2_G (N : Nat) (r_slices_symMergeCmpFunc_blob_node : Int → Int → Int → Unit → τ6 → Option τ6) (x2 : Int) (x4 : Unit) (w0 : List τ0) (s14 : Int) (s15 : Int) (k : Ex → St → Option τ6) : Option τ6 :=
 z2L2 N r_slices_symMergeCmpFunc_blob_node x2 w0 (fun o2_14 => k (.exit 4) (z2L2_tl4 x2 x4 w0 o2_14)) N s14 s15
abbrev z2L2_F (N : Nat) (r_slices_symMergeCmpFunc_blob_node : Int → Int → Int → Unit → τ6 → Option τ6) : FV z2L2_fs → HV z2L2_bs → (Ex → St → Option τ6) → Option τ6 := fun x y k => z2L2_G N r_slices_symMergeCmpFunc_blob_node x.2.1 x.2.2.1 y.1 x.2.2.2.1 x.2.2.2.2.1 k
abbrev z2L3_fs : List (Nat × Sl) := [(0, .row 0), (14, .v τ5), (17, .v τ5)]
abbrev z2L3_bs : List (Nat × Sb) := [(0, .row 81 τ1 true)]
def z2L3_hd (o2_14 : Int) (s17 : Int) (w0_3 : List τ0) : St := ⟨220, [(0, .row 0), (14, .v τ5 o2_14), (17, .v τ5 s17)], [(0, .row 81 τ1 true w0_3)]⟩
def z2L3_tl6 (_o2_14 : Int) (o3_w0 : List τ0) : St := ⟨220, [], [(0, .row 81 τ1 true o3_w0)]⟩
def z2L3_G (N : Nat) (r_slices_symMergeCmpFunc_blob_node : Int → Int → Int → Unit → τ6 → Option τ6) (o2_14 : Int) (s17 : Int) (w0_3 : List τ0) (k : Ex → St → Option τ6) : Option τ6 :=
 z2L3 N r_slices_symMergeCmpFunc_blob_node o2_14 (fun o3_w0 => k (.exit 6) (z2L3_tl6 o2_14 o3_w0)) N s17 w0_3
abbrev z2L3_F (N : Nat) (r_slices_symMergeCmpFunc_blob_node : Int → Int → Int → Unit → τ6 → Option τ6) : FV z2L3_fs → HV z2L3_bs → (Ex → St → Option τ6) → Option τ6 := fun x y k => z2L3_G N r_slices_symMergeCmpFunc_blob_node x.2.1 x.2.2.1 y.1 k
abbrev z2L4_fs : List (Nat × Sl) := [(0, .row 0), (1, .v τ5), (2, .v τ5), (3, .v τ5), (4, .v (.clo 55 .un)), (18, .v τ5), (19, .v τ5), (20, .v τ5), (21, .v τ5), (22, .v τ5)]
abbrev z2L4_bs : List (Nat × Sb) := [(0, .row 81 τ1 true)]
def z2L4_hd (x1 : Int) (x2 : Int) (x3 : Int) (x4 : Unit) (c18 : Int) (c19 : Int) (c22 : Int) (w0 : List τ0) (s20 : Int) (s21 : Int) : St := ⟨220, [(0, .row 0), (1, .v τ5 x1), (2, .v τ5 x2), (3, .v τ5 x3), (4, .v (.clo 55 .un) x4), (18, .v τ5 c18), (19, .v τ5 c19), (20, .v τ5 s20), (21, .v τ5 s21), (22, .v τ5 c22)], [(0, .row 81 τ1 true w0)]⟩
def z2L4_tl8 (x1 : Int) (x2 : Int) (x3 : Int) (x4 : Unit) (c18 : Int) (c19 : Int) (_c22 : Int) (w0 : List τ0) (o4_20 : Int) : St := ⟨220, [(0, .row 0), (1, .v τ5 x1), (2, .v τ5 x2), (3, .v τ5 x3), (4, .v (.clo 55 .un) x4), (18, .v τ5 c18), (19, .v τ5 c19), (20, .v τ5 o4_20)], [(0, .row 81 τ1 true w0)]⟩
def z2L4_G (N : Nat) (r_slices_symMergeCmpFunc_blob_node : Int → Int → Int → Unit → τ6 → Option τ6) (x1 : Int) (x2 : Int) (x3 : Int) (x4 : Unit) (c18 : Int) (c19 : Int) (c22 : Int) (w0 : List τ0) (s20 : Int) (s21 : Int) (k : Ex → St → Option τ6) : Option τ6 :=
 z2L4 N r_slices_symMergeCmpFunc_blob_node c22 w0 (fun o4_20 => k (.exit 8) (z2L4_tl8 x1 x2 x3 x4 c18 c19 c22 w0 o4_20)) N s20 s21
abbrev z2L4_F (N : Nat) (r_slices_symMergeCmpFunc_blob_node : Int → Int → Int → Unit → τ6 → Option τ6) : FV z2L4_fs → HV z2L4_bs → (Ex → St → Option τ6) → Option τ6 := fun x y k => z2L4_G N r_slices_symMergeCmpFunc_blob_node x.2.1 x.2.2.1 x.2.2.2.1 x.2.2.2.2.1 x.2.2.2.2.2.1 x.2.2.2.2.2.2.1 x.2.2.2.2.2.2.2.2.2.1 y.1 x.2.2.2.2.2.2.2.1 x.2.2.2.2.2.2.2.2.1 k
noncomputable def z2LP (N : Nat) (r_slices_symMergeCmpFunc_blob_node : Int → Int → Int → Unit → τ6 → Option τ6) : Nat → Code → St → (Ex → St → Option τ6) → Option τ6 := fun i c =>
 match i with
 | 0 => (LPc 220 z2L0_fs z2L0_bs (z2L0_F N r_slices_symMergeCmpFunc_blob_node) (fun st k => iter (z2h 0) (exec (z2E N r_slices_symMergeCmpFunc_blob_node) N c 0) N st k))
 | 2 => (LPc 220 z2L1_fs z2L1_bs (z2L1_F N r_slices_symMergeCmpFunc_blob_node) (fun st k => iter (z2h 2) (exec (z2E N r_slices_symMergeCmpFunc_blob_node) N c 2) N st k))
 | 4 => (LPc 220 z2L2_fs z2L2_bs (z2L2_F N r_slices_symMergeCmpFunc_blob_node) (fun st k => iter (z2h 4) (exec (z2E N r_slices_symMergeCmpFunc_blob_node) N c 4) N st k))
 | 6 => (LPc 220 z2L3_fs z2L3_bs (z2L3_F N r_slices_symMergeCmpFunc_blob_node) (fun st k => iter (z2h 6) (exec (z2E N r_slices_symMergeCmpFunc_blob_node) N c 6) N st k))
 | 8 => (LPc 220 z2L4_fs z2L4_bs (z2L4_F N r_slices_symMergeCmpFunc_blob_node) (fun st k => iter (z2h 8) (exec (z2E N r_slices_symMergeCmpFunc_blob_node) N c 8) N st k))
 | i => fun st k => iter (z2h i) (exec (z2E N r_slices_symMergeCmpFunc_blob_node) N c i) N st k
theorem z2L4_step (N : Nat) (r_slices_symMergeCmpFunc_blob_node : Int → Int → Int → Unit → τ6 → Option τ6) (x1 : Int) (x2 : Int) (x3 : Int) (x4 : Unit) (c18 : Int) (c19 : Int) (c22 : Int) (w0 : List τ0) (KX : Nat → St → Option τ6) (I : St → Option τ6) (s20 : Int) (s21 : Int) :
  execL (z2LP N r_slices_symMergeCmpFunc_blob_node) (z2E N r_slices_symMergeCmpFunc_blob_node) z2c0 8 (z2L4_hd x1 x2 x3 x4 c18 c19 c22 w0 s20 s21) (roundK (z2h 8) I KX (resD (z2E N r_slices_symMergeCmpFunc_blob_node) Tryz.f116 (z2sg fun x y => slices_symMergeCmpFunc_blob_node_b N r_slices_symMergeCmpFunc_blob_node x.2.1 x.2.2.1 x.2.2.2.1 x.2.2.2.2.1 y.1) z2pk)) = z2L4T N r_slices_symMergeCmpFunc_blob_node c22 w0 (fun o4_20 => KX 8 (z2L4_tl8 x1 x2 x3 x4 c18 c19 c22 w0 o4_20)) (fun s20 s21 => I (z2L4_hd x1 x2 x3 x4 c18 c19 c22 w0 s20 s21)) s20 s21 := by kernel_rfl
theorem z2L4_ok (N : Nat) (r_slices_symMergeCmpFunc_blob_node : Int → Int → Int → Unit → τ6 → Option τ6) : ∀ x y k, (∀ st, k .ret st = (resD (z2E N r_slices_symMergeCmpFunc_blob_node) Tryz.f116 (z2sg fun x y => slices_symMergeCmpFunc_blob_node_b N r_slices_symMergeCmpFunc_blob_node x.2.1 x.2.2.1 x.2.2.2.1 x.2.2.2.2.1 y.1) z2pk) st) → iter (z2h 8) (exec (z2E N r_slices_symMergeCmpFunc_blob_node) N z2c0 8) N ⟨220, unF z2L4_fs x, unH z2L4_bs y⟩ k = z2L4_F N r_slices_symMergeCmpFunc_blob_node x y k := fun x y k hk =>
 iter_link (S := (Int) × (Int) × Unit) (z2h 8) _ (execL (z2LP N r_slices_symMergeCmpFunc_blob_node) (z2E N r_slices_symMergeCmpFunc_blob_node) z2c0 8) (resD (z2E N r_slices_symMergeCmpFunc_blob_node) Tryz.f116 (z2sg fun x y => slices_symMergeCmpFunc_blob_node_b N r_slices_symMergeCmpFunc_blob_node x.2.1 x.2.2.1 x.2.2.2.1 x.2.2.2.2.1 y.1) z2pk) (fun st k hk => execL_eq _ _ N _ z2c0 8 (show LoopsOk (z2LP N r_slices_symMergeCmpFunc_blob_node) (z2E N r_slices_symMergeCmpFunc_blob_node) N (resD (z2E N r_slices_symMergeCmpFunc_blob_node) Tryz.f116 (z2sg fun x y => slices_symMergeCmpFunc_blob_node_b N r_slices_symMergeCmpFunc_blob_node x.2.1 x.2.2.1 x.2.2.2.1 x.2.2.2.2.1 y.1) z2pk) [] from trivial) st k hk) (fun s => z2L4_hd x.2.1 x.2.2.1 x.2.2.2.1 x.2.2.2.2.1 x.2.2.2.2.2.1 x.2.2.2.2.2.2.1 x.2.2.2.2.2.2.2.2.2.1 y.1 s.1 s.2.1) k hk
  (fun self s => z2L4T N r_slices_symMergeCmpFunc_blob_node x.2.2.2.2.2.2.2.2.2.1 y.1 (fun o4_20 => k (.exit 8) (z2L4_tl8 x.2.1 x.2.2.1 x.2.2.2.1 x.2.2.2.2.1 x.2.2.2.2.2.1 x.2.2.2.2.2.2.1 x.2.2.2.2.2.2.2.2.2.1 y.1 o4_20)) (fun s20 s21 => self (s20, s21, ())) s.1 s.2.1) (fun n s => z2L4 N r_slices_symMergeCmpFunc_blob_node x.2.2.2.2.2.2.2.2.2.1 y.1 (fun o4_20 => k (.exit 8) (z2L4_tl8 x.2.1 x.2.2.1 x.2.2.2.1 x.2.2.2.2.1 x.2.2.2.2.2.1 x.2.2.2.2.2.2.1 x.2.2.2.2.2.2.2.2.2.1 y.1 o4_20)) n s.1 s.2.1) (fun _ => rfl) (fun _ _ => rfl)
  (fun I s => z2L4_step N r_slices_symMergeCmpFunc_blob_node x.2.1 x.2.2.1 x.2.2.2.1 x.2.2.2.2.1 x.2.2.2.2.2.1 x.2.2.2.2.2.2.1 x.2.2.2.2.2.2.2.2.2.1 y.1 (fun j => k (.exit j)) I s.1 s.2.1) N (x.2.2.2.2.2.2.2.1, x.2.2.2.2.2.2.2.2.1, ())
theorem z2lp8 (N : Nat) (r_slices_symMergeCmpFunc_blob_node : Int → Int → Int → Unit → τ6 → Option τ6) : ∀ st k, (∀ st, k .ret st = (resD (z2E N r_slices_symMergeCmpFunc_blob_node) Tryz.f116 (z2sg fun x y => slices_symMergeCmpFunc_blob_node_b N r_slices_symMergeCmpFunc_blob_node x.2.1 x.2.2.1 x.2.2.2.1 x.2.2.2.2.1 y.1) z2pk) st) → z2LP N r_slices_symMergeCmpFunc_blob_node 8 z2c0 st k = iter (Env.hint (z2E N r_slices_symMergeCmpFunc_blob_node) 8) (exec (z2E N r_slices_symMergeCmpFunc_blob_node) N z2c0 8) N st k := fun st k hk => LPc_eq 220 z2L4_fs z2L4_bs _ _ (resD (z2E N r_slices_symMergeCmpFunc_blob_node) Tryz.f116 (z2sg fun x y => slices_symMergeCmpFunc_blob_node_b N r_slices_symMergeCmpFunc_blob_node x.2.1 x.2.2.1 x.2.2.2.1 x.2.2.2.2.1 y.1) z2pk) (z2L4_ok N r_slices_symMergeCmpFunc_blob_node) _ st k hk (rfl)
theorem z2L3_step (N : Nat) (r_slices_symMergeCmpFunc_blob_node : Int → Int → Int → Unit → τ6 → Option τ6) (o2_14 : Int) (KX : Nat → St → Option τ6) (I : St → Option τ6) (s17 : Int) (w0_3 : List τ0) :
  execL (z2LP N r_slices_symMergeCmpFunc_blob_node) (z2E N r_slices_symMergeCmpFunc_blob_node) z2c1 6 (z2L3_hd o2_14 s17 w0_3) (roundK (z2h 6) I KX (resD (z2E N r_slices_symMergeCmpFunc_blob_node) Tryz.f116 (z2sg fun x y => slices_symMergeCmpFunc_blob_node_b N r_slices_symMergeCmpFunc_blob_node x.2.1 x.2.2.1 x.2.2.2.1 x.2.2.2.2.1 y.1) z2pk)) = z2L3T N r_slices_symMergeCmpFunc_blob_node o2_14 (fun o3_w0 => KX 6 (z2L3_tl6 o2_14 o3_w0)) (fun s17 w0_3 => I (z2L3_hd o2_14 s17 w0_3)) s17 w0_3 := by kernel_rfl
theorem z2L3_ok (N : Nat) (r_slices_symMergeCmpFunc_blob_node : Int → Int → Int → Unit → τ6 → Option τ6) : ∀ x y k, (∀ st, k .ret st = (resD (z2E N r_slices_symMergeCmpFunc_blob_node) Tryz.f116 (z2sg fun x y => slices_symMergeCmpFunc_blob_node_b N r_slices_symMergeCmpFunc_blob_node x.2.1 x.2.2.1 x.2.2.2.1 x.2.2.2.2.1 y.1) z2pk) st) → iter (z2h 6) (exec (z2E N r_slices_symMergeCmpFunc_blob_node) N z2c1 6) N ⟨220, unF z2L3_fs x, unH z2L3_bs y⟩ k = z2L3_F N r_slices_symMergeCmpFunc_blob_node x y k := fun x y k hk =>
 iter_link (S := (Int) × τ6 × Unit) (z2h 6) _ (execL (z2LP N r_slices_symMergeCmpFunc_blob_node) (z2E N r_slices_symMergeCmpFunc_blob_node) z2c1 6) (resD (z2E N r_slices_symMergeCmpFunc_blob_node) Tryz.f116 (z2sg fun x y => slices_symMergeCmpFunc_blob_node_b N r_slices_symMergeCmpFunc_blob_node x.2.1 x.2.2.1 x.2.2.2.1 x.2.2.2.2.1 y.1) z2pk) (fun st k hk => execL_eq _ _ N _ z2c1 6 (show LoopsOk (z2LP N r_slices_symMergeCmpFunc_blob_node) (z2E N r_slices_symMergeCmpFunc_blob_node) N (resD (z2E N r_slices_symMergeCmpFunc_blob_node) Tryz.f116 (z2sg fun x y => slices_symMergeCmpFunc_blob_node_b N r_slices_symMergeCmpFunc_blob_node x.2.1 x.2.2.1 x.2.2.2.1 x.2.2.2.2.1 y.1) z2pk) [] from trivial) st k hk) (fun s => z2L3_hd x.2.1 s.1 s.2.1) k hk
  (fun self s => z2L3T N r_slices_symMergeCmpFunc_blob_node x.2.1 (fun o3_w0 => k (.exit 6) (z2L3_tl6 x.2.1 o3_w0)) (fun s17 w0_3 => self (s17, w0_3, ())) s.1 s.2.1) (fun n s => z2L3 N r_slices_symMergeCmpFunc_blob_node x.2.1 (fun o3_w0 => k (.exit 6) (z2L3_tl6 x.2.1 o3_w0)) n s.1 s.2.1) (fun _ => rfl) (fun _ _ => rfl)
  (fun I s => z2L3_step N r_slices_symMergeCmpFunc_blob_node x.2.1 (fun j => k (.exit j)) I s.1 s.2.1) N (x.2.2.1, y.1, ())
theorem z2lp6 (N : Nat) (r_slices_symMergeCmpFunc_blob_node : Int → Int → Int → Unit → τ6 → Option τ6) : ∀ st k, (∀ st, k .ret st = (resD (z2E N r_slices_symMergeCmpFunc_blob_node) Tryz.f116 (z2sg fun x y => slices_symMergeCmpFunc_blob_node_b N r_slices_symMergeCmpFunc_blob_node x.2.1 x.2.2.1 x.2.2.2.1 x.2.2.2.2.1 y.1) z2pk) st) → z2LP N r_slices_symMergeCmpFunc_blob_node 6 z2c1 st k = iter (Env.hint (z2E N r_slices_symMergeCmpFunc_blob_node) 6) (exec (z2E N r_slices_symMergeCmpFunc_blob_node) N z2c1 6) N st k := fun st k hk => LPc_eq 220 z2L3_fs z2L3_bs _ _ (resD (z2E N r_slices_symMergeCmpFunc_blob_node) Tryz.f116 (z2sg fun x y => slices_symMergeCmpFunc_blob_node_b N r_slices_symMergeCmpFunc_blob_node x.2.1 x.2.2.1 x.2.2.2.1 x.2.2.2.2.1 y.1) z2pk) (z2L3_ok N r_slices_symMergeCmpFunc_blob_node) _ st k hk (rfl)
theorem z2L2_step (N : Nat) (r_slices_symMergeCmpFunc_blob_node : Int → Int → Int → Unit → τ6 → Option τ6) (x2 : Int) (x4 : Unit) (w0 : List τ0) (KX : Nat → St → Option τ6) (I : St → Option τ6) (s14 : Int) (s15 : Int) :
  execL (z2LP N r_slices_symMergeCmpFunc_blob_node) (z2E N r_slices_symMergeCmpFunc_blob_node) z2c2 4 (z2L2_hd x2 x4 w0 s14 s15) (roundK (z2h 4) I KX (resD (z2E N r_slices_symMergeCmpFunc_blob_node) Tryz.f116 (z2sg fun x y => slices_symMergeCmpFunc_blob_node_b N r_slices_symMergeCmpFunc_blob_node x.2.1 x.2.2.1 x.2.2.2.1 x.2.2.2.2.1 y.1) z2pk)) = z2L2T N r_slices_symMergeCmpFunc_blob_node x2 w0 (fun o2_14 => KX 4 (z2L2_tl4 x2 x4 w0 o2_14)) (fun s14 s15 => I (z2L2_hd x2 x4 w0 s14 s15)) s14 s15 := by kernel_rfl
theorem z2L2_ok (N : Nat) (r_slices_symMergeCmpFunc_blob_node : Int → Int → Int → Unit → τ6 → Option τ6) : ∀ x y k, (∀ st, k .ret st = (resD (z2E N r_slices_symMergeCmpFunc_blob_node) Tryz.f116 (z2sg fun x y => slices_symMergeCmpFunc_blob_node_b N r_slices_symMergeCmpFunc_blob_node x.2.1 x.2.2.1 x.2.2.2.1 x.2.2.2.2.1 y.1) z2pk) st) → iter (z2h 4) (exec (z2E N r_slices_symMergeCmpFunc_blob_node) N z2c2 4) N ⟨220, unF z2L2_fs x, unH z2L2_bs y⟩ k = z2L2_F N r_slices_symMergeCmpFunc_blob_node x y k := fun x y k hk =>
 iter_link (S := (Int) × (Int) × Unit) (z2h 4) _ (execL (z2LP N r_slices_symMergeCmpFunc_blob_node) (z2E N r_slices_symMergeCmpFunc_blob_node) z2c2 4) (resD (z2E N r_slices_symMergeCmpFunc_blob_node) Tryz.f116 (z2sg fun x y => slices_symMergeCmpFunc_blob_node_b N r_slices_symMergeCmpFunc_blob_node x.2.1 x.2.2.1 x.2.2.2.1 x.2.2.2.2.1 y.1) z2pk) (fun st k hk => execL_eq _ _ N _ z2c2 4 (show LoopsOk (z2LP N r_slices_symMergeCmpFunc_blob_node) (z2E N r_slices_symMergeCmpFunc_blob_node) N (resD (z2E N r_slices_symMergeCmpFunc_blob_node) Tryz.f116 (z2sg fun x y => slices_symMergeCmpFunc_blob_node_b N r_slices_symMergeCmpFunc_blob_node x.2.1 x.2.2.1 x.2.2.2.1 x.2.2.2.2.1 y.1) z2pk) [] from trivial) st k hk) (fun s => z2L2_hd x.2.1 x.2.2.1 y.1 s.1 s.2.1) k hk
  (fun self s => z2L2T N r_slices_symMergeCmpFunc_blob_node x.2.1 y.1 (fun o2_14 => k (.exit 4) (z2L2_tl4 x.2.1 x.2.2.1 y.1 o2_14)) (fun s14 s15 => self (s14, s15, ())) s.1 s.2.1) (fun n s => z2L2 N r_slices_symMergeCmpFunc_blob_node x.2.1 y.1 (fun o2_14 => k (.exit 4) (z2L2_tl4 x.2.1 x.2.2.1 y.1 o2_14)) n s.1 s.2.1) (fun _ => rfl) (fun _ _ => rfl)
  (fun I s => z2L2_step N r_slices_symMergeCmpFunc_blob_node x.2.1 x.2.2.1 y.1 (fun j => k (.exit j)) I s.1 s.2.1) N (x.2.2.2.1, x.2.2.2.2.1, ())
theorem z2lp4 (N : Nat) (r_slices_symMergeCmpFunc_blob_node : Int → Int → Int → Unit → τ6 → Option τ6) : ∀ st k, (∀ st, k .ret st = (resD (z2E N r_slices_symMergeCmpFunc_blob_node) Tryz.f116 (z2sg fun x y => slices_symMergeCmpFunc_blob_node_b N r_slices_symMergeCmpFunc_blob_node x.2.1 x.2.2.1 x.2.2.2.1 x.2.2.2.2.1 y.1) z2pk) st) → z2LP N r_slices_symMergeCmpFunc_blob_node 4 z2c2 st k = iter (Env.hint (z2E N r_slices_symMergeCmpFunc_blob_node) 4) (exec (z2E N r_slices_symMergeCmpFunc_blob_node) N z2c2 4) N st k := fun st k hk => LPc_eq 220 z2L2_fs z2L2_bs _ _ (resD (z2E N r_slices_symMergeCmpFunc_blob_node) Tryz.f116 (z2sg fun x y => slices_symMergeCmpFunc_blob_node_b N r_slices_symMergeCmpFunc_blob_node x.2.1 x.2.2.1 x.2.2.2.1 x.2.2.2.2.1 y.1) z2pk) (z2L2_ok N r_slices_symMergeCmpFunc_blob_node) _ st k hk (rfl)
theorem z2L1_step (N : Nat) (r_slices_symMergeCmpFunc_blob_node : Int → Int → Int → Unit → τ6 → Option τ6) (o0_10 : Int) (KX : Nat → St → Option τ6) (I : St → Option τ6) (s13 : Int) (w0_1 : List τ0) :
  execL (z2LP N r_slices_symMergeCmpFunc_blob_node) (z2E N r_slices_symMergeCmpFunc_blob_node) z2c3 2 (z2L1_hd o0_10 s13 w0_1) (roundK (z2h 2) I KX (resD (z2E N r_slices_symMergeCmpFunc_blob_node) Tryz.f116 (z2sg fun x y => slices_symMergeCmpFunc_blob_node_b N r_slices_symMergeCmpFunc_blob_node x.2.1 x.2.2.1 x.2.2.2.1 x.2.2.2.2.1 y.1) z2pk)) = z2L1T N r_slices_symMergeCmpFunc_blob_node o0_10 (fun o1_w0 => KX 2 (z2L1_tl2 o0_10 o1_w0)) (fun s13 w0_1 => I (z2L1_hd o0_10 s13 w0_1)) s13 w0_1 := by kernel_rfl
theorem z2L1_ok (N : Nat) (r_slices_symMergeCmpFunc_blob_node : Int → Int → Int → Unit → τ6 → Option τ6) : ∀ x y k, (∀ st, k .ret st = (resD (z2E N r_slices_symMergeCmpFunc_blob_node) Tryz.f116 (z2sg fun x y => slices_symMergeCmpFunc_blob_node_b N r_slices_symMergeCmpFunc_blob_node x.2.1 x.2.2.1 x.2.2.2.1 x.2.2.2.2.1 y.1) z2pk) st) → iter (z2h 2) (exec (z2E N r_slices_symMergeCmpFunc_blob_node) N z2c3 2) N ⟨220, unF z2L1_fs x, unH z2L1_bs y⟩ k = z2L1_F N r_slices_symMergeCmpFunc_blob_node x y k := fun x y k hk =>
 iter_link (S := (Int) × τ6 × Unit) (z2h 2) _ (execL (z2LP N r_slices_symMergeCmpFunc_blob_node) (z2E N r_slices_symMergeCmpFunc_blob_node) z2c3 2) (resD (z2E N r_slices_symMergeCmpFunc_blob_node) Tryz.f116 (z2sg fun x y => slices_symMergeCmpFunc_blob_node_b N r_slices_symMergeCmpFunc_blob_node x.2.1 x.2.2.1 x.2.2.2.1 x.2.2.2.2.1 y.1) z2pk) (fun st k hk => execL_eq _ _ N _ z2c3 2 (show LoopsOk (z2LP N r_slices_symMergeCmpFunc_blob_node) (z2E N r_slices_symMergeCmpFunc_blob_node) N (resD (z2E N r_slices_symMergeCmpFunc_blob_node) Tryz.f116 (z2sg fun x y => slices_symMergeCmpFunc_blob_node_b N r_slices_symMergeCmpFunc_blob_node x.2.1 x.2.2.1 x.2.2.2.1 x.2.2.2.2.1 y.1) z2pk) [] from trivial) st k hk) (fun s => z2L1_hd x.2.1 s.1 s.2.1) k hk
  (fun self s => z2L1T N r_slices_symMergeCmpFunc_blob_node x.2.1 (fun o1_w0 => k (.exit 2) (z2L1_tl2 x.2.1 o1_w0)) (fun s13 w0_1 => self (s13, w0_1, ())) s.1 s.2.1) (fun n s => z2L1 N r_slices_symMergeCmpFunc_blob_node x.2.1 (fun o1_w0 => k (.exit 2) (z2L1_tl2 x.2.1 o1_w0)) n s.1 s.2.1) (fun _ => rfl) (fun _ _ => rfl)
  (fun I s => z2L1_step N r_slices_symMergeCmpFunc_blob_node x.2.1 (fun j => k (.exit j)) I s.1 s.2.1) N (x.2.2.1, y.1, ())
theorem z2lp2 (N : Nat) (r_slices_symMergeCmpFunc_blob_node : Int → Int → Int → Unit → τ6 → Option τ6) : ∀ st k, (∀ st, k .ret st = (resD (z2E N r_slices_symMergeCmpFunc_blob_node) Tryz.f116 (z2sg fun x y => slices_symMergeCmpFunc_blob_node_b N r_slices_symMergeCmpFunc_blob_node x.2.1 x.2.2.1 x.2.2.2.1 x.2.2.2.2.1 y.1) z2pk) st) → z2LP N r_slices_symMergeCmpFunc_blob_node 2 z2c3 st k = iter (Env.hint (z2E N r_slices_symMergeCmpFunc_blob_node) 2) (exec (z2E N r_slices_symMergeCmpFunc_blob_node) N z2c3 2) N st k := fun st k hk => LPc_eq 220 z2L1_fs z2L1_bs _ _ (resD (z2E N r_slices_symMergeCmpFunc_blob_node) Tryz.f116 (z2sg fun x y => slices_symMergeCmpFunc_blob_node_b N r_slices_symMergeCmpFunc_blob_node x.2.1 x.2.2.1 x.2.2.2.1 x.2.2.2.2.1 y.1) z2pk) (z2L1_ok N r_slices_symMergeCmpFunc_blob_node) _ st k hk (rfl)
theorem z2L0_step (N : Nat) (r_slices_symMergeCmpFunc_blob_node : Int → Int → Int → Unit → τ6 → Option τ6) (x1 : Int) (x4 : Unit) (w0 : List τ0) (KX : Nat → St → Option τ6) (I : St → Option τ6) (s10 : Int) (s11 : Int) :
  execL (z2LP N r_slices_symMergeCmpFunc_blob_node) (z2E N r_slices_symMergeCmpFunc_blob_node) z2c4 0 (z2L0_hd x1 x4 w0 s10 s11) (roundK (z2h 0) I KX (resD (z2E N r_slices_symMergeCmpFunc_blob_node) Tryz.f116 (z2sg fun x y => slices_symMergeCmpFunc_blob_node_b N r_slices_symMergeCmpFunc_blob_node x.2.1 x.2.2.1 x.2.2.2.1 x.2.2.2.2.1 y.1) z2pk)) = z2L0T N r_slices_symMergeCmpFunc_blob_node x1 w0 (fun o0_10 => KX 0 (z2L0_tl0 x1 x4 w0 o0_10)) (fun s10 s11 => I (z2L0_hd x1 x4 w0 s10 s11)) s10 s11 := by kernel_rfl
theorem z2L0_ok (N : Nat) (r_slices_symMergeCmpFunc_blob_node : Int → Int → Int → Unit → τ6 → Option τ6) : ∀ x y k, (∀ st, k .ret st = (resD (z2E N r_slices_symMergeCmpFunc_blob_node) Tryz.f116 (z2sg fun x y => slices_symMergeCmpFunc_blob_node_b N r_slices_symMergeCmpFunc_blob_node x.2.1 x.2.2.1 x.2.2.2.1 x.2.2.2.2.1 y.1) z2pk) st) → iter (z2h 0) (exec (z2E N r_slices_symMergeCmpFunc_blob_node) N z2c4 0) N ⟨220, unF z2L0_fs x, unH z2L0_bs y⟩ k = z2L0_F N r_slices_symMergeCmpFunc_blob_node x y k := fun x y k hk =>
 iter_link (S := (Int) × (Int) × Unit) (z2h 0) _ (execL (z2LP N r_slices_symMergeCmpFunc_blob_node) (z2E N r_slices_symMergeCmpFunc_blob_node) z2c4 0) (resD (z2E N r_slices_symMergeCmpFunc_blob_node) Tryz.f116 (z2sg fun x y => slices_symMergeCmpFunc_blob_node_b N r_slices_symMergeCmpFunc_blob_node x.2.1 x.2.2.1 x.2.2.2.1 x.2.2.2.2.1 y.1) z2pk) (fun st k hk => execL_eq _ _ N _ z2c4 0 (show LoopsOk (z2LP N r_slices_symMergeCmpFunc_blob_node) (z2E N r_slices_symMergeCmpFunc_blob_node) N (resD (z2E N r_slices_symMergeCmpFunc_blob_node) Tryz.f116 (z2sg fun x y => slices_symMergeCmpFunc_blob_node_b N r_slices_symMergeCmpFunc_blob_node x.2.1 x.2.2.1 x.2.2.2.1 x.2.2.2.2.1 y.1) z2pk) [] from trivial) st k hk) (fun s => z2L0_hd x.2.1 x.2.2.1 y.1 s.1 s.2.1) k hk
  (fun self s => z2L0T N r_slices_symMergeCmpFunc_blob_node x.2.1 y.1 (fun o0_10 => k (.exit 0) (z2L0_tl0 x.2.1 x.2.2.1 y.1 o0_10)) (fun s10 s11 => self (s10, s11, ())) s.1 s.2.1) (fun n s => z2L0 N r_slices_symMergeCmpFunc_blob_node x.2.1 y.1 (fun o0_10 => k (.exit 0) (z2L0_tl0 x.2.1 x.2.2.1 y.1 o0_10)) n s.1 s.2.1) (fun _ => rfl) (fun _ _ => rfl)
  (fun I s => z2L0_step N r_slices_symMergeCmpFunc_blob_node x.2.1 x.2.2.1 y.1 (fun j => k (.exit j)) I s.1 s.2.1) N (x.2.2.2.1, x.2.2.2.2.1, ())
theorem z2lp0 (N : Nat) (r_slices_symMergeCmpFunc_blob_node : Int → Int → Int → Unit → τ6 → Option τ6) : ∀ st k, (∀ st, k .ret st = (resD (z2E N r_slices_symMergeCmpFunc_blob_node) Tryz.f116 (z2sg fun x y => slices_symMergeCmpFunc_blob_node_b N r_slices_symMergeCmpFunc_blob_node x.2.1 x.2.2.1 x.2.2.2.1 x.2.2.2.2.1 y.1) z2pk) st) → z2LP N r_slices_symMergeCmpFunc_blob_node 0 z2c4 st k = iter (Env.hint (z2E N r_slices_symMergeCmpFunc_blob_node) 0) (exec (z2E N r_slices_symMergeCmpFunc_blob_node) N z2c4 0) N st k := fun st k hk => LPc_eq 220 z2L0_fs z2L0_bs _ _ (resD (z2E N r_slices_symMergeCmpFunc_blob_node) Tryz.f116 (z2sg fun x y => slices_symMergeCmpFunc_blob_node_b N r_slices_symMergeCmpFunc_blob_node x.2.1 x.2.2.1 x.2.2.2.1 x.2.2.2.2.1 y.1) z2pk) (z2L0_ok N r_slices_symMergeCmpFunc_blob_node) _ st k hk (rfl)
theorem z2core (N : Nat) (r_slices_symMergeCmpFunc_blob_node : Int → Int → Int → Unit → τ6 → Option τ6) (x : SV [.row 0, .v τ5, .v τ5, .v τ5, .v (.clo 55 .un)]) (y : BV [.row 81 τ1 true]) : runL (z2E N r_slices_symMergeCmpFunc_blob_node) Tryz.f116 (z2sg fun x y => slices_symMergeCmpFunc_blob_node_b N r_slices_symMergeCmpFunc_blob_node x.2.1 x.2.2.1 x.2.2.2.1 x.2.2.2.2.1 y.1) z2pk (z2LP N r_slices_symMergeCmpFunc_blob_node) x y = slices_symMergeCmpFunc_blob_node_b N r_slices_symMergeCmpFunc_blob_node x.2.1 x.2.2.1 x.2.2.2.1 x.2.2.2.2.1 y.1 := by kernel_rfl
theorem z2sound (N : Nat) (r_slices_symMergeCmpFunc_blob_node : Int → Int → Int → Unit → τ6 → Option τ6) (h_slices_symMergeCmpFunc_blob_node : Sound Tryz.prog GW B0G 116 (z4sg fun x y => r_slices_symMergeCmpFunc_blob_node x.2.1 x.2.2.1 x.2.2.2.1 x.2.2.2.2.1 y.1)) : Sound Tryz.prog GW B0G 116 (z2sg fun x y => slices_symMergeCmpFunc_blob_node_b N r_slices_symMergeCmpFunc_blob_node x.2.1 x.2.2.1 x.2.2.2.1 x.2.2.2.2.1 y.1) :=
 runD_sound (mkE_ok z2h (z2fn N r_slices_symMergeCmpFunc_blob_node) _ _ (z2fn_ok N r_slices_symMergeCmpFunc_blob_node h_slices_symMergeCmpFunc_blob_node)) Tryz.func116 rfl Tryz.call116 (z2sg fun x y => slices_symMergeCmpFunc_blob_node_b N r_slices_symMergeCmpFunc_blob_node x.2.1 x.2.2.1 x.2.2.2.1 x.2.2.2.2.1 y.1) z2pk (fun _ _ => rfl) N (fun x y _ h => ((runL_eq (z2E N r_slices_symMergeCmpFunc_blob_node) N Tryz.f116 (z2sg fun x y => slices_symMergeCmpFunc_blob_node_b N r_slices_symMergeCmpFunc_blob_node x.2.1 x.2.2.1 x.2.2.2.1 x.2.2.2.2.1 y.1) z2pk (z2LP N r_slices_symMergeCmpFunc_blob_node) (show LoopsOk (z2LP N r_slices_symMergeCmpFunc_blob_node) (z2E N r_slices_symMergeCmpFunc_blob_node) N (resD (z2E N r_slices_symMergeCmpFunc_blob_node) Tryz.f116 (z2sg fun x y => slices_symMergeCmpFunc_blob_node_b N r_slices_symMergeCmpFunc_blob_node x.2.1 x.2.2.1 x.2.2.2.1 x.2.2.2.2.1 y.1) z2pk) [(0, z2c4), (2, z2c3), (4, z2c2), (6, z2c1), (8, z2c0)] from ⟨z2lp0 N r_slices_symMergeCmpFunc_blob_node, z2lp2 N r_slices_symMergeCmpFunc_blob_node, z2lp4 N r_slices_symMergeCmpFunc_blob_node, z2lp6 N r_slices_symMergeCmpFunc_blob_node, z2lp8 N r_slices_symMergeCmpFunc_blob_node, trivial⟩) x y).trans (z2core N r_slices_symMergeCmpFunc_blob_node x y)).trans h)
def slices_symMergeCmpFunc_blob_node (N : Nat) : Nat → Int → Int → Int → Unit → τ6 → Option τ6
 | 0 => fun _ _ _ _ _ => none
 | d + 1 => slices_symMergeCmpFunc_blob_node_b N (slices_symMergeCmpFunc_blob_node N d)
theorem z4sound (N : Nat) : ∀ d, Sound Tryz.prog GW B0G 116 (z4sg fun x y => slices_symMergeCmpFunc_blob_node N d x.2.1 x.2.2.1 x.2.2.2.1 x.2.2.2.2.1 y.1)
 | 0 => Sound.never Tryz.call116 (fun _ _ => rfl)
 | d + 1 => z2sound N (slices_symMergeCmpFunc_blob_node N d) (z4sound N d)
end
end Go.Proofs.YtjiddcchklaiiaaGreatDoor

