/- What functions of the program compute, as plain functions (printed). -/
import Derived.Test.YtjiddcchklaiiaaGreatDoorQBmSo
namespace Go.Proofs.YtjiddcchklaiiaaGreatDoor
open Go Go.RowKit
set_option maxRecDepth 100000
set_option linter.unusedVariables false
noncomputable section
def z12L0T (N : Nat) (r_blob_treeReader_dir : Str → Str → (List τ4) → τ16 → Option τ13) (x2 : Str) (c44 : Int) (cw102900 : List τ8) (k0 : (List τ4) → τ16 → Option τ13) (self : Int → (List τ4) → τ16 → Option τ13) (s45 : Int) (b0_0 : List τ4) (w1_1 : List τ2) : Option τ13 :=
 br (decide (s45 < c44))
  (bnd (geti cw102900 s45) fun t47 =>
  br (t47.2.2.1)
   (br (decide (x2.length + t47.1.length ≤ 9223372036854775807))
    (br (decide ((x2 ++ t47.1).length + ([47] : Str).length ≤ 9223372036854775807))
     (bnd (r_blob_treeReader_dir t47.2.1 ((x2 ++ t47.1) ++ ([47] : Str)) b0_0 w1_1) fun t59 =>
     br (t59.1 != (0 : Int))
      (some t59)
      (self (IntKind.i64.wrap (s45 + (1 : Int))) t59.2.1 t59.2.2))
     none)
    none)
   (bnd (blob_Find N b0_0 t47.2.1) fun t70 =>
   br (!t70.2)
    (some ((9 : Int), (b0_0, w1_1)))
    (br (decide ((IntKind.i64.wrap ((x2.length : Int) + (t47.1.length : Int))) > (200 : Int)))
     (some ((3 : Int), (b0_0, w1_1)))
     (br (decide ((w1_1.length : Int) ≥ (1000 : Int)))
      (some ((2 : Int), (b0_0, w1_1)))
      (both
       (both
        (br (decide (x2.length + t47.1.length ≤ 9223372036854775807))
         (times 1
          (bnd (slices_Clone_byte_byte N t70.1) fun t100 =>
          br (decide ((w1_1.length + [(x2 ++ t47.1, (t47.2.2.2, t100))].length) * (24 * Ty.sz τ1) ≤ 140737488355328))
           (self (IntKind.i64.wrap (s45 + (1 : Int))) b0_0 (w1_1 ++ [(x2 ++ t47.1, (t47.2.2.2, t100))]))
           none))
         none)
        (both
         (both
          (br (decide (x2.length + t47.1.length ≤ 9223372036854775807))
           (bnd (slices_Clone_byte_byte N t70.1) fun t100 =>
           br (decide ((w1_1.length + [(x2 ++ t47.1, (t47.2.2.2, t100))].length) * (24 * Ty.sz τ1) ≤ 140737488355328))
            (self (IntKind.i64.wrap (s45 + (1 : Int))) b0_0 (w1_1 ++ [(x2 ++ t47.1, (t47.2.2.2, t100))]))
            none)
           none)
          (bnd (slices_Clone_byte_byte N t70.1) fun t100 =>
          br (decide (x2.length + t47.1.length ≤ 9223372036854775807))
           (br (decide ((w1_1.length + [(x2 ++ t47.1, (t47.2.2.2, t100))].length) * (24 * Ty.sz τ1) ≤ 140737488355328))
            (self (IntKind.i64.wrap (s45 + (1 : Int))) b0_0 (w1_1 ++ [(x2 ++ t47.1, (t47.2.2.2, t100))]))
            none)
           none))
         (bnd (slices_Clone_byte_byte N t70.1) fun t100 =>
         times 1
          (br (decide (x2.length + t47.1.length ≤ 9223372036854775807))
           (br (decide ((w1_1.length + [(x2 ++ t47.1, (t47.2.2.2, t100))].length) * (24 * Ty.sz τ1) ≤ 140737488355328))
            (self (IntKind.i64.wrap (s45 + (1 : Int))) b0_0 (w1_1 ++ [(x2 ++ t47.1, (t47.2.2.2, t100))]))
            none)
           none))))
       (both
        (br (decide (x2.length + t47.1.length ≤ 9223372036854775807))
         (both
          (times 1
           (bnd (slices_Clone_byte_byte N t70.1) fun t100 =>
           br (decide ((w1_1.length + [(x2 ++ t47.1, (t47.2.2.2, t100))].length) * (24 * Ty.sz τ1) ≤ 140737488355328))
            (self (IntKind.i64.wrap (s45 + (1 : Int))) b0_0 (w1_1 ++ [(x2 ++ t47.1, (t47.2.2.2, t100))]))
            none))
          (both
           (both
            (bnd (slices_Clone_byte_byte N t70.1) fun t100 =>
            br (decide ((w1_1.length + [(x2 ++ t47.1, (t47.2.2.2, t100))].length) * (24 * Ty.sz τ1) ≤ 140737488355328))
             (self (IntKind.i64.wrap (s45 + (1 : Int))) b0_0 (w1_1 ++ [(x2 ++ t47.1, (t47.2.2.2, t100))]))
             none)
            (bnd (slices_Clone_byte_byte N t70.1) fun t100 =>
            times 2
             (br (decide ((w1_1.length + [(x2 ++ t47.1, (t47.2.2.2, t100))].length) * (24 * Ty.sz τ1) ≤ 140737488355328))
              (self (IntKind.i64.wrap (s45 + (1 : Int))) b0_0 (w1_1 ++ [(x2 ++ t47.1, (t47.2.2.2, t100))]))
              none)))
           (bnd (slices_Clone_byte_byte N t70.1) fun t100 =>
           times 3
            (br (decide ((w1_1.length + [(x2 ++ t47.1, (t47.2.2.2, t100))].length) * (24 * Ty.sz τ1) ≤ 140737488355328))
             (self (IntKind.i64.wrap (s45 + (1 : Int))) b0_0 (w1_1 ++ [(x2 ++ t47.1, (t47.2.2.2, t100))]))
             none))))
         none)
        (both
         (both
          (both
           (br (decide (x2.length + t47.1.length ≤ 9223372036854775807))
            (bnd (slices_Clone_byte_byte N t70.1) fun t100 =>
            br (decide ((w1_1.length + [(x2 ++ t47.1, (t47.2.2.2, t100))].length) * (24 * Ty.sz τ1) ≤ 140737488355328))
             (self (IntKind.i64.wrap (s45 + (1 : Int))) b0_0 (w1_1 ++ [(x2 ++ t47.1, (t47.2.2.2, t100))]))
             none)
            none)
           (bnd (slices_Clone_byte_byte N t70.1) fun t100 =>
           br (decide (x2.length + t47.1.length ≤ 9223372036854775807))
            (br (decide ((w1_1.length + [(x2 ++ t47.1, (t47.2.2.2, t100))].length) * (24 * Ty.sz τ1) ≤ 140737488355328))
             (self (IntKind.i64.wrap (s45 + (1 : Int))) b0_0 (w1_1 ++ [(x2 ++ t47.1, (t47.2.2.2, t100))]))
             none)
            none))
          (both
           (br (decide (x2.length + t47.1.length ≤ 9223372036854775807))
            (both
             (bnd (slices_Clone_byte_byte N t70.1) fun t100 =>
             br (decide ((w1_1.length + [(x2 ++ t47.1, (t47.2.2.2, t100))].length) * (24 * Ty.sz τ1) ≤ 140737488355328))
              (self (IntKind.i64.wrap (s45 + (1 : Int))) b0_0 (w1_1 ++ [(x2 ++ t47.1, (t47.2.2.2, t100))]))
              none)
             (bnd (slices_Clone_byte_byte N t70.1) fun t100 =>
             times 2
              (br (decide ((w1_1.length + [(x2 ++ t47.1, (t47.2.2.2, t100))].length) * (24 * Ty.sz τ1) ≤ 140737488355328))
               (self (IntKind.i64.wrap (s45 + (1 : Int))) b0_0 (w1_1 ++ [(x2 ++ t47.1, (t47.2.2.2, t100))]))
               none)))
            none)
           (bnd (slices_Clone_byte_byte N t70.1) fun t100 =>
           both
            (br (decide (x2.length + t47.1.length ≤ 9223372036854775807))
             (br (decide ((w1_1.length + [(x2 ++ t47.1, (t47.2.2.2, t100))].length) * (24 * Ty.sz τ1) ≤ 140737488355328))
              (self (IntKind.i64.wrap (s45 + (1 : Int))) b0_0 (w1_1 ++ [(x2 ++ t47.1, (t47.2.2.2, t100))]))
              none)
             none)
            (br (decide (x2.length + t47.1.length ≤ 9223372036854775807))
             (times 2
              (br (decide ((w1_1.length + [(x2 ++ t47.1, (t47.2.2.2, t100))].length) * (24 * Ty.sz τ1) ≤ 140737488355328))
               (self (IntKind.i64.wrap (s45 + (1 : Int))) b0_0 (w1_1 ++ [(x2 ++ t47.1, (t47.2.2.2, t100))]))
               none))
             none))))
         (bnd (slices_Clone_byte_byte N t70.1) fun t100 =>
         both
          (times 1
           (br (decide (x2.length + t47.1.length ≤ 9223372036854775807))
            (br (decide ((w1_1.length + [(x2 ++ t47.1, (t47.2.2.2, t100))].length) * (24 * Ty.sz τ1) ≤ 140737488355328))
             (self (IntKind.i64.wrap (s45 + (1 : Int))) b0_0 (w1_1 ++ [(x2 ++ t47.1, (t47.2.2.2, t100))]))
             none)
            none))
          (both
           (br (decide (x2.length + t47.1.length ≤ 9223372036854775807))
            (times 3
             (br (decide ((w1_1.length + [(x2 ++ t47.1, (t47.2.2.2, t100))].length) * (24 * Ty.sz τ1) ≤ 140737488355328))
              (self (IntKind.i64.wrap (s45 + (1 : Int))) b0_0 (w1_1 ++ [(x2 ++ t47.1, (t47.2.2.2, t100))]))
              none))
            none)
           (both
            (br (decide (x2.length + t47.1.length ≤ 9223372036854775807))
             (br (decide ((w1_1.length + [(x2 ++ t47.1, (t47.2.2.2, t100))].length) * (24 * Ty.sz τ1) ≤ 140737488355328))
              (self (IntKind.i64.wrap (s45 + (1 : Int))) b0_0 (w1_1 ++ [(x2 ++ t47.1, (t47.2.2.2, t100))]))
              none)
             none)
            (br (decide (x2.length + t47.1.length ≤ 9223372036854775807))
             (times 2
              (br (decide ((w1_1.length + [(x2 ++ t47.1, (t47.2.2.2, t100))].length) * (24 * Ty.sz τ1) ≤ 140737488355328))
               (self (IntKind.i64.wrap (s45 + (1 : Int))) b0_0 (w1_1 ++ [(x2 ++ t47.1, (t47.2.2.2, t100))]))
               none))
             none)))))))))))
  (k0 b0_0 w1_1)
def z12L0 (N : Nat) (r_blob_treeReader_dir : Str → Str → (List τ4) → τ16 → Option τ13) (x2 : Str) (c44 : Int) (cw102900 : List τ8) (k0 : (List τ4) → τ16 → Option τ13) : Nat → Int → (List τ4) → τ16 → Option τ13
 | 0, _, _, _ => none
 | n + 1, s45, b0_0, w1_1 => z12L0T N r_blob_treeReader_dir x2 c44 cw102900 k0 (z12L0 N r_blob_treeReader_dir x2 c44 cw102900 k0 n) s45 b0_0 w1_1
def blob_treeReader_dir_b (N : Nat) (r_blob_treeReader_dir : Str → Str → (List τ4) → τ16 → Option τ13) (x1 : Str) (x2 : Str) (y0_0 : List τ4) (w1 : List τ2) : Option τ13 :=
 bnd (blob_Find N y0_0 x1) fun t22 =>
 br (!t22.2)
  (some ((9 : Int), (y0_0, w1)))
  (bnd (blob_readDir N t22.1) fun t29 =>
  br (!t29.1)
   (some ((3 : Int), (y0_0, w1)))
   (br ((t29.2.length : Int) == (0 : Int))
    (br (!(x2 == ([] : Str)))
     (some ((3 : Int), (y0_0, w1)))
     (z12L0 N r_blob_treeReader_dir x2 (t29.2.length : Int) t29.2 (fun o0_0_0 o0_w1 =>
       some ((0 : Int), (o0_0_0, o0_w1))) N (0 : Int) y0_0 w1))
    (z12L0 N r_blob_treeReader_dir x2 (t29.2.length : Int) t29.2 (fun o0_0_0 o0_w1 =>
      some ((0 : Int), (o0_0_0, o0_w1))) N (0 : Int) y0_0 w1)))
abbrev z12sg (f : SV [.box 0 0, .v .str, .v .str] → BV [.cells [.v τ9, .row 1], .row 62 τ1 true] → Option τ13) : AF := { ps := [.box 0 0, .v .str, .v .str], bs := [.cells [.v τ9, .row 1], .row 62 τ1 true], rs := [.v τ6], cs := [.cells [.v τ9, .row 1], .row 62 τ1 true], R := Int × List τ4 × List τ2, out := fun z => ((z.1, ()), ((z.2.1, (), ()), z.2.2, ())), f := f }
abbrev z12pk : SV [.v τ6] → BV [.cells [.v τ9, .row 1], .row 62 τ1 true] → τ13 := fun x y => (x.1, y.1.1, y.2.1)
def z12fn (N : Nat) (r_blob_treeReader_dir : Str → Str → (List τ4) → τ16 → Option τ13) : FuncId → Option Tmp → Option AF := fun f _ =>
 match f with
  | 23 => some (z15sg fun x y => r_blob_treeReader_dir x.2.1 x.2.2.1 y.1.1 y.2.1)
  | 26 => some (z56g N)
  | 27 => some (z40g N)
  | 45 => some (z10g N)
  | _ => none
theorem z12fn_ok (N : Nat) (r_blob_treeReader_dir : Str → Str → (List τ4) → τ16 → Option τ13) (h_blob_treeReader_dir : Sound Tryz.prog GW B0G 23 (z15sg fun x y => r_blob_treeReader_dir x.2.1 x.2.2.1 y.1.1 y.2.1)) : ∀ f q F, z12fn N r_blob_treeReader_dir f q = some F → Sound Tryz.prog GW B0G f F := by
 intro f q F h
 unfold z12fn at h
 split at h
 · cases h; exact h_blob_treeReader_dir
 · cases h; exact z56sound N
 · cases h; exact z40sound N
 · cases h; exact z10sound N
 · cases h
def z12h : Nat → Hint := fun i =>
 match i with
 | 0 => ⟨[], [0, 2, 43, 44, 45], [0, 1, 102900], [], [0, 1], []⟩
 | 100014 => ⟨[0, 1, 1012], [], [], [], [], []⟩
 | 100021 => ⟨[], [1, 2], [], [], [], []⟩
 | _ => hint0
abbrev z12E (N : Nat) (r_blob_treeReader_dir : Str → Str → (List τ4) → τ16 → Option τ13) : Env := mkE z12h (z12fn N r_blob_treeReader_dir) (fun _ => false) (fun _ => false)
noncomputable abbrev z12c0 : Code := cAt (bodyOf Tryz.f23) [true, true, true, true, true, false, true, false, false]
abbrev z12L0_fs : List (Nat × Sl) := [(0, .box 0 0), (2, .v .str), (43, .row 102900), (44, .v τ6), (45, .v τ6)]
abbrev z12L0_bs : List (Nat × Sb) := [(0, .cells [.v τ9, .row 1]), (1, .row 62 τ1 true), (102900, .row 71 τ10 false)]
def z12L0_hd (x2 : Str) (c44 : Int) (cw102900 : List τ8) (s45 : Int) (b0_0 : List τ4) (w1_1 : List τ2) : St := ⟨107, [(0, .box 0 0), (2, .v .str x2), (43, .row 102900), (44, .v τ6 c44), (45, .v τ6 s45)], [(0, .cells [.v τ9 b0_0, .row 1]), (1, .row 62 τ1 true w1_1), (102900, .row 71 τ10 false cw102900)]⟩
def z12L0_tl0 (_x2 : Str) (_c44 : Int) (_cw102900 : List τ8) (o0_0_0 : List τ4) (o0_w1 : List τ2) : St := ⟨107, [], [(0, .cells [.v τ9 o0_0_0, .row 1]), (1, .row 62 τ1 true o0_w1)]⟩
def z12L0_G (N : Nat) (r_blob_treeReader_dir : Str → Str → (List τ4) → τ16 → Option τ13) (x2 : Str) (c44 : Int) (cw102900 : List τ8) (s45 : Int) (b0_0 : List τ4) (w1_1 : List τ2) (k : Ex → St → Option τ13) : Option τ13 :=
 z12L0 N r_blob_treeReader_dir x2 c44 cw102900 (fun o0_0_0 o0_w1 => k (.exit 0) (z12L0_tl0 x2 c44 cw102900 o0_0_0 o0_w1)) N s45 b0_0 w1_1
abbrev z12L0_F (N : Nat) (r_blob_treeReader_dir : Str → Str → (List τ4) → τ16 → Option τ13) : FV z12L0_fs → HV z12L0_bs → (Ex → St → Option τ13) → Option τ13 := fun x y k => z12L0_G N r_blob_treeReader_dir x.2.1 x.2.2.2.1 y.2.2.1 x.2.2.2.2.1 y.1.1 y.2.1 k
noncomputable def z12LP (N : Nat) (r_blob_treeReader_dir : Str → Str → (List τ4) → τ16 → Option τ13) : Nat → Code → St → (Ex → St → Option τ13) → Option τ13 := fun i c =>
 match i with
 | 0 => (LPc 107 z12L0_fs z12L0_bs (z12L0_F N r_blob_treeReader_dir) (fun st k => iter (z12h 0) (exec (z12E N r_blob_treeReader_dir) N c 0) N st k))
 | i => fun st k => iter (z12h i) (exec (z12E N r_blob_treeReader_dir) N c i) N st k
theorem z12L0_step (N : Nat) (r_blob_treeReader_dir : Str → Str → (List τ4) → τ16 → Option τ13) (x2 : Str) (c44 : Int) (cw102900 : List τ8) (KX : Nat → St → Option τ13) (I : St → Option τ13) (s45 : Int) (b0_0 : List τ4) (w1_1 : List τ2) :
  execL (z12LP N r_blob_treeReader_dir) (z12E N r_blob_treeReader_dir) z12c0 0 (z12L0_hd x2 c44 cw102900 s45 b0_0 w1_1) (roundK (z12h 0) I KX (resD (z12E N r_blob_treeReader_dir) Tryz.f23 (z12sg fun x y => blob_treeReader_dir_b N r_blob_treeReader_dir x.2.1 x.2.2.1 y.1.1 y.2.1) z12pk)) = z12L0T N r_blob_treeReader_dir x2 c44 cw102900 (fun o0_0_0 o0_w1 => KX 0 (z12L0_tl0 x2 c44 cw102900 o0_0_0 o0_w1)) (fun s45 b0_0 w1_1 => I (z12L0_hd x2 c44 cw102900 s45 b0_0 w1_1)) s45 b0_0 w1_1 := by kernel_rfl
theorem z12L0_ok (N : Nat) (r_blob_treeReader_dir : Str → Str → (List τ4) → τ16 → Option τ13) : ∀ x y k, (∀ st, k .ret st = (resD (z12E N r_blob_treeReader_dir) Tryz.f23 (z12sg fun x y => blob_treeReader_dir_b N r_blob_treeReader_dir x.2.1 x.2.2.1 y.1.1 y.2.1) z12pk) st) → iter (z12h 0) (exec (z12E N r_blob_treeReader_dir) N z12c0 0) N ⟨107, unF z12L0_fs x, unH z12L0_bs y⟩ k = z12L0_F N r_blob_treeReader_dir x y k := fun x y k hk =>
 iter_link (S := (Int) × (List τ4) × τ16 × Unit) (z12h 0) _ (execL (z12LP N r_blob_treeReader_dir) (z12E N r_blob_treeReader_dir) z12c0 0) (resD (z12E N r_blob_treeReader_dir) Tryz.f23 (z12sg fun x y => blob_treeReader_dir_b N r_blob_treeReader_dir x.2.1 x.2.2.1 y.1.1 y.2.1) z12pk) (fun st k hk => execL_eq _ _ N _ z12c0 0 (show LoopsOk (z12LP N r_blob_treeReader_dir) (z12E N r_blob_treeReader_dir) N (resD (z12E N r_blob_treeReader_dir) Tryz.f23 (z12sg fun x y => blob_treeReader_dir_b N r_blob_treeReader_dir x.2.1 x.2.2.1 y.1.1 y.2.1) z12pk) [] from trivial) st k hk) (fun s => z12L0_hd x.2.1 x.2.2.2.1 y.2.2.1 s.1 s.2.1 s.2.2.1) k hk
  (fun self s => z12L0T N r_blob_treeReader_dir x.2.1 x.2.2.2.1 y.2.2.1 (fun o0_0_0 o0_w1 => k (.exit 0) (z12L0_tl0 x.2.1 x.2.2.2.1 y.2.2.1 o0_0_0 o0_w1)) (fun s45 b0_0 w1_1 => self (s45, b0_0, w1_1, ())) s.1 s.2.1 s.2.2.1) (fun n s => z12L0 N r_blob_treeReader_dir x.2.1 x.2.2.2.1 y.2.2.1 (fun o0_0_0 o0_w1 => k (.exit 0) (z12L0_tl0 x.2.1 x.2.2.2.1 y.2.2.1 o0_0_0 o0_w1)) n s.1 s.2.1 s.2.2.1) (fun _ => rfl) (fun _ _ => rfl)
  (fun I s => z12L0_step N r_blob_treeReader_dir x.2.1 x.2.2.2.1 y.2.2.1 (fun j => k (.exit j)) I s.1 s.2.1 s.2.2.1) N (x.2.2.2.2.1, y.1.1, y.2.1, ())
theorem z12lp0 (N : Nat) (r_blob_treeReader_dir : Str → Str → (List τ4) → τ16 → Option τ13) : ∀ st k, (∀ st, k .ret st = (resD (z12E N r_blob_treeReader_dir) Tryz.f23 (z12sg fun x y => blob_treeReader_dir_b N r_blob_treeReader_dir x.2.1 x.2.2.1 y.1.1 y.2.1) z12pk) st) → z12LP N r_blob_treeReader_dir 0 z12c0 st k = iter (Env.hint (z12E N r_blob_treeReader_dir) 0) (exec (z12E N r_blob_treeReader_dir) N z12c0 0) N st k := fun st k hk => LPc_eq 107 z12L0_fs z12L0_bs _ _ (resD (z12E N r_blob_treeReader_dir) Tryz.f23 (z12sg fun x y => blob_treeReader_dir_b N r_blob_treeReader_dir x.2.1 x.2.2.1 y.1.1 y.2.1) z12pk) (z12L0_ok N r_blob_treeReader_dir) _ st k hk (rfl)
theorem z12core (N : Nat) (r_blob_treeReader_dir : Str → Str → (List τ4) → τ16 → Option τ13) (x : SV [.box 0 0, .v .str, .v .str]) (y : BV [.cells [.v τ9, .row 1], .row 62 τ1 true]) : runL (z12E N r_blob_treeReader_dir) Tryz.f23 (z12sg fun x y => blob_treeReader_dir_b N r_blob_treeReader_dir x.2.1 x.2.2.1 y.1.1 y.2.1) z12pk (z12LP N r_blob_treeReader_dir) x y = blob_treeReader_dir_b N r_blob_treeReader_dir x.2.1 x.2.2.1 y.1.1 y.2.1 := by kernel_rfl
theorem z12sound (N : Nat) (r_blob_treeReader_dir : Str → Str → (List τ4) → τ16 → Option τ13) (h_blob_treeReader_dir : Sound Tryz.prog GW B0G 23 (z15sg fun x y => r_blob_treeReader_dir x.2.1 x.2.2.1 y.1.1 y.2.1)) : Sound Tryz.prog GW B0G 23 (z12sg fun x y => blob_treeReader_dir_b N r_blob_treeReader_dir x.2.1 x.2.2.1 y.1.1 y.2.1) :=
 runD_sound (mkE_ok z12h (z12fn N r_blob_treeReader_dir) _ _ (z12fn_ok N r_blob_treeReader_dir h_blob_treeReader_dir)) Tryz.func23 rfl Tryz.call23 (z12sg fun x y => blob_treeReader_dir_b N r_blob_treeReader_dir x.2.1 x.2.2.1 y.1.1 y.2.1) z12pk (fun _ _ => rfl) N (fun x y _ h => ((runL_eq (z12E N r_blob_treeReader_dir) N Tryz.f23 (z12sg fun x y => blob_treeReader_dir_b N r_blob_treeReader_dir x.2.1 x.2.2.1 y.1.1 y.2.1) z12pk (z12LP N r_blob_treeReader_dir) (show LoopsOk (z12LP N r_blob_treeReader_dir) (z12E N r_blob_treeReader_dir) N (resD (z12E N r_blob_treeReader_dir) Tryz.f23 (z12sg fun x y => blob_treeReader_dir_b N r_blob_treeReader_dir x.2.1 x.2.2.1 y.1.1 y.2.1) z12pk) [(0, z12c0)] from ⟨z12lp0 N r_blob_treeReader_dir, trivial⟩) x y).trans (z12core N r_blob_treeReader_dir x y)).trans h)
def blob_treeReader_dir (N : Nat) : Nat → Str → Str → (List τ4) → τ16 → Option τ13
 | 0 => fun _ _ _ _ => none
 | d + 1 => blob_treeReader_dir_b N (blob_treeReader_dir N d)
theorem z15sound (N : Nat) : ∀ d, Sound Tryz.prog GW B0G 23 (z15sg fun x y => blob_treeReader_dir N d x.2.1 x.2.2.1 y.1.1 y.2.1)
 | 0 => Sound.never Tryz.call23 (fun _ _ => rfl)
 | d + 1 => z12sound N (blob_treeReader_dir N d) (z15sound N d)
def blob_FilesOf (N : Nat) (x0 : Str) (x1 : List τ4) : Option (List τ2 × Int) :=
 bnd (blob_checkRoot N x0 x1) fun t12 =>
 br (t12 != (0 : Int))
  (some (([] : List τ2), t12))
  (bnd (blob_treeReader_dir N N x0 ([] : Str) x1 ([] : List τ2)) fun t21 =>
  br (t21.1 != (0 : Int))
   (some (([] : List τ2), t21.1))
   (bnd (slices_SortFunc_file () t21.2.2) fun t29 =>
   bnd (blob_CheckFiles N t29) fun t34 =>
   br (t34 != (0 : Int))
    (some (([] : List τ2), t34))
    (some (t29, (0 : Int)))))
abbrev z35sg (f : SV [.v .str, .v τ9] → BV [] → Option (List τ2 × Int)) : AF := { ps := [.v .str, .v τ9], bs := [], rs := [.v (.sl τ1), .v τ6], cs := [], R := List τ2 × Int, out := fun z => ((z.1, z.2, ()), ()), f := f }
noncomputable abbrev z35g (N : Nat) : AF := z35sg fun x _ => blob_FilesOf N x.1 x.2.1
abbrev z35pk : SV [.v (.sl τ1), .v τ6] → BV [] → (List τ2 × Int) := fun x _ => (x.1, x.2.1)
def z35fn (N : Nat) : FuncId → Option Tmp → Option AF := fun f _ =>
 match f with
  | 14 => some (z21g N)
  | 22 => some (z26g N)
  | 23 => some (z15sg fun x y => blob_treeReader_dir N N x.2.1 x.2.2.1 y.1.1 y.2.1)
  | 24 => some (z14sg fun x y => slices_SortFunc_file x.2.1 y.1)
  | _ => none
theorem z35fn_ok (N : Nat) : FnOk (z35fn N) := by
 intro f q F h
 unfold z35fn at h
 split at h
 · cases h; exact z21sound N
 · cases h; exact z26sound N
 · cases h; exact z15sound N N
 · cases h; exact z14sound
 · cases h
def z35h : Nat → Hint := fun i =>
 match i with
 | 200005 => ⟨[], [], [], [], [], [(1018, 1, 950001, 62, τ1)]⟩
 | _ => hint0
abbrev z35E (N : Nat) : Env := mkE z35h (z35fn N) FF FF
noncomputable def z35LP (N : Nat) : Nat → Code → St → (Ex → St → Option (List τ2 × Int)) → Option (List τ2 × Int) := fun i c =>
 match i with
 | i => fun st k => iter (z35h i) (exec (z35E N) N c i) N st k
theorem z35core (N : Nat) (x : SV [.v .str, .v τ9]) (y : BV []) : runL (z35E N) Tryz.f8 (z35g N) z35pk (z35LP N) x y = blob_FilesOf N x.1 x.2.1 := by kernel_rfl
theorem z35sound (N : Nat) : Snd 8 (z35g N) :=
 sndL (z35fn_ok N) Tryz.func8 rfl Tryz.call8 (z35g N) z35pk (fun _ _ => rfl) N (z35LP N) (show LoopsOk (z35LP N) (z35E N) N (resD (z35E N) Tryz.f8 (z35g N) z35pk) [] from trivial) (z35core N)
def z36L1T (N : Nat) (x1 : List τ4) (c69 : Int) (cw105300 : List τ8) (k2 : (List τ12) → (List τ12) → (List Str) → Option τ14) (self : Int → (List τ12) → (List τ12) → (List Str) → Option τ14) (s70 : Int) (m1027_1 : List τ12) (m1028_2 : List τ12) (u1032_3 : List Str) : Option τ14 :=
 br (decide (s70 < c69))
  (bnd (geti cw105300 s70) fun t72 =>
  br (!t72.2.2.1)
   (bnd (blob_Find N x1 t72.2.1) fun t81 =>
   br (!t81.2)
    (self (IntKind.i64.wrap (s70 + (1 : Int))) (mset m1027_1 t72.2.1 true) m1028_2 u1032_3)
    (self (IntKind.i64.wrap (s70 + (1 : Int))) m1027_1 m1028_2 u1032_3))
   (br (!((mget m1028_2 t72.2.1).getD (zero .bool)))
    (br (decide ((u1032_3.length + [t72.2.1].length) * (24 * Ty.sz .str) ≤ 140737488355328))
     (self (IntKind.i64.wrap (s70 + (1 : Int))) m1027_1 (mset m1028_2 t72.2.1 true) (u1032_3 ++ [t72.2.1]))
     none)
    (self (IntKind.i64.wrap (s70 + (1 : Int))) m1027_1 m1028_2 u1032_3)))
  (k2 m1027_1 m1028_2 u1032_3)
def z36L1 (N : Nat) (x1 : List τ4) (c69 : Int) (cw105300 : List τ8) (k2 : (List τ12) → (List τ12) → (List Str) → Option τ14) : Nat → Int → (List τ12) → (List τ12) → (List Str) → Option τ14
 | 0, _, _, _, _ => none
 | n + 1, s70, m1027_1, m1028_2, u1032_3 => z36L1T N x1 c69 cw105300 k2 (z36L1 N x1 c69 cw105300 k2 n) s70 m1027_1 m1028_2 u1032_3
def z36L2T (N : Nat) (x1 : List τ4) (c69_8 : Int) (cw105300_13 : List τ8) (k2 : (List τ12) → (List τ12) → (List Str) → Option τ14) (self : Int → (List τ12) → (List τ12) → (List Str) → Option τ14) (s70_9 : Int) (m1027_10 : List τ12) (m1028_11 : List τ12) (u1032_12 : List Str) : Option τ14 :=
 br (decide (s70_9 < c69_8))
  (bnd (geti cw105300_13 s70_9) fun t72_14 =>
  br (!t72_14.2.2.1)
   (bnd (blob_Find N x1 t72_14.2.1) fun t81_15 =>
   br (!t81_15.2)
    (self (IntKind.i64.wrap (s70_9 + (1 : Int))) (mset m1027_10 t72_14.2.1 true) m1028_11 u1032_12)
    (self (IntKind.i64.wrap (s70_9 + (1 : Int))) m1027_10 m1028_11 u1032_12))
   (br (!((mget m1028_11 t72_14.2.1).getD (zero .bool)))
    (br (decide ((u1032_12.length + [t72_14.2.1].length) * (24 * Ty.sz .str) ≤ 140737488355328))
     (self (IntKind.i64.wrap (s70_9 + (1 : Int))) m1027_10 (mset m1028_11 t72_14.2.1 true) (u1032_12 ++ [t72_14.2.1]))
     none)
    (self (IntKind.i64.wrap (s70_9 + (1 : Int))) m1027_10 m1028_11 u1032_12)))
  (k2 m1027_10 m1028_11 u1032_12)
def z36L2 (N : Nat) (x1 : List τ4) (c69_8 : Int) (cw105300_13 : List τ8) (k2 : (List τ12) → (List τ12) → (List Str) → Option τ14) : Nat → Int → (List τ12) → (List τ12) → (List Str) → Option τ14
 | 0, _, _, _, _ => none
 | n + 1, s70_9, m1027_10, m1028_11, u1032_12 => z36L2T N x1 c69_8 cw105300_13 k2 (z36L2 N x1 c69_8 cw105300_13 k2 n) s70_9 m1027_10 m1028_11 u1032_12
def z36L0T (N : Nat) (x0 : Str) (x1 : List τ4) (k0 : (List τ12) → Option τ14) (self : (List τ12) → (List τ12) → (List Str) → Option τ14) (m1027 : List τ12) (m1028 : List τ12) (u1032 : List Str) : Option τ14 :=
 br (decide ((u1032.length : Int) > (0 : Int)))
  (bnd (geti u1032 (0 : Int)) fun t37 =>
  br (decide (0 ≤ (1 : Int) ∧ (1 : Int) ≤ (u1032.length : Int)))
   (bnd (blob_Find N x1 t37) fun t44 =>
   br (!t44.2)
    (self (mset m1027 t37 true) m1028 (u1032.drop (Int.toNat (1 : Int))))
    (bnd (blob_readDir N t44.1) fun t53 =>
    br (!t53.1)
     (some (([] : List Str), (3 : Int)))
     (br ((t53.2.length : Int) == (0 : Int))
      (br (!(t37 == x0))
       (some (([] : List Str), (3 : Int)))
       (z36L1 N x1 (t53.2.length : Int) t53.2 (fun o1_m1027 o1_m1028 o1_w1032 =>
         self o1_m1027 o1_m1028 o1_w1032) N (0 : Int) m1027 m1028 (u1032.drop (Int.toNat (1 : Int)))))
      (z36L2 N x1 (t53.2.length : Int) t53.2 (fun o2_m1027 o2_m1028 o2_w1032 =>
        self o2_m1027 o2_m1028 o2_w1032) N (0 : Int) m1027 m1028 (u1032.drop (Int.toNat (1 : Int)))))))
   none)
  (k0 m1027)
def z36L0 (N : Nat) (x0 : Str) (x1 : List τ4) (k0 : (List τ12) → Option τ14) : Nat → (List τ12) → (List τ12) → (List Str) → Option τ14
 | 0, _, _, _ => none
 | n + 1, m1027, m1028, u1032 => z36L0T N x0 x1 k0 (z36L0 N x0 x1 k0 n) m1027 m1028 u1032
def z36L3T (_N : Nat) (k4 : (List Str) → Option τ14) (self : (List Str) → (List τ12) → Option τ14) (w1019 : List Str) (i1104 : List τ12) : Option τ14 :=
 br (i1104.isEmpty)
  (k4 w1019)
  (allC i1104 fun p105 q105 =>
  br (decide ((w1019.length + [p105.1].length) * (24 * Ty.sz .str) ≤ 140737488355328))
   (self (w1019 ++ [p105.1]) q105)
   none)
def z36L3 (N : Nat) (k4 : (List Str) → Option τ14) : Nat → (List Str) → (List τ12) → Option τ14
 | 0, _, _ => none
 | n + 1, w1019, i1104 => z36L3T N k4 (z36L3 N k4 n) w1019 i1104
def blob_Missing (N : Nat) (x0 : Str) (x1 : List τ4) : Option τ14 :=
 bnd (blob_checkRoot N x0 x1) fun t23 =>
 br (t23 != (0 : Int))
  (some (([] : List Str), t23))
  (z36L0 N x0 x1 (fun o0_m1027 =>
    z36L3 N (fun o3_w1019 =>
      bnd (slices_Sort_string_string o3_w1019) fun t114 =>
      some (t114, (0 : Int))) N ([] : List Str) o0_m1027) N ([] : List τ12) (mset ([] : List τ12) x0 true) [x0])
abbrev z36sg (f : SV [.v .str, .v τ9] → BV [] → Option τ14) : AF := { ps := [.v .str, .v τ9], bs := [], rs := [.v (.sl .str), .v τ6], cs := [], R := List Str × Int, out := fun z => ((z.1, z.2, ()), ()), f := f }
noncomputable abbrev z36g (N : Nat) : AF := z36sg fun x _ => blob_Missing N x.1 x.2.1
abbrev z36pk : SV [.v (.sl .str), .v τ6] → BV [] → τ14 := fun x _ => (x.1, x.2.1)
def z36fn (N : Nat) : FuncId → Option Tmp → Option AF := fun f _ =>
 match f with
  | 22 => some (z26g N)
  | 26 => some (z56g N)
  | 27 => some (z40g N)
  | 28 => some (z8sg fun _ y => slices_Sort_string_string y.1)
  | _ => none
theorem z36fn_ok (N : Nat) : FnOk (z36fn N) := by
 intro f q F h
 unfold z36fn at h
 split at h
 · cases h; exact z26sound N
 · cases h; exact z56sound N
 · cases h; exact z40sound N
 · cases h; exact z8sound
 · cases h
def z36h : Nat → Hint := fun i =>
 match i with
 | 0 => ⟨[], [0, 1, 7, 8, 9], [1027, 1028, 1032], [7], [1027], [(9, 999999, 0, 0, .str)]⟩
 | 2 => ⟨[], [0, 1, 7, 8, 9, 59, 60, 61, 62, 63, 64, 65, 66, 68, 69, 70], [1027, 1028, 1032, 105300], [0, 1, 7, 8, 9, 59, 60, 61, 62, 63, 64, 65, 66], [1027, 1028, 1032, 105300], [(9, 999999, 0, 0, .str)]⟩
 | 4 => ⟨[], [19, 104], [1019, 1104], [19], [1019], [(9, 999999, 0, 0, .str)]⟩
 | _ => hint0
abbrev z36E (N : Nat) : Env := mkE z36h (z36fn N) (fun i => match i with | 19 => true | _ => false) (fun _ => false)
noncomputable abbrev z36c2 : Code := cAt (bodyOf Tryz.f9) [true, true, true, true, false, true, false, false]
noncomputable abbrev z36c1 : Code := cAt (bodyOf Tryz.f9) [true, true, true, true, true, true, false, true, false, false]
noncomputable abbrev z36c0 : Code := cAt (bodyOf Tryz.f9) [true, true, true, true, false, true, false, false, true, false, true, true, true, true, true, true, true, false, false]
noncomputable abbrev z36R (N : Nat) := resD (z36E N) Tryz.f9 (z36g N) z36pk
abbrev z36L1_fs : List (Nat × Sl) := [(0, .v .str), (1, .v τ9), (7, .mref 1027), (8, .mref 1028), (9, .row 1032), (59, .row 105300), (60, .v τ6), (61, .v .bool), (62, .v .bool), (63, .v .str), (64, .v .str), (65, .v .bool), (66, .v .bool), (68, .row 105300), (69, .v τ6), (70, .v τ6)]
abbrev z36L1_bs : List (Nat × Sb) := [(1027, .map .bool), (1028, .map .bool), (1032, .que 9 .str), (105300, .row 71 τ10 false)]
def z36L1_hd (x0 : Str) (x1 : List τ4) (c60 : Int) (c61 : Bool) (c62 : Bool) (t37 : Str) (c64 : Str) (c65 : Bool) (c66 : Bool) (c69 : Int) (cw105300 : List τ8) (s70 : Int) (m1027_1 : List τ12) (m1028_2 : List τ12) (u1032_3 : List Str) : St := ⟨116, [(0, .v .str x0), (1, .v τ9 x1), (7, .mref 1027), (8, .mref 1028), (9, .row 1032), (59, .row 105300), (60, .v τ6 c60), (61, .v .bool c61), (62, .v .bool c62), (63, .v .str t37), (64, .v .str c64), (65, .v .bool c65), (66, .v .bool c66), (68, .row 105300), (69, .v τ6 c69), (70, .v τ6 s70)], [(1027, .map .bool m1027_1), (1028, .map .bool m1028_2), (1032, .que 9 .str u1032_3), (105300, .row 71 τ10 false cw105300)]⟩
def z36L1_tl2 (x0 : Str) (x1 : List τ4) (c60 : Int) (c61 : Bool) (c62 : Bool) (t37 : Str) (c64 : Str) (c65 : Bool) (c66 : Bool) (_c69 : Int) (cw105300 : List τ8) (o1_m1027 : List τ12) (o1_m1028 : List τ12) (o1_w1032 : List Str) : St := ⟨116, [(0, .v .str x0), (1, .v τ9 x1), (7, .mref 1027), (8, .mref 1028), (9, .row 1032), (59, .row 105300), (60, .v τ6 c60), (61, .v .bool c61), (62, .v .bool c62), (63, .v .str t37), (64, .v .str c64), (65, .v .bool c65), (66, .v .bool c66)], [(1027, .map .bool o1_m1027), (1028, .map .bool o1_m1028), (1032, .que 9 .str o1_w1032), (105300, .row 71 τ10 false cw105300)]⟩
def z36L1_G (N : Nat) (x0 : Str) (x1 : List τ4) (c60 : Int) (c61 : Bool) (c62 : Bool) (t37 : Str) (c64 : Str) (c65 : Bool) (c66 : Bool) (c69 : Int) (cw105300 : List τ8) (s70 : Int) (m1027_1 : List τ12) (m1028_2 : List τ12) (u1032_3 : List Str) (k : Ex → St → Option τ14) : Option τ14 :=
 z36L1 N x1 c69 cw105300 (fun o1_m1027 o1_m1028 o1_w1032 => k (.exit 2) (z36L1_tl2 x0 x1 c60 c61 c62 t37 c64 c65 c66 c69 cw105300 o1_m1027 o1_m1028 o1_w1032)) N s70 m1027_1 m1028_2 u1032_3
abbrev z36L1_F (N : Nat) : FV z36L1_fs → HV z36L1_bs → (Ex → St → Option τ14) → Option τ14 := fun x y k => z36L1_G N x.1 x.2.1 x.2.2.2.2.2.2.1 x.2.2.2.2.2.2.2.1 x.2.2.2.2.2.2.2.2.1 x.2.2.2.2.2.2.2.2.2.1 x.2.2.2.2.2.2.2.2.2.2.1 x.2.2.2.2.2.2.2.2.2.2.2.1 x.2.2.2.2.2.2.2.2.2.2.2.2.1 x.2.2.2.2.2.2.2.2.2.2.2.2.2.2.1 y.2.2.2.1 x.2.2.2.2.2.2.2.2.2.2.2.2.2.2.2.1 y.1 y.2.1 y.2.2.1 k
abbrev z36L2_fs : List (Nat × Sl) := [(0, .v .str), (1, .v τ9), (7, .mref 1027), (8, .mref 1028), (9, .row 1032), (59, .row 105300), (60, .v τ6), (61, .v .bool), (62, .v .bool), (63, .skip), (64, .skip), (65, .skip), (66, .v .bool), (68, .row 105300), (69, .v τ6), (70, .v τ6)]
abbrev z36L2_bs : List (Nat × Sb) := [(1027, .map .bool), (1028, .map .bool), (1032, .que 9 .str), (105300, .row 71 τ10 false)]
def z36L2_hd (x0 : Str) (x1 : List τ4) (c60_4 : Int) (c61_5 : Bool) (c62_6 : Bool) (c66_7 : Bool) (c69_8 : Int) (cw105300_13 : List τ8) (s70_9 : Int) (m1027_10 : List τ12) (m1028_11 : List τ12) (u1032_12 : List Str) : St := ⟨116, [(0, .v .str x0), (1, .v τ9 x1), (7, .mref 1027), (8, .mref 1028), (9, .row 1032), (59, .row 105300), (60, .v τ6 c60_4), (61, .v .bool c61_5), (62, .v .bool c62_6), (63, .skip), (64, .skip), (65, .skip), (66, .v .bool c66_7), (68, .row 105300), (69, .v τ6 c69_8), (70, .v τ6 s70_9)], [(1027, .map .bool m1027_10), (1028, .map .bool m1028_11), (1032, .que 9 .str u1032_12), (105300, .row 71 τ10 false cw105300_13)]⟩
def z36L2_tl2 (x0 : Str) (x1 : List τ4) (c60_4 : Int) (c61_5 : Bool) (c62_6 : Bool) (c66_7 : Bool) (_c69_8 : Int) (cw105300_13 : List τ8) (o2_m1027 : List τ12) (o2_m1028 : List τ12) (o2_w1032 : List Str) : St := ⟨116, [(0, .v .str x0), (1, .v τ9 x1), (7, .mref 1027), (8, .mref 1028), (9, .row 1032), (59, .row 105300), (60, .v τ6 c60_4), (61, .v .bool c61_5), (62, .v .bool c62_6), (63, .skip), (64, .skip), (65, .skip), (66, .v .bool c66_7)], [(1027, .map .bool o2_m1027), (1028, .map .bool o2_m1028), (1032, .que 9 .str o2_w1032), (105300, .row 71 τ10 false cw105300_13)]⟩
def z36L2_G (N : Nat) (x0 : Str) (x1 : List τ4) (c60_4 : Int) (c61_5 : Bool) (c62_6 : Bool) (c66_7 : Bool) (c69_8 : Int) (cw105300_13 : List τ8) (s70_9 : Int) (m1027_10 : List τ12) (m1028_11 : List τ12) (u1032_12 : List Str) (k : Ex → St → Option τ14) : Option τ14 :=
 z36L2 N x1 c69_8 cw105300_13 (fun o2_m1027 o2_m1028 o2_w1032 => k (.exit 2) (z36L2_tl2 x0 x1 c60_4 c61_5 c62_6 c66_7 c69_8 cw105300_13 o2_m1027 o2_m1028 o2_w1032)) N s70_9 m1027_10 m1028_11 u1032_12
abbrev z36L2_F (N : Nat) : FV z36L2_fs → HV z36L2_bs → (Ex → St → Option τ14) → Option τ14 := fun x y k => z36L2_G N x.1 x.2.1 x.2.2.2.2.2.2.1 x.2.2.2.2.2.2.2.1 x.2.2.2.2.2.2.2.2.1 x.2.2.2.2.2.2.2.2.2.2.2.2.1 x.2.2.2.2.2.2.2.2.2.2.2.2.2.2.1 y.2.2.2.1 x.2.2.2.2.2.2.2.2.2.2.2.2.2.2.2.1 y.1 y.2.1 y.2.2.1 k
abbrev z36L0_fs : List (Nat × Sl) := [(0, .v .str), (1, .v τ9), (7, .mref 1027), (8, .mref 1028), (9, .row 1032)]
abbrev z36L0_bs : List (Nat × Sb) := [(1027, .map .bool), (1028, .map .bool), (1032, .que 9 .str)]
def z36L0_hd (x0 : Str) (x1 : List τ4) (m1027 : List τ12) (m1028 : List τ12) (u1032 : List Str) : St := ⟨116, [(0, .v .str x0), (1, .v τ9 x1), (7, .mref 1027), (8, .mref 1028), (9, .row 1032)], [(1027, .map .bool m1027), (1028, .map .bool m1028), (1032, .que 9 .str u1032)]⟩
def z36L0_tl0 (_x0 : Str) (_x1 : List τ4) (o0_m1027 : List τ12) : St := ⟨116, [(7, .mref 1027)], [(1027, .map .bool o0_m1027)]⟩
def z36L0_G (N : Nat) (x0 : Str) (x1 : List τ4) (m1027 : List τ12) (m1028 : List τ12) (u1032 : List Str) (k : Ex → St → Option τ14) : Option τ14 :=
 z36L0 N x0 x1 (fun o0_m1027 => k (.exit 0) (z36L0_tl0 x0 x1 o0_m1027)) N m1027 m1028 u1032
abbrev z36L0_F (N : Nat) : FV z36L0_fs → HV z36L0_bs → (Ex → St → Option τ14) → Option τ14 := fun x y k => z36L0_G N x.1 x.2.1 y.1 y.2.1 y.2.2.1 k
abbrev z36L3_fs : List (Nat × Sl) := [(19, .row 1019), (104, .box 1104 0)]
abbrev z36L3_bs : List (Nat × Sb) := [(1019, .row 9 .str true), (1104, .iter .bool)]
def z36L3_hd (w1019 : List Str) (i1104 : List τ12) : St := ⟨116, [(19, .row 1019), (104, .box 1104 0)], [(1019, .row 9 .str true w1019), (1104, .iter .bool i1104 none)]⟩
def z36L3_tl4 (o3_w1019 : List Str) : St := ⟨116, [(19, .row 1019)], [(1019, .row 9 .str true o3_w1019)]⟩
def z36L3_G (N : Nat) (w1019 : List Str) (i1104 : List τ12) (k : Ex → St → Option τ14) : Option τ14 :=
 z36L3 N (fun o3_w1019 => k (.exit 4) (z36L3_tl4 o3_w1019)) N w1019 i1104
abbrev z36L3_F (N : Nat) : FV z36L3_fs → HV z36L3_bs → (Ex → St → Option τ14) → Option τ14 := fun _ y k => z36L3_G N y.1 y.2.1 k
noncomputable def z36LP (N : Nat) : Nat → Code → St → (Ex → St → Option τ14) → Option τ14 := fun i c =>
 match i with
 | 0 => (LPc 116 z36L0_fs z36L0_bs (z36L0_F N) (fun st k => iter (z36h 0) (exec (z36E N) N c 0) N st k))
 | 2 => (LPc 116 z36L2_fs z36L2_bs (z36L2_F N) (LPc 116 z36L1_fs z36L1_bs (z36L1_F N) (fun st k => iter (z36h 2) (exec (z36E N) N c 2) N st k)))
 | 4 => (LPc 116 z36L3_fs z36L3_bs (z36L3_F N) (fun st k => iter (z36h 4) (exec (z36E N) N c 4) N st k))
 | i => fun st k => iter (z36h i) (exec (z36E N) N c i) N st k
theorem z36L3_step (N : Nat) (KX : Nat → St → Option τ14) (I : St → Option τ14) (w1019 : List Str) (i1104 : List τ12) :
  execL (z36LP N) (z36E N) z36c1 4 (z36L3_hd w1019 i1104) (roundK (z36h 4) I KX (z36R N)) = z36L3T N (fun o3_w1019 => KX 4 (z36L3_tl4 o3_w1019)) (fun w1019 i1104 => I (z36L3_hd w1019 i1104)) w1019 i1104 := by kernel_rfl
theorem z36L3_ok (N : Nat) : ∀ x y k, (∀ st, k .ret st = (z36R N) st) → iter (z36h 4) (exec (z36E N) N z36c1 4) N ⟨116, unF z36L3_fs x, unH z36L3_bs y⟩ k = z36L3_F N x y k := fun x y k hk =>
 iter_link (S := (List Str) × (List τ12) × Unit) (z36h 4) _ (execL (z36LP N) (z36E N) z36c1 4) (z36R N) (fun st k hk => execL_eq _ _ N _ z36c1 4 (show LoopsOk (z36LP N) (z36E N) N (z36R N) [] from trivial) st k hk) (fun s => z36L3_hd s.1 s.2.1) k hk
  (fun self s => z36L3T N (fun o3_w1019 => k (.exit 4) (z36L3_tl4 o3_w1019)) (fun w1019 i1104 => self (w1019, i1104, ())) s.1 s.2.1) (fun n s => z36L3 N (fun o3_w1019 => k (.exit 4) (z36L3_tl4 o3_w1019)) n s.1 s.2.1) (fun _ => rfl) (fun _ _ => rfl)
  (fun I s => z36L3_step N (fun j => k (.exit j)) I s.1 s.2.1) N (y.1, y.2.1, ())
theorem z36lp4 (N : Nat) : ∀ st k, (∀ st, k .ret st = (z36R N) st) → z36LP N 4 z36c1 st k = iter (Env.hint (z36E N) 4) (exec (z36E N) N z36c1 4) N st k := fun st k hk => LPc_eq 116 z36L3_fs z36L3_bs _ _ (z36R N) (z36L3_ok N) _ st k hk (rfl)
theorem z36L1_step (N : Nat) (x0 : Str) (x1 : List τ4) (c60 : Int) (c61 : Bool) (c62 : Bool) (t37 : Str) (c64 : Str) (c65 : Bool) (c66 : Bool) (c69 : Int) (cw105300 : List τ8) (KX : Nat → St → Option τ14) (I : St → Option τ14) (s70 : Int) (m1027_1 : List τ12) (m1028_2 : List τ12) (u1032_3 : List Str) :
  execL (z36LP N) (z36E N) z36c0 2 (z36L1_hd x0 x1 c60 c61 c62 t37 c64 c65 c66 c69 cw105300 s70 m1027_1 m1028_2 u1032_3) (roundK (z36h 2) I KX (z36R N)) = z36L1T N x1 c69 cw105300 (fun o1_m1027 o1_m1028 o1_w1032 => KX 2 (z36L1_tl2 x0 x1 c60 c61 c62 t37 c64 c65 c66 c69 cw105300 o1_m1027 o1_m1028 o1_w1032)) (fun s70 m1027_1 m1028_2 u1032_3 => I (z36L1_hd x0 x1 c60 c61 c62 t37 c64 c65 c66 c69 cw105300 s70 m1027_1 m1028_2 u1032_3)) s70 m1027_1 m1028_2 u1032_3 := by kernel_rfl
theorem z36L1_ok (N : Nat) : ∀ x y k, (∀ st, k .ret st = (z36R N) st) → iter (z36h 2) (exec (z36E N) N z36c0 2) N ⟨116, unF z36L1_fs x, unH z36L1_bs y⟩ k = z36L1_F N x y k := fun x y k hk =>
 iter_link (S := (Int) × (List τ12) × (List τ12) × (List Str) × Unit) (z36h 2) _ (execL (z36LP N) (z36E N) z36c0 2) (z36R N) (fun st k hk => execL_eq _ _ N _ z36c0 2 (show LoopsOk (z36LP N) (z36E N) N (z36R N) [] from trivial) st k hk) (fun s => z36L1_hd x.1 x.2.1 x.2.2.2.2.2.2.1 x.2.2.2.2.2.2.2.1 x.2.2.2.2.2.2.2.2.1 x.2.2.2.2.2.2.2.2.2.1 x.2.2.2.2.2.2.2.2.2.2.1 x.2.2.2.2.2.2.2.2.2.2.2.1 x.2.2.2.2.2.2.2.2.2.2.2.2.1 x.2.2.2.2.2.2.2.2.2.2.2.2.2.2.1 y.2.2.2.1 s.1 s.2.1 s.2.2.1 s.2.2.2.1) k hk
  (fun self s => z36L1T N x.2.1 x.2.2.2.2.2.2.2.2.2.2.2.2.2.2.1 y.2.2.2.1 (fun o1_m1027 o1_m1028 o1_w1032 => k (.exit 2) (z36L1_tl2 x.1 x.2.1 x.2.2.2.2.2.2.1 x.2.2.2.2.2.2.2.1 x.2.2.2.2.2.2.2.2.1 x.2.2.2.2.2.2.2.2.2.1 x.2.2.2.2.2.2.2.2.2.2.1 x.2.2.2.2.2.2.2.2.2.2.2.1 x.2.2.2.2.2.2.2.2.2.2.2.2.1 x.2.2.2.2.2.2.2.2.2.2.2.2.2.2.1 y.2.2.2.1 o1_m1027 o1_m1028 o1_w1032)) (fun s70 m1027_1 m1028_2 u1032_3 => self (s70, m1027_1, m1028_2, u1032_3, ())) s.1 s.2.1 s.2.2.1 s.2.2.2.1) (fun n s => z36L1 N x.2.1 x.2.2.2.2.2.2.2.2.2.2.2.2.2.2.1 y.2.2.2.1 (fun o1_m1027 o1_m1028 o1_w1032 => k (.exit 2) (z36L1_tl2 x.1 x.2.1 x.2.2.2.2.2.2.1 x.2.2.2.2.2.2.2.1 x.2.2.2.2.2.2.2.2.1 x.2.2.2.2.2.2.2.2.2.1 x.2.2.2.2.2.2.2.2.2.2.1 x.2.2.2.2.2.2.2.2.2.2.2.1 x.2.2.2.2.2.2.2.2.2.2.2.2.1 x.2.2.2.2.2.2.2.2.2.2.2.2.2.2.1 y.2.2.2.1 o1_m1027 o1_m1028 o1_w1032)) n s.1 s.2.1 s.2.2.1 s.2.2.2.1) (fun _ => rfl) (fun _ _ => rfl)
  (fun I s => z36L1_step N x.1 x.2.1 x.2.2.2.2.2.2.1 x.2.2.2.2.2.2.2.1 x.2.2.2.2.2.2.2.2.1 x.2.2.2.2.2.2.2.2.2.1 x.2.2.2.2.2.2.2.2.2.2.1 x.2.2.2.2.2.2.2.2.2.2.2.1 x.2.2.2.2.2.2.2.2.2.2.2.2.1 x.2.2.2.2.2.2.2.2.2.2.2.2.2.2.1 y.2.2.2.1 (fun j => k (.exit j)) I s.1 s.2.1 s.2.2.1 s.2.2.2.1) N (x.2.2.2.2.2.2.2.2.2.2.2.2.2.2.2.1, y.1, y.2.1, y.2.2.1, ())
theorem z36L2_step (N : Nat) (x0 : Str) (x1 : List τ4) (c60_4 : Int) (c61_5 : Bool) (c62_6 : Bool) (c66_7 : Bool) (c69_8 : Int) (cw105300_13 : List τ8) (KX : Nat → St → Option τ14) (I : St → Option τ14) (s70_9 : Int) (m1027_10 : List τ12) (m1028_11 : List τ12) (u1032_12 : List Str) :
  execL (z36LP N) (z36E N) z36c0 2 (z36L2_hd x0 x1 c60_4 c61_5 c62_6 c66_7 c69_8 cw105300_13 s70_9 m1027_10 m1028_11 u1032_12) (roundK (z36h 2) I KX (z36R N)) = z36L2T N x1 c69_8 cw105300_13 (fun o2_m1027 o2_m1028 o2_w1032 => KX 2 (z36L2_tl2 x0 x1 c60_4 c61_5 c62_6 c66_7 c69_8 cw105300_13 o2_m1027 o2_m1028 o2_w1032)) (fun s70_9 m1027_10 m1028_11 u1032_12 => I (z36L2_hd x0 x1 c60_4 c61_5 c62_6 c66_7 c69_8 cw105300_13 s70_9 m1027_10 m1028_11 u1032_12)) s70_9 m1027_10 m1028_11 u1032_12 := by kernel_rfl
theorem z36L2_ok (N : Nat) : ∀ x y k, (∀ st, k .ret st = (z36R N) st) → iter (z36h 2) (exec (z36E N) N z36c0 2) N ⟨116, unF z36L2_fs x, unH z36L2_bs y⟩ k = z36L2_F N x y k := fun x y k hk =>
 iter_link (S := (Int) × (List τ12) × (List τ12) × (List Str) × Unit) (z36h 2) _ (execL (z36LP N) (z36E N) z36c0 2) (z36R N) (fun st k hk => execL_eq _ _ N _ z36c0 2 (show LoopsOk (z36LP N) (z36E N) N (z36R N) [] from trivial) st k hk) (fun s => z36L2_hd x.1 x.2.1 x.2.2.2.2.2.2.1 x.2.2.2.2.2.2.2.1 x.2.2.2.2.2.2.2.2.1 x.2.2.2.2.2.2.2.2.2.2.2.2.1 x.2.2.2.2.2.2.2.2.2.2.2.2.2.2.1 y.2.2.2.1 s.1 s.2.1 s.2.2.1 s.2.2.2.1) k hk
  (fun self s => z36L2T N x.2.1 x.2.2.2.2.2.2.2.2.2.2.2.2.2.2.1 y.2.2.2.1 (fun o2_m1027 o2_m1028 o2_w1032 => k (.exit 2) (z36L2_tl2 x.1 x.2.1 x.2.2.2.2.2.2.1 x.2.2.2.2.2.2.2.1 x.2.2.2.2.2.2.2.2.1 x.2.2.2.2.2.2.2.2.2.2.2.2.1 x.2.2.2.2.2.2.2.2.2.2.2.2.2.2.1 y.2.2.2.1 o2_m1027 o2_m1028 o2_w1032)) (fun s70_9 m1027_10 m1028_11 u1032_12 => self (s70_9, m1027_10, m1028_11, u1032_12, ())) s.1 s.2.1 s.2.2.1 s.2.2.2.1) (fun n s => z36L2 N x.2.1 x.2.2.2.2.2.2.2.2.2.2.2.2.2.2.1 y.2.2.2.1 (fun o2_m1027 o2_m1028 o2_w1032 => k (.exit 2) (z36L2_tl2 x.1 x.2.1 x.2.2.2.2.2.2.1 x.2.2.2.2.2.2.2.1 x.2.2.2.2.2.2.2.2.1 x.2.2.2.2.2.2.2.2.2.2.2.2.1 x.2.2.2.2.2.2.2.2.2.2.2.2.2.2.1 y.2.2.2.1 o2_m1027 o2_m1028 o2_w1032)) n s.1 s.2.1 s.2.2.1 s.2.2.2.1) (fun _ => rfl) (fun _ _ => rfl)
  (fun I s => z36L2_step N x.1 x.2.1 x.2.2.2.2.2.2.1 x.2.2.2.2.2.2.2.1 x.2.2.2.2.2.2.2.2.1 x.2.2.2.2.2.2.2.2.2.2.2.2.1 x.2.2.2.2.2.2.2.2.2.2.2.2.2.2.1 y.2.2.2.1 (fun j => k (.exit j)) I s.1 s.2.1 s.2.2.1 s.2.2.2.1) N (x.2.2.2.2.2.2.2.2.2.2.2.2.2.2.2.1, y.1, y.2.1, y.2.2.1, ())
theorem z36lp2 (N : Nat) : ∀ st k, (∀ st, k .ret st = (z36R N) st) → z36LP N 2 z36c0 st k = iter (Env.hint (z36E N) 2) (exec (z36E N) N z36c0 2) N st k := fun st k hk => LPc_eq 116 z36L2_fs z36L2_bs _ _ (z36R N) (z36L2_ok N) _ st k hk (LPc_eq 116 z36L1_fs z36L1_bs _ _ (z36R N) (z36L1_ok N) _ st k hk (rfl))
theorem z36L0_step (N : Nat) (x0 : Str) (x1 : List τ4) (KX : Nat → St → Option τ14) (I : St → Option τ14) (m1027 : List τ12) (m1028 : List τ12) (u1032 : List Str) :
  execL (z36LP N) (z36E N) z36c2 0 (z36L0_hd x0 x1 m1027 m1028 u1032) (roundK (z36h 0) I KX (z36R N)) = z36L0T N x0 x1 (fun o0_m1027 => KX 0 (z36L0_tl0 x0 x1 o0_m1027)) (fun m1027 m1028 u1032 => I (z36L0_hd x0 x1 m1027 m1028 u1032)) m1027 m1028 u1032 := by kernel_rfl
theorem z36L0_ok (N : Nat) : ∀ x y k, (∀ st, k .ret st = (z36R N) st) → iter (z36h 0) (exec (z36E N) N z36c2 0) N ⟨116, unF z36L0_fs x, unH z36L0_bs y⟩ k = z36L0_F N x y k := fun x y k hk =>
 iter_link (S := (List τ12) × (List τ12) × (List Str) × Unit) (z36h 0) _ (execL (z36LP N) (z36E N) z36c2 0) (z36R N) (fun st k hk => execL_eq _ _ N _ z36c2 0 (show LoopsOk (z36LP N) (z36E N) N (z36R N) [(2, z36c0)] from ⟨z36lp2 N, trivial⟩) st k hk) (fun s => z36L0_hd x.1 x.2.1 s.1 s.2.1 s.2.2.1) k hk
  (fun self s => z36L0T N x.1 x.2.1 (fun o0_m1027 => k (.exit 0) (z36L0_tl0 x.1 x.2.1 o0_m1027)) (fun m1027 m1028 u1032 => self (m1027, m1028, u1032, ())) s.1 s.2.1 s.2.2.1) (fun n s => z36L0 N x.1 x.2.1 (fun o0_m1027 => k (.exit 0) (z36L0_tl0 x.1 x.2.1 o0_m1027)) n s.1 s.2.1 s.2.2.1) (fun _ => rfl) (fun _ _ => rfl)
  (fun I s => z36L0_step N x.1 x.2.1 (fun j => k (.exit j)) I s.1 s.2.1 s.2.2.1) N (y.1, y.2.1, y.2.2.1, ())
theorem z36lp0 (N : Nat) : ∀ st k, (∀ st, k .ret st = (z36R N) st) → z36LP N 0 z36c2 st k = iter (Env.hint (z36E N) 0) (exec (z36E N) N z36c2 0) N st k := fun st k hk => LPc_eq 116 z36L0_fs z36L0_bs _ _ (z36R N) (z36L0_ok N) _ st k hk (rfl)
theorem z36core (N : Nat) (x : SV [.v .str, .v τ9]) (y : BV []) : runL (z36E N) Tryz.f9 (z36g N) z36pk (z36LP N) x y = blob_Missing N x.1 x.2.1 := by kernel_rfl
theorem z36sound (N : Nat) : Snd 9 (z36g N) :=
 runD_sound (mkE_ok z36h (z36fn N) _ _ (z36fn_ok N)) Tryz.func9 rfl Tryz.call9 (z36g N) z36pk (fun _ _ => rfl) N (fun x y _ h => ((runL_eq (z36E N) N Tryz.f9 (z36g N) z36pk (z36LP N) (show LoopsOk (z36LP N) (z36E N) N (z36R N) [(0, z36c2), (2, z36c0), (4, z36c1)] from ⟨z36lp0 N, z36lp2 N, z36lp4 N, trivial⟩) x y).trans (z36core N x y)).trans h)
def ref1_SameFile (N : Nat) (x0 : Str × Bool × List UInt8) (x1 : Str × Bool × List UInt8) : Option Bool :=
 br (x0.1 == x1.1)
  (br (x0.2.1 == x1.2.1)
   (bnd (bytes_Equal N x0.2.2 x1.2.2) fun t22 =>
   some t22)
   (some false))
  (some false)
abbrev z32sg (f : SV [.v τ1, .v τ1] → BV [] → Option (Bool)) : AF := { ps := [.v τ1, .v τ1], bs := [], rs := [.v .bool], cs := [], R := Bool, out := fun z => ((z, ()), ()), f := f }
noncomputable abbrev z32g (N : Nat) : AF := z32sg fun x _ => ref1_SameFile N x.1 x.2.1
abbrev z32pk : SV [.v .bool] → BV [] → Bool := fun x _ => x.1
def z32fn (N : Nat) : FuncId → Option Tmp → Option AF := fun f _ =>
 match f with
  | 39 => some (z48g N)
  | _ => none
theorem z32fn_ok (N : Nat) : FnOk (z32fn N) := by
 intro f q F h
 unfold z32fn at h
 split at h
 · cases h; exact z48sound N
 · cases h
def z32h : Nat → Hint := fun i =>
 match i with
 | _ => hint0
abbrev z32E (N : Nat) : Env := mkE z32h (z32fn N) FF FF
noncomputable def z32LP (N : Nat) : Nat → Code → St → (Ex → St → Option Bool) → Option Bool := fun i c =>
 match i with
 | i => fun st k => iter (z32h i) (exec (z32E N) N c i) N st k
theorem z32core (N : Nat) (x : SV [.v τ1, .v τ1]) (y : BV []) : runL (z32E N) Tryz.f29 (z32g N) z32pk (z32LP N) x y = ref1_SameFile N x.1 x.2.1 := by kernel_rfl
theorem z32sound (N : Nat) : Snd 29 (z32g N) :=
 sndL (z32fn_ok N) Tryz.func29 rfl Tryz.call29 (z32g N) z32pk (fun _ _ => rfl) N (z32LP N) (show LoopsOk (z32LP N) (z32E N) N (resD (z32E N) Tryz.f29 (z32g N) z32pk) [] from trivial) (z32core N)
def z29L0T (N : Nat) (x0 : List τ2) (x1 : List τ2) (k0 : Option Bool) (self : Int → Option Bool) (s5 : Int) : Option Bool :=
 br (decide (s5 < (x0.length : Int)))
  (bnd (geti x0 s5) fun t19 =>
  bnd (geti x1 s5) fun t23 =>
  bnd (ref1_SameFile N t19 t23) fun t25 =>
  br (!t25)
   (some false)
   (self (IntKind.i64.wrap (s5 + (1 : Int)))))
  (k0)
def z29L0 (N : Nat) (x0 : List τ2) (x1 : List τ2) (k0 : Option Bool) : Nat → Int → Option Bool
 | 0, _ => none
 | n + 1, s5 => z29L0T N x0 x1 k0 (z29L0 N x0 x1 k0 n) s5
def ref1_SameFiles (N : Nat) (x0 : List τ2) (x1 : List τ2) : Option Bool :=
 br ((x0.length : Int) != (x1.length : Int))
  (some false)
  (z29L0 N x0 x1 (some true) N (0 : Int))
abbrev z29sg (f : SV [.v (.sl τ1), .v (.sl τ1)] → BV [] → Option (Bool)) : AF := { ps := [.v (.sl τ1), .v (.sl τ1)], bs := [], rs := [.v .bool], cs := [], R := Bool, out := fun z => ((z, ()), ()), f := f }
noncomputable abbrev z29g (N : Nat) : AF := z29sg fun x _ => ref1_SameFiles N x.1 x.2.1
abbrev z29pk : SV [.v .bool] → BV [] → Bool := fun x _ => x.1
def z29fn (N : Nat) : FuncId → Option Tmp → Option AF := fun f _ =>
 match f with
  | 29 => some (z32g N)
  | _ => none
theorem z29fn_ok (N : Nat) : FnOk (z29fn N) := by
 intro f q F h
 unfold z29fn at h
 split at h
 · cases h; exact z32sound N
 · cases h
def z29h : Nat → Hint := fun i =>
 match i with
 | 0 => ⟨[], [0, 1, 5], [], [], [], []⟩
 | _ => hint0
abbrev z29E (N : Nat) : Env := mkE z29h (z29fn N) FF FF
noncomputable abbrev z29c0 : Code := cAt (bodyOf Tryz.f10) [true, true, false, true, false, false]
noncomputable abbrev z29R (N : Nat) := resD (z29E N) Tryz.f10 (z29g N) z29pk
abbrev z29L0_fs : List (Nat × Sl) := [(0, .v (.sl τ1)), (1, .v (.sl τ1)), (5, .v τ6)]
abbrev z29L0_bs : List (Nat × Sb) := []
def z29L0_hd (x0 : List τ2) (x1 : List τ2) (s5 : Int) : St := ⟨27, [(0, .v (.sl τ1) x0), (1, .v (.sl τ1) x1), (5, .v τ6 s5)], []⟩
def z29L0_tl0 (_x0 : List τ2) (_x1 : List τ2) : St := ⟨27, [], []⟩
def z29L0_G (N : Nat) (x0 : List τ2) (x1 : List τ2) (s5 : Int) (k : Ex → St → Option Bool) : Option Bool :=
 z29L0 N x0 x1 (k (.exit 0) (z29L0_tl0 x0 x1)) N s5
abbrev z29L0_F (N : Nat) : FV z29L0_fs → HV z29L0_bs → (Ex → St → Option Bool) → Option Bool := fun x _ k => z29L0_G N x.1 x.2.1 x.2.2.1 k
noncomputable def z29LP (N : Nat) : Nat → Code → St → (Ex → St → Option Bool) → Option Bool := fun i c =>
 match i with
 | 0 => (LPc 27 z29L0_fs z29L0_bs (z29L0_F N) (fun st k => iter (z29h 0) (exec (z29E N) N c 0) N st k))
 | i => fun st k => iter (z29h i) (exec (z29E N) N c i) N st k
theorem z29L0_step (N : Nat) (x0 : List τ2) (x1 : List τ2) (KX : Nat → St → Option Bool) (I : St → Option Bool) (s5 : Int) :
  execL (z29LP N) (z29E N) z29c0 0 (z29L0_hd x0 x1 s5) (roundK (z29h 0) I KX (z29R N)) = z29L0T N x0 x1 (KX 0 (z29L0_tl0 x0 x1)) (fun s5 => I (z29L0_hd x0 x1 s5)) s5 := by kernel_rfl
theorem z29L0_ok (N : Nat) : ∀ x y k, (∀ st, k .ret st = (z29R N) st) → iter (z29h 0) (exec (z29E N) N z29c0 0) N ⟨27, unF z29L0_fs x, unH z29L0_bs y⟩ k = z29L0_F N x y k := fun x _ k hk =>
 iter_link (S := (Int) × Unit) (z29h 0) _ (execL (z29LP N) (z29E N) z29c0 0) (z29R N) (fun st k hk => execL_eq _ _ N _ z29c0 0 (show LoopsOk (z29LP N) (z29E N) N (z29R N) [] from trivial) st k hk) (fun s => z29L0_hd x.1 x.2.1 s.1) k hk
  (fun self s => z29L0T N x.1 x.2.1 (k (.exit 0) (z29L0_tl0 x.1 x.2.1)) (fun s5 => self (s5, ())) s.1) (fun n s => z29L0 N x.1 x.2.1 (k (.exit 0) (z29L0_tl0 x.1 x.2.1)) n s.1) (fun _ => rfl) (fun _ _ => rfl)
  (fun I s => z29L0_step N x.1 x.2.1 (fun j => k (.exit j)) I s.1) N (x.2.2.1, ())
theorem z29lp0 (N : Nat) : ∀ st k, (∀ st, k .ret st = (z29R N) st) → z29LP N 0 z29c0 st k = iter (Env.hint (z29E N) 0) (exec (z29E N) N z29c0 0) N st k := fun st k hk => LPc_eq 27 z29L0_fs z29L0_bs _ _ (z29R N) (z29L0_ok N) _ st k hk (rfl)
theorem z29core (N : Nat) (x : SV [.v (.sl τ1), .v (.sl τ1)]) (y : BV []) : runL (z29E N) Tryz.f10 (z29g N) z29pk (z29LP N) x y = ref1_SameFiles N x.1 x.2.1 := by kernel_rfl
theorem z29sound (N : Nat) : Snd 10 (z29g N) :=
 sndL (z29fn_ok N) Tryz.func10 rfl Tryz.call10 (z29g N) z29pk (fun _ _ => rfl) N (z29LP N) (show LoopsOk (z29LP N) (z29E N) N (z29R N) [(0, z29c0)] from ⟨z29lp0 N, trivial⟩) (z29core N)
def law1_BlobTreesComeBack (N : Nat) (x0 : List τ2) : Option Bool :=
 bnd (blob_TreeOf N x0) fun t11 =>
 br (t11.2.1 != (0 : Int))
  (br (t11.1 == ([] : Str))
   (bnd (law1_awake N) fun t20 =>
   some t20)
   (some false))
  (bnd (ref1_FaithfulTree N x0) fun t23 =>
  br (!t23)
   (bnd (law1_awake N) fun t25 =>
   some t25)
   (bnd (blob_FilesOf N t11.1 t11.2.2) fun t29 =>
   bnd (blob_Missing N t11.1 t11.2.2) fun t35 =>
   br (t29.2 == (0 : Int))
    (bnd (ref1_SameFiles N t29.1 x0) fun t43 =>
    br (t43)
     (br (t35.2 == (0 : Int))
      (br ((t35.1.length : Int) == (0 : Int))
       (bnd (law1_awake N) fun t55 =>
       some t55)
       (some false))
      (some false))
     (some false))
    (some false)))
abbrev z9sg (f : SV [.v (.sl τ1)] → BV [] → Option (Bool)) : AF := { ps := [.v (.sl τ1)], bs := [], rs := [.v .bool], cs := [], R := Bool, out := fun z => ((z, ()), ()), f := f }
noncomputable abbrev z9g (N : Nat) : AF := z9sg fun x _ => law1_BlobTreesComeBack N x.1
abbrev z9pk : SV [.v .bool] → BV [] → Bool := fun x _ => x.1
def z9fn (N : Nat) : FuncId → Option Tmp → Option AF := fun f _ =>
 match f with
  | 5 => some (z45g N)
  | 6 => some (z53g N)
  | 7 => some (z18g N)
  | 8 => some (z35g N)
  | 9 => some (z36g N)
  | 10 => some (z29g N)
  | _ => none
theorem z9fn_ok (N : Nat) : FnOk (z9fn N) := by
 intro f q F h
 unfold z9fn at h
 split at h
 · cases h; exact z45sound N
 · cases h; exact z53sound N
 · cases h; exact z18sound N
 · cases h; exact z35sound N
 · cases h; exact z36sound N
 · cases h; exact z29sound N
 · cases h
def z9h : Nat → Hint := fun i =>
 match i with
 | _ => hint0
abbrev z9E (N : Nat) : Env := mkE z9h (z9fn N) FF FF
noncomputable def z9LP (N : Nat) : Nat → Code → St → (Ex → St → Option Bool) → Option Bool := fun i c =>
 match i with
 | i => fun st k => iter (z9h i) (exec (z9E N) N c i) N st k
theorem z9core (N : Nat) (x : SV [.v (.sl τ1)]) (y : BV []) : runL (z9E N) Tryz.f3 (z9g N) z9pk (z9LP N) x y = law1_BlobTreesComeBack N x.1 := by kernel_rfl
theorem z9sound (N : Nat) : Snd 3 (z9g N) :=
 sndL (z9fn_ok N) Tryz.func3 rfl Tryz.call3 (z9g N) z9pk (fun _ _ => rfl) N (z9LP N) (show LoopsOk (z9LP N) (z9E N) N (resD (z9E N) Tryz.f3 (z9g N) z9pk) [] from trivial) (z9core N)
end
end Go.Proofs.YtjiddcchklaiiaaGreatDoor

