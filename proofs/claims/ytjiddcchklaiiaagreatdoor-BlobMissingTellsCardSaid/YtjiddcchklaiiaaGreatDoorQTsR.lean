/- What functions of the program compute, as plain functions (printed). -/
import Derived.Test.YtjiddcchklaiiaaGreatDoorQBmSo
namespace Go.Proofs.YtjiddcchklaiiaaGreatDoor
open Go Go.RowKit
set_option maxRecDepth 100000
set_option linter.unusedVariables false
noncomputable section
def z13L0T (N : Nat) (r_blob_treeReader_dir : Str → Str → τ16 → τ15 → Option τ13) (x2 : Str) (c44 : Int) (cw102900 : List τ9) (k0 : τ16 → τ15 → Option τ13) (self : Int → τ16 → τ15 → Option τ13) (s45 : Int) (b0_0 : List τ3) (w1_1 : List τ2) : Option τ13 :=
 br (decide (s45 < c44))
   (bnd (geti cw102900 s45) fun t47 =>
   br (t47.2.2.1)
     (br (decide (x2.length + t47.1.length ≤ 9223372036854775807))
       (br (decide ((x2 ++ t47.1).length + ([47] : Str).length ≤ 9223372036854775807))
         (bnd (r_blob_treeReader_dir t47.2.1 ((x2 ++ t47.1) ++ ([47] : Str)) b0_0 w1_1) fun t59 =>
         br (t59.1 != (0 : Int))
           (some t59)
           (self (IntKind.i64.wrap (s45 + (1 : Int))) t59.2.1 t59.2.2))
         none)
       none)
     (bnd (blob_Find N b0_0 t47.2.1) fun t70 =>
     br (!t70.2)
       (some ((9 : Int), (b0_0, w1_1)))
       (br (decide ((IntKind.i64.wrap ((x2.length : Int) + (t47.1.length : Int))) > (200 : Int)))
         (some ((3 : Int), (b0_0, w1_1)))
         (br (decide ((w1_1.length : Int) ≥ (1000 : Int)))
           (some ((2 : Int), (b0_0, w1_1)))
           (both
             (both
               (br (decide (x2.length + t47.1.length ≤ 9223372036854775807))
                 (times 1
                   (bnd (slices_Clone_byte_byte N t70.1) fun t100 =>
                   br (decide ((w1_1.length + [(x2 ++ t47.1, (t47.2.2.2, t100))].length) * (24 * Ty.sz τ4) ≤ 140737488355328))
                     (self (IntKind.i64.wrap (s45 + (1 : Int))) b0_0 (w1_1 ++ [(x2 ++ t47.1, (t47.2.2.2, t100))]))
                     none))
                 none)
               (both
                 (both
                   (br (decide (x2.length + t47.1.length ≤ 9223372036854775807))
                     (bnd (slices_Clone_byte_byte N t70.1) fun t100 =>
                     br (decide ((w1_1.length + [(x2 ++ t47.1, (t47.2.2.2, t100))].length) * (24 * Ty.sz τ4) ≤ 140737488355328))
                       (self (IntKind.i64.wrap (s45 + (1 : Int))) b0_0 (w1_1 ++ [(x2 ++ t47.1, (t47.2.2.2, t100))]))
                       none)
                     none)
                   (bnd (slices_Clone_byte_byte N t70.1) fun t100 =>
                   br (decide (x2.length + t47.1.length ≤ 9223372036854775807))
                     (br (decide ((w1_1.length + [(x2 ++ t47.1, (t47.2.2.2, t100))].length) * (24 * Ty.sz τ4) ≤ 140737488355328))
                       (self (IntKind.i64.wrap (s45 + (1 : Int))) b0_0 (w1_1 ++ [(x2 ++ t47.1, (t47.2.2.2, t100))]))
                       none)
                     none))
                 (bnd (slices_Clone_byte_byte N t70.1) fun t100 =>
                 times 1
                   (br (decide (x2.length + t47.1.length ≤ 9223372036854775807))
                     (br (decide ((w1_1.length + [(x2 ++ t47.1, (t47.2.2.2, t100))].length) * (24 * Ty.sz τ4) ≤ 140737488355328))
                       (self (IntKind.i64.wrap (s45 + (1 : Int))) b0_0 (w1_1 ++ [(x2 ++ t47.1, (t47.2.2.2, t100))]))
                       none)
                     none))))
             (both
               (br (decide (x2.length + t47.1.length ≤ 9223372036854775807))
                 (both
                   (times 1
                     (bnd (slices_Clone_byte_byte N t70.1) fun t100 =>
                     br (decide ((w1_1.length + [(x2 ++ t47.1, (t47.2.2.2, t100))].length) * (24 * Ty.sz τ4) ≤ 140737488355328))
                       (self (IntKind.i64.wrap (s45 + (1 : Int))) b0_0 (w1_1 ++ [(x2 ++ t47.1, (t47.2.2.2, t100))]))
                       none))
                   (both
                     (both
                       (bnd (slices_Clone_byte_byte N t70.1) fun t100 =>
                       br (decide ((w1_1.length + [(x2 ++ t47.1, (t47.2.2.2, t100))].length) * (24 * Ty.sz τ4) ≤ 140737488355328))
                         (self (IntKind.i64.wrap (s45 + (1 : Int))) b0_0 (w1_1 ++ [(x2 ++ t47.1, (t47.2.2.2, t100))]))
                         none)
                       (bnd (slices_Clone_byte_byte N t70.1) fun t100 =>
                       times 2
                         (br (decide ((w1_1.length + [(x2 ++ t47.1, (t47.2.2.2, t100))].length) * (24 * Ty.sz τ4) ≤ 140737488355328))
                           (self (IntKind.i64.wrap (s45 + (1 : Int))) b0_0 (w1_1 ++ [(x2 ++ t47.1, (t47.2.2.2, t100))]))
                           none)))
                     (bnd (slices_Clone_byte_byte N t70.1) fun t100 =>
                     times 3
                       (br (decide ((w1_1.length + [(x2 ++ t47.1, (t47.2.2.2, t100))].length) * (24 * Ty.sz τ4) ≤ 140737488355328))
                         (self (IntKind.i64.wrap (s45 + (1 : Int))) b0_0 (w1_1 ++ [(x2 ++ t47.1, (t47.2.2.2, t100))]))
                         none))))
                 none)
               (both
                 (both
                   (both
                     (br (decide (x2.length + t47.1.length ≤ 9223372036854775807))
                       (bnd (slices_Clone_byte_byte N t70.1) fun t100 =>
                       br (decide ((w1_1.length + [(x2 ++ t47.1, (t47.2.2.2, t100))].length) * (24 * Ty.sz τ4) ≤ 140737488355328))
                         (self (IntKind.i64.wrap (s45 + (1 : Int))) b0_0 (w1_1 ++ [(x2 ++ t47.1, (t47.2.2.2, t100))]))
                         none)
                       none)
                     (bnd (slices_Clone_byte_byte N t70.1) fun t100 =>
                     br (decide (x2.length + t47.1.length ≤ 9223372036854775807))
                       (br (decide ((w1_1.length + [(x2 ++ t47.1, (t47.2.2.2, t100))].length) * (24 * Ty.sz τ4) ≤ 140737488355328))
                         (self (IntKind.i64.wrap (s45 + (1 : Int))) b0_0 (w1_1 ++ [(x2 ++ t47.1, (t47.2.2.2, t100))]))
                         none)
                       none))
                   (both
                     (br (decide (x2.length + t47.1.length ≤ 9223372036854775807))
                       (both
                         (bnd (slices_Clone_byte_byte N t70.1) fun t100 =>
                         br (decide ((w1_1.length + [(x2 ++ t47.1, (t47.2.2.2, t100))].length) * (24 * Ty.sz τ4) ≤ 140737488355328))
                           (self (IntKind.i64.wrap (s45 + (1 : Int))) b0_0 (w1_1 ++ [(x2 ++ t47.1, (t47.2.2.2, t100))]))
                           none)
                         (bnd (slices_Clone_byte_byte N t70.1) fun t100 =>
                         times 2
                           (br (decide ((w1_1.length + [(x2 ++ t47.1, (t47.2.2.2, t100))].length) * (24 * Ty.sz τ4) ≤ 140737488355328))
                             (self (IntKind.i64.wrap (s45 + (1 : Int))) b0_0 (w1_1 ++ [(x2 ++ t47.1, (t47.2.2.2, t100))]))
                             none)))
                       none)
                     (bnd (slices_Clone_byte_byte N t70.1) fun t100 =>
                     both
                       (br (decide (x2.length + t47.1.length ≤ 9223372036854775807))
                         (br (decide ((w1_1.length + [(x2 ++ t47.1, (t47.2.2.2, t100))].length) * (24 * Ty.sz τ4) ≤ 140737488355328))
                           (self (IntKind.i64.wrap (s45 + (1 : Int))) b0_0 (w1_1 ++ [(x2 ++ t47.1, (t47.2.2.2, t100))]))
                           none)
                         none)
                       (br (decide (x2.length + t47.1.length ≤ 9223372036854775807))
                         (times 2
                           (br (decide ((w1_1.length + [(x2 ++ t47.1, (t47.2.2.2, t100))].length) * (24 * Ty.sz τ4) ≤ 140737488355328))
                             (self (IntKind.i64.wrap (s45 + (1 : Int))) b0_0 (w1_1 ++ [(x2 ++ t47.1, (t47.2.2.2, t100))]))
                             none))
                         none))))
                 (bnd (slices_Clone_byte_byte N t70.1) fun t100 =>
                 both
                   (times 1
                     (br (decide (x2.length + t47.1.length ≤ 9223372036854775807))
                       (br (decide ((w1_1.length + [(x2 ++ t47.1, (t47.2.2.2, t100))].length) * (24 * Ty.sz τ4) ≤ 140737488355328))
                         (self (IntKind.i64.wrap (s45 + (1 : Int))) b0_0 (w1_1 ++ [(x2 ++ t47.1, (t47.2.2.2, t100))]))
                         none)
                       none))
                   (both
                     (br (decide (x2.length + t47.1.length ≤ 9223372036854775807))
                       (times 3
                         (br (decide ((w1_1.length + [(x2 ++ t47.1, (t47.2.2.2, t100))].length) * (24 * Ty.sz τ4) ≤ 140737488355328))
                           (self (IntKind.i64.wrap (s45 + (1 : Int))) b0_0 (w1_1 ++ [(x2 ++ t47.1, (t47.2.2.2, t100))]))
                           none))
                       none)
                     (both
                       (br (decide (x2.length + t47.1.length ≤ 9223372036854775807))
                         (br (decide ((w1_1.length + [(x2 ++ t47.1, (t47.2.2.2, t100))].length) * (24 * Ty.sz τ4) ≤ 140737488355328))
                           (self (IntKind.i64.wrap (s45 + (1 : Int))) b0_0 (w1_1 ++ [(x2 ++ t47.1, (t47.2.2.2, t100))]))
                           none)
                         none)
                       (br (decide (x2.length + t47.1.length ≤ 9223372036854775807))
                         (times 2
                           (br (decide ((w1_1.length + [(x2 ++ t47.1, (t47.2.2.2, t100))].length) * (24 * Ty.sz τ4) ≤ 140737488355328))
                             (self (IntKind.i64.wrap (s45 + (1 : Int))) b0_0 (w1_1 ++ [(x2 ++ t47.1, (t47.2.2.2, t100))]))
                             none))
                         none)))))))))))
   (k0 b0_0 w1_1)
def z13L0 (N : Nat) (r_blob_treeReader_dir : Str → Str → τ16 → τ15 → Option τ13) (x2 : Str) (c44 : Int) (cw102900 : List τ9) (k0 : τ16 → τ15 → Option τ13) : Nat → Int → τ16 → τ15 → Option τ13
 | 0, _, _, _ => none
 | n + 1, s45, b0_0, w1_1 => z13L0T N r_blob_treeReader_dir x2 c44 cw102900 k0 (z13L0 N r_blob_treeReader_dir x2 c44 cw102900 k0 n) s45 b0_0 w1_1
def blob_treeReader_dir_b (N : Nat) (r_blob_treeReader_dir : Str → Str → τ16 → τ15 → Option τ13) (x1 : Str) (x2 : Str) (y0_0 : List τ3) (w1 : List τ2) : Option τ13 :=
 bnd (blob_Find N y0_0 x1) fun t22 =>
 br (!t22.2)
   (some ((9 : Int), (y0_0, w1)))
   (bnd (blob_readDir N t22.1) fun t29 =>
   br (!t29.1)
     (some ((3 : Int), (y0_0, w1)))
     (br ((t29.2.length : Int) == (0 : Int))
       (br (!(x2 == ([] : Str)))
         (some ((3 : Int), (y0_0, w1)))
         (z13L0 N r_blob_treeReader_dir x2 (t29.2.length : Int) t29.2 (fun o0_0_0 o0_w1 =>
             some ((0 : Int), (o0_0_0, o0_w1))) N (0 : Int) y0_0 w1))
       (z13L0 N r_blob_treeReader_dir x2 (t29.2.length : Int) t29.2 (fun o0_0_0 o0_w1 =>
           some ((0 : Int), (o0_0_0, o0_w1))) N (0 : Int) y0_0 w1)))
abbrev z13sg (f : SV [.box 0 0, .v .str, .v .str] → BV [.cells [.v (.sl τ7), .row 1], .row 62 τ4 true] → Option τ13) : AF := { ps := [.box 0 0, .v .str, .v .str], bs := [.cells [.v (.sl τ7), .row 1], .row 62 τ4 true], rs := [.v τ5], cs := [.cells [.v (.sl τ7), .row 1], .row 62 τ4 true], R := Int × List τ3 × List τ2, out := fun z => ((z.1, ()), ((z.2.1, (), ()), z.2.2, ())), f := f }
abbrev z13pk : SV [.v τ5] → BV [.cells [.v (.sl τ7), .row 1], .row 62 τ4 true] → τ13 := fun x y => (x.1, y.1.1, y.2.1)
def z13fn (N : Nat) (r_blob_treeReader_dir : Str → Str → τ16 → τ15 → Option τ13) : FuncId → Option Tmp → Option AF := fun f _ =>
 match f with
   | 23 => some (z18sg fun x y => r_blob_treeReader_dir x.2.1 x.2.2.1 y.1.1 y.2.1)
   | 26 => some (z57g N)
   | 27 => some (z41g N)
   | 45 => some (z11g N)
   | _ => none
theorem z13fn_ok (N : Nat) (r_blob_treeReader_dir : Str → Str → τ16 → τ15 → Option τ13) (h_blob_treeReader_dir : Sound Tryz.prog GW B0G 23 (z18sg fun x y => r_blob_treeReader_dir x.2.1 x.2.2.1 y.1.1 y.2.1)) : ∀ f q F, z13fn N r_blob_treeReader_dir f q = some F → Sound Tryz.prog GW B0G f F := by
 intro f q F h
 unfold z13fn at h
 split at h
 · cases h; exact h_blob_treeReader_dir
 · cases h; exact z57sound N
 · cases h; exact z41sound N
 · cases h; exact z11sound N
 · cases h
def z13h : Nat → Hint := fun i =>
 match i with
 | 0 => ⟨[], [0, 2, 43, 44, 45], [0, 1, 102900], [], [0, 1], []⟩
 | 100014 => ⟨[0, 1, 1012], [], [], [], [], []⟩
 | 100021 => ⟨[], [1, 2], [], [], [], []⟩
 | _ => hint0
abbrev z13E (N : Nat) (r_blob_treeReader_dir : Str → Str → τ16 → τ15 → Option τ13) : Env := mkE z13h (z13fn N r_blob_treeReader_dir) (fun _ => false) (fun _ => false)
noncomputable abbrev z13c0 : Code := cAt (bodyOf Tryz.f23) [true, true, true, true, true, false, true, false, false]
abbrev z13L0_fs : List (Nat × Sl) := [(0, .box 0 0), (2, .v .str), (43, .row 102900), (44, .v τ5), (45, .v τ5)]
abbrev z13L0_bs : List (Nat × Sb) := [(0, .cells [.v (.sl τ7), .row 1]), (1, .row 62 τ4 true), (102900, .row 71 τ10 false)]
def z13L0_hd (x2 : Str) (c44 : Int) (cw102900 : List τ9) (s45 : Int) (b0_0 : List τ3) (w1_1 : List τ2) : St := ⟨107, [(0, .box 0 0), (2, .v .str x2), (43, .row 102900), (44, .v τ5 c44), (45, .v τ5 s45)], [(0, .cells [.v (.sl τ7) b0_0, .row 1]), (1, .row 62 τ4 true w1_1), (102900, .row 71 τ10 false cw102900)]⟩
def z13L0_tl0 (_x2 : Str) (_c44 : Int) (_cw102900 : List τ9) (o0_0_0 : List τ3) (o0_w1 : List τ2) : St := ⟨107, [], [(0, .cells [.v (.sl τ7) o0_0_0, .row 1]), (1, .row 62 τ4 true o0_w1)]⟩
def z13L0_G (N : Nat) (r_blob_treeReader_dir : Str → Str → τ16 → τ15 → Option τ13) (x2 : Str) (c44 : Int) (cw102900 : List τ9) (s45 : Int) (b0_0 : List τ3) (w1_1 : List τ2) (k : Ex → St → Option τ13) : Option τ13 :=
 z13L0 N r_blob_treeReader_dir x2 c44 cw102900 (fun o0_0_0 o0_w1 => k (.exit 0) (z13L0_tl0 x2 c44 cw102900 o0_0_0 o0_w1)) N s45 b0_0 w1_1
abbrev z13L0_F (N : Nat) (r_blob_treeReader_dir : Str → Str → τ16 → τ15 → Option τ13) : FV z13L0_fs → HV z13L0_bs → (Ex → St → Option τ13) → Option τ13 := fun x y k => z13L0_G N r_blob_treeReader_dir x.2.1 x.2.2.2.1 y.2.2.1 x.2.2.2.2.1 y.1.1 y.2.1 k
noncomputable def z13LP (N : Nat) (r_blob_treeReader_dir : Str → Str → τ16 → τ15 → Option τ13) : Nat → Code → St → (Ex → St → Option τ13) → Option τ13 := fun i c =>
 match i with
 | 0 => (LPc 107 z13L0_fs z13L0_bs (z13L0_F N r_blob_treeReader_dir) (fun st k => iter (z13h 0) (exec (z13E N r_blob_treeReader_dir) N c 0) N st k))
 | i => fun st k => iter (z13h i) (exec (z13E N r_blob_treeReader_dir) N c i) N st k
theorem z13L0_step (N : Nat) (r_blob_treeReader_dir : Str → Str → τ16 → τ15 → Option τ13) (x2 : Str) (c44 : Int) (cw102900 : List τ9) (KX : Nat → St → Option τ13) (I : St → Option τ13) (s45 : Int) (b0_0 : List τ3) (w1_1 : List τ2) :
   execL (z13LP N r_blob_treeReader_dir) (z13E N r_blob_treeReader_dir) z13c0 0 (z13L0_hd x2 c44 cw102900 s45 b0_0 w1_1) (roundK (z13h 0) I KX (resD (z13E N r_blob_treeReader_dir) Tryz.f23 (z13sg fun x y => blob_treeReader_dir_b N r_blob_treeReader_dir x.2.1 x.2.2.1 y.1.1 y.2.1) z13pk)) = z13L0T N r_blob_treeReader_dir x2 c44 cw102900 (fun o0_0_0 o0_w1 => KX 0 (z13L0_tl0 x2 c44 cw102900 o0_0_0 o0_w1)) (fun s45 b0_0 w1_1 => I (z13L0_hd x2 c44 cw102900 s45 b0_0 w1_1)) s45 b0_0 w1_1 := by kernel_rfl
theorem z13L0_ok (N : Nat) (r_blob_treeReader_dir : Str → Str → τ16 → τ15 → Option τ13) : ∀ x y k, (∀ st, k .ret st = (resD (z13E N r_blob_treeReader_dir) Tryz.f23 (z13sg fun x y => blob_treeReader_dir_b N r_blob_treeReader_dir x.2.1 x.2.2.1 y.1.1 y.2.1) z13pk) st) → iter (z13h 0) (exec (z13E N r_blob_treeReader_dir) N z13c0 0) N ⟨107, unF z13L0_fs x, unH z13L0_bs y⟩ k = z13L0_F N r_blob_treeReader_dir x y k := fun x y k hk =>
 iter_link (S := (Int) × τ16 × τ15 × Unit) (z13h 0) _ (execL (z13LP N r_blob_treeReader_dir) (z13E N r_blob_treeReader_dir) z13c0 0) (resD (z13E N r_blob_treeReader_dir) Tryz.f23 (z13sg fun x y => blob_treeReader_dir_b N r_blob_treeReader_dir x.2.1 x.2.2.1 y.1.1 y.2.1) z13pk) (fun st k hk => execL_eq _ _ N _ z13c0 0 (show LoopsOk (z13LP N r_blob_treeReader_dir) (z13E N r_blob_treeReader_dir) N (resD (z13E N r_blob_treeReader_dir) Tryz.f23 (z13sg fun x y => blob_treeReader_dir_b N r_blob_treeReader_dir x.2.1 x.2.2.1 y.1.1 y.2.1) z13pk) [] from trivial) st k hk) (fun s => z13L0_hd x.2.1 x.2.2.2.1 y.2.2.1 s.1 s.2.1 s.2.2.1) k hk
   (fun self s => z13L0T N r_blob_treeReader_dir x.2.1 x.2.2.2.1 y.2.2.1 (fun o0_0_0 o0_w1 => k (.exit 0) (z13L0_tl0 x.2.1 x.2.2.2.1 y.2.2.1 o0_0_0 o0_w1)) (fun s45 b0_0 w1_1 => self (s45, b0_0, w1_1, ())) s.1 s.2.1 s.2.2.1) (fun n s => z13L0 N r_blob_treeReader_dir x.2.1 x.2.2.2.1 y.2.2.1 (fun o0_0_0 o0_w1 => k (.exit 0) (z13L0_tl0 x.2.1 x.2.2.2.1 y.2.2.1 o0_0_0 o0_w1)) n s.1 s.2.1 s.2.2.1) (fun _ => rfl) (fun _ _ => rfl)
   (fun I s => z13L0_step N r_blob_treeReader_dir x.2.1 x.2.2.2.1 y.2.2.1 (fun j => k (.exit j)) I s.1 s.2.1 s.2.2.1) N (x.2.2.2.2.1, y.1.1, y.2.1, ())
theorem z13lp0 (N : Nat) (r_blob_treeReader_dir : Str → Str → τ16 → τ15 → Option τ13) : ∀ st k, (∀ st, k .ret st = (resD (z13E N r_blob_treeReader_dir) Tryz.f23 (z13sg fun x y => blob_treeReader_dir_b N r_blob_treeReader_dir x.2.1 x.2.2.1 y.1.1 y.2.1) z13pk) st) → z13LP N r_blob_treeReader_dir 0 z13c0 st k = iter (Env.hint (z13E N r_blob_treeReader_dir) 0) (exec (z13E N r_blob_treeReader_dir) N z13c0 0) N st k := fun st k hk => LPc_eq 107 z13L0_fs z13L0_bs _ _ (resD (z13E N r_blob_treeReader_dir) Tryz.f23 (z13sg fun x y => blob_treeReader_dir_b N r_blob_treeReader_dir x.2.1 x.2.2.1 y.1.1 y.2.1) z13pk) (z13L0_ok N r_blob_treeReader_dir) _ st k hk (rfl)
theorem z13core (N : Nat) (r_blob_treeReader_dir : Str → Str → τ16 → τ15 → Option τ13) (x : SV [.box 0 0, .v .str, .v .str]) (y : BV [.cells [.v (.sl τ7), .row 1], .row 62 τ4 true]) : runL (z13E N r_blob_treeReader_dir) Tryz.f23 (z13sg fun x y => blob_treeReader_dir_b N r_blob_treeReader_dir x.2.1 x.2.2.1 y.1.1 y.2.1) z13pk (z13LP N r_blob_treeReader_dir) x y = blob_treeReader_dir_b N r_blob_treeReader_dir x.2.1 x.2.2.1 y.1.1 y.2.1 := by kernel_rfl
theorem z13sound (N : Nat) (r_blob_treeReader_dir : Str → Str → τ16 → τ15 → Option τ13) (h_blob_treeReader_dir : Sound Tryz.prog GW B0G 23 (z18sg fun x y => r_blob_treeReader_dir x.2.1 x.2.2.1 y.1.1 y.2.1)) : Sound Tryz.prog GW B0G 23 (z13sg fun x y => blob_treeReader_dir_b N r_blob_treeReader_dir x.2.1 x.2.2.1 y.1.1 y.2.1) :=
 runD_sound (mkE_ok z13h (z13fn N r_blob_treeReader_dir) _ _ (z13fn_ok N r_blob_treeReader_dir h_blob_treeReader_dir)) Tryz.func23 rfl Tryz.call23 (z13sg fun x y => blob_treeReader_dir_b N r_blob_treeReader_dir x.2.1 x.2.2.1 y.1.1 y.2.1) z13pk (fun _ _ => rfl) N (fun x y _ h => ((runL_eq (z13E N r_blob_treeReader_dir) N Tryz.f23 (z13sg fun x y => blob_treeReader_dir_b N r_blob_treeReader_dir x.2.1 x.2.2.1 y.1.1 y.2.1) z13pk (z13LP N r_blob_treeReader_dir) (show LoopsOk (z13LP N r_blob_treeReader_dir) (z13E N r_blob_treeReader_dir) N (resD (z13E N r_blob_treeReader_dir) Tryz.f23 (z13sg fun x y => blob_treeReader_dir_b N r_blob_treeReader_dir x.2.1 x.2.2.1 y.1.1 y.2.1) z13pk) [(0, z13c0)] from ⟨z13lp0 N r_blob_treeReader_dir, trivial⟩) x y).trans (z13core N r_blob_treeReader_dir x y)).trans h)
def blob_treeReader_dir (N : Nat) : Nat → Str → Str → τ16 → τ15 → Option τ13
 | 0 => fun _ _ _ _ => none
 | d + 1 => blob_treeReader_dir_b N (blob_treeReader_dir N d)
theorem z18sound (N : Nat) : ∀ d, Sound Tryz.prog GW B0G 23 (z18sg fun x y => blob_treeReader_dir N d x.2.1 x.2.2.1 y.1.1 y.2.1)
 | 0 => Sound.never Tryz.call23 (fun _ _ => rfl)
 | d + 1 => z13sound N (blob_treeReader_dir N d) (z18sound N d)
def blob_FilesOf (N : Nat) (x0 : Str) (x1 : List τ3) : Option (List τ2 × Int) :=
 bnd (blob_checkRoot N x0 x1) fun t12 =>
 br (t12 != (0 : Int))
   (some (([] : List τ2), t12))
   (bnd (blob_treeReader_dir N N x0 ([] : Str) x1 ([] : List τ2)) fun t21 =>
   br (t21.1 != (0 : Int))
     (some (([] : List τ2), t21.1))
     (bnd (slices_SortFunc_file () t21.2.2) fun t29 =>
     bnd (blob_CheckFiles N t29) fun t34 =>
     br (t34 != (0 : Int))
       (some (([] : List τ2), t34))
       (some (t29, (0 : Int)))))
abbrev z36sg (f : SV [.v .str, .v (.sl τ7)] → BV [] → Option (List τ2 × Int)) : AF := { ps := [.v .str, .v (.sl τ7)], bs := [], rs := [.v (.sl τ4), .v τ5], cs := [], R := List τ2 × Int, out := fun z => ((z.1, z.2, ()), ()), f := f }
noncomputable abbrev z36g (N : Nat) : AF := z36sg fun x _ => blob_FilesOf N x.1 x.2.1
abbrev z36pk : SV [.v (.sl τ4), .v τ5] → BV [] → (List τ2 × Int) := fun x _ => (x.1, x.2.1)
def z36fn (N : Nat) : FuncId → Option Tmp → Option AF := fun f _ =>
 match f with
   | 14 => some (z24g N)
   | 22 => some (z29g N)
   | 23 => some (z18sg fun x y => blob_treeReader_dir N N x.2.1 x.2.2.1 y.1.1 y.2.1)
   | 24 => some (z17sg fun x y => slices_SortFunc_file x.2.1 y.1)
   | _ => none
theorem z36fn_ok (N : Nat) : FnOk (z36fn N) := by
 intro f q F h
 unfold z36fn at h
 split at h
 · cases h; exact z24sound N
 · cases h; exact z29sound N
 · cases h; exact z18sound N N
 · cases h; exact z17sound
 · cases h
def z36h : Nat → Hint := fun i =>
 match i with
 | 200005 => ⟨[], [], [], [], [], [(1018, 1, 950001, 62, τ4)]⟩
 | _ => hint0
abbrev z36E (N : Nat) : Env := mkE z36h (z36fn N) FF FF
noncomputable def z36LP (N : Nat) : Nat → Code → St → (Ex → St → Option (List τ2 × Int)) → Option (List τ2 × Int) := fun i c =>
 match i with
 | i => fun st k => iter (z36h i) (exec (z36E N) N c i) N st k
theorem z36core (N : Nat) (x : SV [.v .str, .v (.sl τ7)]) (y : BV []) : runL (z36E N) Tryz.f8 (z36g N) z36pk (z36LP N) x y = blob_FilesOf N x.1 x.2.1 := by kernel_rfl
theorem z36sound (N : Nat) : Snd 8 (z36g N) :=
 sndL (z36fn_ok N) Tryz.func8 rfl Tryz.call8 (z36g N) z36pk (fun _ _ => rfl) N (z36LP N) (show LoopsOk (z36LP N) (z36E N) N (resD (z36E N) Tryz.f8 (z36g N) z36pk) [] from trivial) (z36core N)
def z37L1T (N : Nat) (x1 : List τ3) (c69 : Int) (cw105300 : List τ9) (k2 : (List τ11) → (List τ11) → (List Str) → Option τ14) (self : Int → (List τ11) → (List τ11) → (List Str) → Option τ14) (s70 : Int) (m1027_1 : List τ11) (m1028_2 : List τ11) (u1032_3 : List Str) : Option τ14 :=
 br (decide (s70 < c69))
   (bnd (geti cw105300 s70) fun t72 =>
   br (!t72.2.2.1)
     (bnd (blob_Find N x1 t72.2.1) fun t81 =>
     br (!t81.2)
       (self (IntKind.i64.wrap (s70 + (1 : Int))) (mset m1027_1 t72.2.1 true) m1028_2 u1032_3)
       (self (IntKind.i64.wrap (s70 + (1 : Int))) m1027_1 m1028_2 u1032_3))
     (br (!((mget m1028_2 t72.2.1).getD (zero .bool)))
       (br (decide ((u1032_3.length + [t72.2.1].length) * (24 * Ty.sz .str) ≤ 140737488355328))
         (self (IntKind.i64.wrap (s70 + (1 : Int))) m1027_1 (mset m1028_2 t72.2.1 true) (u1032_3 ++ [t72.2.1]))
         none)
       (self (IntKind.i64.wrap (s70 + (1 : Int))) m1027_1 m1028_2 u1032_3)))
   (k2 m1027_1 m1028_2 u1032_3)
def z37L1 (N : Nat) (x1 : List τ3) (c69 : Int) (cw105300 : List τ9) (k2 : (List τ11) → (List τ11) → (List Str) → Option τ14) : Nat → Int → (List τ11) → (List τ11) → (List Str) → Option τ14
 | 0, _, _, _, _ => none
 | n + 1, s70, m1027_1, m1028_2, u1032_3 => z37L1T N x1 c69 cw105300 k2 (z37L1 N x1 c69 cw105300 k2 n) s70 m1027_1 m1028_2 u1032_3
def z37L2T (N : Nat) (x1 : List τ3) (c69_8 : Int) (cw105300_13 : List τ9) (k2 : (List τ11) → (List τ11) → (List Str) → Option τ14) (self : Int → (List τ11) → (List τ11) → (List Str) → Option τ14) (s70_9 : Int) (m1027_10 : List τ11) (m1028_11 : List τ11) (u1032_12 : List Str) : Option τ14 :=
 br (decide (s70_9 < c69_8))
   (bnd (geti cw105300_13 s70_9) fun t72_14 =>
   br (!t72_14.2.2.1)
     (bnd (blob_Find N x1 t72_14.2.1) fun t81_15 =>
     br (!t81_15.2)
       (self (IntKind.i64.wrap (s70_9 + (1 : Int))) (mset m1027_10 t72_14.2.1 true) m1028_11 u1032_12)
       (self (IntKind.i64.wrap (s70_9 + (1 : Int))) m1027_10 m1028_11 u1032_12))
     (br (!((mget m1028_11 t72_14.2.1).getD (zero .bool)))
       (br (decide ((u1032_12.length + [t72_14.2.1].length) * (24 * Ty.sz .str) ≤ 140737488355328))
         (self (IntKind.i64.wrap (s70_9 + (1 : Int))) m1027_10 (mset m1028_11 t72_14.2.1 true) (u1032_12 ++ [t72_14.2.1]))
         none)
       (self (IntKind.i64.wrap (s70_9 + (1 : Int))) m1027_10 m1028_11 u1032_12)))
   (k2 m1027_10 m1028_11 u1032_12)
def z37L2 (N : Nat) (x1 : List τ3) (c69_8 : Int) (cw105300_13 : List τ9) (k2 : (List τ11) → (List τ11) → (List Str) → Option τ14) : Nat → Int → (List τ11) → (List τ11) → (List Str) → Option τ14
 | 0, _, _, _, _ => none
 | n + 1, s70_9, m1027_10, m1028_11, u1032_12 => z37L2T N x1 c69_8 cw105300_13 k2 (z37L2 N x1 c69_8 cw105300_13 k2 n) s70_9 m1027_10 m1028_11 u1032_12
def z37L0T (N : Nat) (x0 : Str) (x1 : List τ3) (k0 : (List τ11) → Option τ14) (self : (List τ11) → (List τ11) → (List Str) → Option τ14) (m1027 : List τ11) (m1028 : List τ11) (u1032 : List Str) : Option τ14 :=
 br (decide ((u1032.length : Int) > (0 : Int)))
   (bnd (geti u1032 (0 : Int)) fun t37 =>
   br (decide (0 ≤ (1 : Int) ∧ (1 : Int) ≤ (u1032.length : Int)))
     (bnd (blob_Find N x1 t37) fun t44 =>
     br (!t44.2)
       (self (mset m1027 t37 true) m1028 (u1032.drop (Int.toNat (1 : Int))))
       (bnd (blob_readDir N t44.1) fun t53 =>
       br (!t53.1)
         (some (([] : List Str), (3 : Int)))
         (br ((t53.2.length : Int) == (0 : Int))
           (br (!(t37 == x0))
             (some (([] : List Str), (3 : Int)))
             (z37L1 N x1 (t53.2.length : Int) t53.2 (fun o1_m1027 o1_m1028 o1_w1032 =>
                 self o1_m1027 o1_m1028 o1_w1032) N (0 : Int) m1027 m1028 (u1032.drop (Int.toNat (1 : Int)))))
           (z37L2 N x1 (t53.2.length : Int) t53.2 (fun o2_m1027 o2_m1028 o2_w1032 =>
               self o2_m1027 o2_m1028 o2_w1032) N (0 : Int) m1027 m1028 (u1032.drop (Int.toNat (1 : Int)))))))
     none)
   (k0 m1027)
def z37L0 (N : Nat) (x0 : Str) (x1 : List τ3) (k0 : (List τ11) → Option τ14) : Nat → (List τ11) → (List τ11) → (List Str) → Option τ14
 | 0, _, _, _ => none
 | n + 1, m1027, m1028, u1032 => z37L0T N x0 x1 k0 (z37L0 N x0 x1 k0 n) m1027 m1028 u1032
def z37L3T (_N : Nat) (k4 : (List Str) → Option τ14) (self : (List Str) → (List τ11) → Option τ14) (w1019 : List Str) (i1104 : List τ11) : Option τ14 :=
 br (i1104.isEmpty)
   (k4 w1019)
   (allC i1104 fun p105 q105 =>
   br (decide ((w1019.length + [p105.1].length) * (24 * Ty.sz .str) ≤ 140737488355328))
     (self (w1019 ++ [p105.1]) q105)
     none)
def z37L3 (N : Nat) (k4 : (List Str) → Option τ14) : Nat → (List Str) → (List τ11) → Option τ14
 | 0, _, _ => none
 | n + 1, w1019, i1104 => z37L3T N k4 (z37L3 N k4 n) w1019 i1104
def blob_Missing (N : Nat) (x0 : Str) (x1 : List τ3) : Option τ14 :=
 bnd (blob_checkRoot N x0 x1) fun t23 =>
 br (t23 != (0 : Int))
   (some (([] : List Str), t23))
   (z37L0 N x0 x1 (fun o0_m1027 =>
       z37L3 N (fun o3_w1019 =>
           bnd (slices_Sort_string_string o3_w1019) fun t114 =>
           some (t114, (0 : Int))) N ([] : List Str) o0_m1027) N ([] : List τ11) (mset ([] : List τ11) x0 true) [x0])
abbrev z37sg (f : SV [.v .str, .v (.sl τ7)] → BV [] → Option τ14) : AF := { ps := [.v .str, .v (.sl τ7)], bs := [], rs := [.v (.sl .str), .v τ5], cs := [], R := List Str × Int, out := fun z => ((z.1, z.2, ()), ()), f := f }
noncomputable abbrev z37g (N : Nat) : AF := z37sg fun x _ => blob_Missing N x.1 x.2.1
abbrev z37pk : SV [.v (.sl .str), .v τ5] → BV [] → τ14 := fun x _ => (x.1, x.2.1)
def z37fn (N : Nat) : FuncId → Option Tmp → Option AF := fun f _ =>
 match f with
   | 22 => some (z29g N)
   | 26 => some (z57g N)
   | 27 => some (z41g N)
   | 28 => some (z9sg fun _ y => slices_Sort_string_string y.1)
   | _ => none
theorem z37fn_ok (N : Nat) : FnOk (z37fn N) := by
 intro f q F h
 unfold z37fn at h
 split at h
 · cases h; exact z29sound N
 · cases h; exact z57sound N
 · cases h; exact z41sound N
 · cases h; exact z9sound
 · cases h
def z37h : Nat → Hint := fun i =>
 match i with
 | 0 => ⟨[], [0, 1, 7, 8, 9], [1027, 1028, 1032], [7], [1027], [(9, 999999, 0, 0, .str)]⟩
 | 2 => ⟨[], [0, 1, 7, 8, 9, 59, 60, 61, 62, 63, 64, 65, 66, 68, 69, 70], [1027, 1028, 1032, 105300], [0, 1, 7, 8, 9, 59, 60, 61, 62, 63, 64, 65, 66], [1027, 1028, 1032, 105300], [(9, 999999, 0, 0, .str)]⟩
 | 4 => ⟨[], [19, 104], [1019, 1104], [19], [1019], [(9, 999999, 0, 0, .str)]⟩
 | _ => hint0
abbrev z37E (N : Nat) : Env := mkE z37h (z37fn N) (fun i => match i with | 19 => true | _ => false) (fun _ => false)
noncomputable abbrev z37c2 : Code := cAt (bodyOf Tryz.f9) [true, true, true, true, false, true, false, false]
noncomputable abbrev z37c1 : Code := cAt (bodyOf Tryz.f9) [true, true, true, true, true, true, false, true, false, false]
noncomputable abbrev z37c0 : Code := cAt (bodyOf Tryz.f9) [true, true, true, true, false, true, false, false, true, false, true, true, true, true, true, true, true, false, false]
noncomputable abbrev z37R (N : Nat) := resD (z37E N) Tryz.f9 (z37g N) z37pk
abbrev z37L1_fs : List (Nat × Sl) := [(0, .v .str), (1, .v (.sl τ7)), (7, .mref 1027), (8, .mref 1028), (9, .row 1032), (59, .row 105300), (60, .v τ5), (61, .v .bool), (62, .v .bool), (63, .v .str), (64, .v .str), (65, .v .bool), (66, .v .bool), (68, .row 105300), (69, .v τ5), (70, .v τ5)]
abbrev z37L1_bs : List (Nat × Sb) := [(1027, .map .bool), (1028, .map .bool), (1032, .que 9 .str), (105300, .row 71 τ10 false)]
def z37L1_hd (x0 : Str) (x1 : List τ3) (c60 : Int) (c61 : Bool) (c62 : Bool) (t37 : Str) (c64 : Str) (c65 : Bool) (c66 : Bool) (c69 : Int) (cw105300 : List τ9) (s70 : Int) (m1027_1 : List τ11) (m1028_2 : List τ11) (u1032_3 : List Str) : St := ⟨116, [(0, .v .str x0), (1, .v (.sl τ7) x1), (7, .mref 1027), (8, .mref 1028), (9, .row 1032), (59, .row 105300), (60, .v τ5 c60), (61, .v .bool c61), (62, .v .bool c62), (63, .v .str t37), (64, .v .str c64), (65, .v .bool c65), (66, .v .bool c66), (68, .row 105300), (69, .v τ5 c69), (70, .v τ5 s70)], [(1027, .map .bool m1027_1), (1028, .map .bool m1028_2), (1032, .que 9 .str u1032_3), (105300, .row 71 τ10 false cw105300)]⟩
def z37L1_tl2 (x0 : Str) (x1 : List τ3) (c60 : Int) (c61 : Bool) (c62 : Bool) (t37 : Str) (c64 : Str) (c65 : Bool) (c66 : Bool) (_c69 : Int) (cw105300 : List τ9) (o1_m1027 : List τ11) (o1_m1028 : List τ11) (o1_w1032 : List Str) : St := ⟨116, [(0, .v .str x0), (1, .v (.sl τ7) x1), (7, .mref 1027), (8, .mref 1028), (9, .row 1032), (59, .row 105300), (60, .v τ5 c60), (61, .v .bool c61), (62, .v .bool c62), (63, .v .str t37), (64, .v .str c64), (65, .v .bool c65), (66, .v .bool c66)], [(1027, .map .bool o1_m1027), (1028, .map .bool o1_m1028), (1032, .que 9 .str o1_w1032), (105300, .row 71 τ10 false cw105300)]⟩
def z37L1_G (N : Nat) (x0 : Str) (x1 : List τ3) (c60 : Int) (c61 : Bool) (c62 : Bool) (t37 : Str) (c64 : Str) (c65 : Bool) (c66 : Bool) (c69 : Int) (cw105300 : List τ9) (s70 : Int) (m1027_1 : List τ11) (m1028_2 : List τ11) (u1032_3 : List Str) (k : Ex → St → Option τ14) : Option τ14 :=
 z37L1 N x1 c69 cw105300 (fun o1_m1027 o1_m1028 o1_w1032 => k (.exit 2) (z37L1_tl2 x0 x1 c60 c61 c62 t37 c64 c65 c66 c69 cw105300 o1_m1027 o1_m1028 o1_w1032)) N s70 m1027_1 m1028_2 u1032_3
abbrev z37L1_F (N : Nat) : FV z37L1_fs → HV z37L1_bs → (Ex → St → Option τ14) → Option τ14 := fun x y k => z37L1_G N x.1 x.2.1 x.2.2.2.2.2.2.1 x.2.2.2.2.2.2.2.1 x.2.2.2.2.2.2.2.2.1 x.2.2.2.2.2.2.2.2.2.1 x.2.2.2.2.2.2.2.2.2.2.1 x.2.2.2.2.2.2.2.2.2.2.2.1 x.2.2.2.2.2.2.2.2.2.2.2.2.1 x.2.2.2.2.2.2.2.2.2.2.2.2.2.2.1 y.2.2.2.1 x.2.2.2.2.2.2.2.2.2.2.2.2.2.2.2.1 y.1 y.2.1 y.2.2.1 k
abbrev z37L2_fs : List (Nat × Sl) := [(0, .v .str), (1, .v (.sl τ7)), (7, .mref 1027), (8, .mref 1028), (9, .row 1032), (59, .row 105300), (60, .v τ5), (61, .v .bool), (62, .v .bool), (63, .skip), (64, .skip), (65, .skip), (66, .v .bool), (68, .row 105300), (69, .v τ5), (70, .v τ5)]
abbrev z37L2_bs : List (Nat × Sb) := [(1027, .map .bool), (1028, .map .bool), (1032, .que 9 .str), (105300, .row 71 τ10 false)]
def z37L2_hd (x0 : Str) (x1 : List τ3) (c60_4 : Int) (c61_5 : Bool) (c62_6 : Bool) (c66_7 : Bool) (c69_8 : Int) (cw105300_13 : List τ9) (s70_9 : Int) (m1027_10 : List τ11) (m1028_11 : List τ11) (u1032_12 : List Str) : St := ⟨116, [(0, .v .str x0), (1, .v (.sl τ7) x1), (7, .mref 1027), (8, .mref 1028), (9, .row 1032), (59, .row 105300), (60, .v τ5 c60_4), (61, .v .bool c61_5), (62, .v .bool c62_6), (63, .skip), (64, .skip), (65, .skip), (66, .v .bool c66_7), (68, .row 105300), (69, .v τ5 c69_8), (70, .v τ5 s70_9)], [(1027, .map .bool m1027_10), (1028, .map .bool m1028_11), (1032, .que 9 .str u1032_12), (105300, .row 71 τ10 false cw105300_13)]⟩
def z37L2_tl2 (x0 : Str) (x1 : List τ3) (c60_4 : Int) (c61_5 : Bool) (c62_6 : Bool) (c66_7 : Bool) (_c69_8 : Int) (cw105300_13 : List τ9) (o2_m1027 : List τ11) (o2_m1028 : List τ11) (o2_w1032 : List Str) : St := ⟨116, [(0, .v .str x0), (1, .v (.sl τ7) x1), (7, .mref 1027), (8, .mref 1028), (9, .row 1032), (59, .row 105300), (60, .v τ5 c60_4), (61, .v .bool c61_5), (62, .v .bool c62_6), (63, .skip), (64, .skip), (65, .skip), (66, .v .bool c66_7)], [(1027, .map .bool o2_m1027), (1028, .map .bool o2_m1028), (1032, .que 9 .str o2_w1032), (105300, .row 71 τ10 false cw105300_13)]⟩
def z37L2_G (N : Nat) (x0 : Str) (x1 : List τ3) (c60_4 : Int) (c61_5 : Bool) (c62_6 : Bool) (c66_7 : Bool) (c69_8 : Int) (cw105300_13 : List τ9) (s70_9 : Int) (m1027_10 : List τ11) (m1028_11 : List τ11) (u1032_12 : List Str) (k : Ex → St → Option τ14) : Option τ14 :=
 z37L2 N x1 c69_8 cw105300_13 (fun o2_m1027 o2_m1028 o2_w1032 => k (.exit 2) (z37L2_tl2 x0 x1 c60_4 c61_5 c62_6 c66_7 c69_8 cw105300_13 o2_m1027 o2_m1028 o2_w1032)) N s70_9 m1027_10 m1028_11 u1032_12
abbrev z37L2_F (N : Nat) : FV z37L2_fs → HV z37L2_bs → (Ex → St → Option τ14) → Option τ14 := fun x y k => z37L2_G N x.1 x.2.1 x.2.2.2.2.2.2.1 x.2.2.2.2.2.2.2.1 x.2.2.2.2.2.2.2.2.1 x.2.2.2.2.2.2.2.2.2.2.2.2.1 x.2.2.2.2.2.2.2.2.2.2.2.2.2.2.1 y.2.2.2.1 x.2.2.2.2.2.2.2.2.2.2.2.2.2.2.2.1 y.1 y.2.1 y.2.2.1 k
abbrev z37L0_fs : List (Nat × Sl) := [(0, .v .str), (1, .v (.sl τ7)), (7, .mref 1027), (8, .mref 1028), (9, .row 1032)]
abbrev z37L0_bs : List (Nat × Sb) := [(1027, .map .bool), (1028, .map .bool), (1032, .que 9 .str)]
def z37L0_hd (x0 : Str) (x1 : List τ3) (m1027 : List τ11) (m1028 : List τ11) (u1032 : List Str) : St := ⟨116, [(0, .v .str x0), (1, .v (.sl τ7) x1), (7, .mref 1027), (8, .mref 1028), (9, .row 1032)], [(1027, .map .bool m1027), (1028, .map .bool m1028), (1032, .que 9 .str u1032)]⟩
def z37L0_tl0 (_x0 : Str) (_x1 : List τ3) (o0_m1027 : List τ11) : St := ⟨116, [(7, .mref 1027)], [(1027, .map .bool o0_m1027)]⟩
def z37L0_G (N : Nat) (x0 : Str) (x1 : List τ3) (m1027 : List τ11) (m1028 : List τ11) (u1032 : List Str) (k : Ex → St → Option τ14) : Option τ14 :=
 z37L0 N x0 x1 (fun o0_m1027 => k (.exit 0) (z37L0_tl0 x0 x1 o0_m1027)) N m1027 m1028 u1032
abbrev z37L0_F (N : Nat) : FV z37L0_fs → HV z37L0_bs → (Ex → St → Option τ14) → Option τ14 := fun x y k => z37L0_G N x.1 x.2.1 y.1 y.2.1 y.2.2.1 k
abbrev z37L3_fs : List (Nat × Sl) := [(19, .row 1019), (104, .box 1104 0)]
abbrev z37L3_bs : List (Nat × Sb) := [(1019, .row 9 .str true), (1104, .iter .bool)]
def z37L3_hd (w1019 : List Str) (i1104 : List τ11) : St := ⟨116, [(19, .row 1019), (104, .box 1104 0)], [(1019, .row 9 .str true w1019), (1104, .iter .bool i1104 none)]⟩
def z37L3_tl4 (o3_w1019 : List Str) : St := ⟨116, [(19, .row 1019)], [(1019, .row 9 .str true o3_w1019)]⟩
def z37L3_G (N : Nat) (w1019 : List Str) (i1104 : List τ11) (k : Ex → St → Option τ14) : Option τ14 :=
 z37L3 N (fun o3_w1019 => k (.exit 4) (z37L3_tl4 o3_w1019)) N w1019 i1104
abbrev z37L3_F (N : Nat) : FV z37L3_fs → HV z37L3_bs → (Ex → St → Option τ14) → Option τ14 := fun _ y k => z37L3_G N y.1 y.2.1 k
noncomputable def z37LP (N : Nat) : Nat → Code → St → (Ex → St → Option τ14) → Option τ14 := fun i c =>
 match i with
 | 0 => (LPc 116 z37L0_fs z37L0_bs (z37L0_F N) (fun st k => iter (z37h 0) (exec (z37E N) N c 0) N st k))
 | 2 => (LPc 116 z37L2_fs z37L2_bs (z37L2_F N) (LPc 116 z37L1_fs z37L1_bs (z37L1_F N) (fun st k => iter (z37h 2) (exec (z37E N) N c 2) N st k)))
 | 4 => (LPc 116 z37L3_fs z37L3_bs (z37L3_F N) (fun st k => iter (z37h 4) (exec (z37E N) N c 4) N st k))
 | i => fun st k => iter (z37h i) (exec (z37E N) N c i) N st k
theorem z37L3_step (N : Nat) (KX : Nat → St → Option τ14) (I : St → Option τ14) (w1019 : List Str) (i1104 : List τ11) :
   execL (z37LP N) (z37E N) z37c1 4 (z37L3_hd w1019 i1104) (roundK (z37h 4) I KX (z37R N)) = z37L3T N (fun o3_w1019 => KX 4 (z37L3_tl4 o3_w1019)) (fun w1019 i1104 => I (z37L3_hd w1019 i1104)) w1019 i1104 := by kernel_rfl
theorem z37L3_ok (N : Nat) : ∀ x y k, (∀ st, k .ret st = (z37R N) st) → iter (z37h 4) (exec (z37E N) N z37c1 4) N ⟨116, unF z37L3_fs x, unH z37L3_bs y⟩ k = z37L3_F N x y k := fun x y k hk =>
 iter_link (S := (List Str) × (List τ11) × Unit) (z37h 4) _ (execL (z37LP N) (z37E N) z37c1 4) (z37R N) (fun st k hk => execL_eq _ _ N _ z37c1 4 (show LoopsOk (z37LP N) (z37E N) N (z37R N) [] from trivial) st k hk) (fun s => z37L3_hd s.1 s.2.1) k hk
   (fun self s => z37L3T N (fun o3_w1019 => k (.exit 4) (z37L3_tl4 o3_w1019)) (fun w1019 i1104 => self (w1019, i1104, ())) s.1 s.2.1) (fun n s => z37L3 N (fun o3_w1019 => k (.exit 4) (z37L3_tl4 o3_w1019)) n s.1 s.2.1) (fun _ => rfl) (fun _ _ => rfl)
   (fun I s => z37L3_step N (fun j => k (.exit j)) I s.1 s.2.1) N (y.1, y.2.1, ())
theorem z37lp4 (N : Nat) : ∀ st k, (∀ st, k .ret st = (z37R N) st) → z37LP N 4 z37c1 st k = iter (Env.hint (z37E N) 4) (exec (z37E N) N z37c1 4) N st k := fun st k hk => LPc_eq 116 z37L3_fs z37L3_bs _ _ (z37R N) (z37L3_ok N) _ st k hk (rfl)
theorem z37L1_step (N : Nat) (x0 : Str) (x1 : List τ3) (c60 : Int) (c61 : Bool) (c62 : Bool) (t37 : Str) (c64 : Str) (c65 : Bool) (c66 : Bool) (c69 : Int) (cw105300 : List τ9) (KX : Nat → St → Option τ14) (I : St → Option τ14) (s70 : Int) (m1027_1 : List τ11) (m1028_2 : List τ11) (u1032_3 : List Str) :
   execL (z37LP N) (z37E N) z37c0 2 (z37L1_hd x0 x1 c60 c61 c62 t37 c64 c65 c66 c69 cw105300 s70 m1027_1 m1028_2 u1032_3) (roundK (z37h 2) I KX (z37R N)) = z37L1T N x1 c69 cw105300 (fun o1_m1027 o1_m1028 o1_w1032 => KX 2 (z37L1_tl2 x0 x1 c60 c61 c62 t37 c64 c65 c66 c69 cw105300 o1_m1027 o1_m1028 o1_w1032)) (fun s70 m1027_1 m1028_2 u1032_3 => I (z37L1_hd x0 x1 c60 c61 c62 t37 c64 c65 c66 c69 cw105300 s70 m1027_1 m1028_2 u1032_3)) s70 m1027_1 m1028_2 u1032_3 := by kernel_rfl
theorem z37L1_ok (N : Nat) : ∀ x y k, (∀ st, k .ret st = (z37R N) st) → iter (z37h 2) (exec (z37E N) N z37c0 2) N ⟨116, unF z37L1_fs x, unH z37L1_bs y⟩ k = z37L1_F N x y k := fun x y k hk =>
 iter_link (S := (Int) × (List τ11) × (List τ11) × (List Str) × Unit) (z37h 2) _ (execL (z37LP N) (z37E N) z37c0 2) (z37R N) (fun st k hk => execL_eq _ _ N _ z37c0 2 (show LoopsOk (z37LP N) (z37E N) N (z37R N) [] from trivial) st k hk) (fun s => z37L1_hd x.1 x.2.1 x.2.2.2.2.2.2.1 x.2.2.2.2.2.2.2.1 x.2.2.2.2.2.2.2.2.1 x.2.2.2.2.2.2.2.2.2.1 x.2.2.2.2.2.2.2.2.2.2.1 x.2.2.2.2.2.2.2.2.2.2.2.1 x.2.2.2.2.2.2.2.2.2.2.2.2.1 x.2.2.2.2.2.2.2.2.2.2.2.2.2.2.1 y.2.2.2.1 s.1 s.2.1 s.2.2.1 s.2.2.2.1) k hk
   (fun self s => z37L1T N x.2.1 x.2.2.2.2.2.2.2.2.2.2.2.2.2.2.1 y.2.2.2.1 (fun o1_m1027 o1_m1028 o1_w1032 => k (.exit 2) (z37L1_tl2 x.1 x.2.1 x.2.2.2.2.2.2.1 x.2.2.2.2.2.2.2.1 x.2.2.2.2.2.2.2.2.1 x.2.2.2.2.2.2.2.2.2.1 x.2.2.2.2.2.2.2.2.2.2.1 x.2.2.2.2.2.2.2.2.2.2.2.1 x.2.2.2.2.2.2.2.2.2.2.2.2.1 x.2.2.2.2.2.2.2.2.2.2.2.2.2.2.1 y.2.2.2.1 o1_m1027 o1_m1028 o1_w1032)) (fun s70 m1027_1 m1028_2 u1032_3 => self (s70, m1027_1, m1028_2, u1032_3, ())) s.1 s.2.1 s.2.2.1 s.2.2.2.1) (fun n s => z37L1 N x.2.1 x.2.2.2.2.2.2.2.2.2.2.2.2.2.2.1 y.2.2.2.1 (fun o1_m1027 o1_m1028 o1_w1032 => k (.exit 2) (z37L1_tl2 x.1 x.2.1 x.2.2.2.2.2.2.1 x.2.2.2.2.2.2.2.1 x.2.2.2.2.2.2.2.2.1 x.2.2.2.2.2.2.2.2.2.1 x.2.2.2.2.2.2.2.2.2.2.1 x.2.2.2.2.2.2.2.2.2.2.2.1 x.2.2.2.2.2.2.2.2.2.2.2.2.1 x.2.2.2.2.2.2.2.2.2.2.2.2.2.2.1 y.2.2.2.1 o1_m1027 o1_m1028 o1_w1032)) n s.1 s.2.1 s.2.2.1 s.2.2.2.1) (fun _ => rfl) (fun _ _ => rfl)
   (fun I s => z37L1_step N x.1 x.2.1 x.2.2.2.2.2.2.1 x.2.2.2.2.2.2.2.1 x.2.2.2.2.2.2.2.2.1 x.2.2.2.2.2.2.2.2.2.1 x.2.2.2.2.2.2.2.2.2.2.1 x.2.2.2.2.2.2.2.2.2.2.2.1 x.2.2.2.2.2.2.2.2.2.2.2.2.1 x.2.2.2.2.2.2.2.2.2.2.2.2.2.2.1 y.2.2.2.1 (fun j => k (.exit j)) I s.1 s.2.1 s.2.2.1 s.2.2.2.1) N (x.2.2.2.2.2.2.2.2.2.2.2.2.2.2.2.1, y.1, y.2.1, y.2.2.1, ())
theorem z37L2_step (N : Nat) (x0 : Str) (x1 : List τ3) (c60_4 : Int) (c61_5 : Bool) (c62_6 : Bool) (c66_7 : Bool) (c69_8 : Int) (cw105300_13 : List τ9) (KX : Nat → St → Option τ14) (I : St → Option τ14) (s70_9 : Int) (m1027_10 : List τ11) (m1028_11 : List τ11) (u1032_12 : List Str) :
   execL (z37LP N) (z37E N) z37c0 2 (z37L2_hd x0 x1 c60_4 c61_5 c62_6 c66_7 c69_8 cw105300_13 s70_9 m1027_10 m1028_11 u1032_12) (roundK (z37h 2) I KX (z37R N)) = z37L2T N x1 c69_8 cw105300_13 (fun o2_m1027 o2_m1028 o2_w1032 => KX 2 (z37L2_tl2 x0 x1 c60_4 c61_5 c62_6 c66_7 c69_8 cw105300_13 o2_m1027 o2_m1028 o2_w1032)) (fun s70_9 m1027_10 m1028_11 u1032_12 => I (z37L2_hd x0 x1 c60_4 c61_5 c62_6 c66_7 c69_8 cw105300_13 s70_9 m1027_10 m1028_11 u1032_12)) s70_9 m1027_10 m1028_11 u1032_12 := by kernel_rfl
theorem z37L2_ok (N : Nat) : ∀ x y k, (∀ st, k .ret st = (z37R N) st) → iter (z37h 2) (exec (z37E N) N z37c0 2) N ⟨116, unF z37L2_fs x, unH z37L2_bs y⟩ k = z37L2_F N x y k := fun x y k hk =>
 iter_link (S := (Int) × (List τ11) × (List τ11) × (List Str) × Unit) (z37h 2) _ (execL (z37LP N) (z37E N) z37c0 2) (z37R N) (fun st k hk => execL_eq _ _ N _ z37c0 2 (show LoopsOk (z37LP N) (z37E N) N (z37R N) [] from trivial) st k hk) (fun s => z37L2_hd x.1 x.2.1 x.2.2.2.2.2.2.1 x.2.2.2.2.2.2.2.1 x.2.2.2.2.2.2.2.2.1 x.2.2.2.2.2.2.2.2.2.2.2.2.1 x.2.2.2.2.2.2.2.2.2.2.2.2.2.2.1 y.2.2.2.1 s.1 s.2.1 s.2.2.1 s.2.2.2.1) k hk
   (fun self s => z37L2T N x.2.1 x.2.2.2.2.2.2.2.2.2.2.2.2.2.2.1 y.2.2.2.1 (fun o2_m1027 o2_m1028 o2_w1032 => k (.exit 2) (z37L2_tl2 x.1 x.2.1 x.2.2.2.2.2.2.1 x.2.2.2.2.2.2.2.1 x.2.2.2.2.2.2.2.2.1 x.2.2.2.2.2.2.2.2.2.2.2.2.1 x.2.2.2.2.2.2.2.2.2.2.2.2.2.2.1 y.2.2.2.1 o2_m1027 o2_m1028 o2_w1032)) (fun s70_9 m1027_10 m1028_11 u1032_12 => self (s70_9, m1027_10, m1028_11, u1032_12, ())) s.1 s.2.1 s.2.2.1 s.2.2.2.1) (fun n s => z37L2 N x.2.1 x.2.2.2.2.2.2.2.2.2.2.2.2.2.2.1 y.2.2.2.1 (fun o2_m1027 o2_m1028 o2_w1032 => k (.exit 2) (z37L2_tl2 x.1 x.2.1 x.2.2.2.2.2.2.1 x.2.2.2.2.2.2.2.1 x.2.2.2.2.2.2.2.2.1 x.2.2.2.2.2.2.2.2.2.2.2.2.1 x.2.2.2.2.2.2.2.2.2.2.2.2.2.2.1 y.2.2.2.1 o2_m1027 o2_m1028 o2_w1032)) n s.1 s.2.1 s.2.2.1 s.2.2.2.1) (fun _ => rfl) (fun _ _ => rfl)
   (fun I s => z37L2_step N x.1 x.2.1 x.2.2.2.2.2.2.1 x.2.2.2.2.2.2.2.1 x.2.2.2.2.2.2.2.2.1 x.2.2.2.2.2.2.2.2.2.2.2.2.1 x.2.2.2.2.2.2.2.2.2.2.2.2.2.2.1 y.2.2.2.1 (fun j => k (.exit j)) I s.1 s.2.1 s.2.2.1 s.2.2.2.1) N (x.2.2.2.2.2.2.2.2.2.2.2.2.2.2.2.1, y.1, y.2.1, y.2.2.1, ())
theorem z37lp2 (N : Nat) : ∀ st k, (∀ st, k .ret st = (z37R N) st) → z37LP N 2 z37c0 st k = iter (Env.hint (z37E N) 2) (exec (z37E N) N z37c0 2) N st k := fun st k hk => LPc_eq 116 z37L2_fs z37L2_bs _ _ (z37R N) (z37L2_ok N) _ st k hk (LPc_eq 116 z37L1_fs z37L1_bs _ _ (z37R N) (z37L1_ok N) _ st k hk (rfl))
theorem z37L0_step (N : Nat) (x0 : Str) (x1 : List τ3) (KX : Nat → St → Option τ14) (I : St → Option τ14) (m1027 : List τ11) (m1028 : List τ11) (u1032 : List Str) :
   execL (z37LP N) (z37E N) z37c2 0 (z37L0_hd x0 x1 m1027 m1028 u1032) (roundK (z37h 0) I KX (z37R N)) = z37L0T N x0 x1 (fun o0_m1027 => KX 0 (z37L0_tl0 x0 x1 o0_m1027)) (fun m1027 m1028 u1032 => I (z37L0_hd x0 x1 m1027 m1028 u1032)) m1027 m1028 u1032 := by kernel_rfl
theorem z37L0_ok (N : Nat) : ∀ x y k, (∀ st, k .ret st = (z37R N) st) → iter (z37h 0) (exec (z37E N) N z37c2 0) N ⟨116, unF z37L0_fs x, unH z37L0_bs y⟩ k = z37L0_F N x y k := fun x y k hk =>
 iter_link (S := (List τ11) × (List τ11) × (List Str) × Unit) (z37h 0) _ (execL (z37LP N) (z37E N) z37c2 0) (z37R N) (fun st k hk => execL_eq _ _ N _ z37c2 0 (show LoopsOk (z37LP N) (z37E N) N (z37R N) [(2, z37c0)] from ⟨z37lp2 N, trivial⟩) st k hk) (fun s => z37L0_hd x.1 x.2.1 s.1 s.2.1 s.2.2.1) k hk
   (fun self s => z37L0T N x.1 x.2.1 (fun o0_m1027 => k (.exit 0) (z37L0_tl0 x.1 x.2.1 o0_m1027)) (fun m1027 m1028 u1032 => self (m1027, m1028, u1032, ())) s.1 s.2.1 s.2.2.1) (fun n s => z37L0 N x.1 x.2.1 (fun o0_m1027 => k (.exit 0) (z37L0_tl0 x.1 x.2.1 o0_m1027)) n s.1 s.2.1 s.2.2.1) (fun _ => rfl) (fun _ _ => rfl)
   (fun I s => z37L0_step N x.1 x.2.1 (fun j => k (.exit j)) I s.1 s.2.1 s.2.2.1) N (y.1, y.2.1, y.2.2.1, ())
theorem z37lp0 (N : Nat) : ∀ st k, (∀ st, k .ret st = (z37R N) st) → z37LP N 0 z37c2 st k = iter (Env.hint (z37E N) 0) (exec (z37E N) N z37c2 0) N st k := fun st k hk => LPc_eq 116 z37L0_fs z37L0_bs _ _ (z37R N) (z37L0_ok N) _ st k hk (rfl)
theorem z37core (N : Nat) (x : SV [.v .str, .v (.sl τ7)]) (y : BV []) : runL (z37E N) Tryz.f9 (z37g N) z37pk (z37LP N) x y = blob_Missing N x.1 x.2.1 := by kernel_rfl
theorem z37sound (N : Nat) : Snd 9 (z37g N) :=
 runD_sound (mkE_ok z37h (z37fn N) _ _ (z37fn_ok N)) Tryz.func9 rfl Tryz.call9 (z37g N) z37pk (fun _ _ => rfl) N (fun x y _ h => ((runL_eq (z37E N) N Tryz.f9 (z37g N) z37pk (z37LP N) (show LoopsOk (z37LP N) (z37E N) N (z37R N) [(0, z37c2), (2, z37c0), (4, z37c1)] from ⟨z37lp0 N, z37lp2 N, z37lp4 N, trivial⟩) x y).trans (z37core N x y)).trans h)
def slices_Clone_api_Object (_N : Nat) (x0 : List τ3) : Option τ16 :=
 br ((x0).isEmpty)
   (both
     (some ([] : List τ3))
     (br (decide ((([] : List τ3).length + x0.length) * (24 * Ty.sz τ7) ≤ 140737488355328))
       (some (([] : List τ3) ++ x0))
       none))
   (br (decide ((([] : List τ3).length + x0.length) * (24 * Ty.sz τ7) ≤ 140737488355328))
     (some (([] : List τ3) ++ x0))
     none)
abbrev z10sg (f : SV [.v (.sl τ7)] → BV [] → Option τ16) : AF := { ps := [.v (.sl τ7)], bs := [], rs := [.row 0], cs := [.row 38 τ7 true], R := List τ3, out := fun z => (((), ()), (z, ())), f := f }
noncomputable abbrev z10g (N : Nat) : AF := z10sg fun x _ => slices_Clone_api_Object N x.1
abbrev z10pk : SV [.row 0] → BV [.row 38 τ7 true] → τ16 := fun _ y => y.1
def z10fn (_N : Nat) : FuncId → Option Tmp → Option AF := fun f _ =>
 match f with
   | _ => none
theorem z10fn_ok (N : Nat) : FnOk (z10fn N) := by
 intro f q F h
 unfold z10fn at h
 split at h
 · cases h
def z10h : Nat → Hint := fun i =>
 match i with
 | _ => hint0
abbrev z10E (N : Nat) : Env := mkE z10h (z10fn N) (fun i => match i with | 2 => true | 5 => true | _ => false) (fun _ => false)
noncomputable def z10LP (N : Nat) : Nat → Code → St → (Ex → St → Option τ16) → Option τ16 := fun i c =>
 match i with
 | i => fun st k => iter (z10h i) (exec (z10E N) N c i) N st k
theorem z10core (N : Nat) (x : SV [.v (.sl τ7)]) (y : BV []) : runL (z10E N) Tryz.f12 (z10g N) z10pk (z10LP N) x y = slices_Clone_api_Object N x.1 := by kernel_rfl
theorem z10sound (N : Nat) : Snd 12 (z10g N) :=
 runD_sound (mkE_ok z10h (z10fn N) _ _ (z10fn_ok N)) Tryz.func12 rfl Tryz.call12 (z10g N) z10pk (fun _ _ => rfl) N (fun x y _ h => ((runL_eq (z10E N) N Tryz.f12 (z10g N) z10pk (z10LP N) (show LoopsOk (z10LP N) (z10E N) N (resD (z10E N) Tryz.f12 (z10g N) z10pk) [] from trivial) x y).trans (z10core N x y)).trans h)
end
end Go.Proofs.YtjiddcchklaiiaaGreatDoor


/- Functions of the reference that this seat's program does not reach, as the plain functions that stand in the proofs of the tree laws (no program in sight). -/
namespace Go.Proofs.YtjiddcchklaiiaaGreatDoor
open Go Go.RowKit
set_option maxRecDepth 100000
set_option linter.unusedVariables false
noncomputable section
def ref1_within (_N : Nat) (x0 : Int) (x1 : Int) (x2 : Int) : Option Bool :=
 br (decide (x0 ≥ x1))
   (some (decide (x0 ≤ x2)))
   (some false)
def ref1_partByte (_N : Nat) (x0 : UInt8) : Option Bool :=
 br (decide (x0 ≥ (97 : UInt8)))
   (br (decide (x0 ≤ (122 : UInt8)))
     (some true)
     (br (decide (x0 ≥ (65 : UInt8)))
       (br (decide (x0 ≤ (90 : UInt8)))
         (some true)
         (br (decide (x0 ≥ (48 : UInt8)))
           (br (decide (x0 ≤ (57 : UInt8)))
             (some true)
             (br (x0 == (46 : UInt8))
               (some true)
               (br (x0 == (95 : UInt8))
                 (some true)
                 (br (x0 == (45 : UInt8))
                   (some true)
                   (some (x0 == (43 : UInt8)))))))
           (br (x0 == (46 : UInt8))
             (some true)
             (br (x0 == (95 : UInt8))
               (some true)
               (br (x0 == (45 : UInt8))
                 (some true)
                 (some (x0 == (43 : UInt8))))))))
       (br (decide (x0 ≥ (48 : UInt8)))
         (br (decide (x0 ≤ (57 : UInt8)))
           (some true)
           (br (x0 == (46 : UInt8))
             (some true)
             (br (x0 == (95 : UInt8))
               (some true)
               (br (x0 == (45 : UInt8))
                 (some true)
                 (some (x0 == (43 : UInt8)))))))
         (br (x0 == (46 : UInt8))
           (some true)
           (br (x0 == (95 : UInt8))
             (some true)
             (br (x0 == (45 : UInt8))
               (some true)
               (some (x0 == (43 : UInt8)))))))))
   (br (decide (x0 ≥ (65 : UInt8)))
     (br (decide (x0 ≤ (90 : UInt8)))
       (some true)
       (br (decide (x0 ≥ (48 : UInt8)))
         (br (decide (x0 ≤ (57 : UInt8)))
           (some true)
           (br (x0 == (46 : UInt8))
             (some true)
             (br (x0 == (95 : UInt8))
               (some true)
               (br (x0 == (45 : UInt8))
                 (some true)
                 (some (x0 == (43 : UInt8)))))))
         (br (x0 == (46 : UInt8))
           (some true)
           (br (x0 == (95 : UInt8))
             (some true)
             (br (x0 == (45 : UInt8))
               (some true)
               (some (x0 == (43 : UInt8))))))))
     (br (decide (x0 ≥ (48 : UInt8)))
       (br (decide (x0 ≤ (57 : UInt8)))
         (some true)
         (br (x0 == (46 : UInt8))
           (some true)
           (br (x0 == (95 : UInt8))
             (some true)
             (br (x0 == (45 : UInt8))
               (some true)
               (some (x0 == (43 : UInt8)))))))
       (br (x0 == (46 : UInt8))
         (some true)
         (br (x0 == (95 : UInt8))
           (some true)
           (br (x0 == (45 : UInt8))
             (some true)
             (some (x0 == (43 : UInt8))))))))
def ref1_isPart_L0T (N : Nat) (x0 : Str) (k0 : Option Bool) (self : Int → Option Bool) (s3 : Int) : Option Bool :=
 br (decide (s3 < (x0.length : Int)))
   (bnd (geti x0 s3) fun t12 =>
   bnd (ref1_partByte N t12) fun t13 =>
   br (!t13)
     (some false)
     (self (IntKind.i64.wrap (s3 + (1 : Int)))))
   (k0)
def ref1_isPart_L0 (N : Nat) (x0 : Str) (k0 : Option Bool) : Nat → Int → Option Bool
 | 0, _ => none
 | n + 1, s3 => ref1_isPart_L0T N x0 k0 (ref1_isPart_L0 N x0 k0 n) s3
def ref1_isPart (N : Nat) (x0 : Str) : Option Bool :=
 ref1_isPart_L0 N x0 (br (!(x0 == ([] : Str)))
       (br (!(x0 == ([46] : Str)))
         (some (!(x0 == ([46, 46] : Str))))
         (some false))
       (some false)) N (0 : Int)
def ref1_IsPath_L0T (N : Nat) (t10 : List Str) (k0 : Option Bool) (self : Int → Option Bool) (s4 : Int) : Option Bool :=
 br (decide (s4 < (t10.length : Int)))
   (bnd (geti t10 s4) fun t19 =>
   bnd (ref1_isPart N t19) fun t21 =>
   br (!t21)
     (some false)
     (self (IntKind.i64.wrap (s4 + (1 : Int)))))
   (k0)
def ref1_IsPath_L0 (N : Nat) (t10 : List Str) (k0 : Option Bool) : Nat → Int → Option Bool
 | 0, _ => none
 | n + 1, s4 => ref1_IsPath_L0T N t10 k0 (ref1_IsPath_L0 N t10 k0 n) s4
def ref1_IsPath (N : Nat) (x0 : Str) : Option Bool :=
 bnd (ref1_within N (x0.length : Int) (1 : Int) (200 : Int)) fun t7 =>
 br (!t7)
   (some false)
   (bnd (strings_Split x0 ([47] : Str)) fun t10 =>
   ref1_IsPath_L0 N t10 (some true) N (0 : Int))
def ref1_there_L0T (_N : Nat) (x0 : List τ2) (x1 : Str) (k0 : Int → Option Bool) (self : Int → Int → Option Bool) (s5 : Int) (s6 : Int) : Option Bool :=
 br (decide (s5 < s6))
   (br ((2 : Int) == 0)
     none
     (bnd (geti x0 (IntKind.i64.wrap (Int.tdiv (IntKind.i64.wrap (s5 + s6)) (2 : Int)))) fun t19 =>
     br (Op.bytesLess t19.1 x1)
       (self (IntKind.i64.wrap ((IntKind.i64.wrap (Int.tdiv (IntKind.i64.wrap (s5 + s6)) (2 : Int))) + (1 : Int))) s6)
       (self s5 (IntKind.i64.wrap (Int.tdiv (IntKind.i64.wrap (s5 + s6)) (2 : Int))))))
   (k0 s5)
def ref1_there_L0 (N : Nat) (x0 : List τ2) (x1 : Str) (k0 : Int → Option Bool) : Nat → Int → Int → Option Bool
 | 0, _, _ => none
 | n + 1, s5, s6 => ref1_there_L0T N x0 x1 k0 (ref1_there_L0 N x0 x1 k0 n) s5 s6
def ref1_there (N : Nat) (x0 : List τ2) (x1 : Str) : Option Bool :=
 ref1_there_L0 N x0 x1 (fun o0_5 =>
     br (decide (o0_5 < (x0.length : Int)))
       (bnd (geti x0 o0_5) fun t34 =>
       some (t34.1 == x1))
       (some false)) N (0 : Int) (x0.length : Int)
def ref1_inside_L0T (N : Nat) (x0 : List τ2) (x1 : Str) (k0 : Option Bool) (self : Int → Option Bool) (s5 : Int) : Option Bool :=
 br (decide (s5 < (x1.length : Int)))
   (bnd (geti x1 s5) fun t14 =>
   br (t14 == (47 : UInt8))
     (bnd (slc x1 (0 : Int) s5) fun t20 =>
     bnd (ref1_there N x0 t20) fun t21 =>
     br (t21)
       (some true)
       (self (IntKind.i64.wrap (s5 + (1 : Int)))))
     (self (IntKind.i64.wrap (s5 + (1 : Int)))))
   (k0)
def ref1_inside_L0 (N : Nat) (x0 : List τ2) (x1 : Str) (k0 : Option Bool) : Nat → Int → Option Bool
 | 0, _ => none
 | n + 1, s5 => ref1_inside_L0T N x0 x1 k0 (ref1_inside_L0 N x0 x1 k0 n) s5
def ref1_inside (N : Nat) (x0 : List τ2) (x1 : Str) : Option Bool :=
 ref1_inside_L0 N x0 x1 (some false) N (0 : Int)
def ref1_CheckFiles_L0T (N : Nat) (x0 : List τ2) (k0 : Int → Option Int) (self : Int → Int → Option Int) (s3 : Int) (s4 : Int) : Option Int :=
 br (decide (s4 < (x0.length : Int)))
   (bnd (geti x0 s4) fun t17 =>
   bnd (ref1_IsPath N t17.1) fun t20 =>
   br (!t20)
     (some (3 : Int))
     (bnd (geti x0 s4) fun t24 =>
     br (decide ((t24.2.2.length : Int) > (100000 : Int)))
       (some (2 : Int))
       (br (decide (s4 > (0 : Int)))
         (bnd (geti x0 s4) fun t34 =>
         bnd (geti x0 (IntKind.i64.wrap (s4 - (1 : Int)))) fun t40 =>
         br (Op.bytesLess t34.1 t40.1 || t34.1 == t40.1)
           (some (8 : Int))
           (bnd (geti x0 s4) fun t48 =>
           self (IntKind.i64.wrap (s3 + (t48.2.2.length : Int))) (IntKind.i64.wrap (s4 + (1 : Int)))))
         (bnd (geti x0 s4) fun t48_1 =>
         self (IntKind.i64.wrap (s3 + (t48_1.2.2.length : Int))) (IntKind.i64.wrap (s4 + (1 : Int)))))))
   (k0 s3)
def ref1_CheckFiles_L0 (N : Nat) (x0 : List τ2) (k0 : Int → Option Int) : Nat → Int → Int → Option Int
 | 0, _, _ => none
 | n + 1, s3, s4 => ref1_CheckFiles_L0T N x0 k0 (ref1_CheckFiles_L0 N x0 k0 n) s3 s4
def ref1_CheckFiles_L1T (N : Nat) (x0 : List τ2) (k2 : Option Int) (self : Int → Option Int) (s5 : Int) : Option Int :=
 br (decide (s5 < (x0.length : Int)))
   (bnd (geti x0 s5) fun t62 =>
   bnd (ref1_inside N x0 t62.1) fun t65 =>
   br (t65)
     (some (12 : Int))
     (self (IntKind.i64.wrap (s5 + (1 : Int)))))
   (k2)
def ref1_CheckFiles_L1 (N : Nat) (x0 : List τ2) (k2 : Option Int) : Nat → Int → Option Int
 | 0, _ => none
 | n + 1, s5 => ref1_CheckFiles_L1T N x0 k2 (ref1_CheckFiles_L1 N x0 k2 n) s5
def ref1_CheckFiles (N : Nat) (x0 : List τ2) : Option Int :=
 br (decide ((x0.length : Int) > (1000 : Int)))
   (some (2 : Int))
   (ref1_CheckFiles_L0 N x0 (fun o0_3 =>
       ref1_CheckFiles_L1 N x0 (br (decide (o0_3 > (2000000 : Int)))
             (some (2 : Int))
             (some (0 : Int))) N (0 : Int)) N (0 : Int) (0 : Int))
def ref1_RootOf (N : Nat) (x0 : List τ2) : Option Str :=
 bnd (ref1_text N N x0) fun t4 =>
 br (decide (t4.length * 24 ≤ 140737488355328))
   (bnd (ref1_Digest N t4) fun t6 =>
   some t6)
   none
def ref1_writer_put_L0T (_N : Nat) (x1 : Str) (k0 : Int → Option τ16) (self : Int → Option τ16) (s6 : Int) : Option τ16 :=
 br (decide (s6 < (0 : Int)))
   (bnd (geti ([] : List τ3) s6) fun t22 =>
   br (Op.bytesLess t22.1 x1)
     (self (IntKind.i64.wrap (s6 + (1 : Int))))
     (k0 s6))
   (k0 s6)
def ref1_writer_put_L0 (N : Nat) (x1 : Str) (k0 : Int → Option τ16) : Nat → Int → Option τ16
 | 0, _ => none
 | n + 1, s6 => ref1_writer_put_L0T N x1 k0 (ref1_writer_put_L0 N x1 k0 n) s6
def ref1_writer_put (N : Nat) (x1 : Str) (x2 : List UInt8) : Option τ16 :=
 ref1_writer_put_L0 N x1 (fun o0_6 =>
     br (decide (o0_6 < (0 : Int)))
       (bnd (geti ([] : List τ3) o0_6) fun t43 =>
       br (t43.1 == x1)
         (some ([] : List τ3))
         (br (decide (x2.length * (24 * Ty.sz .u8) ≤ 140737488355328))
           (bnd (slc ([] : List τ3) (0 : Int) o0_6) fun t62 =>
           br (decide ((([] : List τ3).length + t62.length) * (24 * Ty.sz τ7) ≤ 140737488355328))
             (br (decide (((([] : List τ3) ++ t62).length + [(x1, x2)].length) * (24 * Ty.sz τ7) ≤ 140737488355328))
               (bnd (slc ([] : List τ3) o0_6 (([] : List τ3).length : Int)) fun t75 =>
               br (decide ((((([] : List τ3) ++ t62) ++ [(x1, x2)]).length + t75.length) * (24 * Ty.sz τ7) ≤ 140737488355328))
                 (some (((([] : List τ3) ++ t62) ++ [(x1, x2)]) ++ t75))
                 none)
               none)
             none)
           none))
       (br (decide (x2.length * (24 * Ty.sz .u8) ≤ 140737488355328))
         (bnd (slc ([] : List τ3) (0 : Int) o0_6) fun t62_1 =>
         br (decide ((([] : List τ3).length + t62_1.length) * (24 * Ty.sz τ7) ≤ 140737488355328))
           (br (decide (((([] : List τ3) ++ t62_1).length + [(x1, x2)].length) * (24 * Ty.sz τ7) ≤ 140737488355328))
             (bnd (slc ([] : List τ3) o0_6 (([] : List τ3).length : Int)) fun t75_2 =>
             br (decide ((((([] : List τ3) ++ t62_1) ++ [(x1, x2)]).length + t75_2.length) * (24 * Ty.sz τ7) ≤ 140737488355328))
               (some (((([] : List τ3) ++ t62_1) ++ [(x1, x2)]) ++ t75_2))
               none)
             none)
           none)
         none)) N (0 : Int)
def ref1_writer_put_2_L0T (_N : Nat) (x1 : Str) (y0_0 : List τ3) (k0 : Int → Option τ16) (self : Int → Option τ16) (s6 : Int) : Option τ16 :=
 br (decide (s6 < (y0_0.length : Int)))
   (bnd (geti y0_0 s6) fun t22 =>
   br (Op.bytesLess t22.1 x1)
     (self (IntKind.i64.wrap (s6 + (1 : Int))))
     (k0 s6))
   (k0 s6)
def ref1_writer_put_2_L0 (N : Nat) (x1 : Str) (y0_0 : List τ3) (k0 : Int → Option τ16) : Nat → Int → Option τ16
 | 0, _ => none
 | n + 1, s6 => ref1_writer_put_2_L0T N x1 y0_0 k0 (ref1_writer_put_2_L0 N x1 y0_0 k0 n) s6
def ref1_writer_put_2 (N : Nat) (x1 : Str) (x2 : List UInt8) (y0_0 : List τ3) : Option τ16 :=
 ref1_writer_put_2_L0 N x1 y0_0 (fun o0_6 =>
     br (decide (o0_6 < (y0_0.length : Int)))
       (bnd (geti y0_0 o0_6) fun t43 =>
       br (t43.1 == x1)
         (some y0_0)
         (br (decide (x2.length * (24 * Ty.sz .u8) ≤ 140737488355328))
           (bnd (slc y0_0 (0 : Int) o0_6) fun t62 =>
           br (decide ((([] : List τ3).length + t62.length) * (24 * Ty.sz τ7) ≤ 140737488355328))
             (br (decide (((([] : List τ3) ++ t62).length + [(x1, x2)].length) * (24 * Ty.sz τ7) ≤ 140737488355328))
               (bnd (slc y0_0 o0_6 (y0_0.length : Int)) fun t75 =>
               br (decide ((((([] : List τ3) ++ t62) ++ [(x1, x2)]).length + t75.length) * (24 * Ty.sz τ7) ≤ 140737488355328))
                 (some (((([] : List τ3) ++ t62) ++ [(x1, x2)]) ++ t75))
                 none)
               none)
             none)
           none))
       (br (decide (x2.length * (24 * Ty.sz .u8) ≤ 140737488355328))
         (bnd (slc y0_0 (0 : Int) o0_6) fun t62_1 =>
         br (decide ((([] : List τ3).length + t62_1.length) * (24 * Ty.sz τ7) ≤ 140737488355328))
           (br (decide (((([] : List τ3) ++ t62_1).length + [(x1, x2)].length) * (24 * Ty.sz τ7) ≤ 140737488355328))
             (bnd (slc y0_0 o0_6 (y0_0.length : Int)) fun t75_2 =>
             br (decide ((((([] : List τ3) ++ t62_1) ++ [(x1, x2)]).length + t75_2.length) * (24 * Ty.sz τ7) ≤ 140737488355328))
               (some (((([] : List τ3) ++ t62_1) ++ [(x1, x2)]) ++ t75_2))
               none)
             none)
           none)
         none)) N (0 : Int)
def ref1_writer_write_2_b_L0T (N : Nat) (r_ref1_writer_write_2 : τ15 → τ16 → Option τ16) (x1 : List τ2) (c5 : List Str) (k0 : τ16 → Option τ16) (self : Int → τ16 → Option τ16) (s7 : Int) (b0_0 : List τ3) : Option τ16 :=
 br (decide (s7 < (c5.length : Int)))
   (bnd (geti c5 s7) fun t34 =>
   bnd (ref1_below N x1 t34) fun t36 =>
   br (t36.1)
     (bnd (r_ref1_writer_write_2 t36.2 b0_0) fun t42 =>
     self (IntKind.i64.wrap (s7 + (1 : Int))) t42)
     (bnd (geti t36.2 (0 : Int)) fun t45 =>
     bnd (geti t36.2 (0 : Int)) fun t50 =>
     bnd (ref1_Digest N t45.2.2) fun t48 =>
     bnd (ref1_writer_put_2 N t48 t50.2.2 b0_0) fun t53 =>
     self (IntKind.i64.wrap (s7 + (1 : Int))) t53))
   (k0 b0_0)
def ref1_writer_write_2_b_L0 (N : Nat) (r_ref1_writer_write_2 : τ15 → τ16 → Option τ16) (x1 : List τ2) (c5 : List Str) (k0 : τ16 → Option τ16) : Nat → Int → τ16 → Option τ16
 | 0, _, _ => none
 | n + 1, s7, b0_0 => ref1_writer_write_2_b_L0T N r_ref1_writer_write_2 x1 c5 k0 (ref1_writer_write_2_b_L0 N r_ref1_writer_write_2 x1 c5 k0 n) s7 b0_0
def ref1_writer_write_2_b (N : Nat) (r_ref1_writer_write_2 : τ15 → τ16 → Option τ16) (x1 : List τ2) (y0_0 : List τ3) : Option τ16 :=
 bnd (ref1_text N N x1) fun t11 =>
 br (decide (t11.length * 24 ≤ 140737488355328))
   (bnd (ref1_Digest N t11) fun t15 =>
   br (decide (t11.length * 24 ≤ 140737488355328))
     (bnd (ref1_writer_put_2 N t15 t11 y0_0) fun t18 =>
     bnd (ref1_names x1) fun t21 =>
     ref1_writer_write_2_b_L0 N r_ref1_writer_write_2 x1 t21.1 (fun o0_0_0 =>
         some o0_0_0) N (0 : Int) t18)
     none)
   none
def ref1_writer_write_2 (N : Nat) : Nat → τ15 → τ16 → Option τ16
 | 0 => fun _ _ => none
 | d + 1 => ref1_writer_write_2_b N (ref1_writer_write_2 N d)
def ref1_writer_write_L0T (N : Nat) (x1 : List τ2) (c5 : List Str) (k0 : τ16 → Option τ16) (self : Int → τ16 → Option τ16) (s7 : Int) (b0_0 : List τ3) : Option τ16 :=
 br (decide (s7 < (c5.length : Int)))
   (bnd (geti c5 s7) fun t34 =>
   bnd (ref1_below N x1 t34) fun t36 =>
   br (t36.1)
     (bnd (ref1_writer_write_2 N N t36.2 b0_0) fun t42 =>
     self (IntKind.i64.wrap (s7 + (1 : Int))) t42)
     (bnd (geti t36.2 (0 : Int)) fun t45 =>
     bnd (geti t36.2 (0 : Int)) fun t50 =>
     bnd (ref1_Digest N t45.2.2) fun t48 =>
     bnd (ref1_writer_put_2 N t48 t50.2.2 b0_0) fun t53 =>
     self (IntKind.i64.wrap (s7 + (1 : Int))) t53))
   (k0 b0_0)
def ref1_writer_write_L0 (N : Nat) (x1 : List τ2) (c5 : List Str) (k0 : τ16 → Option τ16) : Nat → Int → τ16 → Option τ16
 | 0, _, _ => none
 | n + 1, s7, b0_0 => ref1_writer_write_L0T N x1 c5 k0 (ref1_writer_write_L0 N x1 c5 k0 n) s7 b0_0
def ref1_writer_write (N : Nat) (x1 : List τ2) : Option τ16 :=
 bnd (ref1_text N N x1) fun t11 =>
 br (decide (t11.length * 24 ≤ 140737488355328))
   (bnd (ref1_Digest N t11) fun t15 =>
   br (decide (t11.length * 24 ≤ 140737488355328))
     (bnd (ref1_writer_put N t15 t11) fun t18 =>
     bnd (ref1_names x1) fun t21 =>
     ref1_writer_write_L0 N x1 t21.1 (fun o0_0_0 =>
         some o0_0_0) N (0 : Int) t18)
     none)
   none
def ref1_TreeOf (N : Nat) (x0 : List τ2) : Option (Str × List τ3 × Int) :=
 bnd (ref1_CheckFiles N x0) fun t8 =>
 br (t8 != (0 : Int))
   (some (([] : Str), (([] : List τ3), t8)))
   (bnd (ref1_writer_write N x0) fun t16 =>
   br (decide ((t16.length : Int) > (4000 : Int)))
     (some (([] : Str), (([] : List τ3), (2 : Int))))
     (bnd (ref1_RootOf N x0) fun t24 =>
     some (t24, (t16, (0 : Int)))))
end
end Go.Proofs.YtjiddcchklaiiaaGreatDoor

