/- What functions of the program compute, as plain functions (printed). -/
import Derived.Test.YtbekhaioddmliaaGreatDoorQZeF8
import Derived.Test.YtbekhaioddmliaaGreatDoorQBmI
import Derived.Shelf.SlGeneric
import Derived.Shelf.SortM.Plain
import Derived.Shelf.SortM.SortNone
import Derived.Ground.SlgmProg
import Derived.Test.YtbekhaioddmliaaGreatDoorProg
import Derived.Shelf.SlSortCmp.WholeK
import Derived.Shelf.SlSortCmp.NoneTotal
import Derived.Ground.SlsfProg
import Derived.Test.YtbekhaioddmliaaGreatDoorQSlc
namespace Go.Proofs.YtbekhaioddmliaaGreatDoor
open Go Go.RowKit
set_option maxRecDepth 100000
set_option linter.unusedVariables false
noncomputable section
def z71L0T (N : Nat) (x2 : List τ1) (c36 : List τ3) (c37 : Int) (κ4_0 : τ7) (κ4_1 : List τ6) (κ7_0 : Str) (κ7_1 : List τ1) (k0 : τ18 → (List τ6) → Option τ19) (self : Int → τ18 → (List τ6) → Option τ19) (s38 : Int) (w1011 : List τ3) (w1012 : List τ6) : Option τ19 :=
 br (decide (s38 < c37))
   (bnd (geti c36 s38) fun t40 =>
   bnd (config_conditionOf N κ4_1 t40.1) fun t47 =>
   br (t47.2)
     (bnd (config_holds N κ4_0 t47.1 x2 (κ7_0, κ7_1)) fun t57 =>
     br (t57)
       (both
         (times 1
           (br (decide ((w1011.length + [(t40.1, GValue.mk t40.2.kind t40.2.text t40.2.number t40.2.list t40.2.cases)].length) * (24 * Ty.sz τ2) ≤ 140737488355328))
             (br (decide ((w1012.length + [t47.1].length) * (24 * Ty.sz τ9) ≤ 140737488355328))
               (self (IntKind.i64.wrap (s38 + (1 : Int))) (w1011 ++ [(t40.1, GValue.mk t40.2.kind t40.2.text t40.2.number t40.2.list t40.2.cases)]) (w1012 ++ [t47.1]))
               none)
             none))
         (br (decide ((w1011.length + [(t40.1, GValue.mk t40.2.kind t40.2.text t40.2.number t40.2.list t40.2.cases)].length) * (24 * Ty.sz τ2) ≤ 140737488355328))
           (br (decide ((w1012.length + [t47.1].length) * (24 * Ty.sz τ9) ≤ 140737488355328))
             (self (IntKind.i64.wrap (s38 + (1 : Int))) (w1011 ++ [(t40.1, GValue.mk t40.2.kind t40.2.text t40.2.number t40.2.list t40.2.cases)]) (w1012 ++ [t47.1]))
             none)
           none))
       (self (IntKind.i64.wrap (s38 + (1 : Int))) w1011 w1012))
     (self (IntKind.i64.wrap (s38 + (1 : Int))) w1011 w1012))
   (k0 w1011 w1012)
def z71L0 (N : Nat) (x2 : List τ1) (c36 : List τ3) (c37 : Int) (κ4_0 : τ7) (κ4_1 : List τ6) (κ7_0 : Str) (κ7_1 : List τ1) (k0 : τ18 → (List τ6) → Option τ19) : Nat → Int → τ18 → (List τ6) → Option τ19
 | 0, _, _, _ => none
 | n + 1, s38, w1011, w1012 => z71L0T N x2 c36 c37 κ4_0 κ4_1 κ7_0 κ7_1 k0 (z71L0 N x2 c36 c37 κ4_0 κ4_1 κ7_0 κ7_1 k0 n) s38 w1011 w1012
def z71L2T (N : Nat) (s86 : Int) (c103 : Int) (o0_w1012 : List τ6) (k4 : Bool → Option τ19) (self : Bool → Int → Option τ19) (s20 : Bool) (s104 : Int) : Option τ19 :=
 br (decide (s104 < c103))
   (br (s20)
     (br (s104 == s86)
       (self true (IntKind.i64.wrap (s104 + (1 : Int))))
       (bnd (geti o0_w1012 s86) fun t115 =>
       bnd (geti o0_w1012 s104) fun t119 =>
       bnd (config_isMore N t115 t119) fun t121 =>
       self t121 (IntKind.i64.wrap (s104 + (1 : Int)))))
     (self false (IntKind.i64.wrap (s104 + (1 : Int)))))
   (k4 s20)
def z71L2 (N : Nat) (s86 : Int) (c103 : Int) (o0_w1012 : List τ6) (k4 : Bool → Option τ19) : Nat → Bool → Int → Option τ19
 | 0, _, _ => none
 | n + 1, s20, s104 => z71L2T N s86 c103 o0_w1012 k4 (z71L2 N s86 c103 o0_w1012 k4 n) s20 s104
def z71L3T (N : Nat) (s86 : Int) (c103_6 : Int) (o0_w1012 : List τ6) (k4 : Bool → Option τ19) (self : Bool → Int → Option τ19) (s20_4 : Bool) (s104_7 : Int) : Option τ19 :=
 br (decide (s104_7 < c103_6))
   (br (s20_4)
     (br (s104_7 == s86)
       (self true (IntKind.i64.wrap (s104_7 + (1 : Int))))
       (bnd (geti o0_w1012 s86) fun t115_8 =>
       bnd (geti o0_w1012 s104_7) fun t119_9 =>
       bnd (config_isMore N t115_8 t119_9) fun t121_10 =>
       self t121_10 (IntKind.i64.wrap (s104_7 + (1 : Int)))))
     (self false (IntKind.i64.wrap (s104_7 + (1 : Int)))))
   (k4 s20_4)
def z71L3 (N : Nat) (s86 : Int) (c103_6 : Int) (o0_w1012 : List τ6) (k4 : Bool → Option τ19) : Nat → Bool → Int → Option τ19
 | 0, _, _ => none
 | n + 1, s20_4, s104_7 => z71L3T N s86 c103_6 o0_w1012 k4 (z71L3 N s86 c103_6 o0_w1012 k4 n) s20_4 s104_7
def z71L1T (N : Nat) (c85 : Int) (o0_w1011 : List τ3) (o0_w1012 : List τ6) (k2 : Bool → Option τ19) (self : Bool → Int → Option τ19) (s18 : Bool) (s86 : Int) : Option τ19 :=
 br (decide (s86 < c85))
   (br (s18)
     (bnd (geti o0_w1011 (0 : Int)) fun t92 =>
     bnd (geti o0_w1011 s86) fun t97 =>
     bnd (script_Equal N (script_Equal_1 N N) t92.2 t97.2) fun t100 =>
     z71L2 N s86 (o0_w1011.length : Int) o0_w1012 (fun o2_20 =>
         br (o2_20)
           (bnd (geti o0_w1011 s86) fun t128 =>
           bnd (script_Own N N t128.2) fun t131 =>
           some (GValue.mk t131.kind t131.text t131.number t131.list t131.cases, (0 : Int)))
           (self t100 (IntKind.i64.wrap (s86 + (1 : Int))))) N true (0 : Int))
     (z71L3 N s86 (o0_w1011.length : Int) o0_w1012 (fun o3_20 =>
         br (o3_20)
           (bnd (geti o0_w1011 s86) fun t128_11 =>
           bnd (script_Own N N t128_11.2) fun t131_12 =>
           some (GValue.mk t131_12.kind t131_12.text t131_12.number t131_12.list t131_12.cases, (0 : Int)))
           (self false (IntKind.i64.wrap (s86 + (1 : Int))))) N true (0 : Int)))
   (k2 s18)
def z71L1 (N : Nat) (c85 : Int) (o0_w1011 : List τ3) (o0_w1012 : List τ6) (k2 : Bool → Option τ19) : Nat → Bool → Int → Option τ19
 | 0, _, _ => none
 | n + 1, s18, s86 => z71L1T N c85 o0_w1011 o0_w1012 k2 (z71L1 N c85 o0_w1011 o0_w1012 k2 n) s18 s86
def config_chosen (N : Nat) (x0 : τ20) (x1 : GValue) (x2 : List τ1) (x3 : Str × List τ1) : Option τ19 :=
 br (x1.kind != (4 : Int))
   (bnd (script_Own N N (GValue.mk x1.kind x1.text x1.number x1.list x1.cases)) fun t26 =>
   some (GValue.mk t26.kind t26.text t26.number t26.list t26.cases, (0 : Int)))
   (bnd (config_checkNamed N x0.2.1 (GValue.mk x1.kind x1.text x1.number x1.list x1.cases)) fun t30 =>
   br (t30 != (0 : Int))
     (some (GValue.mk (0 : Int) ([] : Str) (0 : Int) ([] : List Str) ([] : List τ3), t30))
     (z71L0 N x2 x1.cases (x1.cases.length : Int) x0.1 x0.2.1 x3.1 x3.2 (fun o0_w1011 o0_w1012 =>
         br ((o0_w1011.length : Int) == (0 : Int))
           (bnd (slices_IndexFunc_api_Case_2 N x1.cases ()) fun t73 =>
           br (decide (t73 < (0 : Int)))
             (some (GValue.mk (0 : Int) ([] : Str) (0 : Int) ([] : List Str) ([] : List τ3), (9 : Int)))
             (bnd (geti x1.cases t73) fun t80 =>
             bnd (script_Own N N t80.2) fun t83 =>
             some (GValue.mk t83.kind t83.text t83.number t83.list t83.cases, (0 : Int))))
           (z71L1 N (o0_w1011.length : Int) o0_w1011 o0_w1012 (fun o1_18 =>
               br (o1_18)
                 (bnd (geti o0_w1011 (0 : Int)) fun t135 =>
                 bnd (script_Own N N t135.2) fun t138 =>
                 some (GValue.mk t138.kind t138.text t138.number t138.list t138.cases, (0 : Int)))
                 (some (GValue.mk (0 : Int) ([] : Str) (0 : Int) ([] : List Str) ([] : List τ3), (12 : Int)))) N true (0 : Int))) N (0 : Int) ([] : List τ3) ([] : List τ6)))
abbrev z71sg (f : SV [.v τ4, .v τ14, .v τ0, .v τ15] → BV [] → Option τ19) : AF := { ps := [.v τ4, .v τ14, .v τ0, .v τ15], bs := [], rs := [.v τ14, .v τ5], cs := [], R := GValue × Int, out := fun z => ((z.1, z.2, ()), ()), f := f }
noncomputable abbrev z71g (N : Nat) : AF := z71sg fun x _ => config_chosen N x.1 x.2.1 x.2.2.1 x.2.2.2.1
abbrev z71pk : SV [.v τ14, .v τ5] → BV [] → τ19 := fun x _ => (x.1, x.2.1)
def z71fn (N : Nat) : FuncId → Option Tmp → Option AF := fun f _ =>
 match f with
   | 65 => some (z50g N)
   | 66 => some (z44g N)
   | 80 => some (z95sg fun x _ => script_Own N N x.1)
   | 81 => some (z81g N)
   | 82 => some (z14g N)
   | 84 => some (z82sg fun x _ => script_Equal N (script_Equal_1 N N) x.1 x.2.1)
   | 85 => some (z73g N)
   | _ => none
theorem z71fn_ok (N : Nat) : FnOk (z71fn N) := by
 intro f q F h
 unfold z71fn at h
 split at h
 · cases h; exact z50sound N
 · cases h; exact z44sound N
 · cases h; exact z95sound N N
 · cases h; exact z81sound N
 · cases h; exact z14sound N
 · cases h; exact z82sound N (script_Equal_1 N N) (z67sound N N)
 · cases h; exact z73sound N
 · cases h
def z71h : Nat → Hint := fun i =>
 match i with
 | 0 => ⟨[], [2, 4, 5, 7, 8, 11, 12, 36, 37, 38], [1004, 1005, 1007, 1008, 1011, 1012], [5, 8, 11, 12], [1005, 1008, 1011, 1012], []⟩
 | 2 => ⟨[], [8, 11, 12, 18, 85, 86], [1008, 1011, 1012], [8, 11, 18], [1008, 1011], []⟩
 | 4 => ⟨[], [8, 11, 12, 18, 19, 20, 85, 86, 91, 92, 93, 94, 95, 96, 97, 98, 99, 100, 103, 104], [1008, 1011, 1012], [8, 11, 12, 18, 19, 20, 85, 86, 91, 92, 93, 94, 95, 96, 97, 98, 99, 100], [1008, 1011, 1012], []⟩
 | 100013 => ⟨[1014, 1015], [], [], [], [], []⟩
 | _ => hint0
abbrev z71E (N : Nat) : Env := mkE z71h (z71fn N) FF FF
noncomputable abbrev z71c2 : Code := cAt (bodyOf Tryz.f32) [true, true, true, true, true, false, true, false, false]
noncomputable abbrev z71c1 : Code := cAt (bodyOf Tryz.f32) [true, true, true, true, true, true, true, true, false, true, false, false]
noncomputable abbrev z71c0 : Code := cAt (bodyOf Tryz.f32) [true, true, true, true, true, true, true, true, false, true, false, false, true, true, false, false, true, true, true, false, true, false, false]
noncomputable abbrev z71R (N : Nat) := resD (z71E N) Tryz.f32 (z71g N) z71pk
abbrev z71L0_fs : List (Nat × Sl) := [(2, .v τ0), (4, .box 1004 0), (5, .box 1005 0), (7, .box 1007 0), (8, .box 1008 0), (11, .row 1011), (12, .row 1012), (36, .v (.sl τ2)), (37, .v τ5), (38, .v τ5)]
abbrev z71L0_bs : List (Nat × Sb) := [(1004, .cells [.v τ8, .v (.sl τ9), .v (.sl τ15), .v (.sl (.pr .str τ9)), .v (.sl τ16)]), (1005, .cells [.v τ5, .v .str, .v τ5, .v τ24, .v (.sl τ2)]), (1007, .cells [.v .str, .v τ0]), (1008, .cells [.v τ5, .v .str, .v τ5, .nilS, .nilS]), (1011, .row 78 τ2 false), (1012, .row 108 τ9 false)]
def z71L0_hd (x2 : List τ1) (c36 : List τ3) (c37 : Int) (κ4_0 : τ7) (κ4_1 : List τ6) (κ4_2 : τ12) (κ4_3 : List τ11) (κ4_4 : τ13) (κ5_0 : Int) (κ5_1 : Str) (κ5_2 : Int) (κ5_3 : List Str) (κ5_4 : List τ3) (κ7_0 : Str) (κ7_1 : List τ1) (κ8_0 : Int) (κ8_1 : Str) (κ8_2 : Int) (s38 : Int) (w1011 : List τ3) (w1012 : List τ6) : St := ⟨140, [(2, .v τ0 x2), (4, .box 1004 0), (5, .box 1005 0), (7, .box 1007 0), (8, .box 1008 0), (11, .row 1011), (12, .row 1012), (36, .v (.sl τ2) c36), (37, .v τ5 c37), (38, .v τ5 s38)], [(1004, .cells [.v τ8 κ4_0, .v (.sl τ9) κ4_1, .v (.sl τ15) κ4_2, .v (.sl (.pr .str τ9)) κ4_3, .v (.sl τ16) κ4_4]), (1005, .cells [.v τ5 κ5_0, .v .str κ5_1, .v τ5 κ5_2, .v τ24 κ5_3, .v (.sl τ2) κ5_4]), (1007, .cells [.v .str κ7_0, .v τ0 κ7_1]), (1008, .cells [.v τ5 κ8_0, .v .str κ8_1, .v τ5 κ8_2, .nilS, .nilS]), (1011, .row 78 τ2 false w1011), (1012, .row 108 τ9 false w1012)]⟩
def z71L0_tl0 (_x2 : List τ1) (_c36 : List τ3) (_c37 : Int) (_κ4_0 : τ7) (_κ4_1 : List τ6) (_κ4_2 : τ12) (_κ4_3 : List τ11) (_κ4_4 : τ13) (κ5_0 : Int) (κ5_1 : Str) (κ5_2 : Int) (κ5_3 : List Str) (κ5_4 : List τ3) (_κ7_0 : Str) (_κ7_1 : List τ1) (κ8_0 : Int) (κ8_1 : Str) (κ8_2 : Int) (o0_w1011 : List τ3) (o0_w1012 : List τ6) : St := ⟨140, [(5, .box 1005 0), (8, .box 1008 0), (11, .row 1011), (12, .row 1012)], [(1005, .cells [.v τ5 κ5_0, .v .str κ5_1, .v τ5 κ5_2, .v τ24 κ5_3, .v (.sl τ2) κ5_4]), (1008, .cells [.v τ5 κ8_0, .v .str κ8_1, .v τ5 κ8_2, .nilS, .nilS]), (1011, .row 78 τ2 false o0_w1011), (1012, .row 108 τ9 false o0_w1012)]⟩
def z71L0_G (N : Nat) (x2 : List τ1) (c36 : List τ3) (c37 : Int) (κ4_0 : τ7) (κ4_1 : List τ6) (κ4_2 : τ12) (κ4_3 : List τ11) (κ4_4 : τ13) (κ5_0 : Int) (κ5_1 : Str) (κ5_2 : Int) (κ5_3 : List Str) (κ5_4 : List τ3) (κ7_0 : Str) (κ7_1 : List τ1) (κ8_0 : Int) (κ8_1 : Str) (κ8_2 : Int) (s38 : Int) (w1011 : List τ3) (w1012 : List τ6) (k : Ex → St → Option τ19) : Option τ19 :=
 z71L0 N x2 c36 c37 κ4_0 κ4_1 κ7_0 κ7_1 (fun o0_w1011 o0_w1012 => k (.exit 0) (z71L0_tl0 x2 c36 c37 κ4_0 κ4_1 κ4_2 κ4_3 κ4_4 κ5_0 κ5_1 κ5_2 κ5_3 κ5_4 κ7_0 κ7_1 κ8_0 κ8_1 κ8_2 o0_w1011 o0_w1012)) N s38 w1011 w1012
abbrev z71L0_F (N : Nat) : FV z71L0_fs → HV z71L0_bs → (Ex → St → Option τ19) → Option τ19 := fun x y k => z71L0_G N x.1 x.2.2.2.2.2.2.2.1 x.2.2.2.2.2.2.2.2.1 y.1.1 y.1.2.1 y.1.2.2.1 y.1.2.2.2.1 y.1.2.2.2.2.1 y.2.1.1 y.2.1.2.1 y.2.1.2.2.1 y.2.1.2.2.2.1 y.2.1.2.2.2.2.1 y.2.2.1.1 y.2.2.1.2.1 y.2.2.2.1.1 y.2.2.2.1.2.1 y.2.2.2.1.2.2.1 x.2.2.2.2.2.2.2.2.2.1 y.2.2.2.2.1 y.2.2.2.2.2.1 k
abbrev z71L2_fs : List (Nat × Sl) := [(8, .box 1008 0), (11, .row 1011), (12, .row 1012), (18, .v .bool), (19, .v τ5), (20, .v .bool), (85, .v τ5), (86, .v τ5), (91, .row 1011), (92, .at_ τ2), (93, .at_ τ14), (94, .v τ14), (95, .row 1011), (96, .v τ5), (97, .at_ τ2), (98, .at_ τ14), (99, .v τ14), (100, .v .bool), (103, .v τ5), (104, .v τ5)]
abbrev z71L2_bs : List (Nat × Sb) := [(1008, .cells [.v τ5, .v .str, .v τ5, .nilS, .nilS]), (1011, .row 78 τ2 false), (1012, .row 108 τ9 false)]
def z71L2_hd (t100 : Bool) (s86 : Int) (c85 : Int) (c86 : Int) (t92 : Str × GValue) (c93 : GValue) (c94 : GValue) (c96 : Int) (t97 : Str × GValue) (c98 : GValue) (c99 : GValue) (c100 : Bool) (c103 : Int) (c1008_0_1 : Int) (c1008_1_2 : Str) (c1008_2_3 : Int) (o0_w1011 : List τ3) (o0_w1012 : List τ6) (s20 : Bool) (s104 : Int) : St := ⟨140, [(8, .box 1008 0), (11, .row 1011), (12, .row 1012), (18, .v .bool t100), (19, .v τ5 s86), (20, .v .bool s20), (85, .v τ5 c85), (86, .v τ5 c86), (91, .row 1011), (92, .at_ τ2 t92), (93, .at_ τ14 c93), (94, .v τ14 c94), (95, .row 1011), (96, .v τ5 c96), (97, .at_ τ2 t97), (98, .at_ τ14 c98), (99, .v τ14 c99), (100, .v .bool c100), (103, .v τ5 c103), (104, .v τ5 s104)], [(1008, .cells [.v τ5 c1008_0_1, .v .str c1008_1_2, .v τ5 c1008_2_3, .nilS, .nilS]), (1011, .row 78 τ2 false o0_w1011), (1012, .row 108 τ9 false o0_w1012)]⟩
def z71L2_tl4 (t100 : Bool) (s86 : Int) (c85 : Int) (c86 : Int) (t92 : Str × GValue) (c93 : GValue) (c94 : GValue) (c96 : Int) (t97 : Str × GValue) (c98 : GValue) (c99 : GValue) (c100 : Bool) (_c103 : Int) (c1008_0_1 : Int) (c1008_1_2 : Str) (c1008_2_3 : Int) (o0_w1011 : List τ3) (o0_w1012 : List τ6) (o2_20 : Bool) : St := ⟨140, [(8, .box 1008 0), (11, .row 1011), (12, .row 1012), (18, .v .bool t100), (19, .v τ5 s86), (20, .v .bool o2_20), (85, .v τ5 c85), (86, .v τ5 c86), (91, .row 1011), (92, .at_ τ2 t92), (93, .at_ τ14 c93), (94, .v τ14 c94), (95, .row 1011), (96, .v τ5 c96), (97, .at_ τ2 t97), (98, .at_ τ14 c98), (99, .v τ14 c99), (100, .v .bool c100)], [(1008, .cells [.v τ5 c1008_0_1, .v .str c1008_1_2, .v τ5 c1008_2_3, .nilS, .nilS]), (1011, .row 78 τ2 false o0_w1011), (1012, .row 108 τ9 false o0_w1012)]⟩
def z71L2_G (N : Nat) (t100 : Bool) (s86 : Int) (c85 : Int) (c86 : Int) (t92 : Str × GValue) (c93 : GValue) (c94 : GValue) (c96 : Int) (t97 : Str × GValue) (c98 : GValue) (c99 : GValue) (c100 : Bool) (c103 : Int) (c1008_0_1 : Int) (c1008_1_2 : Str) (c1008_2_3 : Int) (o0_w1011 : List τ3) (o0_w1012 : List τ6) (s20 : Bool) (s104 : Int) (k : Ex → St → Option τ19) : Option τ19 :=
 z71L2 N s86 c103 o0_w1012 (fun o2_20 => k (.exit 4) (z71L2_tl4 t100 s86 c85 c86 t92 c93 c94 c96 t97 c98 c99 c100 c103 c1008_0_1 c1008_1_2 c1008_2_3 o0_w1011 o0_w1012 o2_20)) N s20 s104
abbrev z71L2_F (N : Nat) : FV z71L2_fs → HV z71L2_bs → (Ex → St → Option τ19) → Option τ19 := fun x y k => z71L2_G N x.2.2.2.1 x.2.2.2.2.1 x.2.2.2.2.2.2.1 x.2.2.2.2.2.2.2.1 x.2.2.2.2.2.2.2.2.2.1 x.2.2.2.2.2.2.2.2.2.2.1 x.2.2.2.2.2.2.2.2.2.2.2.1 x.2.2.2.2.2.2.2.2.2.2.2.2.2.1 x.2.2.2.2.2.2.2.2.2.2.2.2.2.2.1 x.2.2.2.2.2.2.2.2.2.2.2.2.2.2.2.1 x.2.2.2.2.2.2.2.2.2.2.2.2.2.2.2.2.1 x.2.2.2.2.2.2.2.2.2.2.2.2.2.2.2.2.2.1 x.2.2.2.2.2.2.2.2.2.2.2.2.2.2.2.2.2.2.1 y.1.1 y.1.2.1 y.1.2.2.1 y.2.1 y.2.2.1 x.2.2.2.2.2.1 x.2.2.2.2.2.2.2.2.2.2.2.2.2.2.2.2.2.2.2.1 k
abbrev z71L3_fs : List (Nat × Sl) := [(8, .box 1008 0), (11, .row 1011), (12, .row 1012), (18, .v .bool), (19, .v τ5), (20, .v .bool), (85, .v τ5), (86, .v τ5), (91, .skip), (92, .skip), (93, .skip), (94, .skip), (95, .skip), (96, .skip), (97, .skip), (98, .skip), (99, .skip), (100, .skip), (103, .v τ5), (104, .v τ5)]
abbrev z71L3_bs : List (Nat × Sb) := [(1008, .cells [.v τ5, .v .str, .v τ5, .nilS, .nilS]), (1011, .row 78 τ2 false), (1012, .row 108 τ9 false)]
def z71L3_hd (c18 : Bool) (s86 : Int) (c85 : Int) (c86_5 : Int) (c103_6 : Int) (c1008_0_1 : Int) (c1008_1_2 : Str) (c1008_2_3 : Int) (o0_w1011 : List τ3) (o0_w1012 : List τ6) (s20_4 : Bool) (s104_7 : Int) : St := ⟨140, [(8, .box 1008 0), (11, .row 1011), (12, .row 1012), (18, .v .bool c18), (19, .v τ5 s86), (20, .v .bool s20_4), (85, .v τ5 c85), (86, .v τ5 c86_5), (91, .skip), (92, .skip), (93, .skip), (94, .skip), (95, .skip), (96, .skip), (97, .skip), (98, .skip), (99, .skip), (100, .skip), (103, .v τ5 c103_6), (104, .v τ5 s104_7)], [(1008, .cells [.v τ5 c1008_0_1, .v .str c1008_1_2, .v τ5 c1008_2_3, .nilS, .nilS]), (1011, .row 78 τ2 false o0_w1011), (1012, .row 108 τ9 false o0_w1012)]⟩
def z71L3_tl4 (c18 : Bool) (s86 : Int) (c85 : Int) (c86_5 : Int) (_c103_6 : Int) (c1008_0_1 : Int) (c1008_1_2 : Str) (c1008_2_3 : Int) (o0_w1011 : List τ3) (o0_w1012 : List τ6) (o3_20 : Bool) : St := ⟨140, [(8, .box 1008 0), (11, .row 1011), (12, .row 1012), (18, .v .bool c18), (19, .v τ5 s86), (20, .v .bool o3_20), (85, .v τ5 c85), (86, .v τ5 c86_5), (91, .skip), (92, .skip), (93, .skip), (94, .skip), (95, .skip), (96, .skip), (97, .skip), (98, .skip), (99, .skip), (100, .skip)], [(1008, .cells [.v τ5 c1008_0_1, .v .str c1008_1_2, .v τ5 c1008_2_3, .nilS, .nilS]), (1011, .row 78 τ2 false o0_w1011), (1012, .row 108 τ9 false o0_w1012)]⟩
def z71L3_G (N : Nat) (c18 : Bool) (s86 : Int) (c85 : Int) (c86_5 : Int) (c103_6 : Int) (c1008_0_1 : Int) (c1008_1_2 : Str) (c1008_2_3 : Int) (o0_w1011 : List τ3) (o0_w1012 : List τ6) (s20_4 : Bool) (s104_7 : Int) (k : Ex → St → Option τ19) : Option τ19 :=
 z71L3 N s86 c103_6 o0_w1012 (fun o3_20 => k (.exit 4) (z71L3_tl4 c18 s86 c85 c86_5 c103_6 c1008_0_1 c1008_1_2 c1008_2_3 o0_w1011 o0_w1012 o3_20)) N s20_4 s104_7
abbrev z71L3_F (N : Nat) : FV z71L3_fs → HV z71L3_bs → (Ex → St → Option τ19) → Option τ19 := fun x y k => z71L3_G N x.2.2.2.1 x.2.2.2.2.1 x.2.2.2.2.2.2.1 x.2.2.2.2.2.2.2.1 x.2.2.2.2.2.2.2.2.2.2.2.2.2.2.2.2.2.2.1 y.1.1 y.1.2.1 y.1.2.2.1 y.2.1 y.2.2.1 x.2.2.2.2.2.1 x.2.2.2.2.2.2.2.2.2.2.2.2.2.2.2.2.2.2.2.1 k
abbrev z71L1_fs : List (Nat × Sl) := [(8, .box 1008 0), (11, .row 1011), (12, .row 1012), (18, .v .bool), (85, .v τ5), (86, .v τ5)]
abbrev z71L1_bs : List (Nat × Sb) := [(1008, .cells [.v τ5, .v .str, .v τ5, .nilS, .nilS]), (1011, .row 78 τ2 false), (1012, .row 108 τ9 false)]
def z71L1_hd (c85 : Int) (c1008_0_1 : Int) (c1008_1_2 : Str) (c1008_2_3 : Int) (o0_w1011 : List τ3) (o0_w1012 : List τ6) (s18 : Bool) (s86 : Int) : St := ⟨140, [(8, .box 1008 0), (11, .row 1011), (12, .row 1012), (18, .v .bool s18), (85, .v τ5 c85), (86, .v τ5 s86)], [(1008, .cells [.v τ5 c1008_0_1, .v .str c1008_1_2, .v τ5 c1008_2_3, .nilS, .nilS]), (1011, .row 78 τ2 false o0_w1011), (1012, .row 108 τ9 false o0_w1012)]⟩
def z71L1_tl2 (_c85 : Int) (c1008_0_1 : Int) (c1008_1_2 : Str) (c1008_2_3 : Int) (o0_w1011 : List τ3) (_o0_w1012 : List τ6) (o1_18 : Bool) : St := ⟨140, [(8, .box 1008 0), (11, .row 1011), (18, .v .bool o1_18)], [(1008, .cells [.v τ5 c1008_0_1, .v .str c1008_1_2, .v τ5 c1008_2_3, .nilS, .nilS]), (1011, .row 78 τ2 false o0_w1011)]⟩
def z71L1_G (N : Nat) (c85 : Int) (c1008_0_1 : Int) (c1008_1_2 : Str) (c1008_2_3 : Int) (o0_w1011 : List τ3) (o0_w1012 : List τ6) (s18 : Bool) (s86 : Int) (k : Ex → St → Option τ19) : Option τ19 :=
 z71L1 N c85 o0_w1011 o0_w1012 (fun o1_18 => k (.exit 2) (z71L1_tl2 c85 c1008_0_1 c1008_1_2 c1008_2_3 o0_w1011 o0_w1012 o1_18)) N s18 s86
abbrev z71L1_F (N : Nat) : FV z71L1_fs → HV z71L1_bs → (Ex → St → Option τ19) → Option τ19 := fun x y k => z71L1_G N x.2.2.2.2.1 y.1.1 y.1.2.1 y.1.2.2.1 y.2.1 y.2.2.1 x.2.2.2.1 x.2.2.2.2.2.1 k
noncomputable def z71LP (N : Nat) : Nat → Code → St → (Ex → St → Option τ19) → Option τ19 := fun i c =>
 match i with
 | 0 => (LPc 140 z71L0_fs z71L0_bs (z71L0_F N) (fun st k => iter (z71h 0) (exec (z71E N) N c 0) N st k))
 | 2 => (LPc 140 z71L1_fs z71L1_bs (z71L1_F N) (fun st k => iter (z71h 2) (exec (z71E N) N c 2) N st k))
 | 4 => (LPc 140 z71L3_fs z71L3_bs (z71L3_F N) (LPc 140 z71L2_fs z71L2_bs (z71L2_F N) (fun st k => iter (z71h 4) (exec (z71E N) N c 4) N st k)))
 | i => fun st k => iter (z71h i) (exec (z71E N) N c i) N st k
theorem z71L2_step (N : Nat) (t100 : Bool) (s86 : Int) (c85 : Int) (c86 : Int) (t92 : Str × GValue) (c93 : GValue) (c94 : GValue) (c96 : Int) (t97 : Str × GValue) (c98 : GValue) (c99 : GValue) (c100 : Bool) (c103 : Int) (c1008_0_1 : Int) (c1008_1_2 : Str) (c1008_2_3 : Int) (o0_w1011 : List τ3) (o0_w1012 : List τ6) (KX : Nat → St → Option τ19) (I : St → Option τ19) (s20 : Bool) (s104 : Int) :
   execL (z71LP N) (z71E N) z71c0 4 (z71L2_hd t100 s86 c85 c86 t92 c93 c94 c96 t97 c98 c99 c100 c103 c1008_0_1 c1008_1_2 c1008_2_3 o0_w1011 o0_w1012 s20 s104) (roundK (z71h 4) I KX (z71R N)) = z71L2T N s86 c103 o0_w1012 (fun o2_20 => KX 4 (z71L2_tl4 t100 s86 c85 c86 t92 c93 c94 c96 t97 c98 c99 c100 c103 c1008_0_1 c1008_1_2 c1008_2_3 o0_w1011 o0_w1012 o2_20)) (fun s20 s104 => I (z71L2_hd t100 s86 c85 c86 t92 c93 c94 c96 t97 c98 c99 c100 c103 c1008_0_1 c1008_1_2 c1008_2_3 o0_w1011 o0_w1012 s20 s104)) s20 s104 := by kernel_rfl
theorem z71L2_ok (N : Nat) : ∀ x y k, (∀ st, k .ret st = (z71R N) st) → iter (z71h 4) (exec (z71E N) N z71c0 4) N ⟨140, unF z71L2_fs x, unH z71L2_bs y⟩ k = z71L2_F N x y k := fun x y k hk =>
 iter_link (S := (Bool) × (Int) × Unit) (z71h 4) _ (execL (z71LP N) (z71E N) z71c0 4) (z71R N) (fun st k hk => execL_eq _ _ N _ z71c0 4 (show LoopsOk (z71LP N) (z71E N) N (z71R N) [] from trivial) st k hk) (fun s => z71L2_hd x.2.2.2.1 x.2.2.2.2.1 x.2.2.2.2.2.2.1 x.2.2.2.2.2.2.2.1 x.2.2.2.2.2.2.2.2.2.1 x.2.2.2.2.2.2.2.2.2.2.1 x.2.2.2.2.2.2.2.2.2.2.2.1 x.2.2.2.2.2.2.2.2.2.2.2.2.2.1 x.2.2.2.2.2.2.2.2.2.2.2.2.2.2.1 x.2.2.2.2.2.2.2.2.2.2.2.2.2.2.2.1 x.2.2.2.2.2.2.2.2.2.2.2.2.2.2.2.2.1 x.2.2.2.2.2.2.2.2.2.2.2.2.2.2.2.2.2.1 x.2.2.2.2.2.2.2.2.2.2.2.2.2.2.2.2.2.2.1 y.1.1 y.1.2.1 y.1.2.2.1 y.2.1 y.2.2.1 s.1 s.2.1) k hk
   (fun self s => z71L2T N x.2.2.2.2.1 x.2.2.2.2.2.2.2.2.2.2.2.2.2.2.2.2.2.2.1 y.2.2.1 (fun o2_20 => k (.exit 4) (z71L2_tl4 x.2.2.2.1 x.2.2.2.2.1 x.2.2.2.2.2.2.1 x.2.2.2.2.2.2.2.1 x.2.2.2.2.2.2.2.2.2.1 x.2.2.2.2.2.2.2.2.2.2.1 x.2.2.2.2.2.2.2.2.2.2.2.1 x.2.2.2.2.2.2.2.2.2.2.2.2.2.1 x.2.2.2.2.2.2.2.2.2.2.2.2.2.2.1 x.2.2.2.2.2.2.2.2.2.2.2.2.2.2.2.1 x.2.2.2.2.2.2.2.2.2.2.2.2.2.2.2.2.1 x.2.2.2.2.2.2.2.2.2.2.2.2.2.2.2.2.2.1 x.2.2.2.2.2.2.2.2.2.2.2.2.2.2.2.2.2.2.1 y.1.1 y.1.2.1 y.1.2.2.1 y.2.1 y.2.2.1 o2_20)) (fun s20 s104 => self (s20, s104, ())) s.1 s.2.1) (fun n s => z71L2 N x.2.2.2.2.1 x.2.2.2.2.2.2.2.2.2.2.2.2.2.2.2.2.2.2.1 y.2.2.1 (fun o2_20 => k (.exit 4) (z71L2_tl4 x.2.2.2.1 x.2.2.2.2.1 x.2.2.2.2.2.2.1 x.2.2.2.2.2.2.2.1 x.2.2.2.2.2.2.2.2.2.1 x.2.2.2.2.2.2.2.2.2.2.1 x.2.2.2.2.2.2.2.2.2.2.2.1 x.2.2.2.2.2.2.2.2.2.2.2.2.2.1 x.2.2.2.2.2.2.2.2.2.2.2.2.2.2.1 x.2.2.2.2.2.2.2.2.2.2.2.2.2.2.2.1 x.2.2.2.2.2.2.2.2.2.2.2.2.2.2.2.2.1 x.2.2.2.2.2.2.2.2.2.2.2.2.2.2.2.2.2.1 x.2.2.2.2.2.2.2.2.2.2.2.2.2.2.2.2.2.2.1 y.1.1 y.1.2.1 y.1.2.2.1 y.2.1 y.2.2.1 o2_20)) n s.1 s.2.1) (fun _ => rfl) (fun _ _ => rfl)
   (fun I s => z71L2_step N x.2.2.2.1 x.2.2.2.2.1 x.2.2.2.2.2.2.1 x.2.2.2.2.2.2.2.1 x.2.2.2.2.2.2.2.2.2.1 x.2.2.2.2.2.2.2.2.2.2.1 x.2.2.2.2.2.2.2.2.2.2.2.1 x.2.2.2.2.2.2.2.2.2.2.2.2.2.1 x.2.2.2.2.2.2.2.2.2.2.2.2.2.2.1 x.2.2.2.2.2.2.2.2.2.2.2.2.2.2.2.1 x.2.2.2.2.2.2.2.2.2.2.2.2.2.2.2.2.1 x.2.2.2.2.2.2.2.2.2.2.2.2.2.2.2.2.2.1 x.2.2.2.2.2.2.2.2.2.2.2.2.2.2.2.2.2.2.1 y.1.1 y.1.2.1 y.1.2.2.1 y.2.1 y.2.2.1 (fun j => k (.exit j)) I s.1 s.2.1) N (x.2.2.2.2.2.1, x.2.2.2.2.2.2.2.2.2.2.2.2.2.2.2.2.2.2.2.1, ())
theorem z71L3_step (N : Nat) (c18 : Bool) (s86 : Int) (c85 : Int) (c86_5 : Int) (c103_6 : Int) (c1008_0_1 : Int) (c1008_1_2 : Str) (c1008_2_3 : Int) (o0_w1011 : List τ3) (o0_w1012 : List τ6) (KX : Nat → St → Option τ19) (I : St → Option τ19) (s20_4 : Bool) (s104_7 : Int) :
   execL (z71LP N) (z71E N) z71c0 4 (z71L3_hd c18 s86 c85 c86_5 c103_6 c1008_0_1 c1008_1_2 c1008_2_3 o0_w1011 o0_w1012 s20_4 s104_7) (roundK (z71h 4) I KX (z71R N)) = z71L3T N s86 c103_6 o0_w1012 (fun o3_20 => KX 4 (z71L3_tl4 c18 s86 c85 c86_5 c103_6 c1008_0_1 c1008_1_2 c1008_2_3 o0_w1011 o0_w1012 o3_20)) (fun s20_4 s104_7 => I (z71L3_hd c18 s86 c85 c86_5 c103_6 c1008_0_1 c1008_1_2 c1008_2_3 o0_w1011 o0_w1012 s20_4 s104_7)) s20_4 s104_7 := by kernel_rfl
theorem z71L3_ok (N : Nat) : ∀ x y k, (∀ st, k .ret st = (z71R N) st) → iter (z71h 4) (exec (z71E N) N z71c0 4) N ⟨140, unF z71L3_fs x, unH z71L3_bs y⟩ k = z71L3_F N x y k := fun x y k hk =>
 iter_link (S := (Bool) × (Int) × Unit) (z71h 4) _ (execL (z71LP N) (z71E N) z71c0 4) (z71R N) (fun st k hk => execL_eq _ _ N _ z71c0 4 (show LoopsOk (z71LP N) (z71E N) N (z71R N) [] from trivial) st k hk) (fun s => z71L3_hd x.2.2.2.1 x.2.2.2.2.1 x.2.2.2.2.2.2.1 x.2.2.2.2.2.2.2.1 x.2.2.2.2.2.2.2.2.2.2.2.2.2.2.2.2.2.2.1 y.1.1 y.1.2.1 y.1.2.2.1 y.2.1 y.2.2.1 s.1 s.2.1) k hk
   (fun self s => z71L3T N x.2.2.2.2.1 x.2.2.2.2.2.2.2.2.2.2.2.2.2.2.2.2.2.2.1 y.2.2.1 (fun o3_20 => k (.exit 4) (z71L3_tl4 x.2.2.2.1 x.2.2.2.2.1 x.2.2.2.2.2.2.1 x.2.2.2.2.2.2.2.1 x.2.2.2.2.2.2.2.2.2.2.2.2.2.2.2.2.2.2.1 y.1.1 y.1.2.1 y.1.2.2.1 y.2.1 y.2.2.1 o3_20)) (fun s20_4 s104_7 => self (s20_4, s104_7, ())) s.1 s.2.1) (fun n s => z71L3 N x.2.2.2.2.1 x.2.2.2.2.2.2.2.2.2.2.2.2.2.2.2.2.2.2.1 y.2.2.1 (fun o3_20 => k (.exit 4) (z71L3_tl4 x.2.2.2.1 x.2.2.2.2.1 x.2.2.2.2.2.2.1 x.2.2.2.2.2.2.2.1 x.2.2.2.2.2.2.2.2.2.2.2.2.2.2.2.2.2.2.1 y.1.1 y.1.2.1 y.1.2.2.1 y.2.1 y.2.2.1 o3_20)) n s.1 s.2.1) (fun _ => rfl) (fun _ _ => rfl)
   (fun I s => z71L3_step N x.2.2.2.1 x.2.2.2.2.1 x.2.2.2.2.2.2.1 x.2.2.2.2.2.2.2.1 x.2.2.2.2.2.2.2.2.2.2.2.2.2.2.2.2.2.2.1 y.1.1 y.1.2.1 y.1.2.2.1 y.2.1 y.2.2.1 (fun j => k (.exit j)) I s.1 s.2.1) N (x.2.2.2.2.2.1, x.2.2.2.2.2.2.2.2.2.2.2.2.2.2.2.2.2.2.2.1, ())
theorem z71lp4 (N : Nat) : ∀ st k, (∀ st, k .ret st = (z71R N) st) → z71LP N 4 z71c0 st k = iter (Env.hint (z71E N) 4) (exec (z71E N) N z71c0 4) N st k := fun st k hk => LPc_eq 140 z71L3_fs z71L3_bs _ _ (z71R N) (z71L3_ok N) _ st k hk (LPc_eq 140 z71L2_fs z71L2_bs _ _ (z71R N) (z71L2_ok N) _ st k hk (rfl))
theorem z71L1_step (N : Nat) (c85 : Int) (c1008_0_1 : Int) (c1008_1_2 : Str) (c1008_2_3 : Int) (o0_w1011 : List τ3) (o0_w1012 : List τ6) (KX : Nat → St → Option τ19) (I : St → Option τ19) (s18 : Bool) (s86 : Int) :
   execL (z71LP N) (z71E N) z71c1 2 (z71L1_hd c85 c1008_0_1 c1008_1_2 c1008_2_3 o0_w1011 o0_w1012 s18 s86) (roundK (z71h 2) I KX (z71R N)) = z71L1T N c85 o0_w1011 o0_w1012 (fun o1_18 => KX 2 (z71L1_tl2 c85 c1008_0_1 c1008_1_2 c1008_2_3 o0_w1011 o0_w1012 o1_18)) (fun s18 s86 => I (z71L1_hd c85 c1008_0_1 c1008_1_2 c1008_2_3 o0_w1011 o0_w1012 s18 s86)) s18 s86 := by kernel_rfl
theorem z71L1_ok (N : Nat) : ∀ x y k, (∀ st, k .ret st = (z71R N) st) → iter (z71h 2) (exec (z71E N) N z71c1 2) N ⟨140, unF z71L1_fs x, unH z71L1_bs y⟩ k = z71L1_F N x y k := fun x y k hk =>
 iter_link (S := (Bool) × (Int) × Unit) (z71h 2) _ (execL (z71LP N) (z71E N) z71c1 2) (z71R N) (fun st k hk => execL_eq _ _ N _ z71c1 2 (show LoopsOk (z71LP N) (z71E N) N (z71R N) [(4, z71c0)] from ⟨z71lp4 N, trivial⟩) st k hk) (fun s => z71L1_hd x.2.2.2.2.1 y.1.1 y.1.2.1 y.1.2.2.1 y.2.1 y.2.2.1 s.1 s.2.1) k hk
   (fun self s => z71L1T N x.2.2.2.2.1 y.2.1 y.2.2.1 (fun o1_18 => k (.exit 2) (z71L1_tl2 x.2.2.2.2.1 y.1.1 y.1.2.1 y.1.2.2.1 y.2.1 y.2.2.1 o1_18)) (fun s18 s86 => self (s18, s86, ())) s.1 s.2.1) (fun n s => z71L1 N x.2.2.2.2.1 y.2.1 y.2.2.1 (fun o1_18 => k (.exit 2) (z71L1_tl2 x.2.2.2.2.1 y.1.1 y.1.2.1 y.1.2.2.1 y.2.1 y.2.2.1 o1_18)) n s.1 s.2.1) (fun _ => rfl) (fun _ _ => rfl)
   (fun I s => z71L1_step N x.2.2.2.2.1 y.1.1 y.1.2.1 y.1.2.2.1 y.2.1 y.2.2.1 (fun j => k (.exit j)) I s.1 s.2.1) N (x.2.2.2.1, x.2.2.2.2.2.1, ())
theorem z71lp2 (N : Nat) : ∀ st k, (∀ st, k .ret st = (z71R N) st) → z71LP N 2 z71c1 st k = iter (Env.hint (z71E N) 2) (exec (z71E N) N z71c1 2) N st k := fun st k hk => LPc_eq 140 z71L1_fs z71L1_bs _ _ (z71R N) (z71L1_ok N) _ st k hk (rfl)
theorem z71L0_step (N : Nat) (x2 : List τ1) (c36 : List τ3) (c37 : Int) (κ4_0 : τ7) (κ4_1 : List τ6) (κ4_2 : τ12) (κ4_3 : List τ11) (κ4_4 : τ13) (κ5_0 : Int) (κ5_1 : Str) (κ5_2 : Int) (κ5_3 : List Str) (κ5_4 : List τ3) (κ7_0 : Str) (κ7_1 : List τ1) (κ8_0 : Int) (κ8_1 : Str) (κ8_2 : Int) (KX : Nat → St → Option τ19) (I : St → Option τ19) (s38 : Int) (w1011 : List τ3) (w1012 : List τ6) :
   execL (z71LP N) (z71E N) z71c2 0 (z71L0_hd x2 c36 c37 κ4_0 κ4_1 κ4_2 κ4_3 κ4_4 κ5_0 κ5_1 κ5_2 κ5_3 κ5_4 κ7_0 κ7_1 κ8_0 κ8_1 κ8_2 s38 w1011 w1012) (roundK (z71h 0) I KX (z71R N)) = z71L0T N x2 c36 c37 κ4_0 κ4_1 κ7_0 κ7_1 (fun o0_w1011 o0_w1012 => KX 0 (z71L0_tl0 x2 c36 c37 κ4_0 κ4_1 κ4_2 κ4_3 κ4_4 κ5_0 κ5_1 κ5_2 κ5_3 κ5_4 κ7_0 κ7_1 κ8_0 κ8_1 κ8_2 o0_w1011 o0_w1012)) (fun s38 w1011 w1012 => I (z71L0_hd x2 c36 c37 κ4_0 κ4_1 κ4_2 κ4_3 κ4_4 κ5_0 κ5_1 κ5_2 κ5_3 κ5_4 κ7_0 κ7_1 κ8_0 κ8_1 κ8_2 s38 w1011 w1012)) s38 w1011 w1012 := by kernel_rfl
theorem z71L0_ok (N : Nat) : ∀ x y k, (∀ st, k .ret st = (z71R N) st) → iter (z71h 0) (exec (z71E N) N z71c2 0) N ⟨140, unF z71L0_fs x, unH z71L0_bs y⟩ k = z71L0_F N x y k := fun x y k hk =>
 iter_link (S := (Int) × τ18 × (List τ6) × Unit) (z71h 0) _ (execL (z71LP N) (z71E N) z71c2 0) (z71R N) (fun st k hk => execL_eq _ _ N _ z71c2 0 (show LoopsOk (z71LP N) (z71E N) N (z71R N) [] from trivial) st k hk) (fun s => z71L0_hd x.1 x.2.2.2.2.2.2.2.1 x.2.2.2.2.2.2.2.2.1 y.1.1 y.1.2.1 y.1.2.2.1 y.1.2.2.2.1 y.1.2.2.2.2.1 y.2.1.1 y.2.1.2.1 y.2.1.2.2.1 y.2.1.2.2.2.1 y.2.1.2.2.2.2.1 y.2.2.1.1 y.2.2.1.2.1 y.2.2.2.1.1 y.2.2.2.1.2.1 y.2.2.2.1.2.2.1 s.1 s.2.1 s.2.2.1) k hk
   (fun self s => z71L0T N x.1 x.2.2.2.2.2.2.2.1 x.2.2.2.2.2.2.2.2.1 y.1.1 y.1.2.1 y.2.2.1.1 y.2.2.1.2.1 (fun o0_w1011 o0_w1012 => k (.exit 0) (z71L0_tl0 x.1 x.2.2.2.2.2.2.2.1 x.2.2.2.2.2.2.2.2.1 y.1.1 y.1.2.1 y.1.2.2.1 y.1.2.2.2.1 y.1.2.2.2.2.1 y.2.1.1 y.2.1.2.1 y.2.1.2.2.1 y.2.1.2.2.2.1 y.2.1.2.2.2.2.1 y.2.2.1.1 y.2.2.1.2.1 y.2.2.2.1.1 y.2.2.2.1.2.1 y.2.2.2.1.2.2.1 o0_w1011 o0_w1012)) (fun s38 w1011 w1012 => self (s38, w1011, w1012, ())) s.1 s.2.1 s.2.2.1) (fun n s => z71L0 N x.1 x.2.2.2.2.2.2.2.1 x.2.2.2.2.2.2.2.2.1 y.1.1 y.1.2.1 y.2.2.1.1 y.2.2.1.2.1 (fun o0_w1011 o0_w1012 => k (.exit 0) (z71L0_tl0 x.1 x.2.2.2.2.2.2.2.1 x.2.2.2.2.2.2.2.2.1 y.1.1 y.1.2.1 y.1.2.2.1 y.1.2.2.2.1 y.1.2.2.2.2.1 y.2.1.1 y.2.1.2.1 y.2.1.2.2.1 y.2.1.2.2.2.1 y.2.1.2.2.2.2.1 y.2.2.1.1 y.2.2.1.2.1 y.2.2.2.1.1 y.2.2.2.1.2.1 y.2.2.2.1.2.2.1 o0_w1011 o0_w1012)) n s.1 s.2.1 s.2.2.1) (fun _ => rfl) (fun _ _ => rfl)
   (fun I s => z71L0_step N x.1 x.2.2.2.2.2.2.2.1 x.2.2.2.2.2.2.2.2.1 y.1.1 y.1.2.1 y.1.2.2.1 y.1.2.2.2.1 y.1.2.2.2.2.1 y.2.1.1 y.2.1.2.1 y.2.1.2.2.1 y.2.1.2.2.2.1 y.2.1.2.2.2.2.1 y.2.2.1.1 y.2.2.1.2.1 y.2.2.2.1.1 y.2.2.2.1.2.1 y.2.2.2.1.2.2.1 (fun j => k (.exit j)) I s.1 s.2.1 s.2.2.1) N (x.2.2.2.2.2.2.2.2.2.1, y.2.2.2.2.1, y.2.2.2.2.2.1, ())
theorem z71lp0 (N : Nat) : ∀ st k, (∀ st, k .ret st = (z71R N) st) → z71LP N 0 z71c2 st k = iter (Env.hint (z71E N) 0) (exec (z71E N) N z71c2 0) N st k := fun st k hk => LPc_eq 140 z71L0_fs z71L0_bs _ _ (z71R N) (z71L0_ok N) _ st k hk (rfl)
theorem z71core (N : Nat) (x : SV [.v τ4, .v τ14, .v τ0, .v τ15]) (y : BV []) : runL (z71E N) Tryz.f32 (z71g N) z71pk (z71LP N) x y = config_chosen N x.1 x.2.1 x.2.2.1 x.2.2.2.1 := by kernel_rfl
theorem z71sound (N : Nat) : Snd 32 (z71g N) :=
 sndL (z71fn_ok N) Tryz.func32 rfl Tryz.call32 (z71g N) z71pk (fun _ _ => rfl) N (z71LP N) (show LoopsOk (z71LP N) (z71E N) N (z71R N) [(0, z71c2), (2, z71c1), (4, z71c0)] from ⟨z71lp0 N, z71lp2 N, z71lp4 N, trivial⟩) (z71core N)
abbrev z66sg (f : SV [.v τ14, .v τ14] → BV [] → Option (Bool)) : AF := { ps := [.v τ14, .v τ14], bs := [], rs := [.v .bool], cs := [], R := Bool, out := fun z => ((z, ()), ()), f := f }
def z55L0T (_N : Nat) (r_ref2_SameValue : GValue → GValue → Option (Bool)) (c44 : Int) (κ2_4 : List τ3) (κ3_4 : List τ3) (k0 : Option Bool) (self : Int → Option Bool) (s45 : Int) : Option Bool :=
 br (decide (s45 < c44))
   (bnd (geti κ2_4 s45) fun t51 =>
   bnd (geti κ3_4 s45) fun t57 =>
   br (!(t51.1 == t57.1))
     (some false)
     (bnd (geti κ2_4 s45) fun t65 =>
     bnd (geti κ3_4 s45) fun t71 =>
     bnd (r_ref2_SameValue t65.2 t71.2) fun t74 =>
     br (!t74)
       (some false)
       (self (IntKind.i64.wrap (s45 + (1 : Int))))))
   (k0)
def z55L0 (N : Nat) (r_ref2_SameValue : GValue → GValue → Option (Bool)) (c44 : Int) (κ2_4 : List τ3) (κ3_4 : List τ3) (k0 : Option Bool) : Nat → Int → Option Bool
 | 0, _ => none
 | n + 1, s45 => z55L0T N r_ref2_SameValue c44 κ2_4 κ3_4 k0 (z55L0 N r_ref2_SameValue c44 κ2_4 κ3_4 k0 n) s45
def ref2_SameValue_b (N : Nat) (r_ref2_SameValue : GValue → GValue → Option (Bool)) (x0 : GValue) (x1 : GValue) : Option Bool :=
 br (x0.kind != x1.kind)
   (some false)
   (br (!(x0.text == x1.text))
     (some false)
     (br (x0.number != x1.number)
       (some false)
       (bnd (slices_Equal_string_string N x0.list x1.list) fun t30 =>
       br (!t30)
         (some false)
         (br ((x0.cases.length : Int) != (x1.cases.length : Int))
           (some false)
           (z55L0 N r_ref2_SameValue (x0.cases.length : Int) x0.cases x1.cases (some true) N (0 : Int))))))
abbrev z55sg (f : SV [.v τ14, .v τ14] → BV [] → Option (Bool)) : AF := { ps := [.v τ14, .v τ14], bs := [], rs := [.v .bool], cs := [], R := Bool, out := fun z => ((z, ()), ()), f := f }
abbrev z55pk : SV [.v .bool] → BV [] → Bool := fun x _ => x.1
def z55fn (N : Nat) (r_ref2_SameValue : GValue → GValue → Option (Bool)) : FuncId → Option Tmp → Option AF := fun f _ =>
 match f with
   | 10 => some (z66sg fun x _ => r_ref2_SameValue x.1 x.2.1)
   | 20 => some (z18g N)
   | _ => none
theorem z55fn_ok (N : Nat) (r_ref2_SameValue : GValue → GValue → Option (Bool)) (h_ref2_SameValue : Sound Tryz.prog GW B0G 10 (z66sg fun x y => r_ref2_SameValue x.1 x.2.1)) : ∀ f q F, z55fn N r_ref2_SameValue f q = some F → Sound Tryz.prog GW B0G f F := by
 intro f q F h
 unfold z55fn at h
 split at h
 · cases h; exact h_ref2_SameValue
 · cases h; exact z18sound N
 · cases h
def z55h : Nat → Hint := fun i =>
 match i with
 | 0 => ⟨[], [2, 3, 44, 45], [1002, 1003], [], [], []⟩
 | _ => hint0
abbrev z55E (N : Nat) (r_ref2_SameValue : GValue → GValue → Option (Bool)) : Env := mkE z55h (z55fn N r_ref2_SameValue) (fun _ => false) (fun _ => false)
noncomputable abbrev z55c0 : Code := cAt (bodyOf Tryz.f10) [true, true, false, true, false, false]
abbrev z55L0_fs : List (Nat × Sl) := [(2, .box 1002 0), (3, .box 1003 0), (44, .v τ5), (45, .v τ5)]
abbrev z55L0_bs : List (Nat × Sb) := [(1002, .cells [.v τ5, .v .str, .v τ5, .v τ24, .v (.sl τ2)]), (1003, .cells [.v τ5, .v .str, .v τ5, .v τ24, .v (.sl τ2)])]
def z55L0_hd (c44 : Int) (κ2_0 : Int) (κ2_1 : Str) (κ2_2 : Int) (κ2_3 : List Str) (κ2_4 : List τ3) (κ3_0 : Int) (κ3_1 : Str) (κ3_2 : Int) (κ3_3 : List Str) (κ3_4 : List τ3) (s45 : Int) : St := ⟨78, [(2, .box 1002 0), (3, .box 1003 0), (44, .v τ5 c44), (45, .v τ5 s45)], [(1002, .cells [.v τ5 κ2_0, .v .str κ2_1, .v τ5 κ2_2, .v τ24 κ2_3, .v (.sl τ2) κ2_4]), (1003, .cells [.v τ5 κ3_0, .v .str κ3_1, .v τ5 κ3_2, .v τ24 κ3_3, .v (.sl τ2) κ3_4])]⟩
def z55L0_tl0 (_c44 : Int) (_κ2_0 : Int) (_κ2_1 : Str) (_κ2_2 : Int) (_κ2_3 : List Str) (_κ2_4 : List τ3) (_κ3_0 : Int) (_κ3_1 : Str) (_κ3_2 : Int) (_κ3_3 : List Str) (_κ3_4 : List τ3) : St := ⟨78, [], []⟩
def z55L0_G (N : Nat) (r_ref2_SameValue : GValue → GValue → Option (Bool)) (c44 : Int) (κ2_0 : Int) (κ2_1 : Str) (κ2_2 : Int) (κ2_3 : List Str) (κ2_4 : List τ3) (κ3_0 : Int) (κ3_1 : Str) (κ3_2 : Int) (κ3_3 : List Str) (κ3_4 : List τ3) (s45 : Int) (k : Ex → St → Option Bool) : Option Bool :=
 z55L0 N r_ref2_SameValue c44 κ2_4 κ3_4 (k (.exit 0) (z55L0_tl0 c44 κ2_0 κ2_1 κ2_2 κ2_3 κ2_4 κ3_0 κ3_1 κ3_2 κ3_3 κ3_4)) N s45
abbrev z55L0_F (N : Nat) (r_ref2_SameValue : GValue → GValue → Option (Bool)) : FV z55L0_fs → HV z55L0_bs → (Ex → St → Option Bool) → Option Bool := fun x y k => z55L0_G N r_ref2_SameValue x.2.2.1 y.1.1 y.1.2.1 y.1.2.2.1 y.1.2.2.2.1 y.1.2.2.2.2.1 y.2.1.1 y.2.1.2.1 y.2.1.2.2.1 y.2.1.2.2.2.1 y.2.1.2.2.2.2.1 x.2.2.2.1 k
noncomputable def z55LP (N : Nat) (r_ref2_SameValue : GValue → GValue → Option (Bool)) : Nat → Code → St → (Ex → St → Option Bool) → Option Bool := fun i c =>
 match i with
 | 0 => (LPc 78 z55L0_fs z55L0_bs (z55L0_F N r_ref2_SameValue) (fun st k => iter (z55h 0) (exec (z55E N r_ref2_SameValue) N c 0) N st k))
 | i => fun st k => iter (z55h i) (exec (z55E N r_ref2_SameValue) N c i) N st k
theorem z55L0_step (N : Nat) (r_ref2_SameValue : GValue → GValue → Option (Bool)) (c44 : Int) (κ2_0 : Int) (κ2_1 : Str) (κ2_2 : Int) (κ2_3 : List Str) (κ2_4 : List τ3) (κ3_0 : Int) (κ3_1 : Str) (κ3_2 : Int) (κ3_3 : List Str) (κ3_4 : List τ3) (KX : Nat → St → Option Bool) (I : St → Option Bool) (s45 : Int) :
   execL (z55LP N r_ref2_SameValue) (z55E N r_ref2_SameValue) z55c0 0 (z55L0_hd c44 κ2_0 κ2_1 κ2_2 κ2_3 κ2_4 κ3_0 κ3_1 κ3_2 κ3_3 κ3_4 s45) (roundK (z55h 0) I KX (resD (z55E N r_ref2_SameValue) Tryz.f10 (z55sg fun x _ => ref2_SameValue_b N r_ref2_SameValue x.1 x.2.1) z55pk)) = z55L0T N r_ref2_SameValue c44 κ2_4 κ3_4 (KX 0 (z55L0_tl0 c44 κ2_0 κ2_1 κ2_2 κ2_3 κ2_4 κ3_0 κ3_1 κ3_2 κ3_3 κ3_4)) (fun s45 => I (z55L0_hd c44 κ2_0 κ2_1 κ2_2 κ2_3 κ2_4 κ3_0 κ3_1 κ3_2 κ3_3 κ3_4 s45)) s45 := by kernel_rfl
theorem z55L0_ok (N : Nat) (r_ref2_SameValue : GValue → GValue → Option (Bool)) : ∀ x y k, (∀ st, k .ret st = (resD (z55E N r_ref2_SameValue) Tryz.f10 (z55sg fun x _ => ref2_SameValue_b N r_ref2_SameValue x.1 x.2.1) z55pk) st) → iter (z55h 0) (exec (z55E N r_ref2_SameValue) N z55c0 0) N ⟨78, unF z55L0_fs x, unH z55L0_bs y⟩ k = z55L0_F N r_ref2_SameValue x y k := fun x y k hk =>
 iter_link (S := (Int) × Unit) (z55h 0) _ (execL (z55LP N r_ref2_SameValue) (z55E N r_ref2_SameValue) z55c0 0) (resD (z55E N r_ref2_SameValue) Tryz.f10 (z55sg fun x _ => ref2_SameValue_b N r_ref2_SameValue x.1 x.2.1) z55pk) (fun st k hk => execL_eq _ _ N _ z55c0 0 (show LoopsOk (z55LP N r_ref2_SameValue) (z55E N r_ref2_SameValue) N (resD (z55E N r_ref2_SameValue) Tryz.f10 (z55sg fun x _ => ref2_SameValue_b N r_ref2_SameValue x.1 x.2.1) z55pk) [] from trivial) st k hk) (fun s => z55L0_hd x.2.2.1 y.1.1 y.1.2.1 y.1.2.2.1 y.1.2.2.2.1 y.1.2.2.2.2.1 y.2.1.1 y.2.1.2.1 y.2.1.2.2.1 y.2.1.2.2.2.1 y.2.1.2.2.2.2.1 s.1) k hk
   (fun self s => z55L0T N r_ref2_SameValue x.2.2.1 y.1.2.2.2.2.1 y.2.1.2.2.2.2.1 (k (.exit 0) (z55L0_tl0 x.2.2.1 y.1.1 y.1.2.1 y.1.2.2.1 y.1.2.2.2.1 y.1.2.2.2.2.1 y.2.1.1 y.2.1.2.1 y.2.1.2.2.1 y.2.1.2.2.2.1 y.2.1.2.2.2.2.1)) (fun s45 => self (s45, ())) s.1) (fun n s => z55L0 N r_ref2_SameValue x.2.2.1 y.1.2.2.2.2.1 y.2.1.2.2.2.2.1 (k (.exit 0) (z55L0_tl0 x.2.2.1 y.1.1 y.1.2.1 y.1.2.2.1 y.1.2.2.2.1 y.1.2.2.2.2.1 y.2.1.1 y.2.1.2.1 y.2.1.2.2.1 y.2.1.2.2.2.1 y.2.1.2.2.2.2.1)) n s.1) (fun _ => rfl) (fun _ _ => rfl)
   (fun I s => z55L0_step N r_ref2_SameValue x.2.2.1 y.1.1 y.1.2.1 y.1.2.2.1 y.1.2.2.2.1 y.1.2.2.2.2.1 y.2.1.1 y.2.1.2.1 y.2.1.2.2.1 y.2.1.2.2.2.1 y.2.1.2.2.2.2.1 (fun j => k (.exit j)) I s.1) N (x.2.2.2.1, ())
theorem z55lp0 (N : Nat) (r_ref2_SameValue : GValue → GValue → Option (Bool)) : ∀ st k, (∀ st, k .ret st = (resD (z55E N r_ref2_SameValue) Tryz.f10 (z55sg fun x _ => ref2_SameValue_b N r_ref2_SameValue x.1 x.2.1) z55pk) st) → z55LP N r_ref2_SameValue 0 z55c0 st k = iter (Env.hint (z55E N r_ref2_SameValue) 0) (exec (z55E N r_ref2_SameValue) N z55c0 0) N st k := fun st k hk => LPc_eq 78 z55L0_fs z55L0_bs _ _ (resD (z55E N r_ref2_SameValue) Tryz.f10 (z55sg fun x _ => ref2_SameValue_b N r_ref2_SameValue x.1 x.2.1) z55pk) (z55L0_ok N r_ref2_SameValue) _ st k hk (rfl)
theorem z55core (N : Nat) (r_ref2_SameValue : GValue → GValue → Option (Bool)) (x : SV [.v τ14, .v τ14]) (y : BV []) : runL (z55E N r_ref2_SameValue) Tryz.f10 (z55sg fun x _ => ref2_SameValue_b N r_ref2_SameValue x.1 x.2.1) z55pk (z55LP N r_ref2_SameValue) x y = ref2_SameValue_b N r_ref2_SameValue x.1 x.2.1 := by kernel_rfl
theorem z55sound (N : Nat) (r_ref2_SameValue : GValue → GValue → Option (Bool)) (h_ref2_SameValue : Sound Tryz.prog GW B0G 10 (z66sg fun x y => r_ref2_SameValue x.1 x.2.1)) : Sound Tryz.prog GW B0G 10 (z55sg fun x _ => ref2_SameValue_b N r_ref2_SameValue x.1 x.2.1) :=
 runD_sound (mkE_ok z55h (z55fn N r_ref2_SameValue) _ _ (z55fn_ok N r_ref2_SameValue h_ref2_SameValue)) Tryz.func10 rfl Tryz.call10 (z55sg fun x _ => ref2_SameValue_b N r_ref2_SameValue x.1 x.2.1) z55pk (fun _ _ => rfl) N (fun x y _ h => ((runL_eq (z55E N r_ref2_SameValue) N Tryz.f10 (z55sg fun x _ => ref2_SameValue_b N r_ref2_SameValue x.1 x.2.1) z55pk (z55LP N r_ref2_SameValue) (show LoopsOk (z55LP N r_ref2_SameValue) (z55E N r_ref2_SameValue) N (resD (z55E N r_ref2_SameValue) Tryz.f10 (z55sg fun x _ => ref2_SameValue_b N r_ref2_SameValue x.1 x.2.1) z55pk) [(0, z55c0)] from ⟨z55lp0 N r_ref2_SameValue, trivial⟩) x y).trans (z55core N r_ref2_SameValue x y)).trans h)
def ref2_SameValue (N : Nat) : Nat → GValue → GValue → Option (Bool)
 | 0 => fun _ _ => none
 | d + 1 => ref2_SameValue_b N (ref2_SameValue N d)
theorem z66sound (N : Nat) : ∀ d, Sound Tryz.prog GW B0G 10 (z66sg fun x y => ref2_SameValue N d x.1 x.2.1)
 | 0 => Sound.never Tryz.call10 (fun _ _ => rfl)
 | d + 1 => z55sound N (ref2_SameValue N d) (z66sound N d)
end
end Go.Proofs.YtbekhaioddmliaaGreatDoor


/- A function that turns a row of its caller's where it lies, and gives nothing back: the caller's slice is the one it was. -/
namespace Go.Proofs.YtbekhaioddmliaaGreatDoor
set_option linter.unusedVariables false
set_option linter.unusedSimpArgs false
open Go Go.RowKit Go.Shelf
theorem Sound.ofRowKept {P : Program} {G : World → Prop} {B0 : Nat} {f : FuncId} {ps : List Sl} {e : TypeId} {t : Ty} {F : SV ps → List t.den → Option (List t.den)}
   (hcall : ∀ (args : Array Value) (w : World), (callFunc f args).run P w = .ok (.enter f args) w) (hz : 0 < t.sz)
   (h : ∀ (M : Nat → Nat → Prop) (w : World) (g : Gh) (v0 : Value) (vs : List Value) (x : SV ps) (xs zs : List t.den) (cs : List Value), G w → (∀ b o, M b o → b < w.heap.size) → (∀ b, v0.ownBlock = some b → ∀ o, M b o) →
     w.ownsRow 0 e t.sz v0 xs.length cs → Els M w t xs cs → All2 (RepD0 M w g) (lays id ps x) vs → F x xs = some zs →
     Calls P f (v0 :: vs).toArray w fun en w' => ∃ cs', en = .returned (.tuple #[]) ∧ ExtX (fun b => v0.ownBlock = some b) w w' ∧
       w'.ownsRow 0 e t.sz v0 zs.length cs' ∧ Els M w t zs cs') :
   Sound P G B0 f ⟨.row 0 :: ps, [.row e t true], [], [.row e t true, .none], List t.den, fun z => ((), (z, ((), ()))), fun x y => F x.2 y.1⟩ := by
 refine ⟨hcall, fun M w g vs0 x y zs hG hB hF hz' => ?_⟩
 obtain ⟨_, x⟩ := x
 obtain ⟨xs, _⟩ := y
 match vs0, hF.args with
 | v0 :: vs, ⟨h0, hA⟩ =>
   obtain ⟨gx, A, n, c, hg0, hv, hv2⟩ := h0
   obtain ⟨gx', hg', _, cs, hown, hblk, hlo, hels⟩ := hF.res 0 (.row e t true xs) rfl
   replace hg0 : g 0 = some gx := hg0
   rw [hg'] at hg0
   cases hg0
   have hlo : gx.lo = 0 := hlo
   rw [← hv] at hown hblk
   have hM : ∀ b, v0.ownBlock = some b → ∀ o, M b o := fun b hb o => (hF.chg 0 gx b o hg' (by rw [hblk]; exact hb)).2 (by rw [hlo]; exact Nat.zero_le _)
   have honly : ∀ r gy, g r = some gy → r = 0 := fun r gy hr => by have := hF.dom r gy hr; exact Nat.lt_one_iff.1 this
   have hX : ∀ b, Xof g b ↔ v0.ownBlock = some b := fun b => by
     constructor
     · rintro ⟨r, gy, hr, hb⟩
       obtain rfl := honly r gy hr
       rw [hg'] at hr; cases hr
       rw [← hblk]; exact hb
     · intro hb
       exact ⟨0, gx, hg', by rw [hblk]; exact hb⟩
   refine (h M w g v0 vs x xs zs cs hG hF.mlt hM hown hels hA hz').mono fun en w' hp => ?_
   obtain ⟨cs', he, hE, hown', hels'⟩ := hp
   have hblk' : ∀ b, v0.ownBlock = some b → v0.ownBlock = some b ∨ w.heap.size ≤ b := fun b h => .inl h
   obtain ⟨v', hv0⟩ : ∃ v', v' = v0 := ⟨v0, rfl⟩
   rw [← hv0] at hown'
   replace hblk' : ∀ b, v'.ownBlock = some b → v0.ownBlock = some b ∨ w.heap.size ≤ b := by rw [hv0]; exact hblk'
   obtain ⟨g', hgd⟩ : ∃ g' : Gh, g' = fun r => if r = 0 then some ⟨v'.ownBlock, 0, v'⟩ else none := ⟨_, rfl⟩
   have hg0' : g' 0 = some ⟨v'.ownBlock, 0, v'⟩ := by rw [hgd]; rfl
   have hgo : ∀ r gy, g' r = some gy → r = 0 ∧ gy = ⟨v'.ownBlock, 0, v'⟩ := fun r gy hr => by
     rw [hgd] at hr
     by_cases h0 : r = 0
     · subst h0; simp at hr; exact ⟨rfl, hr.symm⟩
     · simp [h0] at hr
   have hnew : ∀ b o, Mafter M g g' b o → (M b o ∧ v0.ownBlock ≠ some b) ∨ v'.ownBlock = some b := fun b o hm => by
     rcases hm with ⟨hm, hx⟩ | ⟨r, gy, hr, hb, _⟩
     · exact .inl ⟨hm, fun hb => hx ((hX b).2 hb)⟩
     · obtain ⟨_, rfl⟩ := hgo r gy hr
       exact .inr hb
   have hstep : Step M w (Mafter M g g') w' := by
     have key : ∀ b o, b < w.heap.size → ¬ M b o → w'.heap[b]? = w.heap[b]? ∧ ¬ Mafter M g g' b o := fun b o hb hm => by
       have hnb : v0.ownBlock ≠ some b := fun h => hm (hM b h o)
       refine ⟨hE.block b hb hnb, fun hm' => ?_⟩
       rcases hnew b o hm' with ⟨h1, _⟩ | h1
       · exact hm h1
       · rcases hblk' b h1 with h2 | h2
         · exact hnb h2
         · omega
     refine ⟨fun ad u hu hm => ?_, fun b es c hb hm => ?_⟩
     · have hlt : ad.block < w.heap.size := World.block_lt_of_cell? w _ hu
       obtain ⟨h1, h2⟩ := key ad.block ad.off hlt hm
       exact ⟨(cell_of_block h1).trans hu, h2⟩
     · obtain ⟨h1, h2⟩ := key b 0 (lt_of_map hb) hm
       exact ⟨h1.trans hb, h2⟩
   obtain ⟨A', c', hv', _⟩ := Row.of_own' hown'
   have hlow : ∀ b, v'.ownBlock = some b → B0 ≤ b ∧ b < w'.heap.size := fun b hb => by
     refine ⟨?_, own_lt hown' hb⟩
     rcases hblk' b hb with h1 | h1
     · exact (hF.low 0 gx b hg' (by rw [hblk]; exact h1)).1
     · omega
   have hrow : RepD0 (Mafter M g g') w' g' (.row 0) v' := ⟨_, A', _, c', hg0', rfl, hv'⟩
   refine ⟨[], g', ?_, ⟨hE.os, hE.tape, hE.output, hE.size, fun k hk hx => hE.block k hk fun hb => hx ((hX k).2 hb)⟩, hstep, ?_, fun r gy hr hbm => ?_, fun b hb => ?_⟩
   · rw [he]
     rfl
   · exact {
       args := trivial
       res := fun r blk hr => by
         cases r with
         | zero =>
           obtain rfl : Blk.row e t true zs = blk := Option.some.inj hr
           exact ⟨_, hg0', hz, cs', hown', rfl, rfl, fun i hi => RepC.step hstep _ _ _ (hels' i hi)⟩
         | succ r =>
           cases r with
           | zero => cases hr
           | succ r => cases hr
       dom := fun r gy hr => by obtain ⟨rfl, _⟩ := hgo r gy hr; exact Nat.zero_lt_two
       inj := fun r r' gy gy' b hr hr' _ _ => by obtain ⟨rfl, _⟩ := hgo r gy hr; obtain ⟨rfl, _⟩ := hgo r' gy' hr'; rfl
       low := fun r gy b hr hb => by obtain ⟨_, rfl⟩ := hgo r gy hr; exact hlow b hb
       chg := fun r gy b o hr hb => ⟨fun _ => by obtain ⟨_, rfl⟩ := hgo r gy hr; exact Nat.zero_le _, fun hle => .inr ⟨r, gy, hr, hb, hle⟩⟩
       mlt := fun b o hm => by
         rcases hnew b o hm with ⟨h1, _⟩ | h1
         · exact Nat.lt_of_lt_of_le (hF.mlt b o h1) hE.size
         · exact (hlow b h1).2
       row := fun r gy b hr hb h0 => by obtain ⟨_, rfl⟩ := hgo r gy hr; exact absurd h0 (Nat.lt_irrefl 0) }
   · obtain rfl := honly r gy hr
     rw [hg'] at hr; cases hr
     rw [hg0', hv0]
     obtain ⟨b1, l1, v1⟩ := gx
     dsimp only at hv hblk hlo
     subst hv hblk hlo
     rfl
   · obtain ⟨r, gy, hr, hb⟩ := hb
     obtain ⟨_, rfl⟩ := hgo r gy hr
     rcases hblk' b hb with h1 | h1
     · exact .inl ((hX b).2 h1)
     · exact .inr h1
end Go.Proofs.YtbekhaioddmliaaGreatDoor


/-
 DERIVED: THE SHELF's CONTRACTS AT THIS DUMP, IN PLAIN WORDS (tools/lay-plain.mjs out of 'TryzShelfS.lean', which tools/lay-shelf.mjs wrote): THE SAME DECLARATIONS UNDER THE SAME NAMES: 'import', 'namespace', 'open', 'def', 'theorem' AND NOTHING ELSE: no command of the shelf's: FOR A HAND-IN. Each laying: the table of numbers ('.._ren') and one theorem, a field a fact of the dump's own or the kernel's comparison; each contract: ONE APPLICATION.
-/
namespace Go.Proofs
open Go.Shelf
def Tryz.sortS_ren : Go.Shelf.Ren := ⟨fun | 6 => 57 | 8 => 107 | 9 => 106 | 19 => 163 | 20 => 164 | 21 => 154 | 22 => 155 | 23 => 156 | 24 => 157 | 25 => 158 | 26 => 159 | 27 => 160 | 28 => 161 | 29 => 162 | 36 => 194 | 31 => 195 | 32 => 196 | 37 => 197 | 38 => 198 | 39 => 199 | 41 => 214 | n => n, fun | 27 => 29 | 29 => 9 | 3 => 3 | 32 => 142 | 26 => 29 | 0 => 0 | 44 => 192 | 46 => 194 | 4 => 4 | 36 => 185 | 35 => 184 | 41 => 130 | 5 => 5 | 9 => 9 | 53 => 214 | 57 => 218 | 63 => 231 | 64 => 232 | n => n, fun | n => n⟩
theorem Tryz.sortS : Go.Proofs.SlLaysM.n6 Tryz.prog Tryz.sortS_ren := {
 mixed := by kernel_rfl
 f6 := ⟨Tryz.f57.name, by decide, Tryz.func57.trans (congrArg some (by kernel_rfl))⟩
 f8 := Tryz.func107.trans (congrArg some (by kernel_rfl))
 f9 := ⟨Tryz.f106.name, by decide, Tryz.func106.trans (congrArg some (by kernel_rfl))⟩
 f19 := Tryz.func163.trans (congrArg some (by kernel_rfl))
 f20 := Tryz.func164.trans (congrArg some (by kernel_rfl))
 f21 := ⟨Tryz.f154.name, by decide, Tryz.func154.trans (congrArg some (by kernel_rfl))⟩
 f22 := ⟨Tryz.f155.name, by decide, Tryz.func155.trans (congrArg some (by kernel_rfl))⟩
 f23 := ⟨Tryz.f156.name, by decide, Tryz.func156.trans (congrArg some (by kernel_rfl))⟩
 f24 := ⟨Tryz.f157.name, by decide, Tryz.func157.trans (congrArg some (by kernel_rfl))⟩
 f25 := ⟨Tryz.f158.name, by decide, Tryz.func158.trans (congrArg some (by kernel_rfl))⟩
 f26 := ⟨Tryz.f159.name, by decide, Tryz.func159.trans (congrArg some (by kernel_rfl))⟩
 f27 := ⟨Tryz.f160.name, by decide, Tryz.func160.trans (congrArg some (by kernel_rfl))⟩
 f28 := ⟨Tryz.f161.name, by decide, Tryz.func161.trans (congrArg some (by kernel_rfl))⟩
 f29 := ⟨Tryz.f162.name, by decide, Tryz.func162.trans (congrArg some (by kernel_rfl))⟩
 f31 := Tryz.func195.trans (congrArg some (by kernel_rfl))
 f32 := Tryz.func196.trans (congrArg some (by kernel_rfl))
 f36 := ⟨Tryz.f194.name, by decide, Tryz.func194.trans (congrArg some (by kernel_rfl))⟩
 f37 := ⟨Tryz.f197.name, by decide, Tryz.func197.trans (congrArg some (by kernel_rfl))⟩
 f38 := ⟨Tryz.f198.name, by decide, Tryz.func198.trans (congrArg some (by kernel_rfl))⟩
 f39 := ⟨Tryz.f199.name, by decide, Tryz.func199.trans (congrArg some (by kernel_rfl))⟩
 f41 := ⟨Tryz.f214.name, by decide, Tryz.func214.trans (congrArg some (by kernel_rfl))⟩
 t0 := Tryz.underlying0
 a0 := Tryz.isAgg0
 z0 := Tryz.sizeOf0
 v0 := Tryz.zeroValue0
 t3 := Tryz.underlying3
 a3 := Tryz.isAgg3
 z3 := Tryz.sizeOf3
 v3 := Tryz.zeroValue3
 t4 := Tryz.underlying4
 a4 := Tryz.isAgg4
 z4 := Tryz.sizeOf4
 v4 := Tryz.zeroValue4
 t5 := Tryz.underlying5
 a5 := Tryz.isAgg5
 z5 := Tryz.sizeOf5
 v5 := Tryz.zeroValue5
 t9 := Tryz.underlying9
 a9 := Tryz.isAgg9
 z9 := Tryz.sizeOf9
 v9 := Tryz.zeroValue9
 t26 := Tryz.underlying29
 a26 := Tryz.isAgg29
 z26 := Tryz.sizeOf29
 v26 := Tryz.zeroValue29
 t27 := Tryz.underlying29
 a27 := Tryz.isAgg29
 z27 := Tryz.sizeOf29
 v27 := Tryz.zeroValue29
 t29 := Tryz.underlying9
 a29 := Tryz.isAgg9
 z29 := Tryz.sizeOf9
 v29 := Tryz.zeroValue9
 t32 := Tryz.underlying142
 a32 := Tryz.isAgg142
 z32 := Tryz.sizeOf142
 v32 := Tryz.zeroValue142
 t35 := Tryz.underlying184
 a35 := Tryz.isAgg184
 z35 := Tryz.sizeOf184
 v35 := Tryz.zeroValue184
 t36 := Tryz.underlying185
 a36 := Tryz.isAgg185
 z36 := Tryz.sizeOf185
 v36 := Tryz.zeroValue185
 t41 := Tryz.underlying130
 a41 := Tryz.isAgg130
 z41 := Tryz.sizeOf130
 v41 := Tryz.zeroValue130
 t44 := Tryz.underlying192
 a44 := Tryz.isAgg192
 z44 := Tryz.sizeOf192
 v44 := Tryz.zeroValue192
 t46 := Tryz.underlying194
 a46 := Tryz.isAgg194
 z46 := Tryz.sizeOf194
 v46 := Tryz.zeroValue194
 t53 := Tryz.underlying214
 a53 := Tryz.isAgg214
 z53 := Tryz.sizeOf214
 v53 := Tryz.zeroValue214
 t57 := Tryz.underlying218
 a57 := Tryz.isAgg218
 z57 := Tryz.sizeOf218
 v57 := Tryz.zeroValue218
 t63 := Tryz.underlying231
 a63 := Tryz.isAgg231
 z63 := Tryz.sizeOf231
 v63 := Tryz.zeroValue231
 t64 := Tryz.underlying232
 a64 := Tryz.isAgg232
 z64 := Tryz.sizeOf232
 v64 := Tryz.zeroValue232 }
end Go.Proofs


/- slices.Sort of strings, out of the kit's contract: it turns a row of its caller's. -/
namespace Go.Proofs.YtbekhaioddmliaaGreatDoor
set_option linter.unusedVariables false
set_option linter.unusedSimpArgs false
open Go Go.RowKit Go.Shelf
def leStr (x y : Str) : Bool := decide (x ≤ y)
def slices_Sort_string_string (xs : List Str) : Option τ25 := if xs.length < 4611686018427387904 then some (xs.mergeSort leStr) else none
theorem sortW_block {α : Type} [Inhabited α] (enc : α → Value) {w : World} {n b : Nat} {d : Array α} {os : Array Obj} {cur : Array Value} {e : TypeId} {fz : Nat × Nat} (h : w.heap[b]? = some (.cells cur e fz)) :
   (Sort.grow (Sort.putRow enc (Sort.ahead w n) b 0 d) os).heap[b]? = some (.cells (Sort.putCells enc 0 d cur) e fz) := by
 have hb : b < w.heap.size := by
   apply Classical.byContradiction
   intro hn
   rw [Array.getElem?_eq_none (by omega)] at h
   cases h
 have hb2 : b < (w.heap.modify b (Sort.onCells (Sort.putCells enc 0 d))).size := by rw [Array.size_modify]; exact hb
 show (w.heap.modify b (Sort.onCells (Sort.putCells enc 0 d)) ++ os)[b]? = _
 rw [Array.getElem?_append_left hb2, Array.getElem?_modify, if_pos rfl, h]
 rfl
theorem sortW_ext {α : Type} [Inhabited α] (enc : α → Value) {w : World} {n b : Nat} {d : Array α} {os : Array Obj} : ExtX (fun k => b = k) w (Sort.grow (Sort.putRow enc (Sort.ahead w n) b 0 d) os) := by
 refine ⟨rfl, rfl, rfl, ?_, fun k hk hx => ?_⟩
 · show w.heap.size ≤ (w.heap.modify b (Sort.onCells (Sort.putCells enc 0 d)) ++ os).size
   rw [Array.size_append, Array.size_modify]; omega
 · have hb2 : k < (w.heap.modify b (Sort.onCells (Sort.putCells enc 0 d))).size := by rw [Array.size_modify]; exact hk
   show (w.heap.modify b (Sort.onCells (Sort.putCells enc 0 d)) ++ os)[k]? = _
   rw [Array.getElem?_append_left hb2, Array.getElem?_modify, if_neg hx]
theorem putCells_size {α : Type} [Inhabited α] (enc : α → Value) (d : Array α) (cur : Array Value) : (Sort.putCells enc 0 d cur).size = cur.size := by
 unfold Sort.putCells; simp
theorem putCells_take {α : Type} [Inhabited α] (enc : α → Value) (zs : List α) (cur : Array Value) (h : zs.length ≤ cur.size) : (Sort.putCells enc 0 zs.toArray cur).toList.take zs.length = zs.map enc := by
 apply List.ext_getElem
 · have e : (Sort.putCells enc 0 zs.toArray cur).toList.length = cur.size := by
     rw [Array.length_toList]; exact putCells_size _ _ _
   rw [List.length_take, List.length_map, e]; omega
 · intro k h1 h2
   rw [List.length_map] at h2
   rw [List.getElem_take, Array.getElem_toList, List.getElem_map]
   unfold Sort.putCells
   rw [Array.getElem_mapIdx, if_pos ⟨Nat.zero_le _, by simpa using h2⟩]
   simp [h2]
theorem z24sound : Sound Tryz.prog GW B0G 57 ⟨[.row 0], [.row 9 .str true], [], [.row 9 .str true, .none], List Str, fun z => ((), (z, ((), ()))), fun x y => slices_Sort_string_string y.1⟩ := by
 refine Sound.ofRowKept (ps := []) (t := .str) (F := fun x xs => slices_Sort_string_string xs) Tryz.call57 (by decide) fun M w g v0 vs x xs zs cs hG hMl hM hown hels hA hz => ?_
 match vs, hA with
 | [], hA =>
   change slices_Sort_string_string xs = some zs at hz
   unfold slices_Sort_string_string at hz
   split at hz
   case isFalse => cases hz
   rename_i hbig
   injection hz with hz
   have hl := hown.1
   have hl' : cs.length = xs.length := by rw [hl]; exact Nat.mul_one _
   have hcs := els_str hl' hels
   have hzl : zs.length = xs.length := by rw [← hz]; exact List.length_mergeSort _
   rcases hown.2 with ⟨e1, e2⟩ | ⟨b, cap, cur, e1, _, hg, hle, hmax, hsz, htk⟩
   · have hx0 : xs = [] := List.eq_nil_of_length_eq_zero e2
     subst hx0 e1
     refine (AnyM.slices_Sort_string_none Tryz.sortS none 0 w).mono fun e w' hp => ?_
     obtain ⟨rfl, rfl⟩ := hp
     have hz0 : zs = [] := List.eq_nil_of_length_eq_zero hzl
     subst hz0
     exact ⟨[], rfl, ExtX.refl _ _, ⟨rfl, .inl ⟨rfl, rfl⟩⟩, fun i h => absurd h (Nat.not_lt_zero _)⟩
   · subst e1
     have hsz' : cur.size = cap := by rw [hsz]; exact Nat.mul_one _
     have htk' : cur.toList.take xs.length = xs.map fun x => Value.string ⟨x.toArray⟩ := by rw [← hcs, ← htk]; congr 1; exact (Nat.mul_one _).symm
     have hb : b < w.heap.size := by
       apply Classical.byContradiction
       intro hn
       rw [Array.getElem?_eq_none (by omega)] at hg
       cases hg
     have hH : Sort.Holds encStr w b 0 xs.toArray := fun k hk => by
       have hk : k < xs.length := by simpa using hk
       have h1 : cur.toList[k]? = some (Value.string ⟨xs[k].toArray⟩) := by
         have := congrArg (fun l => l[k]?) htk'
         simp only [List.getElem?_take, hk, if_true, List.getElem?_map, List.getElem?_eq_getElem hk, Option.map_some] at this
         exact this
       refine ⟨?_, by unfold World.frozen?; rw [hg]; simp⟩
       rw [Nat.zero_add]
       have e : encStr xs.toArray[k]! = Value.string ⟨xs[k].toArray⟩ := by simp [encStr, hk]
       rw [e]
       unfold World.cell?
       rw [hg]
       simpa using h1
     refine (AnyM.slices_Sort_string Tryz.sortS b 0 cap xs w hH hb hbig).mono fun e w' hp => ?_
     obtain ⟨rfl, n, os, rfl⟩ := hp
     have ez : (xs.mergeSort fun x y => decide (x ≤ y)) = zs := hz
     rw [ez]
     refine ⟨zs.map fun x => Value.string ⟨x.toArray⟩, rfl, (sortW_ext encStr).mono (fun k hk => by simpa [Value.ownBlock] using hk), ⟨by rw [List.length_map]; exact (Nat.mul_one _).symm, .inr ⟨b, cap, _, by rw [hzl], Nat.zero_le _, sortW_block encStr hg, by omega, hmax, ?_, ?_⟩⟩, str_els _⟩
     · rw [putCells_size]; exact hsz
     · rw [show zs.length * Ty.sz .str = zs.length from Nat.mul_one _]
       exact putCells_take encStr zs cur (by omega)
end Go.Proofs.YtbekhaioddmliaaGreatDoor



/-
 DERIVED: THE SHELF's CONTRACTS AT THIS DUMP, IN PLAIN WORDS (tools/lay-plain.mjs out of 'TryzShelfF.lean', which tools/lay-shelf.mjs wrote): THE SAME DECLARATIONS UNDER THE SAME NAMES: 'import', 'namespace', 'open', 'def', 'theorem' AND NOTHING ELSE: no command of the shelf's: FOR A HAND-IN. Each laying: the table of numbers ('.._ren') and one theorem, a field a fact of the dump's own or the kernel's comparison; each contract: ONE APPLICATION.
-/
namespace Go.Proofs
open Go.Shelf
end Go.Proofs


/- The closure of config.Then: it says which of two pairs comes first. -/
namespace Go.Proofs.YtbekhaioddmliaaGreatDoor
set_option linter.unusedVariables false
set_option linter.unusedSimpArgs false
open Go Go.RowKit Go.Shelf Go.Sort
end Go.Proofs.YtbekhaioddmliaaGreatDoor



/- slices.SortFunc of pairs by their names, out of the kit's contract: it turns a row of its caller's. -/
namespace Go.Proofs.YtbekhaioddmliaaGreatDoor
set_option linter.unusedVariables false
set_option linter.unusedSimpArgs false
open Go Go.RowKit Go.Shelf Go.Sort
end Go.Proofs.YtbekhaioddmliaaGreatDoor



/- What functions of the program compute, as plain functions (printed). -/
namespace Go.Proofs.YtbekhaioddmliaaGreatDoor
open Go Go.RowKit
set_option maxRecDepth 100000
set_option linter.unusedVariables false
noncomputable section
end
end Go.Proofs.YtbekhaioddmliaaGreatDoor


/- What functions of the program compute, as plain functions (printed). -/
namespace Go.Proofs.YtbekhaioddmliaaGreatDoor
open Go Go.RowKit
set_option maxRecDepth 100000
set_option linter.unusedVariables false
noncomputable section
def law3_awake (N : Nat) : Option Bool :=
 bnd (config_ConfigText N [(([109] : Str), [([97] : Str), ([98] : Str)])] [(([109] : Str), ([98] : Str))]) fun t9 =>
 br (t9.2 == (0 : Int))
   (some (t9.1 == ([109, 61, 98] : Str)))
   (some false)
abbrev z94sg (f : SV [] → BV [] → Option (Bool)) : AF := { ps := [], bs := [], rs := [.v .bool], cs := [], R := Bool, out := fun z => ((z, ()), ()), f := f }
noncomputable abbrev z94g (N : Nat) : AF := z94sg fun _ _ => law3_awake N
abbrev z94pk : SV [.v .bool] → BV [] → Bool := fun x _ => x.1
def z94fn (N : Nat) : FuncId → Option Tmp → Option AF := fun f _ =>
 match f with
   | 36 => some (z49g N)
   | _ => none
theorem z94fn_ok (N : Nat) : FnOk (z94fn N) := by
 intro f q F h
 unfold z94fn at h
 split at h
 · cases h; exact z49sound N
 · cases h
def z94h : Nat → Hint := fun i =>
 match i with
 | _ => hint0
abbrev z94E (N : Nat) : Env := mkE z94h (z94fn N) FF FF
noncomputable def z94LP (N : Nat) : Nat → Code → St → (Ex → St → Option Bool) → Option Bool := fun i c =>
 match i with
 | i => fun st k => iter (z94h i) (exec (z94E N) N c i) N st k
theorem z94core (N : Nat) (x : SV []) (y : BV []) : runL (z94E N) Tryz.f11 (z94g N) z94pk (z94LP N) x y = law3_awake N := by kernel_rfl
theorem z94sound (N : Nat) : Snd 11 (z94g N) :=
 sndL (z94fn_ok N) Tryz.func11 rfl Tryz.call11 (z94g N) z94pk (fun _ _ => rfl) N (z94LP N) (show LoopsOk (z94LP N) (z94E N) N (resD (z94E N) Tryz.f11 (z94g N) z94pk) [] from trivial) (z94core N)
end
end Go.Proofs.YtbekhaioddmliaaGreatDoor

