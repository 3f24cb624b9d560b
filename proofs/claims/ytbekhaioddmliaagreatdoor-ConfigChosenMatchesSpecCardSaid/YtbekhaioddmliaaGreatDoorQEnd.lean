/- What functions of the program compute, as plain functions (printed). -/
import Derived.Test.YtbekhaioddmliaaGreatDoorQZcF10
import Derived.Test.YtbekhaioddmliaaGreatDoorQZcT
import Derived.ProofKit
import Derived.OpenShut
import Derived.ShutString
import Derived.DataReads
import Derived.ChangeShapes
import Derived.WideShapes
namespace Go.Proofs.YtbekhaioddmliaaGreatDoor
open Go Go.RowKit
set_option maxRecDepth 100000
set_option linter.unusedVariables false
noncomputable section
def z80L0T (N : Nat) (x2 : List (Str × Str)) (c38 : List (Str × GValue)) (c39 : Int) (c1004_0 : List (Str × List Str)) (c1004_1 : List (Str × List (Str × Str) × List (Str × Str))) (c1007_0 : Str) (c1007_1 : List (Str × Str)) (k0 : Bool → (List (Str × GValue)) → (List (Str × List (Str × Str) × List (Str × Str))) → Int → Str → Int → (List Str) → (List (Str × GValue)) → Option (GValue × Int)) (self : Bool → Int → (List (Str × GValue)) → (List (Str × List (Str × Str) × List (Str × Str))) → Int → Str → Int → (List Str) → (List (Str × GValue)) → Option (GValue × Int)) (s14 : Bool) (s40 : Int) (w1011 : List (Str × GValue)) (w1012 : List (Str × List (Str × Str) × List (Str × Str))) (b1013_0 : Int) (b1013_1 : Str) (b1013_2 : Int) (b1013_3 : List Str) (b1013_4 : List (Str × GValue)) : Option (GValue × Int) :=
  br (decide (s40 < c39))
    (bnd (geti c38 s40) fun t42 =>
    bnd (ref3_conditionOf N c1004_1 t42.1) fun t49 =>
    br (!t49.2)
      (self true (IntKind.i64.wrap (s40 + (1 : Int))) w1011 w1012 t42.2.kind t42.2.text t42.2.number t42.2.list t42.2.cases)
      (bnd (ref3_holds N c1004_0 t49.1 x2 (c1007_0, c1007_1)) fun t61 =>
      br (t61)
        (both
          (times 1
            (br (decide ((w1011.length + [(t42.1, GValue.mk t42.2.kind t42.2.text t42.2.number t42.2.list t42.2.cases)].length) * (24 * Ty.sz (.pr .str (.rc .value))) ≤ 140737488355328))
              (br (decide ((w1012.length + [t49.1].length) * (24 * Ty.sz (.pr .str (.pr (.sl (.pr .str .str)) (.sl (.pr .str .str))))) ≤ 140737488355328))
                (self s14 (IntKind.i64.wrap (s40 + (1 : Int))) (w1011 ++ [(t42.1, GValue.mk t42.2.kind t42.2.text t42.2.number t42.2.list t42.2.cases)]) (w1012 ++ [t49.1]) b1013_0 b1013_1 b1013_2 b1013_3 b1013_4)
                none)
              none))
          (br (decide ((w1011.length + [(t42.1, GValue.mk t42.2.kind t42.2.text t42.2.number t42.2.list t42.2.cases)].length) * (24 * Ty.sz (.pr .str (.rc .value))) ≤ 140737488355328))
            (br (decide ((w1012.length + [t49.1].length) * (24 * Ty.sz (.pr .str (.pr (.sl (.pr .str .str)) (.sl (.pr .str .str))))) ≤ 140737488355328))
              (self s14 (IntKind.i64.wrap (s40 + (1 : Int))) (w1011 ++ [(t42.1, GValue.mk t42.2.kind t42.2.text t42.2.number t42.2.list t42.2.cases)]) (w1012 ++ [t49.1]) b1013_0 b1013_1 b1013_2 b1013_3 b1013_4)
              none)
            none))
        (self s14 (IntKind.i64.wrap (s40 + (1 : Int))) w1011 w1012 b1013_0 b1013_1 b1013_2 b1013_3 b1013_4)))
    (k0 s14 w1011 w1012 b1013_0 b1013_1 b1013_2 b1013_3 b1013_4)
def z80L0 (N : Nat) (x2 : List (Str × Str)) (c38 : List (Str × GValue)) (c39 : Int) (c1004_0 : List (Str × List Str)) (c1004_1 : List (Str × List (Str × Str) × List (Str × Str))) (c1007_0 : Str) (c1007_1 : List (Str × Str)) (k0 : Bool → (List (Str × GValue)) → (List (Str × List (Str × Str) × List (Str × Str))) → Int → Str → Int → (List Str) → (List (Str × GValue)) → Option (GValue × Int)) : Nat → Bool → Int → (List (Str × GValue)) → (List (Str × List (Str × Str) × List (Str × Str))) → Int → Str → Int → (List Str) → (List (Str × GValue)) → Option (GValue × Int)
  | 0, _, _, _, _, _, _, _, _, _ => none
  | n + 1, s14, s40, w1011, w1012, b1013_0, b1013_1, b1013_2, b1013_3, b1013_4 => z80L0T N x2 c38 c39 c1004_0 c1004_1 c1007_0 c1007_1 k0 (z80L0 N x2 c38 c39 c1004_0 c1004_1 c1007_0 c1007_1 k0 n) s14 s40 w1011 w1012 b1013_0 b1013_1 b1013_2 b1013_3 b1013_4
def z80L2T (N : Nat) (s80 : Int) (c96 : Int) (o0_w1012 : List (Str × List (Str × Str) × List (Str × Str))) (k4 : Bool → Option (GValue × Int)) (self : Bool → Int → Option (GValue × Int)) (s22 : Bool) (s97 : Int) : Option (GValue × Int) :=
  br (decide (s97 < c96))
    (bnd (geti o0_w1012 s97) fun t100 =>
    br (s22)
      (br (s80 == s97)
        (self true (IntKind.i64.wrap (s97 + (1 : Int))))
        (bnd (geti o0_w1012 s80) fun t110 =>
        bnd (ref3_isMore N t110 t100) fun t113 =>
        self t113 (IntKind.i64.wrap (s97 + (1 : Int)))))
      (self false (IntKind.i64.wrap (s97 + (1 : Int)))))
    (k4 s22)
def z80L2 (N : Nat) (s80 : Int) (c96 : Int) (o0_w1012 : List (Str × List (Str × Str) × List (Str × Str))) (k4 : Bool → Option (GValue × Int)) : Nat → Bool → Int → Option (GValue × Int)
  | 0, _, _ => none
  | n + 1, s22, s97 => z80L2T N s80 c96 o0_w1012 k4 (z80L2 N s80 c96 o0_w1012 k4 n) s22 s97
def z80L3T (N : Nat) (s80 : Int) (c96_6 : Int) (o0_w1012 : List (Str × List (Str × Str) × List (Str × Str))) (k4 : Bool → Option (GValue × Int)) (self : Bool → Int → Option (GValue × Int)) (s22_4 : Bool) (s97_7 : Int) : Option (GValue × Int) :=
  br (decide (s97_7 < c96_6))
    (bnd (geti o0_w1012 s97_7) fun t100_14 =>
    br (s22_4)
      (br (s80 == s97_7)
        (self true (IntKind.i64.wrap (s97_7 + (1 : Int))))
        (bnd (geti o0_w1012 s80) fun t110_15 =>
        bnd (ref3_isMore N t110_15 t100_14) fun t113_16 =>
        self t113_16 (IntKind.i64.wrap (s97_7 + (1 : Int)))))
      (self false (IntKind.i64.wrap (s97_7 + (1 : Int)))))
    (k4 s22_4)
def z80L3 (N : Nat) (s80 : Int) (c96_6 : Int) (o0_w1012 : List (Str × List (Str × Str) × List (Str × Str))) (k4 : Bool → Option (GValue × Int)) : Nat → Bool → Int → Option (GValue × Int)
  | 0, _, _ => none
  | n + 1, s22_4, s97_7 => z80L3T N s80 c96_6 o0_w1012 k4 (z80L3 N s80 c96_6 o0_w1012 k4 n) s22_4 s97_7
def z80L1T (N : Nat) (c79 : Int) (o0_w1011 : List (Str × GValue)) (o0_w1012 : List (Str × List (Str × Str) × List (Str × Str))) (k2 : Bool → Option (GValue × Int)) (self : Bool → Int → Option (GValue × Int)) (s19 : Bool) (s80 : Int) : Option (GValue × Int) :=
  br (decide (s80 < c79))
    (bnd (geti o0_w1011 s80) fun t83 =>
    br (s19)
      (bnd (geti o0_w1011 (0 : Int)) fun t90 =>
      bnd (ref2_SameValue N N (GValue.mk t83.2.kind t83.2.text t83.2.number t83.2.list t83.2.cases) t90.2) fun t93 =>
      z80L2 N s80 (o0_w1012.length : Int) o0_w1012 (fun o2_22 =>
          br (o2_22)
            (some (GValue.mk t83.2.kind t83.2.text t83.2.number t83.2.list t83.2.cases, (0 : Int)))
            (self t93 (IntKind.i64.wrap (s80 + (1 : Int))))) N true (0 : Int))
      (z80L3 N s80 (o0_w1012.length : Int) o0_w1012 (fun o3_22 =>
          br (o3_22)
            (some (GValue.mk t83.2.kind t83.2.text t83.2.number t83.2.list t83.2.cases, (0 : Int)))
            (self false (IntKind.i64.wrap (s80 + (1 : Int))))) N true (0 : Int)))
    (k2 s19)
def z80L1 (N : Nat) (c79 : Int) (o0_w1011 : List (Str × GValue)) (o0_w1012 : List (Str × List (Str × Str) × List (Str × Str))) (k2 : Bool → Option (GValue × Int)) : Nat → Bool → Int → Option (GValue × Int)
  | 0, _, _ => none
  | n + 1, s19, s80 => z80L1T N c79 o0_w1011 o0_w1012 k2 (z80L1 N c79 o0_w1011 o0_w1012 k2 n) s19 s80
def ref3_chosen (N : Nat) (x0 : List (Str × List Str) × List (Str × List (Str × Str) × List (Str × Str)) × List (Str × List (Str × Str)) × List (Str × Str × List (Str × Str) × List (Str × Str)) × List (Str × List (Str × Str) × List Str)) (x1 : GValue) (x2 : List (Str × Str)) (x3 : Str × List (Str × Str)) : Option (GValue × Int) :=
  bnd (ref3_checkWhen N x0 (GValue.mk x1.kind x1.text x1.number x1.list x1.cases)) fun t27 =>
  br (t27 != (0 : Int))
    (some (GValue.mk (0 : Int) ([] : Str) (0 : Int) ([] : List Str) ([] : List (Str × GValue)), t27))
    (br (x1.kind != (4 : Int))
      (some (GValue.mk x1.kind x1.text x1.number x1.list x1.cases, (0 : Int)))
      (z80L0 N x2 x1.cases (x1.cases.length : Int) x0.1 x0.2.1 x3.1 x3.2 (fun o0_14 o0_w1011 o0_w1012 o0_1013_0 o0_1013_1 o0_1013_2 o0_1013_3 o0_1013_4 =>
          br ((o0_w1011.length : Int) == (0 : Int))
            (br (!o0_14)
              (some (GValue.mk (0 : Int) ([] : Str) (0 : Int) ([] : List Str) ([] : List (Str × GValue)), (9 : Int)))
              (some (GValue.mk o0_1013_0 o0_1013_1 o0_1013_2 o0_1013_3 o0_1013_4, (0 : Int))))
            (z80L1 N (o0_w1011.length : Int) o0_w1011 o0_w1012 (fun o1_19 =>
                br (o1_19)
                  (bnd (geti o0_w1011 (0 : Int)) fun t123 =>
                  some (GValue.mk t123.2.kind t123.2.text t123.2.number t123.2.list t123.2.cases, (0 : Int)))
                  (some (GValue.mk (0 : Int) ([] : Str) (0 : Int) ([] : List Str) ([] : List (Str × GValue)), (12 : Int)))) N true (0 : Int))) N false (0 : Int) ([] : List (Str × GValue)) ([] : List (Str × List (Str × Str) × List (Str × Str))) (0 : Int) ([] : Str) (0 : Int) ([] : List Str) ([] : List (Str × GValue))))
abbrev z80sg (f : SV [.v (.pr (.sl (.pr .str (.sl .str))) (.pr (.sl (.pr .str (.pr (.sl (.pr .str .str)) (.sl (.pr .str .str))))) (.pr (.sl (.pr .str (.sl (.pr .str .str)))) (.pr (.sl (.pr .str (.pr .str (.pr (.sl (.pr .str .str)) (.sl (.pr .str .str)))))) (.sl (.pr .str (.pr (.sl (.pr .str .str)) (.sl .str)))))))), .v (.rc .value), .v (.sl (.pr .str .str)), .v (.pr .str (.sl (.pr .str .str)))] → BV [] → Option (GValue × Int)) : AF := { ps := [.v (.pr (.sl (.pr .str (.sl .str))) (.pr (.sl (.pr .str (.pr (.sl (.pr .str .str)) (.sl (.pr .str .str))))) (.pr (.sl (.pr .str (.sl (.pr .str .str)))) (.pr (.sl (.pr .str (.pr .str (.pr (.sl (.pr .str .str)) (.sl (.pr .str .str)))))) (.sl (.pr .str (.pr (.sl (.pr .str .str)) (.sl .str)))))))), .v (.rc .value), .v (.sl (.pr .str .str)), .v (.pr .str (.sl (.pr .str .str)))], bs := [], rs := [.v (.rc .value), .v (.int .i64)], cs := [], R := GValue × Int, out := fun z => ((z.1, z.2, ()), ()), f := f }
abbrev z80pk : SV [.v (.rc .value), .v (.int .i64)] → BV [] → (GValue × Int) := fun x _ => (x.1, x.2.1)
def z80fn (N : Nat) : FuncId → Option Tmp → Option AF := fun f _ =>
  match f with
    | 10 => some (z56sg fun x _ => ref2_SameValue N N x.1 x.2.1)
    | 70 => some (z58sg fun x _ => ref3_checkWhen N x.1 x.2.1)
    | 71 => some (z45sg fun x _ => ref3_conditionOf N x.1 x.2.1)
    | 91 => some (z85sg fun x _ => ref3_holds N x.1 x.2.1 x.2.2.1 x.2.2.2.1)
    | 92 => some (z81sg fun x _ => ref3_isMore N x.1 x.2.1)
    | _ => none
theorem z80fn_ok (N : Nat) : ∀ f q F, z80fn N f q = some F → Sound Tryz.prog GW B0G f F := by
  intro f q F h
  unfold z80fn at h
  split at h
  · cases h; exact z56sound N N
  · cases h; exact z58sound N
  · cases h; exact z45sound N
  · cases h; exact z85sound N
  · cases h; exact z81sound N
  · cases h
def z80h : Nat → Hint := fun i =>
  match i with
  | 0 => ⟨[], [2, 4, 7, 8, 11, 12, 13, 14, 38, 39, 40], [1004, 1007, 1008, 1011, 1012, 1013], [8, 11, 12, 13, 14], [1008, 1011, 1012, 1013], [(1013, 3, 0, 0, .str), (1013, 4, 0, 0, (.pr .str (.rc .value)))]⟩
  | 2 => ⟨[], [8, 11, 12, 19, 78, 79, 80], [1008, 1011, 1012], [8, 11, 19], [1008, 1011], []⟩
  | 4 => ⟨[], [8, 11, 12, 19, 20, 21, 22, 78, 79, 80, 87, 88, 89, 90, 91, 92, 93, 95, 96, 97], [1008, 1011, 1012, 1021], [8, 11, 12, 19, 21, 22, 78, 79, 80, 87, 88, 89, 90, 91, 92, 93], [1008, 1011, 1012, 1021], []⟩
  | 100016 => ⟨[1016, 1017], [], [], [], [], []⟩
  | _ => ⟨[], [], [], [], [], []⟩
abbrev z80E (N : Nat) : Env := mkE z80h (z80fn N) (fun _ => false) (fun _ => false)
abbrev z80L0_fs : List (Nat × Sl) := [(2, .v (.sl (.pr .str .str))), (4, .box 1004 0), (7, .box 1007 0), (8, .box 1008 0), (11, .row 1011), (12, .row 1012), (13, .box 1013 0), (14, .v .bool), (38, .v (.sl (.pr .str (.rc .value)))), (39, .v (.int .i64)), (40, .v (.int .i64))]
abbrev z80L0_bs : List (Nat × Sb) := [(1004, .cells [.v (.sl (.pr .str (.sl .str))), .v (.sl (.pr .str (.pr (.sl (.pr .str .str)) (.sl (.pr .str .str))))), .v (.sl (.pr .str (.sl (.pr .str .str)))), .v (.sl (.pr .str (.pr .str (.pr (.sl (.pr .str .str)) (.sl (.pr .str .str)))))), .v (.sl (.pr .str (.pr (.sl (.pr .str .str)) (.sl .str))))]), (1007, .cells [.v .str, .v (.sl (.pr .str .str))]), (1008, .cells [.v (.int .i64), .v .str, .v (.int .i64), .nilS, .nilS]), (1011, .row 78 (.pr .str (.rc .value)) false), (1012, .row 108 (.pr .str (.pr (.sl (.pr .str .str)) (.sl (.pr .str .str)))) false), (1013, .cells [.v (.int .i64), .v .str, .v (.int .i64), .v (.sl .str), .v (.sl (.pr .str (.rc .value)))])]
def z80L0_hd (x2 : List (Str × Str)) (c38 : List (Str × GValue)) (c39 : Int) (c1004_0 : List (Str × List Str)) (c1004_1 : List (Str × List (Str × Str) × List (Str × Str))) (c1004_2 : List (Str × List (Str × Str))) (c1004_3 : List (Str × Str × List (Str × Str) × List (Str × Str))) (c1004_4 : List (Str × List (Str × Str) × List Str)) (c1007_0 : Str) (c1007_1 : List (Str × Str)) (c1008_0 : Int) (c1008_1 : Str) (c1008_2 : Int) (s14 : Bool) (s40 : Int) (w1011 : List (Str × GValue)) (w1012 : List (Str × List (Str × Str) × List (Str × Str))) (b1013_0 : Int) (b1013_1 : Str) (b1013_2 : Int) (b1013_3 : List Str) (b1013_4 : List (Str × GValue)) : St := ⟨127, [(2, .v (.sl (.pr .str .str)) x2), (4, .box 1004 0), (7, .box 1007 0), (8, .box 1008 0), (11, .row 1011), (12, .row 1012), (13, .box 1013 0), (14, .v .bool s14), (38, .v (.sl (.pr .str (.rc .value))) c38), (39, .v (.int .i64) c39), (40, .v (.int .i64) s40)], [(1004, .cells [.v (.sl (.pr .str (.sl .str))) c1004_0, .v (.sl (.pr .str (.pr (.sl (.pr .str .str)) (.sl (.pr .str .str))))) c1004_1, .v (.sl (.pr .str (.sl (.pr .str .str)))) c1004_2, .v (.sl (.pr .str (.pr .str (.pr (.sl (.pr .str .str)) (.sl (.pr .str .str)))))) c1004_3, .v (.sl (.pr .str (.pr (.sl (.pr .str .str)) (.sl .str)))) c1004_4]), (1007, .cells [.v .str c1007_0, .v (.sl (.pr .str .str)) c1007_1]), (1008, .cells [.v (.int .i64) c1008_0, .v .str c1008_1, .v (.int .i64) c1008_2, .nilS, .nilS]), (1011, .row 78 (.pr .str (.rc .value)) false w1011), (1012, .row 108 (.pr .str (.pr (.sl (.pr .str .str)) (.sl (.pr .str .str)))) false w1012), (1013, .cells [.v (.int .i64) b1013_0, .v .str b1013_1, .v (.int .i64) b1013_2, .v (.sl .str) b1013_3, .v (.sl (.pr .str (.rc .value))) b1013_4])]⟩
def z80L0_tl0 (_x2 : List (Str × Str)) (_c38 : List (Str × GValue)) (_c39 : Int) (_c1004_0 : List (Str × List Str)) (_c1004_1 : List (Str × List (Str × Str) × List (Str × Str))) (_c1004_2 : List (Str × List (Str × Str))) (_c1004_3 : List (Str × Str × List (Str × Str) × List (Str × Str))) (_c1004_4 : List (Str × List (Str × Str) × List Str)) (_c1007_0 : Str) (_c1007_1 : List (Str × Str)) (c1008_0 : Int) (c1008_1 : Str) (c1008_2 : Int) (o0_14 : Bool) (o0_w1011 : List (Str × GValue)) (o0_w1012 : List (Str × List (Str × Str) × List (Str × Str))) (o0_1013_0 : Int) (o0_1013_1 : Str) (o0_1013_2 : Int) (o0_1013_3 : List Str) (o0_1013_4 : List (Str × GValue)) : St := ⟨127, [(8, .box 1008 0), (11, .row 1011), (12, .row 1012), (13, .box 1013 0), (14, .v .bool o0_14)], [(1008, .cells [.v (.int .i64) c1008_0, .v .str c1008_1, .v (.int .i64) c1008_2, .nilS, .nilS]), (1011, .row 78 (.pr .str (.rc .value)) false o0_w1011), (1012, .row 108 (.pr .str (.pr (.sl (.pr .str .str)) (.sl (.pr .str .str)))) false o0_w1012), (1013, .cells [.v (.int .i64) o0_1013_0, .v .str o0_1013_1, .v (.int .i64) o0_1013_2, .v (.sl .str) o0_1013_3, .v (.sl (.pr .str (.rc .value))) o0_1013_4])]⟩
def z80L0_G (N : Nat) (x2 : List (Str × Str)) (c38 : List (Str × GValue)) (c39 : Int) (c1004_0 : List (Str × List Str)) (c1004_1 : List (Str × List (Str × Str) × List (Str × Str))) (c1004_2 : List (Str × List (Str × Str))) (c1004_3 : List (Str × Str × List (Str × Str) × List (Str × Str))) (c1004_4 : List (Str × List (Str × Str) × List Str)) (c1007_0 : Str) (c1007_1 : List (Str × Str)) (c1008_0 : Int) (c1008_1 : Str) (c1008_2 : Int) (s14 : Bool) (s40 : Int) (w1011 : List (Str × GValue)) (w1012 : List (Str × List (Str × Str) × List (Str × Str))) (b1013_0 : Int) (b1013_1 : Str) (b1013_2 : Int) (b1013_3 : List Str) (b1013_4 : List (Str × GValue)) (k : Ex → St → Option (GValue × Int)) : Option (GValue × Int) :=
  z80L0 N x2 c38 c39 c1004_0 c1004_1 c1007_0 c1007_1 (fun o0_14 o0_w1011 o0_w1012 o0_1013_0 o0_1013_1 o0_1013_2 o0_1013_3 o0_1013_4 => k (.exit 0) (z80L0_tl0 x2 c38 c39 c1004_0 c1004_1 c1004_2 c1004_3 c1004_4 c1007_0 c1007_1 c1008_0 c1008_1 c1008_2 o0_14 o0_w1011 o0_w1012 o0_1013_0 o0_1013_1 o0_1013_2 o0_1013_3 o0_1013_4)) N s14 s40 w1011 w1012 b1013_0 b1013_1 b1013_2 b1013_3 b1013_4
abbrev z80L0_F (N : Nat) : FV z80L0_fs → HV z80L0_bs → (Ex → St → Option (GValue × Int)) → Option (GValue × Int) := fun x y k => z80L0_G N x.1 x.2.2.2.2.2.2.2.2.1 x.2.2.2.2.2.2.2.2.2.1 y.1.1 y.1.2.1 y.1.2.2.1 y.1.2.2.2.1 y.1.2.2.2.2.1 y.2.1.1 y.2.1.2.1 y.2.2.1.1 y.2.2.1.2.1 y.2.2.1.2.2.1 x.2.2.2.2.2.2.2.1 x.2.2.2.2.2.2.2.2.2.2.1 y.2.2.2.1 y.2.2.2.2.1 y.2.2.2.2.2.1.1 y.2.2.2.2.2.1.2.1 y.2.2.2.2.2.1.2.2.1 y.2.2.2.2.2.1.2.2.2.1 y.2.2.2.2.2.1.2.2.2.2.1 k
abbrev z80L2_fs : List (Nat × Sl) := [(8, .box 1008 0), (11, .row 1011), (12, .row 1012), (19, .v .bool), (20, .v (.int .i64)), (21, .box 1021 0), (22, .v .bool), (78, .row 1011), (79, .v (.int .i64)), (80, .v (.int .i64)), (87, .box 1021 1), (88, .v (.rc .value)), (89, .row 1011), (90, .at_ (.pr .str (.rc .value))), (91, .at_ (.rc .value)), (92, .v (.rc .value)), (93, .v .bool), (95, .row 1012), (96, .v (.int .i64)), (97, .v (.int .i64))]
abbrev z80L2_bs : List (Nat × Sb) := [(1008, .cells [.v (.int .i64), .v .str, .v (.int .i64), .nilS, .nilS]), (1011, .row 78 (.pr .str (.rc .value)) false), (1012, .row 108 (.pr .str (.pr (.sl (.pr .str .str)) (.sl (.pr .str .str)))) false), (1021, .cells [.v .str, .v (.int .i64), .v .str, .v (.int .i64), .v (.sl .str), .v (.sl (.pr .str (.rc .value)))])]
def z80L2_hd (t93 : Bool) (s80 : Int) (c79 : Int) (c80 : Int) (c88 : GValue) (t90 : Str × GValue) (c91 : GValue) (c92 : GValue) (c93 : Bool) (c96 : Int) (c1008_0_1 : Int) (c1008_1_2 : Str) (c1008_2_3 : Int) (o0_w1011 : List (Str × GValue)) (o0_w1012 : List (Str × List (Str × Str) × List (Str × Str))) (c1021_0 : Str) (c1021_1 : Int) (c1021_2 : Str) (c1021_3 : Int) (c1021_4 : List Str) (c1021_5 : List (Str × GValue)) (s22 : Bool) (s97 : Int) : St := ⟨127, [(8, .box 1008 0), (11, .row 1011), (12, .row 1012), (19, .v .bool t93), (20, .v (.int .i64) s80), (21, .box 1021 0), (22, .v .bool s22), (78, .row 1011), (79, .v (.int .i64) c79), (80, .v (.int .i64) c80), (87, .box 1021 1), (88, .v (.rc .value) c88), (89, .row 1011), (90, .at_ (.pr .str (.rc .value)) t90), (91, .at_ (.rc .value) c91), (92, .v (.rc .value) c92), (93, .v .bool c93), (95, .row 1012), (96, .v (.int .i64) c96), (97, .v (.int .i64) s97)], [(1008, .cells [.v (.int .i64) c1008_0_1, .v .str c1008_1_2, .v (.int .i64) c1008_2_3, .nilS, .nilS]), (1011, .row 78 (.pr .str (.rc .value)) false o0_w1011), (1012, .row 108 (.pr .str (.pr (.sl (.pr .str .str)) (.sl (.pr .str .str)))) false o0_w1012), (1021, .cells [.v .str c1021_0, .v (.int .i64) c1021_1, .v .str c1021_2, .v (.int .i64) c1021_3, .v (.sl .str) c1021_4, .v (.sl (.pr .str (.rc .value))) c1021_5])]⟩
def z80L2_tl4 (t93 : Bool) (_s80 : Int) (c79 : Int) (c80 : Int) (c88 : GValue) (t90 : Str × GValue) (c91 : GValue) (c92 : GValue) (c93 : Bool) (_c96 : Int) (c1008_0_1 : Int) (c1008_1_2 : Str) (c1008_2_3 : Int) (o0_w1011 : List (Str × GValue)) (o0_w1012 : List (Str × List (Str × Str) × List (Str × Str))) (c1021_0 : Str) (c1021_1 : Int) (c1021_2 : Str) (c1021_3 : Int) (c1021_4 : List Str) (c1021_5 : List (Str × GValue)) (o2_22 : Bool) : St := ⟨127, [(8, .box 1008 0), (11, .row 1011), (12, .row 1012), (19, .v .bool t93), (21, .box 1021 0), (22, .v .bool o2_22), (78, .row 1011), (79, .v (.int .i64) c79), (80, .v (.int .i64) c80), (87, .box 1021 1), (88, .v (.rc .value) c88), (89, .row 1011), (90, .at_ (.pr .str (.rc .value)) t90), (91, .at_ (.rc .value) c91), (92, .v (.rc .value) c92), (93, .v .bool c93)], [(1008, .cells [.v (.int .i64) c1008_0_1, .v .str c1008_1_2, .v (.int .i64) c1008_2_3, .nilS, .nilS]), (1011, .row 78 (.pr .str (.rc .value)) false o0_w1011), (1012, .row 108 (.pr .str (.pr (.sl (.pr .str .str)) (.sl (.pr .str .str)))) false o0_w1012), (1021, .cells [.v .str c1021_0, .v (.int .i64) c1021_1, .v .str c1021_2, .v (.int .i64) c1021_3, .v (.sl .str) c1021_4, .v (.sl (.pr .str (.rc .value))) c1021_5])]⟩
def z80L2_G (N : Nat) (t93 : Bool) (s80 : Int) (c79 : Int) (c80 : Int) (c88 : GValue) (t90 : Str × GValue) (c91 : GValue) (c92 : GValue) (c93 : Bool) (c96 : Int) (c1008_0_1 : Int) (c1008_1_2 : Str) (c1008_2_3 : Int) (o0_w1011 : List (Str × GValue)) (o0_w1012 : List (Str × List (Str × Str) × List (Str × Str))) (c1021_0 : Str) (c1021_1 : Int) (c1021_2 : Str) (c1021_3 : Int) (c1021_4 : List Str) (c1021_5 : List (Str × GValue)) (s22 : Bool) (s97 : Int) (k : Ex → St → Option (GValue × Int)) : Option (GValue × Int) :=
  z80L2 N s80 c96 o0_w1012 (fun o2_22 => k (.exit 4) (z80L2_tl4 t93 s80 c79 c80 c88 t90 c91 c92 c93 c96 c1008_0_1 c1008_1_2 c1008_2_3 o0_w1011 o0_w1012 c1021_0 c1021_1 c1021_2 c1021_3 c1021_4 c1021_5 o2_22)) N s22 s97
abbrev z80L2_F (N : Nat) : FV z80L2_fs → HV z80L2_bs → (Ex → St → Option (GValue × Int)) → Option (GValue × Int) := fun x y k => z80L2_G N x.2.2.2.1 x.2.2.2.2.1 x.2.2.2.2.2.2.2.2.1 x.2.2.2.2.2.2.2.2.2.1 x.2.2.2.2.2.2.2.2.2.2.2.1 x.2.2.2.2.2.2.2.2.2.2.2.2.2.1 x.2.2.2.2.2.2.2.2.2.2.2.2.2.2.1 x.2.2.2.2.2.2.2.2.2.2.2.2.2.2.2.1 x.2.2.2.2.2.2.2.2.2.2.2.2.2.2.2.2.1 x.2.2.2.2.2.2.2.2.2.2.2.2.2.2.2.2.2.2.1 y.1.1 y.1.2.1 y.1.2.2.1 y.2.1 y.2.2.1 y.2.2.2.1.1 y.2.2.2.1.2.1 y.2.2.2.1.2.2.1 y.2.2.2.1.2.2.2.1 y.2.2.2.1.2.2.2.2.1 y.2.2.2.1.2.2.2.2.2.1 x.2.2.2.2.2.2.1 x.2.2.2.2.2.2.2.2.2.2.2.2.2.2.2.2.2.2.2.1 k
abbrev z80L3_fs : List (Nat × Sl) := [(8, .box 1008 0), (11, .row 1011), (12, .row 1012), (19, .v .bool), (20, .v (.int .i64)), (21, .box 1021 0), (22, .v .bool), (78, .row 1011), (79, .v (.int .i64)), (80, .v (.int .i64)), (87, .skip), (88, .skip), (89, .skip), (90, .skip), (91, .skip), (92, .skip), (93, .skip), (95, .row 1012), (96, .v (.int .i64)), (97, .v (.int .i64))]
abbrev z80L3_bs : List (Nat × Sb) := [(1008, .cells [.v (.int .i64), .v .str, .v (.int .i64), .nilS, .nilS]), (1011, .row 78 (.pr .str (.rc .value)) false), (1012, .row 108 (.pr .str (.pr (.sl (.pr .str .str)) (.sl (.pr .str .str)))) false), (1021, .cells [.v .str, .v (.int .i64), .v .str, .v (.int .i64), .v (.sl .str), .v (.sl (.pr .str (.rc .value)))])]
def z80L3_hd (c19 : Bool) (s80 : Int) (c79 : Int) (c80_5 : Int) (c96_6 : Int) (c1008_0_1 : Int) (c1008_1_2 : Str) (c1008_2_3 : Int) (o0_w1011 : List (Str × GValue)) (o0_w1012 : List (Str × List (Str × Str) × List (Str × Str))) (c1021_0_8 : Str) (c1021_1_9 : Int) (c1021_2_10 : Str) (c1021_3_11 : Int) (c1021_4_12 : List Str) (c1021_5_13 : List (Str × GValue)) (s22_4 : Bool) (s97_7 : Int) : St := ⟨127, [(8, .box 1008 0), (11, .row 1011), (12, .row 1012), (19, .v .bool c19), (20, .v (.int .i64) s80), (21, .box 1021 0), (22, .v .bool s22_4), (78, .row 1011), (79, .v (.int .i64) c79), (80, .v (.int .i64) c80_5), (87, .skip), (88, .skip), (89, .skip), (90, .skip), (91, .skip), (92, .skip), (93, .skip), (95, .row 1012), (96, .v (.int .i64) c96_6), (97, .v (.int .i64) s97_7)], [(1008, .cells [.v (.int .i64) c1008_0_1, .v .str c1008_1_2, .v (.int .i64) c1008_2_3, .nilS, .nilS]), (1011, .row 78 (.pr .str (.rc .value)) false o0_w1011), (1012, .row 108 (.pr .str (.pr (.sl (.pr .str .str)) (.sl (.pr .str .str)))) false o0_w1012), (1021, .cells [.v .str c1021_0_8, .v (.int .i64) c1021_1_9, .v .str c1021_2_10, .v (.int .i64) c1021_3_11, .v (.sl .str) c1021_4_12, .v (.sl (.pr .str (.rc .value))) c1021_5_13])]⟩
def z80L3_tl4 (c19 : Bool) (_s80 : Int) (c79 : Int) (c80_5 : Int) (_c96_6 : Int) (c1008_0_1 : Int) (c1008_1_2 : Str) (c1008_2_3 : Int) (o0_w1011 : List (Str × GValue)) (o0_w1012 : List (Str × List (Str × Str) × List (Str × Str))) (c1021_0_8 : Str) (c1021_1_9 : Int) (c1021_2_10 : Str) (c1021_3_11 : Int) (c1021_4_12 : List Str) (c1021_5_13 : List (Str × GValue)) (o3_22 : Bool) : St := ⟨127, [(8, .box 1008 0), (11, .row 1011), (12, .row 1012), (19, .v .bool c19), (21, .box 1021 0), (22, .v .bool o3_22), (78, .row 1011), (79, .v (.int .i64) c79), (80, .v (.int .i64) c80_5), (87, .skip), (88, .skip), (89, .skip), (90, .skip), (91, .skip), (92, .skip), (93, .skip)], [(1008, .cells [.v (.int .i64) c1008_0_1, .v .str c1008_1_2, .v (.int .i64) c1008_2_3, .nilS, .nilS]), (1011, .row 78 (.pr .str (.rc .value)) false o0_w1011), (1012, .row 108 (.pr .str (.pr (.sl (.pr .str .str)) (.sl (.pr .str .str)))) false o0_w1012), (1021, .cells [.v .str c1021_0_8, .v (.int .i64) c1021_1_9, .v .str c1021_2_10, .v (.int .i64) c1021_3_11, .v (.sl .str) c1021_4_12, .v (.sl (.pr .str (.rc .value))) c1021_5_13])]⟩
def z80L3_G (N : Nat) (c19 : Bool) (s80 : Int) (c79 : Int) (c80_5 : Int) (c96_6 : Int) (c1008_0_1 : Int) (c1008_1_2 : Str) (c1008_2_3 : Int) (o0_w1011 : List (Str × GValue)) (o0_w1012 : List (Str × List (Str × Str) × List (Str × Str))) (c1021_0_8 : Str) (c1021_1_9 : Int) (c1021_2_10 : Str) (c1021_3_11 : Int) (c1021_4_12 : List Str) (c1021_5_13 : List (Str × GValue)) (s22_4 : Bool) (s97_7 : Int) (k : Ex → St → Option (GValue × Int)) : Option (GValue × Int) :=
  z80L3 N s80 c96_6 o0_w1012 (fun o3_22 => k (.exit 4) (z80L3_tl4 c19 s80 c79 c80_5 c96_6 c1008_0_1 c1008_1_2 c1008_2_3 o0_w1011 o0_w1012 c1021_0_8 c1021_1_9 c1021_2_10 c1021_3_11 c1021_4_12 c1021_5_13 o3_22)) N s22_4 s97_7
abbrev z80L3_F (N : Nat) : FV z80L3_fs → HV z80L3_bs → (Ex → St → Option (GValue × Int)) → Option (GValue × Int) := fun x y k => z80L3_G N x.2.2.2.1 x.2.2.2.2.1 x.2.2.2.2.2.2.2.2.1 x.2.2.2.2.2.2.2.2.2.1 x.2.2.2.2.2.2.2.2.2.2.2.2.2.2.2.2.2.2.1 y.1.1 y.1.2.1 y.1.2.2.1 y.2.1 y.2.2.1 y.2.2.2.1.1 y.2.2.2.1.2.1 y.2.2.2.1.2.2.1 y.2.2.2.1.2.2.2.1 y.2.2.2.1.2.2.2.2.1 y.2.2.2.1.2.2.2.2.2.1 x.2.2.2.2.2.2.1 x.2.2.2.2.2.2.2.2.2.2.2.2.2.2.2.2.2.2.2.1 k
abbrev z80L1_fs : List (Nat × Sl) := [(8, .box 1008 0), (11, .row 1011), (12, .row 1012), (19, .v .bool), (78, .row 1011), (79, .v (.int .i64)), (80, .v (.int .i64))]
abbrev z80L1_bs : List (Nat × Sb) := [(1008, .cells [.v (.int .i64), .v .str, .v (.int .i64), .nilS, .nilS]), (1011, .row 78 (.pr .str (.rc .value)) false), (1012, .row 108 (.pr .str (.pr (.sl (.pr .str .str)) (.sl (.pr .str .str)))) false)]
def z80L1_hd (c79 : Int) (c1008_0_1 : Int) (c1008_1_2 : Str) (c1008_2_3 : Int) (o0_w1011 : List (Str × GValue)) (o0_w1012 : List (Str × List (Str × Str) × List (Str × Str))) (s19 : Bool) (s80 : Int) : St := ⟨127, [(8, .box 1008 0), (11, .row 1011), (12, .row 1012), (19, .v .bool s19), (78, .row 1011), (79, .v (.int .i64) c79), (80, .v (.int .i64) s80)], [(1008, .cells [.v (.int .i64) c1008_0_1, .v .str c1008_1_2, .v (.int .i64) c1008_2_3, .nilS, .nilS]), (1011, .row 78 (.pr .str (.rc .value)) false o0_w1011), (1012, .row 108 (.pr .str (.pr (.sl (.pr .str .str)) (.sl (.pr .str .str)))) false o0_w1012)]⟩
def z80L1_tl2 (_c79 : Int) (c1008_0_1 : Int) (c1008_1_2 : Str) (c1008_2_3 : Int) (o0_w1011 : List (Str × GValue)) (_o0_w1012 : List (Str × List (Str × Str) × List (Str × Str))) (o1_19 : Bool) : St := ⟨127, [(8, .box 1008 0), (11, .row 1011), (19, .v .bool o1_19)], [(1008, .cells [.v (.int .i64) c1008_0_1, .v .str c1008_1_2, .v (.int .i64) c1008_2_3, .nilS, .nilS]), (1011, .row 78 (.pr .str (.rc .value)) false o0_w1011)]⟩
def z80L1_G (N : Nat) (c79 : Int) (c1008_0_1 : Int) (c1008_1_2 : Str) (c1008_2_3 : Int) (o0_w1011 : List (Str × GValue)) (o0_w1012 : List (Str × List (Str × Str) × List (Str × Str))) (s19 : Bool) (s80 : Int) (k : Ex → St → Option (GValue × Int)) : Option (GValue × Int) :=
  z80L1 N c79 o0_w1011 o0_w1012 (fun o1_19 => k (.exit 2) (z80L1_tl2 c79 c1008_0_1 c1008_1_2 c1008_2_3 o0_w1011 o0_w1012 o1_19)) N s19 s80
abbrev z80L1_F (N : Nat) : FV z80L1_fs → HV z80L1_bs → (Ex → St → Option (GValue × Int)) → Option (GValue × Int) := fun x y k => z80L1_G N x.2.2.2.2.2.1 y.1.1 y.1.2.1 y.1.2.2.1 y.2.1 y.2.2.1 x.2.2.2.1 x.2.2.2.2.2.2.1 k
noncomputable def z80LP (N : Nat) : Nat → Code → St → (Ex → St → Option (GValue × Int)) → Option (GValue × Int) := fun i c =>
  match i with
  | 0 => (LPc 127 z80L0_fs z80L0_bs (z80L0_F N) (fun st k => iter (z80h 0) (exec (z80E N) N c 0) N st k))
  | 2 => (LPc 127 z80L1_fs z80L1_bs (z80L1_F N) (fun st k => iter (z80h 2) (exec (z80E N) N c 2) N st k))
  | 4 => (LPc 127 z80L3_fs z80L3_bs (z80L3_F N) (LPc 127 z80L2_fs z80L2_bs (z80L2_F N) (fun st k => iter (z80h 4) (exec (z80E N) N c 4) N st k)))
  | i => fun st k => iter (z80h i) (exec (z80E N) N c i) N st k
theorem z80L2_step (N : Nat) (t93 : Bool) (s80 : Int) (c79 : Int) (c80 : Int) (c88 : GValue) (t90 : Str × GValue) (c91 : GValue) (c92 : GValue) (c93 : Bool) (c96 : Int) (c1008_0_1 : Int) (c1008_1_2 : Str) (c1008_2_3 : Int) (o0_w1011 : List (Str × GValue)) (o0_w1012 : List (Str × List (Str × Str) × List (Str × Str))) (c1021_0 : Str) (c1021_1 : Int) (c1021_2 : Str) (c1021_3 : Int) (c1021_4 : List Str) (c1021_5 : List (Str × GValue)) (KX : Nat → St → Option (GValue × Int)) (I : St → Option (GValue × Int)) (s22 : Bool) (s97 : Int) :
    execL (z80LP N) (z80E N) (cAt (bodyOf Tryz.f35) [true, true, true, true, true, true, true, true, true, false, true, false, false, true, true, false, false, true, true, true, false, true, false, false]) 4 (z80L2_hd t93 s80 c79 c80 c88 t90 c91 c92 c93 c96 c1008_0_1 c1008_1_2 c1008_2_3 o0_w1011 o0_w1012 c1021_0 c1021_1 c1021_2 c1021_3 c1021_4 c1021_5 s22 s97) (roundK (z80h 4) I KX (resD (z80E N) Tryz.f35 (z80sg fun x _ => ref3_chosen N x.1 x.2.1 x.2.2.1 x.2.2.2.1) z80pk)) = z80L2T N s80 c96 o0_w1012 (fun o2_22 => KX 4 (z80L2_tl4 t93 s80 c79 c80 c88 t90 c91 c92 c93 c96 c1008_0_1 c1008_1_2 c1008_2_3 o0_w1011 o0_w1012 c1021_0 c1021_1 c1021_2 c1021_3 c1021_4 c1021_5 o2_22)) (fun s22 s97 => I (z80L2_hd t93 s80 c79 c80 c88 t90 c91 c92 c93 c96 c1008_0_1 c1008_1_2 c1008_2_3 o0_w1011 o0_w1012 c1021_0 c1021_1 c1021_2 c1021_3 c1021_4 c1021_5 s22 s97)) s22 s97 := by kernel_rfl
theorem z80L2_ok (N : Nat) : ∀ x y k, (∀ st, k .ret st = (resD (z80E N) Tryz.f35 (z80sg fun x _ => ref3_chosen N x.1 x.2.1 x.2.2.1 x.2.2.2.1) z80pk) st) → iter (z80h 4) (exec (z80E N) N (cAt (bodyOf Tryz.f35) [true, true, true, true, true, true, true, true, true, false, true, false, false, true, true, false, false, true, true, true, false, true, false, false]) 4) N ⟨127, unF z80L2_fs x, unH z80L2_bs y⟩ k = z80L2_F N x y k := fun x y k hk =>
  iter_link (S := (Bool) × (Int) × Unit) (z80h 4) _ (execL (z80LP N) (z80E N) (cAt (bodyOf Tryz.f35) [true, true, true, true, true, true, true, true, true, false, true, false, false, true, true, false, false, true, true, true, false, true, false, false]) 4) (resD (z80E N) Tryz.f35 (z80sg fun x _ => ref3_chosen N x.1 x.2.1 x.2.2.1 x.2.2.2.1) z80pk) (fun st k hk => execL_eq _ _ N _ (cAt (bodyOf Tryz.f35) [true, true, true, true, true, true, true, true, true, false, true, false, false, true, true, false, false, true, true, true, false, true, false, false]) 4 (show LoopsOk (z80LP N) (z80E N) N (resD (z80E N) Tryz.f35 (z80sg fun x _ => ref3_chosen N x.1 x.2.1 x.2.2.1 x.2.2.2.1) z80pk) [] from trivial) st k hk) (fun s => z80L2_hd x.2.2.2.1 x.2.2.2.2.1 x.2.2.2.2.2.2.2.2.1 x.2.2.2.2.2.2.2.2.2.1 x.2.2.2.2.2.2.2.2.2.2.2.1 x.2.2.2.2.2.2.2.2.2.2.2.2.2.1 x.2.2.2.2.2.2.2.2.2.2.2.2.2.2.1 x.2.2.2.2.2.2.2.2.2.2.2.2.2.2.2.1 x.2.2.2.2.2.2.2.2.2.2.2.2.2.2.2.2.1 x.2.2.2.2.2.2.2.2.2.2.2.2.2.2.2.2.2.2.1 y.1.1 y.1.2.1 y.1.2.2.1 y.2.1 y.2.2.1 y.2.2.2.1.1 y.2.2.2.1.2.1 y.2.2.2.1.2.2.1 y.2.2.2.1.2.2.2.1 y.2.2.2.1.2.2.2.2.1 y.2.2.2.1.2.2.2.2.2.1 s.1 s.2.1) k hk
    (fun self s => z80L2T N x.2.2.2.2.1 x.2.2.2.2.2.2.2.2.2.2.2.2.2.2.2.2.2.2.1 y.2.2.1 (fun o2_22 => k (.exit 4) (z80L2_tl4 x.2.2.2.1 x.2.2.2.2.1 x.2.2.2.2.2.2.2.2.1 x.2.2.2.2.2.2.2.2.2.1 x.2.2.2.2.2.2.2.2.2.2.2.1 x.2.2.2.2.2.2.2.2.2.2.2.2.2.1 x.2.2.2.2.2.2.2.2.2.2.2.2.2.2.1 x.2.2.2.2.2.2.2.2.2.2.2.2.2.2.2.1 x.2.2.2.2.2.2.2.2.2.2.2.2.2.2.2.2.1 x.2.2.2.2.2.2.2.2.2.2.2.2.2.2.2.2.2.2.1 y.1.1 y.1.2.1 y.1.2.2.1 y.2.1 y.2.2.1 y.2.2.2.1.1 y.2.2.2.1.2.1 y.2.2.2.1.2.2.1 y.2.2.2.1.2.2.2.1 y.2.2.2.1.2.2.2.2.1 y.2.2.2.1.2.2.2.2.2.1 o2_22)) (fun s22 s97 => self (s22, s97, ())) s.1 s.2.1) (fun n s => z80L2 N x.2.2.2.2.1 x.2.2.2.2.2.2.2.2.2.2.2.2.2.2.2.2.2.2.1 y.2.2.1 (fun o2_22 => k (.exit 4) (z80L2_tl4 x.2.2.2.1 x.2.2.2.2.1 x.2.2.2.2.2.2.2.2.1 x.2.2.2.2.2.2.2.2.2.1 x.2.2.2.2.2.2.2.2.2.2.2.1 x.2.2.2.2.2.2.2.2.2.2.2.2.2.1 x.2.2.2.2.2.2.2.2.2.2.2.2.2.2.1 x.2.2.2.2.2.2.2.2.2.2.2.2.2.2.2.1 x.2.2.2.2.2.2.2.2.2.2.2.2.2.2.2.2.1 x.2.2.2.2.2.2.2.2.2.2.2.2.2.2.2.2.2.2.1 y.1.1 y.1.2.1 y.1.2.2.1 y.2.1 y.2.2.1 y.2.2.2.1.1 y.2.2.2.1.2.1 y.2.2.2.1.2.2.1 y.2.2.2.1.2.2.2.1 y.2.2.2.1.2.2.2.2.1 y.2.2.2.1.2.2.2.2.2.1 o2_22)) n s.1 s.2.1) (fun _ => rfl) (fun _ _ => rfl)
    (fun I s => z80L2_step N x.2.2.2.1 x.2.2.2.2.1 x.2.2.2.2.2.2.2.2.1 x.2.2.2.2.2.2.2.2.2.1 x.2.2.2.2.2.2.2.2.2.2.2.1 x.2.2.2.2.2.2.2.2.2.2.2.2.2.1 x.2.2.2.2.2.2.2.2.2.2.2.2.2.2.1 x.2.2.2.2.2.2.2.2.2.2.2.2.2.2.2.1 x.2.2.2.2.2.2.2.2.2.2.2.2.2.2.2.2.1 x.2.2.2.2.2.2.2.2.2.2.2.2.2.2.2.2.2.2.1 y.1.1 y.1.2.1 y.1.2.2.1 y.2.1 y.2.2.1 y.2.2.2.1.1 y.2.2.2.1.2.1 y.2.2.2.1.2.2.1 y.2.2.2.1.2.2.2.1 y.2.2.2.1.2.2.2.2.1 y.2.2.2.1.2.2.2.2.2.1 (fun j => k (.exit j)) I s.1 s.2.1) N (x.2.2.2.2.2.2.1, x.2.2.2.2.2.2.2.2.2.2.2.2.2.2.2.2.2.2.2.1, ())
theorem z80L3_step (N : Nat) (c19 : Bool) (s80 : Int) (c79 : Int) (c80_5 : Int) (c96_6 : Int) (c1008_0_1 : Int) (c1008_1_2 : Str) (c1008_2_3 : Int) (o0_w1011 : List (Str × GValue)) (o0_w1012 : List (Str × List (Str × Str) × List (Str × Str))) (c1021_0_8 : Str) (c1021_1_9 : Int) (c1021_2_10 : Str) (c1021_3_11 : Int) (c1021_4_12 : List Str) (c1021_5_13 : List (Str × GValue)) (KX : Nat → St → Option (GValue × Int)) (I : St → Option (GValue × Int)) (s22_4 : Bool) (s97_7 : Int) :
    execL (z80LP N) (z80E N) (cAt (bodyOf Tryz.f35) [true, true, true, true, true, true, true, true, true, false, true, false, false, true, true, false, false, true, true, true, false, true, false, false]) 4 (z80L3_hd c19 s80 c79 c80_5 c96_6 c1008_0_1 c1008_1_2 c1008_2_3 o0_w1011 o0_w1012 c1021_0_8 c1021_1_9 c1021_2_10 c1021_3_11 c1021_4_12 c1021_5_13 s22_4 s97_7) (roundK (z80h 4) I KX (resD (z80E N) Tryz.f35 (z80sg fun x _ => ref3_chosen N x.1 x.2.1 x.2.2.1 x.2.2.2.1) z80pk)) = z80L3T N s80 c96_6 o0_w1012 (fun o3_22 => KX 4 (z80L3_tl4 c19 s80 c79 c80_5 c96_6 c1008_0_1 c1008_1_2 c1008_2_3 o0_w1011 o0_w1012 c1021_0_8 c1021_1_9 c1021_2_10 c1021_3_11 c1021_4_12 c1021_5_13 o3_22)) (fun s22_4 s97_7 => I (z80L3_hd c19 s80 c79 c80_5 c96_6 c1008_0_1 c1008_1_2 c1008_2_3 o0_w1011 o0_w1012 c1021_0_8 c1021_1_9 c1021_2_10 c1021_3_11 c1021_4_12 c1021_5_13 s22_4 s97_7)) s22_4 s97_7 := by kernel_rfl
theorem z80L3_ok (N : Nat) : ∀ x y k, (∀ st, k .ret st = (resD (z80E N) Tryz.f35 (z80sg fun x _ => ref3_chosen N x.1 x.2.1 x.2.2.1 x.2.2.2.1) z80pk) st) → iter (z80h 4) (exec (z80E N) N (cAt (bodyOf Tryz.f35) [true, true, true, true, true, true, true, true, true, false, true, false, false, true, true, false, false, true, true, true, false, true, false, false]) 4) N ⟨127, unF z80L3_fs x, unH z80L3_bs y⟩ k = z80L3_F N x y k := fun x y k hk =>
  iter_link (S := (Bool) × (Int) × Unit) (z80h 4) _ (execL (z80LP N) (z80E N) (cAt (bodyOf Tryz.f35) [true, true, true, true, true, true, true, true, true, false, true, false, false, true, true, false, false, true, true, true, false, true, false, false]) 4) (resD (z80E N) Tryz.f35 (z80sg fun x _ => ref3_chosen N x.1 x.2.1 x.2.2.1 x.2.2.2.1) z80pk) (fun st k hk => execL_eq _ _ N _ (cAt (bodyOf Tryz.f35) [true, true, true, true, true, true, true, true, true, false, true, false, false, true, true, false, false, true, true, true, false, true, false, false]) 4 (show LoopsOk (z80LP N) (z80E N) N (resD (z80E N) Tryz.f35 (z80sg fun x _ => ref3_chosen N x.1 x.2.1 x.2.2.1 x.2.2.2.1) z80pk) [] from trivial) st k hk) (fun s => z80L3_hd x.2.2.2.1 x.2.2.2.2.1 x.2.2.2.2.2.2.2.2.1 x.2.2.2.2.2.2.2.2.2.1 x.2.2.2.2.2.2.2.2.2.2.2.2.2.2.2.2.2.2.1 y.1.1 y.1.2.1 y.1.2.2.1 y.2.1 y.2.2.1 y.2.2.2.1.1 y.2.2.2.1.2.1 y.2.2.2.1.2.2.1 y.2.2.2.1.2.2.2.1 y.2.2.2.1.2.2.2.2.1 y.2.2.2.1.2.2.2.2.2.1 s.1 s.2.1) k hk
    (fun self s => z80L3T N x.2.2.2.2.1 x.2.2.2.2.2.2.2.2.2.2.2.2.2.2.2.2.2.2.1 y.2.2.1 (fun o3_22 => k (.exit 4) (z80L3_tl4 x.2.2.2.1 x.2.2.2.2.1 x.2.2.2.2.2.2.2.2.1 x.2.2.2.2.2.2.2.2.2.1 x.2.2.2.2.2.2.2.2.2.2.2.2.2.2.2.2.2.2.1 y.1.1 y.1.2.1 y.1.2.2.1 y.2.1 y.2.2.1 y.2.2.2.1.1 y.2.2.2.1.2.1 y.2.2.2.1.2.2.1 y.2.2.2.1.2.2.2.1 y.2.2.2.1.2.2.2.2.1 y.2.2.2.1.2.2.2.2.2.1 o3_22)) (fun s22_4 s97_7 => self (s22_4, s97_7, ())) s.1 s.2.1) (fun n s => z80L3 N x.2.2.2.2.1 x.2.2.2.2.2.2.2.2.2.2.2.2.2.2.2.2.2.2.1 y.2.2.1 (fun o3_22 => k (.exit 4) (z80L3_tl4 x.2.2.2.1 x.2.2.2.2.1 x.2.2.2.2.2.2.2.2.1 x.2.2.2.2.2.2.2.2.2.1 x.2.2.2.2.2.2.2.2.2.2.2.2.2.2.2.2.2.2.1 y.1.1 y.1.2.1 y.1.2.2.1 y.2.1 y.2.2.1 y.2.2.2.1.1 y.2.2.2.1.2.1 y.2.2.2.1.2.2.1 y.2.2.2.1.2.2.2.1 y.2.2.2.1.2.2.2.2.1 y.2.2.2.1.2.2.2.2.2.1 o3_22)) n s.1 s.2.1) (fun _ => rfl) (fun _ _ => rfl)
    (fun I s => z80L3_step N x.2.2.2.1 x.2.2.2.2.1 x.2.2.2.2.2.2.2.2.1 x.2.2.2.2.2.2.2.2.2.1 x.2.2.2.2.2.2.2.2.2.2.2.2.2.2.2.2.2.2.1 y.1.1 y.1.2.1 y.1.2.2.1 y.2.1 y.2.2.1 y.2.2.2.1.1 y.2.2.2.1.2.1 y.2.2.2.1.2.2.1 y.2.2.2.1.2.2.2.1 y.2.2.2.1.2.2.2.2.1 y.2.2.2.1.2.2.2.2.2.1 (fun j => k (.exit j)) I s.1 s.2.1) N (x.2.2.2.2.2.2.1, x.2.2.2.2.2.2.2.2.2.2.2.2.2.2.2.2.2.2.2.1, ())
theorem z80lp4 (N : Nat) : ∀ st k, (∀ st, k .ret st = (resD (z80E N) Tryz.f35 (z80sg fun x _ => ref3_chosen N x.1 x.2.1 x.2.2.1 x.2.2.2.1) z80pk) st) → z80LP N 4 (cAt (bodyOf Tryz.f35) [true, true, true, true, true, true, true, true, true, false, true, false, false, true, true, false, false, true, true, true, false, true, false, false]) st k = iter (Env.hint (z80E N) 4) (exec (z80E N) N (cAt (bodyOf Tryz.f35) [true, true, true, true, true, true, true, true, true, false, true, false, false, true, true, false, false, true, true, true, false, true, false, false]) 4) N st k := fun st k hk => LPc_eq 127 z80L3_fs z80L3_bs _ _ (resD (z80E N) Tryz.f35 (z80sg fun x _ => ref3_chosen N x.1 x.2.1 x.2.2.1 x.2.2.2.1) z80pk) (z80L3_ok N) _ st k hk (LPc_eq 127 z80L2_fs z80L2_bs _ _ (resD (z80E N) Tryz.f35 (z80sg fun x _ => ref3_chosen N x.1 x.2.1 x.2.2.1 x.2.2.2.1) z80pk) (z80L2_ok N) _ st k hk (rfl))
theorem z80L1_step (N : Nat) (c79 : Int) (c1008_0_1 : Int) (c1008_1_2 : Str) (c1008_2_3 : Int) (o0_w1011 : List (Str × GValue)) (o0_w1012 : List (Str × List (Str × Str) × List (Str × Str))) (KX : Nat → St → Option (GValue × Int)) (I : St → Option (GValue × Int)) (s19 : Bool) (s80 : Int) :
    execL (z80LP N) (z80E N) (cAt (bodyOf Tryz.f35) [true, true, true, true, true, true, true, true, true, false, true, false, false]) 2 (z80L1_hd c79 c1008_0_1 c1008_1_2 c1008_2_3 o0_w1011 o0_w1012 s19 s80) (roundK (z80h 2) I KX (resD (z80E N) Tryz.f35 (z80sg fun x _ => ref3_chosen N x.1 x.2.1 x.2.2.1 x.2.2.2.1) z80pk)) = z80L1T N c79 o0_w1011 o0_w1012 (fun o1_19 => KX 2 (z80L1_tl2 c79 c1008_0_1 c1008_1_2 c1008_2_3 o0_w1011 o0_w1012 o1_19)) (fun s19 s80 => I (z80L1_hd c79 c1008_0_1 c1008_1_2 c1008_2_3 o0_w1011 o0_w1012 s19 s80)) s19 s80 := by kernel_rfl
theorem z80L1_ok (N : Nat) : ∀ x y k, (∀ st, k .ret st = (resD (z80E N) Tryz.f35 (z80sg fun x _ => ref3_chosen N x.1 x.2.1 x.2.2.1 x.2.2.2.1) z80pk) st) → iter (z80h 2) (exec (z80E N) N (cAt (bodyOf Tryz.f35) [true, true, true, true, true, true, true, true, true, false, true, false, false]) 2) N ⟨127, unF z80L1_fs x, unH z80L1_bs y⟩ k = z80L1_F N x y k := fun x y k hk =>
  iter_link (S := (Bool) × (Int) × Unit) (z80h 2) _ (execL (z80LP N) (z80E N) (cAt (bodyOf Tryz.f35) [true, true, true, true, true, true, true, true, true, false, true, false, false]) 2) (resD (z80E N) Tryz.f35 (z80sg fun x _ => ref3_chosen N x.1 x.2.1 x.2.2.1 x.2.2.2.1) z80pk) (fun st k hk => execL_eq _ _ N _ (cAt (bodyOf Tryz.f35) [true, true, true, true, true, true, true, true, true, false, true, false, false]) 2 (show LoopsOk (z80LP N) (z80E N) N (resD (z80E N) Tryz.f35 (z80sg fun x _ => ref3_chosen N x.1 x.2.1 x.2.2.1 x.2.2.2.1) z80pk) [(4, (cAt (bodyOf Tryz.f35) [true, true, true, true, true, true, true, true, true, false, true, false, false, true, true, false, false, true, true, true, false, true, false, false]))] from ⟨z80lp4 N, trivial⟩) st k hk) (fun s => z80L1_hd x.2.2.2.2.2.1 y.1.1 y.1.2.1 y.1.2.2.1 y.2.1 y.2.2.1 s.1 s.2.1) k hk
    (fun self s => z80L1T N x.2.2.2.2.2.1 y.2.1 y.2.2.1 (fun o1_19 => k (.exit 2) (z80L1_tl2 x.2.2.2.2.2.1 y.1.1 y.1.2.1 y.1.2.2.1 y.2.1 y.2.2.1 o1_19)) (fun s19 s80 => self (s19, s80, ())) s.1 s.2.1) (fun n s => z80L1 N x.2.2.2.2.2.1 y.2.1 y.2.2.1 (fun o1_19 => k (.exit 2) (z80L1_tl2 x.2.2.2.2.2.1 y.1.1 y.1.2.1 y.1.2.2.1 y.2.1 y.2.2.1 o1_19)) n s.1 s.2.1) (fun _ => rfl) (fun _ _ => rfl)
    (fun I s => z80L1_step N x.2.2.2.2.2.1 y.1.1 y.1.2.1 y.1.2.2.1 y.2.1 y.2.2.1 (fun j => k (.exit j)) I s.1 s.2.1) N (x.2.2.2.1, x.2.2.2.2.2.2.1, ())
theorem z80lp2 (N : Nat) : ∀ st k, (∀ st, k .ret st = (resD (z80E N) Tryz.f35 (z80sg fun x _ => ref3_chosen N x.1 x.2.1 x.2.2.1 x.2.2.2.1) z80pk) st) → z80LP N 2 (cAt (bodyOf Tryz.f35) [true, true, true, true, true, true, true, true, true, false, true, false, false]) st k = iter (Env.hint (z80E N) 2) (exec (z80E N) N (cAt (bodyOf Tryz.f35) [true, true, true, true, true, true, true, true, true, false, true, false, false]) 2) N st k := fun st k hk => LPc_eq 127 z80L1_fs z80L1_bs _ _ (resD (z80E N) Tryz.f35 (z80sg fun x _ => ref3_chosen N x.1 x.2.1 x.2.2.1 x.2.2.2.1) z80pk) (z80L1_ok N) _ st k hk (rfl)
theorem z80L0_step (N : Nat) (x2 : List (Str × Str)) (c38 : List (Str × GValue)) (c39 : Int) (c1004_0 : List (Str × List Str)) (c1004_1 : List (Str × List (Str × Str) × List (Str × Str))) (c1004_2 : List (Str × List (Str × Str))) (c1004_3 : List (Str × Str × List (Str × Str) × List (Str × Str))) (c1004_4 : List (Str × List (Str × Str) × List Str)) (c1007_0 : Str) (c1007_1 : List (Str × Str)) (c1008_0 : Int) (c1008_1 : Str) (c1008_2 : Int) (KX : Nat → St → Option (GValue × Int)) (I : St → Option (GValue × Int)) (s14 : Bool) (s40 : Int) (w1011 : List (Str × GValue)) (w1012 : List (Str × List (Str × Str) × List (Str × Str))) (b1013_0 : Int) (b1013_1 : Str) (b1013_2 : Int) (b1013_3 : List Str) (b1013_4 : List (Str × GValue)) :
    execL (z80LP N) (z80E N) (cAt (bodyOf Tryz.f35) [true, true, true, true, true, true, false, true, false, false]) 0 (z80L0_hd x2 c38 c39 c1004_0 c1004_1 c1004_2 c1004_3 c1004_4 c1007_0 c1007_1 c1008_0 c1008_1 c1008_2 s14 s40 w1011 w1012 b1013_0 b1013_1 b1013_2 b1013_3 b1013_4) (roundK (z80h 0) I KX (resD (z80E N) Tryz.f35 (z80sg fun x _ => ref3_chosen N x.1 x.2.1 x.2.2.1 x.2.2.2.1) z80pk)) = z80L0T N x2 c38 c39 c1004_0 c1004_1 c1007_0 c1007_1 (fun o0_14 o0_w1011 o0_w1012 o0_1013_0 o0_1013_1 o0_1013_2 o0_1013_3 o0_1013_4 => KX 0 (z80L0_tl0 x2 c38 c39 c1004_0 c1004_1 c1004_2 c1004_3 c1004_4 c1007_0 c1007_1 c1008_0 c1008_1 c1008_2 o0_14 o0_w1011 o0_w1012 o0_1013_0 o0_1013_1 o0_1013_2 o0_1013_3 o0_1013_4)) (fun s14 s40 w1011 w1012 b1013_0 b1013_1 b1013_2 b1013_3 b1013_4 => I (z80L0_hd x2 c38 c39 c1004_0 c1004_1 c1004_2 c1004_3 c1004_4 c1007_0 c1007_1 c1008_0 c1008_1 c1008_2 s14 s40 w1011 w1012 b1013_0 b1013_1 b1013_2 b1013_3 b1013_4)) s14 s40 w1011 w1012 b1013_0 b1013_1 b1013_2 b1013_3 b1013_4 := by kernel_rfl
theorem z80L0_ok (N : Nat) : ∀ x y k, (∀ st, k .ret st = (resD (z80E N) Tryz.f35 (z80sg fun x _ => ref3_chosen N x.1 x.2.1 x.2.2.1 x.2.2.2.1) z80pk) st) → iter (z80h 0) (exec (z80E N) N (cAt (bodyOf Tryz.f35) [true, true, true, true, true, true, false, true, false, false]) 0) N ⟨127, unF z80L0_fs x, unH z80L0_bs y⟩ k = z80L0_F N x y k := fun x y k hk =>
  iter_link (S := (Bool) × (Int) × (List (Str × GValue)) × (List (Str × List (Str × Str) × List (Str × Str))) × (Int) × (Str) × (Int) × (List Str) × (List (Str × GValue)) × Unit) (z80h 0) _ (execL (z80LP N) (z80E N) (cAt (bodyOf Tryz.f35) [true, true, true, true, true, true, false, true, false, false]) 0) (resD (z80E N) Tryz.f35 (z80sg fun x _ => ref3_chosen N x.1 x.2.1 x.2.2.1 x.2.2.2.1) z80pk) (fun st k hk => execL_eq _ _ N _ (cAt (bodyOf Tryz.f35) [true, true, true, true, true, true, false, true, false, false]) 0 (show LoopsOk (z80LP N) (z80E N) N (resD (z80E N) Tryz.f35 (z80sg fun x _ => ref3_chosen N x.1 x.2.1 x.2.2.1 x.2.2.2.1) z80pk) [] from trivial) st k hk) (fun s => z80L0_hd x.1 x.2.2.2.2.2.2.2.2.1 x.2.2.2.2.2.2.2.2.2.1 y.1.1 y.1.2.1 y.1.2.2.1 y.1.2.2.2.1 y.1.2.2.2.2.1 y.2.1.1 y.2.1.2.1 y.2.2.1.1 y.2.2.1.2.1 y.2.2.1.2.2.1 s.1 s.2.1 s.2.2.1 s.2.2.2.1 s.2.2.2.2.1 s.2.2.2.2.2.1 s.2.2.2.2.2.2.1 s.2.2.2.2.2.2.2.1 s.2.2.2.2.2.2.2.2.1) k hk
    (fun self s => z80L0T N x.1 x.2.2.2.2.2.2.2.2.1 x.2.2.2.2.2.2.2.2.2.1 y.1.1 y.1.2.1 y.2.1.1 y.2.1.2.1 (fun o0_14 o0_w1011 o0_w1012 o0_1013_0 o0_1013_1 o0_1013_2 o0_1013_3 o0_1013_4 => k (.exit 0) (z80L0_tl0 x.1 x.2.2.2.2.2.2.2.2.1 x.2.2.2.2.2.2.2.2.2.1 y.1.1 y.1.2.1 y.1.2.2.1 y.1.2.2.2.1 y.1.2.2.2.2.1 y.2.1.1 y.2.1.2.1 y.2.2.1.1 y.2.2.1.2.1 y.2.2.1.2.2.1 o0_14 o0_w1011 o0_w1012 o0_1013_0 o0_1013_1 o0_1013_2 o0_1013_3 o0_1013_4)) (fun s14 s40 w1011 w1012 b1013_0 b1013_1 b1013_2 b1013_3 b1013_4 => self (s14, s40, w1011, w1012, b1013_0, b1013_1, b1013_2, b1013_3, b1013_4, ())) s.1 s.2.1 s.2.2.1 s.2.2.2.1 s.2.2.2.2.1 s.2.2.2.2.2.1 s.2.2.2.2.2.2.1 s.2.2.2.2.2.2.2.1 s.2.2.2.2.2.2.2.2.1) (fun n s => z80L0 N x.1 x.2.2.2.2.2.2.2.2.1 x.2.2.2.2.2.2.2.2.2.1 y.1.1 y.1.2.1 y.2.1.1 y.2.1.2.1 (fun o0_14 o0_w1011 o0_w1012 o0_1013_0 o0_1013_1 o0_1013_2 o0_1013_3 o0_1013_4 => k (.exit 0) (z80L0_tl0 x.1 x.2.2.2.2.2.2.2.2.1 x.2.2.2.2.2.2.2.2.2.1 y.1.1 y.1.2.1 y.1.2.2.1 y.1.2.2.2.1 y.1.2.2.2.2.1 y.2.1.1 y.2.1.2.1 y.2.2.1.1 y.2.2.1.2.1 y.2.2.1.2.2.1 o0_14 o0_w1011 o0_w1012 o0_1013_0 o0_1013_1 o0_1013_2 o0_1013_3 o0_1013_4)) n s.1 s.2.1 s.2.2.1 s.2.2.2.1 s.2.2.2.2.1 s.2.2.2.2.2.1 s.2.2.2.2.2.2.1 s.2.2.2.2.2.2.2.1 s.2.2.2.2.2.2.2.2.1) (fun _ => rfl) (fun _ _ => rfl)
    (fun I s => z80L0_step N x.1 x.2.2.2.2.2.2.2.2.1 x.2.2.2.2.2.2.2.2.2.1 y.1.1 y.1.2.1 y.1.2.2.1 y.1.2.2.2.1 y.1.2.2.2.2.1 y.2.1.1 y.2.1.2.1 y.2.2.1.1 y.2.2.1.2.1 y.2.2.1.2.2.1 (fun j => k (.exit j)) I s.1 s.2.1 s.2.2.1 s.2.2.2.1 s.2.2.2.2.1 s.2.2.2.2.2.1 s.2.2.2.2.2.2.1 s.2.2.2.2.2.2.2.1 s.2.2.2.2.2.2.2.2.1) N (x.2.2.2.2.2.2.2.1, x.2.2.2.2.2.2.2.2.2.2.1, y.2.2.2.1, y.2.2.2.2.1, y.2.2.2.2.2.1.1, y.2.2.2.2.2.1.2.1, y.2.2.2.2.2.1.2.2.1, y.2.2.2.2.2.1.2.2.2.1, y.2.2.2.2.2.1.2.2.2.2.1, ())
theorem z80lp0 (N : Nat) : ∀ st k, (∀ st, k .ret st = (resD (z80E N) Tryz.f35 (z80sg fun x _ => ref3_chosen N x.1 x.2.1 x.2.2.1 x.2.2.2.1) z80pk) st) → z80LP N 0 (cAt (bodyOf Tryz.f35) [true, true, true, true, true, true, false, true, false, false]) st k = iter (Env.hint (z80E N) 0) (exec (z80E N) N (cAt (bodyOf Tryz.f35) [true, true, true, true, true, true, false, true, false, false]) 0) N st k := fun st k hk => LPc_eq 127 z80L0_fs z80L0_bs _ _ (resD (z80E N) Tryz.f35 (z80sg fun x _ => ref3_chosen N x.1 x.2.1 x.2.2.1 x.2.2.2.1) z80pk) (z80L0_ok N) _ st k hk (rfl)
theorem z80core (N : Nat) (x : SV [.v (.pr (.sl (.pr .str (.sl .str))) (.pr (.sl (.pr .str (.pr (.sl (.pr .str .str)) (.sl (.pr .str .str))))) (.pr (.sl (.pr .str (.sl (.pr .str .str)))) (.pr (.sl (.pr .str (.pr .str (.pr (.sl (.pr .str .str)) (.sl (.pr .str .str)))))) (.sl (.pr .str (.pr (.sl (.pr .str .str)) (.sl .str)))))))), .v (.rc .value), .v (.sl (.pr .str .str)), .v (.pr .str (.sl (.pr .str .str)))]) (y : BV []) : runL (z80E N) Tryz.f35 (z80sg fun x _ => ref3_chosen N x.1 x.2.1 x.2.2.1 x.2.2.2.1) z80pk (z80LP N) x y = ref3_chosen N x.1 x.2.1 x.2.2.1 x.2.2.2.1 := by kernel_rfl
theorem z80sound (N : Nat) : Sound Tryz.prog GW B0G 35 (z80sg fun x _ => ref3_chosen N x.1 x.2.1 x.2.2.1 x.2.2.2.1) :=
  runD_sound (mkE_ok z80h (z80fn N) _ _ (z80fn_ok N)) Tryz.func35 rfl Tryz.call35 (z80sg fun x _ => ref3_chosen N x.1 x.2.1 x.2.2.1 x.2.2.2.1) z80pk (fun _ _ => rfl) N (fun x y _ h => ((runL_eq (z80E N) N Tryz.f35 (z80sg fun x _ => ref3_chosen N x.1 x.2.1 x.2.2.1 x.2.2.2.1) z80pk (z80LP N) (show LoopsOk (z80LP N) (z80E N) N (resD (z80E N) Tryz.f35 (z80sg fun x _ => ref3_chosen N x.1 x.2.1 x.2.2.1 x.2.2.2.1) z80pk) [(0, (cAt (bodyOf Tryz.f35) [true, true, true, true, true, true, false, true, false, false])), (2, (cAt (bodyOf Tryz.f35) [true, true, true, true, true, true, true, true, true, false, true, false, false])), (4, (cAt (bodyOf Tryz.f35) [true, true, true, true, true, true, true, true, true, false, true, false, false, true, true, false, false, true, true, true, false, true, false, false]))] from ⟨z80lp0 N, z80lp2 N, z80lp4 N, trivial⟩) x y).trans (z80core N x y)).trans h)
def ref3_Chosen (N : Nat) (x0 : List (Str × List Str) × List (Str × List (Str × Str) × List (Str × Str)) × List (Str × List (Str × Str)) × List (Str × Str × List (Str × Str) × List (Str × Str)) × List (Str × List (Str × Str) × List Str)) (x1 : GValue) (x2 : List (Str × Str)) (x3 : Str × List (Str × Str)) : Option (GValue × Int) :=
  bnd (ref3_ask N x0 x2 x3) fun t15 =>
  br (t15 != (0 : Int))
    (some (GValue.mk (0 : Int) ([] : Str) (0 : Int) ([] : List Str) ([] : List (Str × GValue)), t15))
    (bnd (ref2_CheckValue N (ref2_checkCases N N) (GValue.mk x1.kind x1.text x1.number x1.list x1.cases)) fun t21 =>
    br (t21 != (0 : Int))
      (some (GValue.mk (0 : Int) ([] : Str) (0 : Int) ([] : List Str) ([] : List (Str × GValue)), t21))
      (bnd (ref3_chosen N x0 (GValue.mk x1.kind x1.text x1.number x1.list x1.cases) x2 x3) fun t30 =>
      some (GValue.mk t30.1.kind t30.1.text t30.1.number t30.1.list t30.1.cases, t30.2)))
abbrev z78sg (f : SV [.v (.pr (.sl (.pr .str (.sl .str))) (.pr (.sl (.pr .str (.pr (.sl (.pr .str .str)) (.sl (.pr .str .str))))) (.pr (.sl (.pr .str (.sl (.pr .str .str)))) (.pr (.sl (.pr .str (.pr .str (.pr (.sl (.pr .str .str)) (.sl (.pr .str .str)))))) (.sl (.pr .str (.pr (.sl (.pr .str .str)) (.sl .str)))))))), .v (.rc .value), .v (.sl (.pr .str .str)), .v (.pr .str (.sl (.pr .str .str)))] → BV [] → Option (GValue × Int)) : AF := { ps := [.v (.pr (.sl (.pr .str (.sl .str))) (.pr (.sl (.pr .str (.pr (.sl (.pr .str .str)) (.sl (.pr .str .str))))) (.pr (.sl (.pr .str (.sl (.pr .str .str)))) (.pr (.sl (.pr .str (.pr .str (.pr (.sl (.pr .str .str)) (.sl (.pr .str .str)))))) (.sl (.pr .str (.pr (.sl (.pr .str .str)) (.sl .str)))))))), .v (.rc .value), .v (.sl (.pr .str .str)), .v (.pr .str (.sl (.pr .str .str)))], bs := [], rs := [.v (.rc .value), .v (.int .i64)], cs := [], R := GValue × Int, out := fun z => ((z.1, z.2, ()), ()), f := f }
abbrev z78pk : SV [.v (.rc .value), .v (.int .i64)] → BV [] → (GValue × Int) := fun x _ => (x.1, x.2.1)
def z78fn (N : Nat) : FuncId → Option Tmp → Option AF := fun f _ =>
  match f with
    | 33 => some (z88sg fun x _ => ref3_ask N x.1 x.2.1 x.2.2.1)
    | 34 => some (z51sg fun x _ => ref2_CheckValue N (ref2_checkCases N N) x.1)
    | 35 => some (z80sg fun x _ => ref3_chosen N x.1 x.2.1 x.2.2.1 x.2.2.2.1)
    | _ => none
theorem z78fn_ok (N : Nat) : ∀ f q F, z78fn N f q = some F → Sound Tryz.prog GW B0G f F := by
  intro f q F h
  unfold z78fn at h
  split at h
  · cases h; exact z88sound N
  · cases h; exact z51sound N (ref2_checkCases N N) (z52sound N N)
  · cases h; exact z80sound N
  · cases h
def z78h : Nat → Hint := fun i =>
  match i with
  | _ => ⟨[], [], [], [], [], []⟩
abbrev z78E (N : Nat) : Env := mkE z78h (z78fn N) (fun _ => false) (fun _ => false)
noncomputable def z78LP (N : Nat) : Nat → Code → St → (Ex → St → Option (GValue × Int)) → Option (GValue × Int) := fun i c =>
  match i with
  | i => fun st k => iter (z78h i) (exec (z78E N) N c i) N st k
theorem z78core (N : Nat) (x : SV [.v (.pr (.sl (.pr .str (.sl .str))) (.pr (.sl (.pr .str (.pr (.sl (.pr .str .str)) (.sl (.pr .str .str))))) (.pr (.sl (.pr .str (.sl (.pr .str .str)))) (.pr (.sl (.pr .str (.pr .str (.pr (.sl (.pr .str .str)) (.sl (.pr .str .str)))))) (.sl (.pr .str (.pr (.sl (.pr .str .str)) (.sl .str)))))))), .v (.rc .value), .v (.sl (.pr .str .str)), .v (.pr .str (.sl (.pr .str .str)))]) (y : BV []) : runL (z78E N) Tryz.f9 (z78sg fun x _ => ref3_Chosen N x.1 x.2.1 x.2.2.1 x.2.2.2.1) z78pk (z78LP N) x y = ref3_Chosen N x.1 x.2.1 x.2.2.1 x.2.2.2.1 := by kernel_rfl
theorem z78sound (N : Nat) : Sound Tryz.prog GW B0G 9 (z78sg fun x _ => ref3_Chosen N x.1 x.2.1 x.2.2.1 x.2.2.2.1) :=
  runD_sound (mkE_ok z78h (z78fn N) _ _ (z78fn_ok N)) Tryz.func9 rfl Tryz.call9 (z78sg fun x _ => ref3_Chosen N x.1 x.2.1 x.2.2.1 x.2.2.2.1) z78pk (fun _ _ => rfl) N (fun x y _ h => ((runL_eq (z78E N) N Tryz.f9 (z78sg fun x _ => ref3_Chosen N x.1 x.2.1 x.2.2.1 x.2.2.2.1) z78pk (z78LP N) (show LoopsOk (z78LP N) (z78E N) N (resD (z78E N) Tryz.f9 (z78sg fun x _ => ref3_Chosen N x.1 x.2.1 x.2.2.1 x.2.2.2.1) z78pk) [] from trivial) x y).trans (z78core N x y)).trans h)
def law3_ConfigChosenMatchesSpec (N : Nat) (x0 : List (Str × List Str) × List (Str × List (Str × Str) × List (Str × Str)) × List (Str × List (Str × Str)) × List (Str × Str × List (Str × Str) × List (Str × Str)) × List (Str × List (Str × Str) × List Str)) (x1 : GValue) (x2 : List (Str × Str)) (x3 : Str × List (Str × Str)) : Option Bool :=
  bnd (config_Chosen N x0 (GValue.mk x1.kind x1.text x1.number x1.list x1.cases) x2 x3) fun t18 =>
  bnd (ref3_Chosen N x0 (GValue.mk x1.kind x1.text x1.number x1.list x1.cases) x2 x3) fun t26 =>
  br (t18.2 == t26.2)
    (bnd (ref2_SameValue N N (GValue.mk t18.1.kind t18.1.text t18.1.number t18.1.list t18.1.cases) (GValue.mk t26.1.kind t26.1.text t26.1.number t26.1.list t26.1.cases)) fun t35 =>
    br (t35)
      (bnd (law3_awake N) fun t38 =>
      some t38)
      (some false))
    (some false)
abbrev z9sg (f : SV [.v (.pr (.sl (.pr .str (.sl .str))) (.pr (.sl (.pr .str (.pr (.sl (.pr .str .str)) (.sl (.pr .str .str))))) (.pr (.sl (.pr .str (.sl (.pr .str .str)))) (.pr (.sl (.pr .str (.pr .str (.pr (.sl (.pr .str .str)) (.sl (.pr .str .str)))))) (.sl (.pr .str (.pr (.sl (.pr .str .str)) (.sl .str)))))))), .v (.rc .value), .v (.sl (.pr .str .str)), .v (.pr .str (.sl (.pr .str .str)))] → BV [] → Option (Bool)) : AF := { ps := [.v (.pr (.sl (.pr .str (.sl .str))) (.pr (.sl (.pr .str (.pr (.sl (.pr .str .str)) (.sl (.pr .str .str))))) (.pr (.sl (.pr .str (.sl (.pr .str .str)))) (.pr (.sl (.pr .str (.pr .str (.pr (.sl (.pr .str .str)) (.sl (.pr .str .str)))))) (.sl (.pr .str (.pr (.sl (.pr .str .str)) (.sl .str)))))))), .v (.rc .value), .v (.sl (.pr .str .str)), .v (.pr .str (.sl (.pr .str .str)))], bs := [], rs := [.v .bool], cs := [], R := Bool, out := fun z => ((z, ()), ()), f := f }
abbrev z9pk : SV [.v .bool] → BV [] → Bool := fun x _ => x.1
def z9fn (N : Nat) : FuncId → Option Tmp → Option AF := fun f _ =>
  match f with
    | 8 => some (z61sg fun x _ => config_Chosen N x.1 x.2.1 x.2.2.1 x.2.2.2.1)
    | 9 => some (z78sg fun x _ => ref3_Chosen N x.1 x.2.1 x.2.2.1 x.2.2.2.1)
    | 10 => some (z56sg fun x _ => ref2_SameValue N N x.1 x.2.1)
    | 11 => some (z84sg fun _ _ => law3_awake N)
    | _ => none
theorem z9fn_ok (N : Nat) : ∀ f q F, z9fn N f q = some F → Sound Tryz.prog GW B0G f F := by
  intro f q F h
  unfold z9fn at h
  split at h
  · cases h; exact z61sound N
  · cases h; exact z78sound N
  · cases h; exact z56sound N N
  · cases h; exact z84sound N
  · cases h
def z9h : Nat → Hint := fun i =>
  match i with
  | _ => ⟨[], [], [], [], [], []⟩
abbrev z9E (N : Nat) : Env := mkE z9h (z9fn N) (fun _ => false) (fun _ => false)
noncomputable def z9LP (N : Nat) : Nat → Code → St → (Ex → St → Option Bool) → Option Bool := fun i c =>
  match i with
  | i => fun st k => iter (z9h i) (exec (z9E N) N c i) N st k
theorem z9core (N : Nat) (x : SV [.v (.pr (.sl (.pr .str (.sl .str))) (.pr (.sl (.pr .str (.pr (.sl (.pr .str .str)) (.sl (.pr .str .str))))) (.pr (.sl (.pr .str (.sl (.pr .str .str)))) (.pr (.sl (.pr .str (.pr .str (.pr (.sl (.pr .str .str)) (.sl (.pr .str .str)))))) (.sl (.pr .str (.pr (.sl (.pr .str .str)) (.sl .str)))))))), .v (.rc .value), .v (.sl (.pr .str .str)), .v (.pr .str (.sl (.pr .str .str)))]) (y : BV []) : runL (z9E N) Tryz.f3 (z9sg fun x _ => law3_ConfigChosenMatchesSpec N x.1 x.2.1 x.2.2.1 x.2.2.2.1) z9pk (z9LP N) x y = law3_ConfigChosenMatchesSpec N x.1 x.2.1 x.2.2.1 x.2.2.2.1 := by kernel_rfl
theorem z9sound (N : Nat) : Sound Tryz.prog GW B0G 3 (z9sg fun x _ => law3_ConfigChosenMatchesSpec N x.1 x.2.1 x.2.2.1 x.2.2.2.1) :=
  runD_sound (mkE_ok z9h (z9fn N) _ _ (z9fn_ok N)) Tryz.func3 rfl Tryz.call3 (z9sg fun x _ => law3_ConfigChosenMatchesSpec N x.1 x.2.1 x.2.2.1 x.2.2.2.1) z9pk (fun _ _ => rfl) N (fun x y _ h => ((runL_eq (z9E N) N Tryz.f3 (z9sg fun x _ => law3_ConfigChosenMatchesSpec N x.1 x.2.1 x.2.2.1 x.2.2.2.1) z9pk (z9LP N) (show LoopsOk (z9LP N) (z9E N) N (resD (z9E N) Tryz.f3 (z9sg fun x _ => law3_ConfigChosenMatchesSpec N x.1 x.2.1 x.2.2.1 x.2.2.2.1) z9pk) [] from trivial) x y).trans (z9core N x y)).trans h)
end
end Go.Proofs.YtbekhaioddmliaaGreatDoor


/- The arguments of a law, as the statement's reading hands them over, as data of the machine: any type. -/
namespace Go.Proofs.YtbekhaioddmliaaGreatDoor
set_option linter.unusedVariables false
set_option linter.unusedSimpArgs false
open Go Go.RowKit Go.ChangeShapes Go.WideShapes
def FitG (RR : (i : RC) → i.den → Prop) : (t : Ty) → t.den → Prop
  | .u8, _ => True
  | .int k, x => (Lit.int k x).wf = true
  | .bool, _ => True
  | .str, x => x.length ≤ maxLen
  | .sl t, xs => xs.length ≤ maxLen ∧ ∀ x ∈ xs, FitG RR t x
  | .pr a b, x => FitG RR a x.1 ∧ FitG RR b x.2
  | .un, _ => True
  | .mp _, _ => True
  | .ptr _, _ => True
  | .np _, _ => True
  | .clo _ _, _ => True
  | .rc i, x => RR i x
def FitR (i : RC) (x : i.den) : Prop := ∀ RR : (i : RC) → i.den → Prop, (∀ j y, FitG RR j.body (j.un y) → RR j y) → RR i x
def Fit : (t : Ty) → t.den → Prop := FitG FitR
theorem FitG.mono {RR RR' : (i : RC) → i.den → Prop} (hR : ∀ i x, RR i x → RR' i x) : ∀ (t : Ty) (x : t.den), FitG RR t x → FitG RR' t x
  | .u8, _, h => h
  | .int _, _, h => h
  | .bool, _, h => h
  | .str, _, h => h
  | .sl t, _, h => ⟨h.1, fun x hx => FitG.mono hR t x (h.2 x hx)⟩
  | .pr a b, _, h => ⟨FitG.mono hR a _ h.1, FitG.mono hR b _ h.2⟩
  | .un, _, h => h
  | .mp _, _, h => h
  | .ptr _, _, h => h
  | .np _, _, h => h
  | .clo _ _, _, h => h
  | .rc i, x, h => hR i x h
theorem FitR.intro {i : RC} {x : i.den} (h : Fit i.body (i.un x)) : FitR i x :=
  fun RR hc => hc i x (FitG.mono (fun j y hy => hy RR hc) _ _ h)
theorem FitR.elim {i : RC} {x : i.den} (h : FitR i x) : Fit i.body (i.un x) :=
  h (fun j y => Fit j.body (j.un y)) fun _ _ hy => FitG.mono (fun _ _ h => FitR.intro h) _ _ hy
mutual
inductive Deep (P : Program) (R : RC → Option TypeId) : Ty → TypeId → Prop where
  | u8 {T : TypeId} : P.underlying T = some (.int .u8) → Deep P R .u8 T
  | int {T : TypeId} {k : IntKind} : P.underlying T = some (.int k) → Deep P R (.int k) T
  | bool {T : TypeId} : P.underlying T = some .bool → Deep P R .bool T
  | str {T : TypeId} : P.underlying T = some .string → Deep P R .str T
  | sl {T e : TypeId} {t : Ty} : P.underlying T = some (.slice e) → P.cellsOf e = t.sz → Deep P R t e → Deep P R (.sl t) T
  | st {T : TypeId} {t : Ty} {fs : Array Field} : P.underlying T = some (.struct fs) → P.cellsOf T = t.sz → t.isAgg = true → DeepF P R t fs.toList 0 → Deep P R t T
  | rc {T : TypeId} {i : RC} : R i = some T → Deep P R (.rc i) T
inductive DeepF (P : Program) (R : RC → Option TypeId) : Ty → List Field → Nat → Prop where
  | nil {o : Nat} : DeepF P R .un [] o
  | one {t : Ty} {f : Field} {o : Nat} : f.offset = o → P.cellsOf f.type = t.sz → Deep P R t f.type → DeepF P R t [f] o
  | single {t : Ty} {f : Field} {o : Nat} : f.offset = o → P.cellsOf f.type = t.sz → Deep P R t f.type → DeepF P R (.pr t .un) [f] o
  | cons {a b : Ty} {f : Field} {fs : List Field} {o : Nat} : f.offset = o → P.cellsOf f.type = a.sz → Deep P R a f.type → DeepF P R b fs (o + a.sz) → DeepF P R (.pr a b) (f :: fs) o
end
def RcOk (P : Program) (R : RC → Option TypeId) : Prop := ∀ i T, R i = some T → ∃ fs, P.underlying T = some (.struct fs) ∧ P.cellsOf T = i.sz ∧ DeepF P R i.body fs.toList 0
abbrev M00 : Nat → Nat → Prop := fun _ _ => False
section
variable {H : Type} {enc : TypeId × Value → H} {P : Program} {w : World} {spare : Nat → Bool} {held : Bool} {R : RC → Option TypeId}
theorem choose_list {α : Type} {p : Nat → α → Prop} : ∀ n, (∀ i, i < n → ∃ x, p i x) → ∃ l : List α, l.length = n ∧ ∀ i (h : i < l.length), p i l[i]
  | 0, _ => ⟨[], rfl, fun i h => absurd h (Nat.not_lt_zero _)⟩
  | n + 1, h => by
    obtain ⟨l, hl, hp⟩ := choose_list n fun i hi => h i (Nat.lt_succ_of_lt hi)
    obtain ⟨x, hx⟩ := h n (Nat.lt_succ_self _)
    refine ⟨l ++ [x], by simp [hl], fun i hi => ?_⟩
    rcases Nat.lt_or_ge i l.length with h' | h'
    · rw [List.getElem_append_left h']; exact hp i h'
    · have : i = l.length := by simp at hi; omega
      subst this
      simp [hl, hx]
theorem pl_of_cells {a : Addr} {n : Nat} {cs : List Value} (h : w.cells? 0 a n = some cs) : Pl M00 w a cs := by
  intro j u hu
  refine ⟨?_, id⟩
  unfold World.cells? at h
  rw [if_pos (Nat.zero_le _)] at h
  have hl := mapM_some_length h
  have hj : j < n := by
    rcases Nat.lt_or_ge j cs.length with h' | h'
    · rw [hl, List.length_range] at h'; exact h'
    · rw [List.getElem?_eq_none h'] at hu; cases hu
  have := mapM_some_get h j j (by rw [List.getElem?_range hj])
  rw [this]; exact hu
theorem fields_rep {fuel : Nat} {cs : List Value}
    (ih : ∀ (t : Ty) (T : TypeId) (cs : List Value) (x : DataW H × List MemPlace), Deep P R t T → DataW.trod enc P w 0 spare held fuel T cs = some x → ∃ d : t.den, RepC M00 w t d cs ∧ Fit t d) :
    ∀ (fs : List Field) (t : Ty) (o : Nat) (xs : List (DataW H × List MemPlace)), DeepF P R t fs o →
      (fs.mapM fun f => DataW.trod enc P w 0 spare held fuel f.type ((cs.drop f.offset).take (P.cellsOf f.type))) = some xs → ∃ d : t.den, RepC M00 w t d ((cs.drop o).take t.sz) ∧ Fit t d := by
  intro fs
  induction fs with
  | nil =>
    intro t o xs hd _
    cases hd
    exact ⟨(), List.take_zero, trivial⟩
  | cons f fs hfs =>
    intro t o xs hd hm
    have hhead : ∃ y, DataW.trod enc P w 0 spare held fuel f.type ((cs.drop f.offset).take (P.cellsOf f.type)) = some y := by
      have := mapM_some_get hm 0 f rfl
      cases hx : xs[0]? with
      | none =>
        have hl := mapM_some_length hm
        rw [List.getElem?_eq_none_iff] at hx
        simp at hl; omega
      | some y => exact ⟨y, this.trans hx⟩
    have htail : ∃ ys, (fs.mapM fun f => DataW.trod enc P w 0 spare held fuel f.type ((cs.drop f.offset).take (P.cellsOf f.type))) = some ys := by
      rw [List.mapM_cons] at hm
      obtain ⟨y, hy⟩ := hhead
      rw [hy] at hm
      cases hys : (fs.mapM fun f => DataW.trod enc P w 0 spare held fuel f.type ((cs.drop f.offset).take (P.cellsOf f.type))) with
      | none => rw [hys] at hm; cases hm
      | some ys => exact ⟨ys, rfl⟩
    obtain ⟨y, hy⟩ := hhead
    obtain ⟨ys, hys⟩ := htail
    cases hd with
    | one ho hc h1 =>
      rw [ho, hc] at hy
      exact ih _ _ _ _ h1 hy
    | single ho hc h1 =>
      rw [ho, hc] at hy
      obtain ⟨d, hd1, hd2⟩ := ih _ _ _ _ h1 hy
      exact ⟨(d, ()), ⟨_, [], (List.append_nil _).symm, hd1, rfl⟩, hd2, trivial⟩
    | @cons a b _ _ _ ho hc h1 h2 =>
      rw [ho, hc] at hy
      obtain ⟨d, hd1, hd2⟩ := ih _ _ _ _ h1 hy
      obtain ⟨e, he1, he2⟩ := hfs _ _ _ h2 hys
      refine ⟨(d, e), ⟨_, _, ?_, hd1, he1⟩, hd2, he2⟩
      show (cs.drop o).take (a.sz + b.sz) = _
      rw [List.take_add, List.drop_drop]
theorem trod_rep (hR : RcOk P R) : ∀ (fuel : Nat) (t : Ty) (T : TypeId) (cs : List Value) (x : DataW H × List MemPlace), Deep P R t T → DataW.trod enc P w 0 spare held fuel T cs = some x →
    ∃ d : t.den, RepC M00 w t d cs ∧ Fit t d := by
  intro fuel
  induction fuel with
  | zero => intro t T cs x _ h; cases h
  | succ fuel ih =>
    intro t T cs x hd h
    have hstruct : ∀ (t : Ty) (fs : Array Field), P.underlying T = some (.struct fs) → P.cellsOf T = t.sz → DeepF P R t fs.toList 0 → ∃ d : t.den, RepC M00 w t d cs ∧ Fit t d := fun t fs hu hc hf => by
      unfold DataW.trod at h
      simp only [hu] at h
      split at h
      · rename_i hl
        cases hm : (fs.toList.mapM fun f => DataW.trod enc P w 0 spare held fuel f.type ((cs.drop f.offset).take (P.cellsOf f.type))) with
        | none => rw [hm] at h; cases h
        | some xs =>
          obtain ⟨d, h1, h2⟩ := fields_rep ih fs.toList t 0 xs hf hm
          rw [List.drop_zero, List.take_of_length_le (by omega)] at h1
          exact ⟨d, h1, h2⟩
      · cases h
    cases hd with
    | u8 hu =>
      have hx : ∃ n, cs = [.int .u8 n] ∧ (Lit.int .u8 n).wf = true := by
        unfold DataW.trod at h
        split at h <;> simp_all
      obtain ⟨n, rfl, hn⟩ := hx
      refine ⟨UInt8.ofNat n.toNat, ?_, trivial⟩
      show [Value.int .u8 n] = [Value.int .u8 (UInt8.ofNat n.toNat).toNat]
      simp [Lit.wf, IntKind.min, IntKind.max, IntKind.signed, IntKind.bits] at hn
      have : ((UInt8.ofNat n.toNat).toNat : Int) = n := by simp; omega
      rw [this]
    | @int _ k hu =>
      have hx : ∃ n, cs = [.int k n] ∧ (Lit.int k n).wf = true := by
        unfold DataW.trod at h
        split at h <;> simp_all
      obtain ⟨n, rfl, hn⟩ := hx
      exact ⟨n, rfl, hn⟩
    | bool hu =>
      have hx : ∃ b, cs = [.bool b] := by
        unfold DataW.trod at h
        split at h <;> simp_all
      obtain ⟨b, rfl⟩ := hx
      exact ⟨b, rfl, trivial⟩
    | str hu =>
      have hx : ∃ s : ByteArray, cs = [.string s] ∧ s.size ≤ maxLen := by
        unfold DataW.trod at h
        split at h <;> simp_all
      obtain ⟨s, rfl, hn⟩ := hx
      refine ⟨s.data.toList, ?_, ?_⟩
      · show [Value.string s] = [Value.string ⟨s.data.toList.toArray⟩]
        simp
      · show s.data.toList.length ≤ maxLen
        simpa using hn
    | @sl _ e t hu hc he =>
      have hx : cs = [.slice none 0 0] ∨ ∃ a len cap, cs = [.slice (some a) len cap] ∧ len ≤ cap ∧ cap ≤ maxLen ∧
          ∀ i, i < len → ∃ y, (w.cells? 0 (a.add (i * P.cellsOf e)) (P.cellsOf e)).bind (DataW.trod enc P w 0 spare held fuel e) = some y := by
        unfold DataW.trod at h
        split at h
        all_goals try (simp_all; done)
        · rename_i hu2
          rw [hu] at hu2
          cases hu2
          simp only at h
          split at h
          · rename_i hb
            right
            refine ⟨_, _, _, rfl, hb.2.1, hb.2.2, fun i hi => ?_⟩
            cases hm : ((List.range _).mapM fun i => (w.cells? 0 (Addr.add _ (i * P.cellsOf e)) (P.cellsOf e)).bind (DataW.trod enc P w 0 spare held fuel e)) with
            | none => rw [hm] at h; cases h
            | some ys =>
              have h1 := mapM_some_get hm i i (by rw [List.getElem?_range hi])
              have hl := mapM_some_length hm
              rw [List.length_range] at hl
              exact ⟨ys[i]'(by omega), h1.trans (List.getElem?_eq_getElem (by omega))⟩
          · cases h
      rcases hx with rfl | ⟨a, len, cap, rfl, h1, h2, h3⟩
      · exact ⟨[], ⟨none, 0, rfl, Nat.le_refl _, Nat.zero_le _, fun i h => absurd h (Nat.not_lt_zero _)⟩, Nat.zero_le _, fun x h => by cases h⟩
      · have hall : ∀ i, i < len → ∃ d : t.den, (∃ es, RepC M00 w t d es ∧ Pl M00 w (a.add (i * t.sz)) es) ∧ Fit t d := fun i hi => by
          obtain ⟨y, hy⟩ := h3 i hi
          rw [hc] at hy
          cases hcs : w.cells? 0 (a.add (i * t.sz)) t.sz with
          | none => rw [hcs] at hy; cases hy
          | some es =>
            rw [hcs] at hy
            obtain ⟨d, hd1, hd2⟩ := ih _ _ _ _ he hy
            exact ⟨d, ⟨es, hd1, pl_of_cells hcs⟩, hd2⟩
        obtain ⟨l, hl, hp⟩ := choose_list len hall
        refine ⟨l, ⟨some a, cap, ?_, by omega, h2, fun i hi => ?_⟩, ?_, fun x hx => ?_⟩
        · rw [hl]
        · obtain ⟨⟨es, e1, e2⟩, _⟩ := hp i hi
          exact ⟨a, es, rfl, e1, e2⟩
        · show l.length ≤ maxLen; omega
        · obtain ⟨i, hi, rfl⟩ := List.getElem_of_mem hx
          exact (hp i hi).2
    | st hu hc ha hf => exact hstruct t _ hu hc hf
    | rc hr =>
      obtain ⟨fs, hu, hc, hf⟩ := hR _ _ hr
      rename_i i
      obtain ⟨d, h1, h2⟩ := hstruct i.body fs hu (by rw [hc, RC.sz_body]) hf
      refine ⟨i.mk d, RepC.rc.2 (by rw [RC.un_mk]; exact h1), FitR.intro (by rw [RC.un_mk]; exact h2)⟩
theorem arg_open (hR : RcOk P R) {r : Reach} {base : Nat} {t : Ty} {T : TypeId} {v : Value} {d : DataW H} {p : List MemPlace} (hd : Deep P R t T) (hv : Value.okWide P w r base T v) (h : DataW.Trod enc P w 0 spare held T v d p) :
    ∃ x : t.den, RepV M00 w t x v ∧ Fit t x := by
  obtain ⟨fuel, hf⟩ := h
  obtain ⟨x, h1, h2⟩ := trod_rep hR fuel t T _ _ hd hf
  refine ⟨x, ⟨_, h1, ?_⟩, h2⟩
  have hagg : ∀ fs, P.underlying T = some (.struct fs) → t.isAgg = true → v = mkV t v.cells.toList := fun fs hu ha => by
    obtain ⟨cs, rfl, _⟩ := okWide_struct hu hv
    rw [mkV_agg ha]
    simp [Value.cells]
  have hone : ∀ c : Value, v = c → c.cells = #[c] → t.isAgg = false → v = mkV t v.cells.toList := fun c e hc ha => by
    subst e
    rw [hc, mkV_plain ha]
  cases hd with
  | u8 hu => obtain ⟨n, rfl⟩ := okWide_int hu hv; exact hone _ rfl rfl rfl
  | int hu => obtain ⟨n, rfl⟩ := okWide_int hu hv; exact hone _ rfl rfl rfl
  | bool hu => obtain ⟨n, rfl⟩ := okWide_bool hu hv; exact hone _ rfl rfl rfl
  | str hu => obtain ⟨n, rfl⟩ := okWide_string hu hv; exact hone _ rfl rfl rfl
  | sl hu _ _ => obtain ⟨a, l, c, rfl⟩ := okWide_slice hu hv; exact hone _ rfl rfl rfl
  | st hu _ ha _ => exact hagg _ hu ha
  | rc hr => obtain ⟨fs, hu, _⟩ := hR _ _ hr; exact hagg _ hu rfl
end
theorem law_run {P : Program} {f : FuncId} {ps : List Sl} {F : SV ps → BV [] → Option Bool} {out : Bool → SV [.v .bool] × BV []} (hout : ∀ z, (out z).1 = (z, ())) (hs : Sound P GW B0G f ⟨ps, [], [.v .bool], [], Bool, out, F⟩)
    {W : World} {vs : List Value} {x : SV ps} (hg : GW W) (ha : All2 (RepD0 M00 W g0) (lays id ps x) vs) (hf : F x () = some true) : Calls P f vs.toArray W fun e W' => e = .returned (.bool true) ∧ Ext W W' := by
  refine (hs.2 M00 W g0 vs x () true hg (GW_size hg) { args := ha, res := fun r blk h => (by cases h), dom := fun r gx h => (by cases h), inj := fun _ _ _ _ _ h => (by cases h), low := fun _ _ _ h => (by cases h), chg := fun _ _ _ _ h => (by cases h), mlt := fun b o h => h.elim, row := fun _ _ _ h => (by cases h) } hf).mono fun e W' hp => ?_
  obtain ⟨vs', g', he, hE, _, hF, _⟩ := hp
  refine ⟨?_, hE.ext fun b hb => ?_⟩
  · have := hF.args
    rw [hout] at this
    match vs', this with
    | [v], ⟨h1, _⟩ =>
      have h2 := RepV.plain (t := .bool) rfl h1
      have h3 : [v] = [.bool true] := h2
      injection h3 with h3
      rw [he, h3]
      rfl
  · obtain ⟨r, x, h, _⟩ := hb
    cases h
end Go.Proofs.YtbekhaioddmliaaGreatDoor

