/- What functions of the program compute, as plain functions (printed). -/
import Derived.Test.YtbekhaioddmliaaGreatDoorQZcF8
namespace Go.Proofs.YtbekhaioddmliaaGreatDoor
open Go Go.RowKit
set_option maxRecDepth 100000
set_option linter.unusedVariables false
noncomputable section
def z63L0T (N : Nat) (x2 : List (Str × Str)) (c36 : List (Str × GValue)) (c37 : Int) (c1004_0 : List (Str × List Str)) (c1004_1 : List (Str × List (Str × Str) × List (Str × Str))) (c1007_0 : Str) (c1007_1 : List (Str × Str)) (k0 : (List (Str × GValue)) → (List (Str × List (Str × Str) × List (Str × Str))) → Option (GValue × Int)) (self : Int → (List (Str × GValue)) → (List (Str × List (Str × Str) × List (Str × Str))) → Option (GValue × Int)) (s38 : Int) (w1011 : List (Str × GValue)) (w1012 : List (Str × List (Str × Str) × List (Str × Str))) : Option (GValue × Int) :=
  br (decide (s38 < c37))
    (bnd (geti c36 s38) fun t40 =>
    bnd (config_conditionOf N c1004_1 t40.1) fun t47 =>
    br (t47.2)
      (bnd (config_holds N c1004_0 t47.1 x2 (c1007_0, c1007_1)) fun t57 =>
      br (t57)
        (both
          (times 1
            (br (decide ((w1011.length + [(t40.1, GValue.mk t40.2.kind t40.2.text t40.2.number t40.2.list t40.2.cases)].length) * (24 * Ty.sz (.pr .str (.rc .value))) ≤ 140737488355328))
              (br (decide ((w1012.length + [t47.1].length) * (24 * Ty.sz (.pr .str (.pr (.sl (.pr .str .str)) (.sl (.pr .str .str))))) ≤ 140737488355328))
                (self (IntKind.i64.wrap (s38 + (1 : Int))) (w1011 ++ [(t40.1, GValue.mk t40.2.kind t40.2.text t40.2.number t40.2.list t40.2.cases)]) (w1012 ++ [t47.1]))
                none)
              none))
          (br (decide ((w1011.length + [(t40.1, GValue.mk t40.2.kind t40.2.text t40.2.number t40.2.list t40.2.cases)].length) * (24 * Ty.sz (.pr .str (.rc .value))) ≤ 140737488355328))
            (br (decide ((w1012.length + [t47.1].length) * (24 * Ty.sz (.pr .str (.pr (.sl (.pr .str .str)) (.sl (.pr .str .str))))) ≤ 140737488355328))
              (self (IntKind.i64.wrap (s38 + (1 : Int))) (w1011 ++ [(t40.1, GValue.mk t40.2.kind t40.2.text t40.2.number t40.2.list t40.2.cases)]) (w1012 ++ [t47.1]))
              none)
            none))
        (self (IntKind.i64.wrap (s38 + (1 : Int))) w1011 w1012))
      (self (IntKind.i64.wrap (s38 + (1 : Int))) w1011 w1012))
    (k0 w1011 w1012)
def z63L0 (N : Nat) (x2 : List (Str × Str)) (c36 : List (Str × GValue)) (c37 : Int) (c1004_0 : List (Str × List Str)) (c1004_1 : List (Str × List (Str × Str) × List (Str × Str))) (c1007_0 : Str) (c1007_1 : List (Str × Str)) (k0 : (List (Str × GValue)) → (List (Str × List (Str × Str) × List (Str × Str))) → Option (GValue × Int)) : Nat → Int → (List (Str × GValue)) → (List (Str × List (Str × Str) × List (Str × Str))) → Option (GValue × Int)
  | 0, _, _, _ => none
  | n + 1, s38, w1011, w1012 => z63L0T N x2 c36 c37 c1004_0 c1004_1 c1007_0 c1007_1 k0 (z63L0 N x2 c36 c37 c1004_0 c1004_1 c1007_0 c1007_1 k0 n) s38 w1011 w1012
def z63L2T (N : Nat) (s86 : Int) (c103 : Int) (o0_w1012 : List (Str × List (Str × Str) × List (Str × Str))) (k4 : Bool → Option (GValue × Int)) (self : Bool → Int → Option (GValue × Int)) (s20 : Bool) (s104 : Int) : Option (GValue × Int) :=
  br (decide (s104 < c103))
    (br (s20)
      (br (s104 == s86)
        (self true (IntKind.i64.wrap (s104 + (1 : Int))))
        (bnd (geti o0_w1012 s86) fun t115 =>
        bnd (geti o0_w1012 s104) fun t119 =>
        bnd (config_isMore N t115 t119) fun t121 =>
        self t121 (IntKind.i64.wrap (s104 + (1 : Int)))))
      (self false (IntKind.i64.wrap (s104 + (1 : Int)))))
    (k4 s20)
def z63L2 (N : Nat) (s86 : Int) (c103 : Int) (o0_w1012 : List (Str × List (Str × Str) × List (Str × Str))) (k4 : Bool → Option (GValue × Int)) : Nat → Bool → Int → Option (GValue × Int)
  | 0, _, _ => none
  | n + 1, s20, s104 => z63L2T N s86 c103 o0_w1012 k4 (z63L2 N s86 c103 o0_w1012 k4 n) s20 s104
def z63L3T (N : Nat) (s86 : Int) (c103_6 : Int) (o0_w1012 : List (Str × List (Str × Str) × List (Str × Str))) (k4 : Bool → Option (GValue × Int)) (self : Bool → Int → Option (GValue × Int)) (s20_4 : Bool) (s104_7 : Int) : Option (GValue × Int) :=
  br (decide (s104_7 < c103_6))
    (br (s20_4)
      (br (s104_7 == s86)
        (self true (IntKind.i64.wrap (s104_7 + (1 : Int))))
        (bnd (geti o0_w1012 s86) fun t115_8 =>
        bnd (geti o0_w1012 s104_7) fun t119_9 =>
        bnd (config_isMore N t115_8 t119_9) fun t121_10 =>
        self t121_10 (IntKind.i64.wrap (s104_7 + (1 : Int)))))
      (self false (IntKind.i64.wrap (s104_7 + (1 : Int)))))
    (k4 s20_4)
def z63L3 (N : Nat) (s86 : Int) (c103_6 : Int) (o0_w1012 : List (Str × List (Str × Str) × List (Str × Str))) (k4 : Bool → Option (GValue × Int)) : Nat → Bool → Int → Option (GValue × Int)
  | 0, _, _ => none
  | n + 1, s20_4, s104_7 => z63L3T N s86 c103_6 o0_w1012 k4 (z63L3 N s86 c103_6 o0_w1012 k4 n) s20_4 s104_7
def z63L1T (N : Nat) (c85 : Int) (o0_w1011 : List (Str × GValue)) (o0_w1012 : List (Str × List (Str × Str) × List (Str × Str))) (k2 : Bool → Option (GValue × Int)) (self : Bool → Int → Option (GValue × Int)) (s18 : Bool) (s86 : Int) : Option (GValue × Int) :=
  br (decide (s86 < c85))
    (br (s18)
      (bnd (geti o0_w1011 (0 : Int)) fun t92 =>
      bnd (geti o0_w1011 s86) fun t97 =>
      bnd (script_Equal N (script_Equal_1 N N) t92.2 t97.2) fun t100 =>
      z63L2 N s86 (o0_w1011.length : Int) o0_w1012 (fun o2_20 =>
          br (o2_20)
            (bnd (geti o0_w1011 s86) fun t128 =>
            bnd (script_Own N N t128.2) fun t131 =>
            some (GValue.mk t131.kind t131.text t131.number t131.list t131.cases, (0 : Int)))
            (self t100 (IntKind.i64.wrap (s86 + (1 : Int))))) N true (0 : Int))
      (z63L3 N s86 (o0_w1011.length : Int) o0_w1012 (fun o3_20 =>
          br (o3_20)
            (bnd (geti o0_w1011 s86) fun t128_11 =>
            bnd (script_Own N N t128_11.2) fun t131_12 =>
            some (GValue.mk t131_12.kind t131_12.text t131_12.number t131_12.list t131_12.cases, (0 : Int)))
            (self false (IntKind.i64.wrap (s86 + (1 : Int))))) N true (0 : Int)))
    (k2 s18)
def z63L1 (N : Nat) (c85 : Int) (o0_w1011 : List (Str × GValue)) (o0_w1012 : List (Str × List (Str × Str) × List (Str × Str))) (k2 : Bool → Option (GValue × Int)) : Nat → Bool → Int → Option (GValue × Int)
  | 0, _, _ => none
  | n + 1, s18, s86 => z63L1T N c85 o0_w1011 o0_w1012 k2 (z63L1 N c85 o0_w1011 o0_w1012 k2 n) s18 s86
def config_chosen (N : Nat) (x0 : List (Str × List Str) × List (Str × List (Str × Str) × List (Str × Str)) × List (Str × List (Str × Str)) × List (Str × Str × List (Str × Str) × List (Str × Str)) × List (Str × List (Str × Str) × List Str)) (x1 : GValue) (x2 : List (Str × Str)) (x3 : Str × List (Str × Str)) : Option (GValue × Int) :=
  br (x1.kind != (4 : Int))
    (bnd (script_Own N N (GValue.mk x1.kind x1.text x1.number x1.list x1.cases)) fun t26 =>
    some (GValue.mk t26.kind t26.text t26.number t26.list t26.cases, (0 : Int)))
    (bnd (config_checkNamed N x0.2.1 (GValue.mk x1.kind x1.text x1.number x1.list x1.cases)) fun t30 =>
    br (t30 != (0 : Int))
      (some (GValue.mk (0 : Int) ([] : Str) (0 : Int) ([] : List Str) ([] : List (Str × GValue)), t30))
      (z63L0 N x2 x1.cases (x1.cases.length : Int) x0.1 x0.2.1 x3.1 x3.2 (fun o0_w1011 o0_w1012 =>
          br ((o0_w1011.length : Int) == (0 : Int))
            (bnd (slices_IndexFunc_api_Case_2 N x1.cases ()) fun t73 =>
            br (decide (t73 < (0 : Int)))
              (some (GValue.mk (0 : Int) ([] : Str) (0 : Int) ([] : List Str) ([] : List (Str × GValue)), (9 : Int)))
              (bnd (geti x1.cases t73) fun t80 =>
              bnd (script_Own N N t80.2) fun t83 =>
              some (GValue.mk t83.kind t83.text t83.number t83.list t83.cases, (0 : Int))))
            (z63L1 N (o0_w1011.length : Int) o0_w1011 o0_w1012 (fun o1_18 =>
                br (o1_18)
                  (bnd (geti o0_w1011 (0 : Int)) fun t135 =>
                  bnd (script_Own N N t135.2) fun t138 =>
                  some (GValue.mk t138.kind t138.text t138.number t138.list t138.cases, (0 : Int)))
                  (some (GValue.mk (0 : Int) ([] : Str) (0 : Int) ([] : List Str) ([] : List (Str × GValue)), (12 : Int)))) N true (0 : Int))) N (0 : Int) ([] : List (Str × GValue)) ([] : List (Str × List (Str × Str) × List (Str × Str)))))
abbrev z63sg (f : SV [.v (.pr (.sl (.pr .str (.sl .str))) (.pr (.sl (.pr .str (.pr (.sl (.pr .str .str)) (.sl (.pr .str .str))))) (.pr (.sl (.pr .str (.sl (.pr .str .str)))) (.pr (.sl (.pr .str (.pr .str (.pr (.sl (.pr .str .str)) (.sl (.pr .str .str)))))) (.sl (.pr .str (.pr (.sl (.pr .str .str)) (.sl .str)))))))), .v (.rc .value), .v (.sl (.pr .str .str)), .v (.pr .str (.sl (.pr .str .str)))] → BV [] → Option (GValue × Int)) : AF := { ps := [.v (.pr (.sl (.pr .str (.sl .str))) (.pr (.sl (.pr .str (.pr (.sl (.pr .str .str)) (.sl (.pr .str .str))))) (.pr (.sl (.pr .str (.sl (.pr .str .str)))) (.pr (.sl (.pr .str (.pr .str (.pr (.sl (.pr .str .str)) (.sl (.pr .str .str)))))) (.sl (.pr .str (.pr (.sl (.pr .str .str)) (.sl .str)))))))), .v (.rc .value), .v (.sl (.pr .str .str)), .v (.pr .str (.sl (.pr .str .str)))], bs := [], rs := [.v (.rc .value), .v (.int .i64)], cs := [], R := GValue × Int, out := fun z => ((z.1, z.2, ()), ()), f := f }
abbrev z63pk : SV [.v (.rc .value), .v (.int .i64)] → BV [] → (GValue × Int) := fun x _ => (x.1, x.2.1)
def z63fn (N : Nat) : FuncId → Option Tmp → Option AF := fun f _ =>
  match f with
    | 65 => some (z39sg fun x _ => config_checkNamed N x.1 x.2.1)
    | 66 => some (z35sg fun x _ => config_conditionOf N x.1 x.2.1)
    | 80 => some (z86sg fun x _ => script_Own N N x.1)
    | 81 => some (z68sg fun x _ => config_holds N x.1 x.2.1 x.2.2.1 x.2.2.2.1)
    | 82 => some (z12sg fun x _ => slices_IndexFunc_api_Case_2 N x.1 x.2.1)
    | 84 => some (z71sg fun x _ => script_Equal N (script_Equal_1 N N) x.1 x.2.1)
    | 85 => some (z65sg fun x _ => config_isMore N x.1 x.2.1)
    | _ => none
theorem z63fn_ok (N : Nat) : ∀ f q F, z63fn N f q = some F → Sound Tryz.prog GW B0G f F := by
  intro f q F h
  unfold z63fn at h
  split at h
  · cases h; exact z39sound N
  · cases h; exact z35sound N
  · cases h; exact z86sound N N
  · cases h; exact z68sound N
  · cases h; exact z12sound N
  · cases h; exact z71sound N (script_Equal_1 N N) (z60sound N N)
  · cases h; exact z65sound N
  · cases h
def z63h : Nat → Hint := fun i =>
  match i with
  | 0 => ⟨[], [2, 4, 5, 7, 8, 11, 12, 36, 37, 38], [1004, 1005, 1007, 1008, 1011, 1012], [5, 8, 11, 12], [1005, 1008, 1011, 1012], []⟩
  | 2 => ⟨[], [8, 11, 12, 18, 85, 86], [1008, 1011, 1012], [8, 11, 18], [1008, 1011], []⟩
  | 4 => ⟨[], [8, 11, 12, 18, 19, 20, 85, 86, 91, 92, 93, 94, 95, 96, 97, 98, 99, 100, 103, 104], [1008, 1011, 1012], [8, 11, 12, 18, 19, 20, 85, 86, 91, 92, 93, 94, 95, 96, 97, 98, 99, 100], [1008, 1011, 1012], []⟩
  | 100013 => ⟨[1014, 1015], [], [], [], [], []⟩
  | _ => ⟨[], [], [], [], [], []⟩
abbrev z63E (N : Nat) : Env := mkE z63h (z63fn N) (fun _ => false) (fun _ => false)
abbrev z63L0_fs : List (Nat × Sl) := [(2, .v (.sl (.pr .str .str))), (4, .box 1004 0), (5, .box 1005 0), (7, .box 1007 0), (8, .box 1008 0), (11, .row 1011), (12, .row 1012), (36, .v (.sl (.pr .str (.rc .value)))), (37, .v (.int .i64)), (38, .v (.int .i64))]
abbrev z63L0_bs : List (Nat × Sb) := [(1004, .cells [.v (.sl (.pr .str (.sl .str))), .v (.sl (.pr .str (.pr (.sl (.pr .str .str)) (.sl (.pr .str .str))))), .v (.sl (.pr .str (.sl (.pr .str .str)))), .v (.sl (.pr .str (.pr .str (.pr (.sl (.pr .str .str)) (.sl (.pr .str .str)))))), .v (.sl (.pr .str (.pr (.sl (.pr .str .str)) (.sl .str))))]), (1005, .cells [.v (.int .i64), .v .str, .v (.int .i64), .v (.sl .str), .v (.sl (.pr .str (.rc .value)))]), (1007, .cells [.v .str, .v (.sl (.pr .str .str))]), (1008, .cells [.v (.int .i64), .v .str, .v (.int .i64), .nilS, .nilS]), (1011, .row 78 (.pr .str (.rc .value)) false), (1012, .row 108 (.pr .str (.pr (.sl (.pr .str .str)) (.sl (.pr .str .str)))) false)]
def z63L0_hd (x2 : List (Str × Str)) (c36 : List (Str × GValue)) (c37 : Int) (c1004_0 : List (Str × List Str)) (c1004_1 : List (Str × List (Str × Str) × List (Str × Str))) (c1004_2 : List (Str × List (Str × Str))) (c1004_3 : List (Str × Str × List (Str × Str) × List (Str × Str))) (c1004_4 : List (Str × List (Str × Str) × List Str)) (c1005_0 : Int) (c1005_1 : Str) (c1005_2 : Int) (c1005_3 : List Str) (c1005_4 : List (Str × GValue)) (c1007_0 : Str) (c1007_1 : List (Str × Str)) (c1008_0 : Int) (c1008_1 : Str) (c1008_2 : Int) (s38 : Int) (w1011 : List (Str × GValue)) (w1012 : List (Str × List (Str × Str) × List (Str × Str))) : St := ⟨140, [(2, .v (.sl (.pr .str .str)) x2), (4, .box 1004 0), (5, .box 1005 0), (7, .box 1007 0), (8, .box 1008 0), (11, .row 1011), (12, .row 1012), (36, .v (.sl (.pr .str (.rc .value))) c36), (37, .v (.int .i64) c37), (38, .v (.int .i64) s38)], [(1004, .cells [.v (.sl (.pr .str (.sl .str))) c1004_0, .v (.sl (.pr .str (.pr (.sl (.pr .str .str)) (.sl (.pr .str .str))))) c1004_1, .v (.sl (.pr .str (.sl (.pr .str .str)))) c1004_2, .v (.sl (.pr .str (.pr .str (.pr (.sl (.pr .str .str)) (.sl (.pr .str .str)))))) c1004_3, .v (.sl (.pr .str (.pr (.sl (.pr .str .str)) (.sl .str)))) c1004_4]), (1005, .cells [.v (.int .i64) c1005_0, .v .str c1005_1, .v (.int .i64) c1005_2, .v (.sl .str) c1005_3, .v (.sl (.pr .str (.rc .value))) c1005_4]), (1007, .cells [.v .str c1007_0, .v (.sl (.pr .str .str)) c1007_1]), (1008, .cells [.v (.int .i64) c1008_0, .v .str c1008_1, .v (.int .i64) c1008_2, .nilS, .nilS]), (1011, .row 78 (.pr .str (.rc .value)) false w1011), (1012, .row 108 (.pr .str (.pr (.sl (.pr .str .str)) (.sl (.pr .str .str)))) false w1012)]⟩
def z63L0_tl0 (_x2 : List (Str × Str)) (_c36 : List (Str × GValue)) (_c37 : Int) (_c1004_0 : List (Str × List Str)) (_c1004_1 : List (Str × List (Str × Str) × List (Str × Str))) (_c1004_2 : List (Str × List (Str × Str))) (_c1004_3 : List (Str × Str × List (Str × Str) × List (Str × Str))) (_c1004_4 : List (Str × List (Str × Str) × List Str)) (c1005_0 : Int) (c1005_1 : Str) (c1005_2 : Int) (c1005_3 : List Str) (c1005_4 : List (Str × GValue)) (_c1007_0 : Str) (_c1007_1 : List (Str × Str)) (c1008_0 : Int) (c1008_1 : Str) (c1008_2 : Int) (o0_w1011 : List (Str × GValue)) (o0_w1012 : List (Str × List (Str × Str) × List (Str × Str))) : St := ⟨140, [(5, .box 1005 0), (8, .box 1008 0), (11, .row 1011), (12, .row 1012)], [(1005, .cells [.v (.int .i64) c1005_0, .v .str c1005_1, .v (.int .i64) c1005_2, .v (.sl .str) c1005_3, .v (.sl (.pr .str (.rc .value))) c1005_4]), (1008, .cells [.v (.int .i64) c1008_0, .v .str c1008_1, .v (.int .i64) c1008_2, .nilS, .nilS]), (1011, .row 78 (.pr .str (.rc .value)) false o0_w1011), (1012, .row 108 (.pr .str (.pr (.sl (.pr .str .str)) (.sl (.pr .str .str)))) false o0_w1012)]⟩
def z63L0_G (N : Nat) (x2 : List (Str × Str)) (c36 : List (Str × GValue)) (c37 : Int) (c1004_0 : List (Str × List Str)) (c1004_1 : List (Str × List (Str × Str) × List (Str × Str))) (c1004_2 : List (Str × List (Str × Str))) (c1004_3 : List (Str × Str × List (Str × Str) × List (Str × Str))) (c1004_4 : List (Str × List (Str × Str) × List Str)) (c1005_0 : Int) (c1005_1 : Str) (c1005_2 : Int) (c1005_3 : List Str) (c1005_4 : List (Str × GValue)) (c1007_0 : Str) (c1007_1 : List (Str × Str)) (c1008_0 : Int) (c1008_1 : Str) (c1008_2 : Int) (s38 : Int) (w1011 : List (Str × GValue)) (w1012 : List (Str × List (Str × Str) × List (Str × Str))) (k : Ex → St → Option (GValue × Int)) : Option (GValue × Int) :=
  z63L0 N x2 c36 c37 c1004_0 c1004_1 c1007_0 c1007_1 (fun o0_w1011 o0_w1012 => k (.exit 0) (z63L0_tl0 x2 c36 c37 c1004_0 c1004_1 c1004_2 c1004_3 c1004_4 c1005_0 c1005_1 c1005_2 c1005_3 c1005_4 c1007_0 c1007_1 c1008_0 c1008_1 c1008_2 o0_w1011 o0_w1012)) N s38 w1011 w1012
abbrev z63L0_F (N : Nat) : FV z63L0_fs → HV z63L0_bs → (Ex → St → Option (GValue × Int)) → Option (GValue × Int) := fun x y k => z63L0_G N x.1 x.2.2.2.2.2.2.2.1 x.2.2.2.2.2.2.2.2.1 y.1.1 y.1.2.1 y.1.2.2.1 y.1.2.2.2.1 y.1.2.2.2.2.1 y.2.1.1 y.2.1.2.1 y.2.1.2.2.1 y.2.1.2.2.2.1 y.2.1.2.2.2.2.1 y.2.2.1.1 y.2.2.1.2.1 y.2.2.2.1.1 y.2.2.2.1.2.1 y.2.2.2.1.2.2.1 x.2.2.2.2.2.2.2.2.2.1 y.2.2.2.2.1 y.2.2.2.2.2.1 k
abbrev z63L2_fs : List (Nat × Sl) := [(8, .box 1008 0), (11, .row 1011), (12, .row 1012), (18, .v .bool), (19, .v (.int .i64)), (20, .v .bool), (85, .v (.int .i64)), (86, .v (.int .i64)), (91, .row 1011), (92, .at_ (.pr .str (.rc .value))), (93, .at_ (.rc .value)), (94, .v (.rc .value)), (95, .row 1011), (96, .v (.int .i64)), (97, .at_ (.pr .str (.rc .value))), (98, .at_ (.rc .value)), (99, .v (.rc .value)), (100, .v .bool), (103, .v (.int .i64)), (104, .v (.int .i64))]
abbrev z63L2_bs : List (Nat × Sb) := [(1008, .cells [.v (.int .i64), .v .str, .v (.int .i64), .nilS, .nilS]), (1011, .row 78 (.pr .str (.rc .value)) false), (1012, .row 108 (.pr .str (.pr (.sl (.pr .str .str)) (.sl (.pr .str .str)))) false)]
def z63L2_hd (t100 : Bool) (s86 : Int) (c85 : Int) (c86 : Int) (t92 : Str × GValue) (c93 : GValue) (c94 : GValue) (c96 : Int) (t97 : Str × GValue) (c98 : GValue) (c99 : GValue) (c100 : Bool) (c103 : Int) (c1008_0_1 : Int) (c1008_1_2 : Str) (c1008_2_3 : Int) (o0_w1011 : List (Str × GValue)) (o0_w1012 : List (Str × List (Str × Str) × List (Str × Str))) (s20 : Bool) (s104 : Int) : St := ⟨140, [(8, .box 1008 0), (11, .row 1011), (12, .row 1012), (18, .v .bool t100), (19, .v (.int .i64) s86), (20, .v .bool s20), (85, .v (.int .i64) c85), (86, .v (.int .i64) c86), (91, .row 1011), (92, .at_ (.pr .str (.rc .value)) t92), (93, .at_ (.rc .value) c93), (94, .v (.rc .value) c94), (95, .row 1011), (96, .v (.int .i64) c96), (97, .at_ (.pr .str (.rc .value)) t97), (98, .at_ (.rc .value) c98), (99, .v (.rc .value) c99), (100, .v .bool c100), (103, .v (.int .i64) c103), (104, .v (.int .i64) s104)], [(1008, .cells [.v (.int .i64) c1008_0_1, .v .str c1008_1_2, .v (.int .i64) c1008_2_3, .nilS, .nilS]), (1011, .row 78 (.pr .str (.rc .value)) false o0_w1011), (1012, .row 108 (.pr .str (.pr (.sl (.pr .str .str)) (.sl (.pr .str .str)))) false o0_w1012)]⟩
def z63L2_tl4 (t100 : Bool) (s86 : Int) (c85 : Int) (c86 : Int) (t92 : Str × GValue) (c93 : GValue) (c94 : GValue) (c96 : Int) (t97 : Str × GValue) (c98 : GValue) (c99 : GValue) (c100 : Bool) (_c103 : Int) (c1008_0_1 : Int) (c1008_1_2 : Str) (c1008_2_3 : Int) (o0_w1011 : List (Str × GValue)) (o0_w1012 : List (Str × List (Str × Str) × List (Str × Str))) (o2_20 : Bool) : St := ⟨140, [(8, .box 1008 0), (11, .row 1011), (12, .row 1012), (18, .v .bool t100), (19, .v (.int .i64) s86), (20, .v .bool o2_20), (85, .v (.int .i64) c85), (86, .v (.int .i64) c86), (91, .row 1011), (92, .at_ (.pr .str (.rc .value)) t92), (93, .at_ (.rc .value) c93), (94, .v (.rc .value) c94), (95, .row 1011), (96, .v (.int .i64) c96), (97, .at_ (.pr .str (.rc .value)) t97), (98, .at_ (.rc .value) c98), (99, .v (.rc .value) c99), (100, .v .bool c100)], [(1008, .cells [.v (.int .i64) c1008_0_1, .v .str c1008_1_2, .v (.int .i64) c1008_2_3, .nilS, .nilS]), (1011, .row 78 (.pr .str (.rc .value)) false o0_w1011), (1012, .row 108 (.pr .str (.pr (.sl (.pr .str .str)) (.sl (.pr .str .str)))) false o0_w1012)]⟩
def z63L2_G (N : Nat) (t100 : Bool) (s86 : Int) (c85 : Int) (c86 : Int) (t92 : Str × GValue) (c93 : GValue) (c94 : GValue) (c96 : Int) (t97 : Str × GValue) (c98 : GValue) (c99 : GValue) (c100 : Bool) (c103 : Int) (c1008_0_1 : Int) (c1008_1_2 : Str) (c1008_2_3 : Int) (o0_w1011 : List (Str × GValue)) (o0_w1012 : List (Str × List (Str × Str) × List (Str × Str))) (s20 : Bool) (s104 : Int) (k : Ex → St → Option (GValue × Int)) : Option (GValue × Int) :=
  z63L2 N s86 c103 o0_w1012 (fun o2_20 => k (.exit 4) (z63L2_tl4 t100 s86 c85 c86 t92 c93 c94 c96 t97 c98 c99 c100 c103 c1008_0_1 c1008_1_2 c1008_2_3 o0_w1011 o0_w1012 o2_20)) N s20 s104
abbrev z63L2_F (N : Nat) : FV z63L2_fs → HV z63L2_bs → (Ex → St → Option (GValue × Int)) → Option (GValue × Int) := fun x y k => z63L2_G N x.2.2.2.1 x.2.2.2.2.1 x.2.2.2.2.2.2.1 x.2.2.2.2.2.2.2.1 x.2.2.2.2.2.2.2.2.2.1 x.2.2.2.2.2.2.2.2.2.2.1 x.2.2.2.2.2.2.2.2.2.2.2.1 x.2.2.2.2.2.2.2.2.2.2.2.2.2.1 x.2.2.2.2.2.2.2.2.2.2.2.2.2.2.1 x.2.2.2.2.2.2.2.2.2.2.2.2.2.2.2.1 x.2.2.2.2.2.2.2.2.2.2.2.2.2.2.2.2.1 x.2.2.2.2.2.2.2.2.2.2.2.2.2.2.2.2.2.1 x.2.2.2.2.2.2.2.2.2.2.2.2.2.2.2.2.2.2.1 y.1.1 y.1.2.1 y.1.2.2.1 y.2.1 y.2.2.1 x.2.2.2.2.2.1 x.2.2.2.2.2.2.2.2.2.2.2.2.2.2.2.2.2.2.2.1 k
abbrev z63L3_fs : List (Nat × Sl) := [(8, .box 1008 0), (11, .row 1011), (12, .row 1012), (18, .v .bool), (19, .v (.int .i64)), (20, .v .bool), (85, .v (.int .i64)), (86, .v (.int .i64)), (91, .skip), (92, .skip), (93, .skip), (94, .skip), (95, .skip), (96, .skip), (97, .skip), (98, .skip), (99, .skip), (100, .skip), (103, .v (.int .i64)), (104, .v (.int .i64))]
abbrev z63L3_bs : List (Nat × Sb) := [(1008, .cells [.v (.int .i64), .v .str, .v (.int .i64), .nilS, .nilS]), (1011, .row 78 (.pr .str (.rc .value)) false), (1012, .row 108 (.pr .str (.pr (.sl (.pr .str .str)) (.sl (.pr .str .str)))) false)]
def z63L3_hd (c18 : Bool) (s86 : Int) (c85 : Int) (c86_5 : Int) (c103_6 : Int) (c1008_0_1 : Int) (c1008_1_2 : Str) (c1008_2_3 : Int) (o0_w1011 : List (Str × GValue)) (o0_w1012 : List (Str × List (Str × Str) × List (Str × Str))) (s20_4 : Bool) (s104_7 : Int) : St := ⟨140, [(8, .box 1008 0), (11, .row 1011), (12, .row 1012), (18, .v .bool c18), (19, .v (.int .i64) s86), (20, .v .bool s20_4), (85, .v (.int .i64) c85), (86, .v (.int .i64) c86_5), (91, .skip), (92, .skip), (93, .skip), (94, .skip), (95, .skip), (96, .skip), (97, .skip), (98, .skip), (99, .skip), (100, .skip), (103, .v (.int .i64) c103_6), (104, .v (.int .i64) s104_7)], [(1008, .cells [.v (.int .i64) c1008_0_1, .v .str c1008_1_2, .v (.int .i64) c1008_2_3, .nilS, .nilS]), (1011, .row 78 (.pr .str (.rc .value)) false o0_w1011), (1012, .row 108 (.pr .str (.pr (.sl (.pr .str .str)) (.sl (.pr .str .str)))) false o0_w1012)]⟩
def z63L3_tl4 (c18 : Bool) (s86 : Int) (c85 : Int) (c86_5 : Int) (_c103_6 : Int) (c1008_0_1 : Int) (c1008_1_2 : Str) (c1008_2_3 : Int) (o0_w1011 : List (Str × GValue)) (o0_w1012 : List (Str × List (Str × Str) × List (Str × Str))) (o3_20 : Bool) : St := ⟨140, [(8, .box 1008 0), (11, .row 1011), (12, .row 1012), (18, .v .bool c18), (19, .v (.int .i64) s86), (20, .v .bool o3_20), (85, .v (.int .i64) c85), (86, .v (.int .i64) c86_5), (91, .skip), (92, .skip), (93, .skip), (94, .skip), (95, .skip), (96, .skip), (97, .skip), (98, .skip), (99, .skip), (100, .skip)], [(1008, .cells [.v (.int .i64) c1008_0_1, .v .str c1008_1_2, .v (.int .i64) c1008_2_3, .nilS, .nilS]), (1011, .row 78 (.pr .str (.rc .value)) false o0_w1011), (1012, .row 108 (.pr .str (.pr (.sl (.pr .str .str)) (.sl (.pr .str .str)))) false o0_w1012)]⟩
def z63L3_G (N : Nat) (c18 : Bool) (s86 : Int) (c85 : Int) (c86_5 : Int) (c103_6 : Int) (c1008_0_1 : Int) (c1008_1_2 : Str) (c1008_2_3 : Int) (o0_w1011 : List (Str × GValue)) (o0_w1012 : List (Str × List (Str × Str) × List (Str × Str))) (s20_4 : Bool) (s104_7 : Int) (k : Ex → St → Option (GValue × Int)) : Option (GValue × Int) :=
  z63L3 N s86 c103_6 o0_w1012 (fun o3_20 => k (.exit 4) (z63L3_tl4 c18 s86 c85 c86_5 c103_6 c1008_0_1 c1008_1_2 c1008_2_3 o0_w1011 o0_w1012 o3_20)) N s20_4 s104_7
abbrev z63L3_F (N : Nat) : FV z63L3_fs → HV z63L3_bs → (Ex → St → Option (GValue × Int)) → Option (GValue × Int) := fun x y k => z63L3_G N x.2.2.2.1 x.2.2.2.2.1 x.2.2.2.2.2.2.1 x.2.2.2.2.2.2.2.1 x.2.2.2.2.2.2.2.2.2.2.2.2.2.2.2.2.2.2.1 y.1.1 y.1.2.1 y.1.2.2.1 y.2.1 y.2.2.1 x.2.2.2.2.2.1 x.2.2.2.2.2.2.2.2.2.2.2.2.2.2.2.2.2.2.2.1 k
abbrev z63L1_fs : List (Nat × Sl) := [(8, .box 1008 0), (11, .row 1011), (12, .row 1012), (18, .v .bool), (85, .v (.int .i64)), (86, .v (.int .i64))]
abbrev z63L1_bs : List (Nat × Sb) := [(1008, .cells [.v (.int .i64), .v .str, .v (.int .i64), .nilS, .nilS]), (1011, .row 78 (.pr .str (.rc .value)) false), (1012, .row 108 (.pr .str (.pr (.sl (.pr .str .str)) (.sl (.pr .str .str)))) false)]
def z63L1_hd (c85 : Int) (c1008_0_1 : Int) (c1008_1_2 : Str) (c1008_2_3 : Int) (o0_w1011 : List (Str × GValue)) (o0_w1012 : List (Str × List (Str × Str) × List (Str × Str))) (s18 : Bool) (s86 : Int) : St := ⟨140, [(8, .box 1008 0), (11, .row 1011), (12, .row 1012), (18, .v .bool s18), (85, .v (.int .i64) c85), (86, .v (.int .i64) s86)], [(1008, .cells [.v (.int .i64) c1008_0_1, .v .str c1008_1_2, .v (.int .i64) c1008_2_3, .nilS, .nilS]), (1011, .row 78 (.pr .str (.rc .value)) false o0_w1011), (1012, .row 108 (.pr .str (.pr (.sl (.pr .str .str)) (.sl (.pr .str .str)))) false o0_w1012)]⟩
def z63L1_tl2 (_c85 : Int) (c1008_0_1 : Int) (c1008_1_2 : Str) (c1008_2_3 : Int) (o0_w1011 : List (Str × GValue)) (_o0_w1012 : List (Str × List (Str × Str) × List (Str × Str))) (o1_18 : Bool) : St := ⟨140, [(8, .box 1008 0), (11, .row 1011), (18, .v .bool o1_18)], [(1008, .cells [.v (.int .i64) c1008_0_1, .v .str c1008_1_2, .v (.int .i64) c1008_2_3, .nilS, .nilS]), (1011, .row 78 (.pr .str (.rc .value)) false o0_w1011)]⟩
def z63L1_G (N : Nat) (c85 : Int) (c1008_0_1 : Int) (c1008_1_2 : Str) (c1008_2_3 : Int) (o0_w1011 : List (Str × GValue)) (o0_w1012 : List (Str × List (Str × Str) × List (Str × Str))) (s18 : Bool) (s86 : Int) (k : Ex → St → Option (GValue × Int)) : Option (GValue × Int) :=
  z63L1 N c85 o0_w1011 o0_w1012 (fun o1_18 => k (.exit 2) (z63L1_tl2 c85 c1008_0_1 c1008_1_2 c1008_2_3 o0_w1011 o0_w1012 o1_18)) N s18 s86
abbrev z63L1_F (N : Nat) : FV z63L1_fs → HV z63L1_bs → (Ex → St → Option (GValue × Int)) → Option (GValue × Int) := fun x y k => z63L1_G N x.2.2.2.2.1 y.1.1 y.1.2.1 y.1.2.2.1 y.2.1 y.2.2.1 x.2.2.2.1 x.2.2.2.2.2.1 k
noncomputable def z63LP (N : Nat) : Nat → Code → St → (Ex → St → Option (GValue × Int)) → Option (GValue × Int) := fun i c =>
  match i with
  | 0 => (LPc 140 z63L0_fs z63L0_bs (z63L0_F N) (fun st k => iter (z63h 0) (exec (z63E N) N c 0) N st k))
  | 2 => (LPc 140 z63L1_fs z63L1_bs (z63L1_F N) (fun st k => iter (z63h 2) (exec (z63E N) N c 2) N st k))
  | 4 => (LPc 140 z63L3_fs z63L3_bs (z63L3_F N) (LPc 140 z63L2_fs z63L2_bs (z63L2_F N) (fun st k => iter (z63h 4) (exec (z63E N) N c 4) N st k)))
  | i => fun st k => iter (z63h i) (exec (z63E N) N c i) N st k
theorem z63L2_step (N : Nat) (t100 : Bool) (s86 : Int) (c85 : Int) (c86 : Int) (t92 : Str × GValue) (c93 : GValue) (c94 : GValue) (c96 : Int) (t97 : Str × GValue) (c98 : GValue) (c99 : GValue) (c100 : Bool) (c103 : Int) (c1008_0_1 : Int) (c1008_1_2 : Str) (c1008_2_3 : Int) (o0_w1011 : List (Str × GValue)) (o0_w1012 : List (Str × List (Str × Str) × List (Str × Str))) (KX : Nat → St → Option (GValue × Int)) (I : St → Option (GValue × Int)) (s20 : Bool) (s104 : Int) :
    execL (z63LP N) (z63E N) (cAt (bodyOf Tryz.f32) [true, true, true, true, true, true, true, true, false, true, false, false, true, true, false, false, true, true, true, false, true, false, false]) 4 (z63L2_hd t100 s86 c85 c86 t92 c93 c94 c96 t97 c98 c99 c100 c103 c1008_0_1 c1008_1_2 c1008_2_3 o0_w1011 o0_w1012 s20 s104) (roundK (z63h 4) I KX (resD (z63E N) Tryz.f32 (z63sg fun x _ => config_chosen N x.1 x.2.1 x.2.2.1 x.2.2.2.1) z63pk)) = z63L2T N s86 c103 o0_w1012 (fun o2_20 => KX 4 (z63L2_tl4 t100 s86 c85 c86 t92 c93 c94 c96 t97 c98 c99 c100 c103 c1008_0_1 c1008_1_2 c1008_2_3 o0_w1011 o0_w1012 o2_20)) (fun s20 s104 => I (z63L2_hd t100 s86 c85 c86 t92 c93 c94 c96 t97 c98 c99 c100 c103 c1008_0_1 c1008_1_2 c1008_2_3 o0_w1011 o0_w1012 s20 s104)) s20 s104 := by kernel_rfl
theorem z63L2_ok (N : Nat) : ∀ x y k, (∀ st, k .ret st = (resD (z63E N) Tryz.f32 (z63sg fun x _ => config_chosen N x.1 x.2.1 x.2.2.1 x.2.2.2.1) z63pk) st) → iter (z63h 4) (exec (z63E N) N (cAt (bodyOf Tryz.f32) [true, true, true, true, true, true, true, true, false, true, false, false, true, true, false, false, true, true, true, false, true, false, false]) 4) N ⟨140, unF z63L2_fs x, unH z63L2_bs y⟩ k = z63L2_F N x y k := fun x y k hk =>
  iter_link (S := (Bool) × (Int) × Unit) (z63h 4) _ (execL (z63LP N) (z63E N) (cAt (bodyOf Tryz.f32) [true, true, true, true, true, true, true, true, false, true, false, false, true, true, false, false, true, true, true, false, true, false, false]) 4) (resD (z63E N) Tryz.f32 (z63sg fun x _ => config_chosen N x.1 x.2.1 x.2.2.1 x.2.2.2.1) z63pk) (fun st k hk => execL_eq _ _ N _ (cAt (bodyOf Tryz.f32) [true, true, true, true, true, true, true, true, false, true, false, false, true, true, false, false, true, true, true, false, true, false, false]) 4 (show LoopsOk (z63LP N) (z63E N) N (resD (z63E N) Tryz.f32 (z63sg fun x _ => config_chosen N x.1 x.2.1 x.2.2.1 x.2.2.2.1) z63pk) [] from trivial) st k hk) (fun s => z63L2_hd x.2.2.2.1 x.2.2.2.2.1 x.2.2.2.2.2.2.1 x.2.2.2.2.2.2.2.1 x.2.2.2.2.2.2.2.2.2.1 x.2.2.2.2.2.2.2.2.2.2.1 x.2.2.2.2.2.2.2.2.2.2.2.1 x.2.2.2.2.2.2.2.2.2.2.2.2.2.1 x.2.2.2.2.2.2.2.2.2.2.2.2.2.2.1 x.2.2.2.2.2.2.2.2.2.2.2.2.2.2.2.1 x.2.2.2.2.2.2.2.2.2.2.2.2.2.2.2.2.1 x.2.2.2.2.2.2.2.2.2.2.2.2.2.2.2.2.2.1 x.2.2.2.2.2.2.2.2.2.2.2.2.2.2.2.2.2.2.1 y.1.1 y.1.2.1 y.1.2.2.1 y.2.1 y.2.2.1 s.1 s.2.1) k hk
    (fun self s => z63L2T N x.2.2.2.2.1 x.2.2.2.2.2.2.2.2.2.2.2.2.2.2.2.2.2.2.1 y.2.2.1 (fun o2_20 => k (.exit 4) (z63L2_tl4 x.2.2.2.1 x.2.2.2.2.1 x.2.2.2.2.2.2.1 x.2.2.2.2.2.2.2.1 x.2.2.2.2.2.2.2.2.2.1 x.2.2.2.2.2.2.2.2.2.2.1 x.2.2.2.2.2.2.2.2.2.2.2.1 x.2.2.2.2.2.2.2.2.2.2.2.2.2.1 x.2.2.2.2.2.2.2.2.2.2.2.2.2.2.1 x.2.2.2.2.2.2.2.2.2.2.2.2.2.2.2.1 x.2.2.2.2.2.2.2.2.2.2.2.2.2.2.2.2.1 x.2.2.2.2.2.2.2.2.2.2.2.2.2.2.2.2.2.1 x.2.2.2.2.2.2.2.2.2.2.2.2.2.2.2.2.2.2.1 y.1.1 y.1.2.1 y.1.2.2.1 y.2.1 y.2.2.1 o2_20)) (fun s20 s104 => self (s20, s104, ())) s.1 s.2.1) (fun n s => z63L2 N x.2.2.2.2.1 x.2.2.2.2.2.2.2.2.2.2.2.2.2.2.2.2.2.2.1 y.2.2.1 (fun o2_20 => k (.exit 4) (z63L2_tl4 x.2.2.2.1 x.2.2.2.2.1 x.2.2.2.2.2.2.1 x.2.2.2.2.2.2.2.1 x.2.2.2.2.2.2.2.2.2.1 x.2.2.2.2.2.2.2.2.2.2.1 x.2.2.2.2.2.2.2.2.2.2.2.1 x.2.2.2.2.2.2.2.2.2.2.2.2.2.1 x.2.2.2.2.2.2.2.2.2.2.2.2.2.2.1 x.2.2.2.2.2.2.2.2.2.2.2.2.2.2.2.1 x.2.2.2.2.2.2.2.2.2.2.2.2.2.2.2.2.1 x.2.2.2.2.2.2.2.2.2.2.2.2.2.2.2.2.2.1 x.2.2.2.2.2.2.2.2.2.2.2.2.2.2.2.2.2.2.1 y.1.1 y.1.2.1 y.1.2.2.1 y.2.1 y.2.2.1 o2_20)) n s.1 s.2.1) (fun _ => rfl) (fun _ _ => rfl)
    (fun I s => z63L2_step N x.2.2.2.1 x.2.2.2.2.1 x.2.2.2.2.2.2.1 x.2.2.2.2.2.2.2.1 x.2.2.2.2.2.2.2.2.2.1 x.2.2.2.2.2.2.2.2.2.2.1 x.2.2.2.2.2.2.2.2.2.2.2.1 x.2.2.2.2.2.2.2.2.2.2.2.2.2.1 x.2.2.2.2.2.2.2.2.2.2.2.2.2.2.1 x.2.2.2.2.2.2.2.2.2.2.2.2.2.2.2.1 x.2.2.2.2.2.2.2.2.2.2.2.2.2.2.2.2.1 x.2.2.2.2.2.2.2.2.2.2.2.2.2.2.2.2.2.1 x.2.2.2.2.2.2.2.2.2.2.2.2.2.2.2.2.2.2.1 y.1.1 y.1.2.1 y.1.2.2.1 y.2.1 y.2.2.1 (fun j => k (.exit j)) I s.1 s.2.1) N (x.2.2.2.2.2.1, x.2.2.2.2.2.2.2.2.2.2.2.2.2.2.2.2.2.2.2.1, ())
theorem z63L3_step (N : Nat) (c18 : Bool) (s86 : Int) (c85 : Int) (c86_5 : Int) (c103_6 : Int) (c1008_0_1 : Int) (c1008_1_2 : Str) (c1008_2_3 : Int) (o0_w1011 : List (Str × GValue)) (o0_w1012 : List (Str × List (Str × Str) × List (Str × Str))) (KX : Nat → St → Option (GValue × Int)) (I : St → Option (GValue × Int)) (s20_4 : Bool) (s104_7 : Int) :
    execL (z63LP N) (z63E N) (cAt (bodyOf Tryz.f32) [true, true, true, true, true, true, true, true, false, true, false, false, true, true, false, false, true, true, true, false, true, false, false]) 4 (z63L3_hd c18 s86 c85 c86_5 c103_6 c1008_0_1 c1008_1_2 c1008_2_3 o0_w1011 o0_w1012 s20_4 s104_7) (roundK (z63h 4) I KX (resD (z63E N) Tryz.f32 (z63sg fun x _ => config_chosen N x.1 x.2.1 x.2.2.1 x.2.2.2.1) z63pk)) = z63L3T N s86 c103_6 o0_w1012 (fun o3_20 => KX 4 (z63L3_tl4 c18 s86 c85 c86_5 c103_6 c1008_0_1 c1008_1_2 c1008_2_3 o0_w1011 o0_w1012 o3_20)) (fun s20_4 s104_7 => I (z63L3_hd c18 s86 c85 c86_5 c103_6 c1008_0_1 c1008_1_2 c1008_2_3 o0_w1011 o0_w1012 s20_4 s104_7)) s20_4 s104_7 := by kernel_rfl
theorem z63L3_ok (N : Nat) : ∀ x y k, (∀ st, k .ret st = (resD (z63E N) Tryz.f32 (z63sg fun x _ => config_chosen N x.1 x.2.1 x.2.2.1 x.2.2.2.1) z63pk) st) → iter (z63h 4) (exec (z63E N) N (cAt (bodyOf Tryz.f32) [true, true, true, true, true, true, true, true, false, true, false, false, true, true, false, false, true, true, true, false, true, false, false]) 4) N ⟨140, unF z63L3_fs x, unH z63L3_bs y⟩ k = z63L3_F N x y k := fun x y k hk =>
  iter_link (S := (Bool) × (Int) × Unit) (z63h 4) _ (execL (z63LP N) (z63E N) (cAt (bodyOf Tryz.f32) [true, true, true, true, true, true, true, true, false, true, false, false, true, true, false, false, true, true, true, false, true, false, false]) 4) (resD (z63E N) Tryz.f32 (z63sg fun x _ => config_chosen N x.1 x.2.1 x.2.2.1 x.2.2.2.1) z63pk) (fun st k hk => execL_eq _ _ N _ (cAt (bodyOf Tryz.f32) [true, true, true, true, true, true, true, true, false, true, false, false, true, true, false, false, true, true, true, false, true, false, false]) 4 (show LoopsOk (z63LP N) (z63E N) N (resD (z63E N) Tryz.f32 (z63sg fun x _ => config_chosen N x.1 x.2.1 x.2.2.1 x.2.2.2.1) z63pk) [] from trivial) st k hk) (fun s => z63L3_hd x.2.2.2.1 x.2.2.2.2.1 x.2.2.2.2.2.2.1 x.2.2.2.2.2.2.2.1 x.2.2.2.2.2.2.2.2.2.2.2.2.2.2.2.2.2.2.1 y.1.1 y.1.2.1 y.1.2.2.1 y.2.1 y.2.2.1 s.1 s.2.1) k hk
    (fun self s => z63L3T N x.2.2.2.2.1 x.2.2.2.2.2.2.2.2.2.2.2.2.2.2.2.2.2.2.1 y.2.2.1 (fun o3_20 => k (.exit 4) (z63L3_tl4 x.2.2.2.1 x.2.2.2.2.1 x.2.2.2.2.2.2.1 x.2.2.2.2.2.2.2.1 x.2.2.2.2.2.2.2.2.2.2.2.2.2.2.2.2.2.2.1 y.1.1 y.1.2.1 y.1.2.2.1 y.2.1 y.2.2.1 o3_20)) (fun s20_4 s104_7 => self (s20_4, s104_7, ())) s.1 s.2.1) (fun n s => z63L3 N x.2.2.2.2.1 x.2.2.2.2.2.2.2.2.2.2.2.2.2.2.2.2.2.2.1 y.2.2.1 (fun o3_20 => k (.exit 4) (z63L3_tl4 x.2.2.2.1 x.2.2.2.2.1 x.2.2.2.2.2.2.1 x.2.2.2.2.2.2.2.1 x.2.2.2.2.2.2.2.2.2.2.2.2.2.2.2.2.2.2.1 y.1.1 y.1.2.1 y.1.2.2.1 y.2.1 y.2.2.1 o3_20)) n s.1 s.2.1) (fun _ => rfl) (fun _ _ => rfl)
    (fun I s => z63L3_step N x.2.2.2.1 x.2.2.2.2.1 x.2.2.2.2.2.2.1 x.2.2.2.2.2.2.2.1 x.2.2.2.2.2.2.2.2.2.2.2.2.2.2.2.2.2.2.1 y.1.1 y.1.2.1 y.1.2.2.1 y.2.1 y.2.2.1 (fun j => k (.exit j)) I s.1 s.2.1) N (x.2.2.2.2.2.1, x.2.2.2.2.2.2.2.2.2.2.2.2.2.2.2.2.2.2.2.1, ())
theorem z63lp4 (N : Nat) : ∀ st k, (∀ st, k .ret st = (resD (z63E N) Tryz.f32 (z63sg fun x _ => config_chosen N x.1 x.2.1 x.2.2.1 x.2.2.2.1) z63pk) st) → z63LP N 4 (cAt (bodyOf Tryz.f32) [true, true, true, true, true, true, true, true, false, true, false, false, true, true, false, false, true, true, true, false, true, false, false]) st k = iter (Env.hint (z63E N) 4) (exec (z63E N) N (cAt (bodyOf Tryz.f32) [true, true, true, true, true, true, true, true, false, true, false, false, true, true, false, false, true, true, true, false, true, false, false]) 4) N st k := fun st k hk => LPc_eq 140 z63L3_fs z63L3_bs _ _ (resD (z63E N) Tryz.f32 (z63sg fun x _ => config_chosen N x.1 x.2.1 x.2.2.1 x.2.2.2.1) z63pk) (z63L3_ok N) _ st k hk (LPc_eq 140 z63L2_fs z63L2_bs _ _ (resD (z63E N) Tryz.f32 (z63sg fun x _ => config_chosen N x.1 x.2.1 x.2.2.1 x.2.2.2.1) z63pk) (z63L2_ok N) _ st k hk (rfl))
theorem z63L1_step (N : Nat) (c85 : Int) (c1008_0_1 : Int) (c1008_1_2 : Str) (c1008_2_3 : Int) (o0_w1011 : List (Str × GValue)) (o0_w1012 : List (Str × List (Str × Str) × List (Str × Str))) (KX : Nat → St → Option (GValue × Int)) (I : St → Option (GValue × Int)) (s18 : Bool) (s86 : Int) :
    execL (z63LP N) (z63E N) (cAt (bodyOf Tryz.f32) [true, true, true, true, true, true, true, true, false, true, false, false]) 2 (z63L1_hd c85 c1008_0_1 c1008_1_2 c1008_2_3 o0_w1011 o0_w1012 s18 s86) (roundK (z63h 2) I KX (resD (z63E N) Tryz.f32 (z63sg fun x _ => config_chosen N x.1 x.2.1 x.2.2.1 x.2.2.2.1) z63pk)) = z63L1T N c85 o0_w1011 o0_w1012 (fun o1_18 => KX 2 (z63L1_tl2 c85 c1008_0_1 c1008_1_2 c1008_2_3 o0_w1011 o0_w1012 o1_18)) (fun s18 s86 => I (z63L1_hd c85 c1008_0_1 c1008_1_2 c1008_2_3 o0_w1011 o0_w1012 s18 s86)) s18 s86 := by kernel_rfl
theorem z63L1_ok (N : Nat) : ∀ x y k, (∀ st, k .ret st = (resD (z63E N) Tryz.f32 (z63sg fun x _ => config_chosen N x.1 x.2.1 x.2.2.1 x.2.2.2.1) z63pk) st) → iter (z63h 2) (exec (z63E N) N (cAt (bodyOf Tryz.f32) [true, true, true, true, true, true, true, true, false, true, false, false]) 2) N ⟨140, unF z63L1_fs x, unH z63L1_bs y⟩ k = z63L1_F N x y k := fun x y k hk =>
  iter_link (S := (Bool) × (Int) × Unit) (z63h 2) _ (execL (z63LP N) (z63E N) (cAt (bodyOf Tryz.f32) [true, true, true, true, true, true, true, true, false, true, false, false]) 2) (resD (z63E N) Tryz.f32 (z63sg fun x _ => config_chosen N x.1 x.2.1 x.2.2.1 x.2.2.2.1) z63pk) (fun st k hk => execL_eq _ _ N _ (cAt (bodyOf Tryz.f32) [true, true, true, true, true, true, true, true, false, true, false, false]) 2 (show LoopsOk (z63LP N) (z63E N) N (resD (z63E N) Tryz.f32 (z63sg fun x _ => config_chosen N x.1 x.2.1 x.2.2.1 x.2.2.2.1) z63pk) [(4, (cAt (bodyOf Tryz.f32) [true, true, true, true, true, true, true, true, false, true, false, false, true, true, false, false, true, true, true, false, true, false, false]))] from ⟨z63lp4 N, trivial⟩) st k hk) (fun s => z63L1_hd x.2.2.2.2.1 y.1.1 y.1.2.1 y.1.2.2.1 y.2.1 y.2.2.1 s.1 s.2.1) k hk
    (fun self s => z63L1T N x.2.2.2.2.1 y.2.1 y.2.2.1 (fun o1_18 => k (.exit 2) (z63L1_tl2 x.2.2.2.2.1 y.1.1 y.1.2.1 y.1.2.2.1 y.2.1 y.2.2.1 o1_18)) (fun s18 s86 => self (s18, s86, ())) s.1 s.2.1) (fun n s => z63L1 N x.2.2.2.2.1 y.2.1 y.2.2.1 (fun o1_18 => k (.exit 2) (z63L1_tl2 x.2.2.2.2.1 y.1.1 y.1.2.1 y.1.2.2.1 y.2.1 y.2.2.1 o1_18)) n s.1 s.2.1) (fun _ => rfl) (fun _ _ => rfl)
    (fun I s => z63L1_step N x.2.2.2.2.1 y.1.1 y.1.2.1 y.1.2.2.1 y.2.1 y.2.2.1 (fun j => k (.exit j)) I s.1 s.2.1) N (x.2.2.2.1, x.2.2.2.2.2.1, ())
theorem z63lp2 (N : Nat) : ∀ st k, (∀ st, k .ret st = (resD (z63E N) Tryz.f32 (z63sg fun x _ => config_chosen N x.1 x.2.1 x.2.2.1 x.2.2.2.1) z63pk) st) → z63LP N 2 (cAt (bodyOf Tryz.f32) [true, true, true, true, true, true, true, true, false, true, false, false]) st k = iter (Env.hint (z63E N) 2) (exec (z63E N) N (cAt (bodyOf Tryz.f32) [true, true, true, true, true, true, true, true, false, true, false, false]) 2) N st k := fun st k hk => LPc_eq 140 z63L1_fs z63L1_bs _ _ (resD (z63E N) Tryz.f32 (z63sg fun x _ => config_chosen N x.1 x.2.1 x.2.2.1 x.2.2.2.1) z63pk) (z63L1_ok N) _ st k hk (rfl)
theorem z63L0_step (N : Nat) (x2 : List (Str × Str)) (c36 : List (Str × GValue)) (c37 : Int) (c1004_0 : List (Str × List Str)) (c1004_1 : List (Str × List (Str × Str) × List (Str × Str))) (c1004_2 : List (Str × List (Str × Str))) (c1004_3 : List (Str × Str × List (Str × Str) × List (Str × Str))) (c1004_4 : List (Str × List (Str × Str) × List Str)) (c1005_0 : Int) (c1005_1 : Str) (c1005_2 : Int) (c1005_3 : List Str) (c1005_4 : List (Str × GValue)) (c1007_0 : Str) (c1007_1 : List (Str × Str)) (c1008_0 : Int) (c1008_1 : Str) (c1008_2 : Int) (KX : Nat → St → Option (GValue × Int)) (I : St → Option (GValue × Int)) (s38 : Int) (w1011 : List (Str × GValue)) (w1012 : List (Str × List (Str × Str) × List (Str × Str))) :
    execL (z63LP N) (z63E N) (cAt (bodyOf Tryz.f32) [true, true, true, true, true, false, true, false, false]) 0 (z63L0_hd x2 c36 c37 c1004_0 c1004_1 c1004_2 c1004_3 c1004_4 c1005_0 c1005_1 c1005_2 c1005_3 c1005_4 c1007_0 c1007_1 c1008_0 c1008_1 c1008_2 s38 w1011 w1012) (roundK (z63h 0) I KX (resD (z63E N) Tryz.f32 (z63sg fun x _ => config_chosen N x.1 x.2.1 x.2.2.1 x.2.2.2.1) z63pk)) = z63L0T N x2 c36 c37 c1004_0 c1004_1 c1007_0 c1007_1 (fun o0_w1011 o0_w1012 => KX 0 (z63L0_tl0 x2 c36 c37 c1004_0 c1004_1 c1004_2 c1004_3 c1004_4 c1005_0 c1005_1 c1005_2 c1005_3 c1005_4 c1007_0 c1007_1 c1008_0 c1008_1 c1008_2 o0_w1011 o0_w1012)) (fun s38 w1011 w1012 => I (z63L0_hd x2 c36 c37 c1004_0 c1004_1 c1004_2 c1004_3 c1004_4 c1005_0 c1005_1 c1005_2 c1005_3 c1005_4 c1007_0 c1007_1 c1008_0 c1008_1 c1008_2 s38 w1011 w1012)) s38 w1011 w1012 := by kernel_rfl
theorem z63L0_ok (N : Nat) : ∀ x y k, (∀ st, k .ret st = (resD (z63E N) Tryz.f32 (z63sg fun x _ => config_chosen N x.1 x.2.1 x.2.2.1 x.2.2.2.1) z63pk) st) → iter (z63h 0) (exec (z63E N) N (cAt (bodyOf Tryz.f32) [true, true, true, true, true, false, true, false, false]) 0) N ⟨140, unF z63L0_fs x, unH z63L0_bs y⟩ k = z63L0_F N x y k := fun x y k hk =>
  iter_link (S := (Int) × (List (Str × GValue)) × (List (Str × List (Str × Str) × List (Str × Str))) × Unit) (z63h 0) _ (execL (z63LP N) (z63E N) (cAt (bodyOf Tryz.f32) [true, true, true, true, true, false, true, false, false]) 0) (resD (z63E N) Tryz.f32 (z63sg fun x _ => config_chosen N x.1 x.2.1 x.2.2.1 x.2.2.2.1) z63pk) (fun st k hk => execL_eq _ _ N _ (cAt (bodyOf Tryz.f32) [true, true, true, true, true, false, true, false, false]) 0 (show LoopsOk (z63LP N) (z63E N) N (resD (z63E N) Tryz.f32 (z63sg fun x _ => config_chosen N x.1 x.2.1 x.2.2.1 x.2.2.2.1) z63pk) [] from trivial) st k hk) (fun s => z63L0_hd x.1 x.2.2.2.2.2.2.2.1 x.2.2.2.2.2.2.2.2.1 y.1.1 y.1.2.1 y.1.2.2.1 y.1.2.2.2.1 y.1.2.2.2.2.1 y.2.1.1 y.2.1.2.1 y.2.1.2.2.1 y.2.1.2.2.2.1 y.2.1.2.2.2.2.1 y.2.2.1.1 y.2.2.1.2.1 y.2.2.2.1.1 y.2.2.2.1.2.1 y.2.2.2.1.2.2.1 s.1 s.2.1 s.2.2.1) k hk
    (fun self s => z63L0T N x.1 x.2.2.2.2.2.2.2.1 x.2.2.2.2.2.2.2.2.1 y.1.1 y.1.2.1 y.2.2.1.1 y.2.2.1.2.1 (fun o0_w1011 o0_w1012 => k (.exit 0) (z63L0_tl0 x.1 x.2.2.2.2.2.2.2.1 x.2.2.2.2.2.2.2.2.1 y.1.1 y.1.2.1 y.1.2.2.1 y.1.2.2.2.1 y.1.2.2.2.2.1 y.2.1.1 y.2.1.2.1 y.2.1.2.2.1 y.2.1.2.2.2.1 y.2.1.2.2.2.2.1 y.2.2.1.1 y.2.2.1.2.1 y.2.2.2.1.1 y.2.2.2.1.2.1 y.2.2.2.1.2.2.1 o0_w1011 o0_w1012)) (fun s38 w1011 w1012 => self (s38, w1011, w1012, ())) s.1 s.2.1 s.2.2.1) (fun n s => z63L0 N x.1 x.2.2.2.2.2.2.2.1 x.2.2.2.2.2.2.2.2.1 y.1.1 y.1.2.1 y.2.2.1.1 y.2.2.1.2.1 (fun o0_w1011 o0_w1012 => k (.exit 0) (z63L0_tl0 x.1 x.2.2.2.2.2.2.2.1 x.2.2.2.2.2.2.2.2.1 y.1.1 y.1.2.1 y.1.2.2.1 y.1.2.2.2.1 y.1.2.2.2.2.1 y.2.1.1 y.2.1.2.1 y.2.1.2.2.1 y.2.1.2.2.2.1 y.2.1.2.2.2.2.1 y.2.2.1.1 y.2.2.1.2.1 y.2.2.2.1.1 y.2.2.2.1.2.1 y.2.2.2.1.2.2.1 o0_w1011 o0_w1012)) n s.1 s.2.1 s.2.2.1) (fun _ => rfl) (fun _ _ => rfl)
    (fun I s => z63L0_step N x.1 x.2.2.2.2.2.2.2.1 x.2.2.2.2.2.2.2.2.1 y.1.1 y.1.2.1 y.1.2.2.1 y.1.2.2.2.1 y.1.2.2.2.2.1 y.2.1.1 y.2.1.2.1 y.2.1.2.2.1 y.2.1.2.2.2.1 y.2.1.2.2.2.2.1 y.2.2.1.1 y.2.2.1.2.1 y.2.2.2.1.1 y.2.2.2.1.2.1 y.2.2.2.1.2.2.1 (fun j => k (.exit j)) I s.1 s.2.1 s.2.2.1) N (x.2.2.2.2.2.2.2.2.2.1, y.2.2.2.2.1, y.2.2.2.2.2.1, ())
theorem z63lp0 (N : Nat) : ∀ st k, (∀ st, k .ret st = (resD (z63E N) Tryz.f32 (z63sg fun x _ => config_chosen N x.1 x.2.1 x.2.2.1 x.2.2.2.1) z63pk) st) → z63LP N 0 (cAt (bodyOf Tryz.f32) [true, true, true, true, true, false, true, false, false]) st k = iter (Env.hint (z63E N) 0) (exec (z63E N) N (cAt (bodyOf Tryz.f32) [true, true, true, true, true, false, true, false, false]) 0) N st k := fun st k hk => LPc_eq 140 z63L0_fs z63L0_bs _ _ (resD (z63E N) Tryz.f32 (z63sg fun x _ => config_chosen N x.1 x.2.1 x.2.2.1 x.2.2.2.1) z63pk) (z63L0_ok N) _ st k hk (rfl)
theorem z63core (N : Nat) (x : SV [.v (.pr (.sl (.pr .str (.sl .str))) (.pr (.sl (.pr .str (.pr (.sl (.pr .str .str)) (.sl (.pr .str .str))))) (.pr (.sl (.pr .str (.sl (.pr .str .str)))) (.pr (.sl (.pr .str (.pr .str (.pr (.sl (.pr .str .str)) (.sl (.pr .str .str)))))) (.sl (.pr .str (.pr (.sl (.pr .str .str)) (.sl .str)))))))), .v (.rc .value), .v (.sl (.pr .str .str)), .v (.pr .str (.sl (.pr .str .str)))]) (y : BV []) : runL (z63E N) Tryz.f32 (z63sg fun x _ => config_chosen N x.1 x.2.1 x.2.2.1 x.2.2.2.1) z63pk (z63LP N) x y = config_chosen N x.1 x.2.1 x.2.2.1 x.2.2.2.1 := by kernel_rfl
theorem z63sound (N : Nat) : Sound Tryz.prog GW B0G 32 (z63sg fun x _ => config_chosen N x.1 x.2.1 x.2.2.1 x.2.2.2.1) :=
  runD_sound (mkE_ok z63h (z63fn N) _ _ (z63fn_ok N)) Tryz.func32 rfl Tryz.call32 (z63sg fun x _ => config_chosen N x.1 x.2.1 x.2.2.1 x.2.2.2.1) z63pk (fun _ _ => rfl) N (fun x y _ h => ((runL_eq (z63E N) N Tryz.f32 (z63sg fun x _ => config_chosen N x.1 x.2.1 x.2.2.1 x.2.2.2.1) z63pk (z63LP N) (show LoopsOk (z63LP N) (z63E N) N (resD (z63E N) Tryz.f32 (z63sg fun x _ => config_chosen N x.1 x.2.1 x.2.2.1 x.2.2.2.1) z63pk) [(0, (cAt (bodyOf Tryz.f32) [true, true, true, true, true, false, true, false, false])), (2, (cAt (bodyOf Tryz.f32) [true, true, true, true, true, true, true, true, false, true, false, false])), (4, (cAt (bodyOf Tryz.f32) [true, true, true, true, true, true, true, true, false, true, false, false, true, true, false, false, true, true, true, false, true, false, false]))] from ⟨z63lp0 N, z63lp2 N, z63lp4 N, trivial⟩) x y).trans (z63core N x y)).trans h)
def config_Chosen (N : Nat) (x0 : List (Str × List Str) × List (Str × List (Str × Str) × List (Str × Str)) × List (Str × List (Str × Str)) × List (Str × Str × List (Str × Str) × List (Str × Str)) × List (Str × List (Str × Str) × List Str)) (x1 : GValue) (x2 : List (Str × Str)) (x3 : Str × List (Str × Str)) : Option (GValue × Int) :=
  bnd (config_checkChoice N x0 x2 x3) fun t15 =>
  br (t15 != (0 : Int))
    (some (GValue.mk (0 : Int) ([] : Str) (0 : Int) ([] : List Str) ([] : List (Str × GValue)), t15))
    (bnd (script_CheckValue N (script_checkCases N N) (GValue.mk x1.kind x1.text x1.number x1.list x1.cases)) fun t21 =>
    br (t21 != (0 : Int))
      (some (GValue.mk (0 : Int) ([] : Str) (0 : Int) ([] : List Str) ([] : List (Str × GValue)), t21))
      (bnd (config_chosen N x0 (GValue.mk x1.kind x1.text x1.number x1.list x1.cases) x2 x3) fun t30 =>
      some (GValue.mk t30.1.kind t30.1.text t30.1.number t30.1.list t30.1.cases, t30.2)))
abbrev z61sg (f : SV [.v (.pr (.sl (.pr .str (.sl .str))) (.pr (.sl (.pr .str (.pr (.sl (.pr .str .str)) (.sl (.pr .str .str))))) (.pr (.sl (.pr .str (.sl (.pr .str .str)))) (.pr (.sl (.pr .str (.pr .str (.pr (.sl (.pr .str .str)) (.sl (.pr .str .str)))))) (.sl (.pr .str (.pr (.sl (.pr .str .str)) (.sl .str)))))))), .v (.rc .value), .v (.sl (.pr .str .str)), .v (.pr .str (.sl (.pr .str .str)))] → BV [] → Option (GValue × Int)) : AF := { ps := [.v (.pr (.sl (.pr .str (.sl .str))) (.pr (.sl (.pr .str (.pr (.sl (.pr .str .str)) (.sl (.pr .str .str))))) (.pr (.sl (.pr .str (.sl (.pr .str .str)))) (.pr (.sl (.pr .str (.pr .str (.pr (.sl (.pr .str .str)) (.sl (.pr .str .str)))))) (.sl (.pr .str (.pr (.sl (.pr .str .str)) (.sl .str)))))))), .v (.rc .value), .v (.sl (.pr .str .str)), .v (.pr .str (.sl (.pr .str .str)))], bs := [], rs := [.v (.rc .value), .v (.int .i64)], cs := [], R := GValue × Int, out := fun z => ((z.1, z.2, ()), ()), f := f }
abbrev z61pk : SV [.v (.rc .value), .v (.int .i64)] → BV [] → (GValue × Int) := fun x _ => (x.1, x.2.1)
def z61fn (N : Nat) : FuncId → Option Tmp → Option AF := fun f _ =>
  match f with
    | 30 => some (z34sg fun x _ => config_checkChoice N x.1 x.2.1 x.2.2.1)
    | 31 => some (z41sg fun x _ => script_CheckValue N (script_checkCases N N) x.1)
    | 32 => some (z63sg fun x _ => config_chosen N x.1 x.2.1 x.2.2.1 x.2.2.2.1)
    | _ => none
theorem z61fn_ok (N : Nat) : ∀ f q F, z61fn N f q = some F → Sound Tryz.prog GW B0G f F := by
  intro f q F h
  unfold z61fn at h
  split at h
  · cases h; exact z34sound N
  · cases h; exact z41sound N (script_checkCases N N) (z42sound N N)
  · cases h; exact z63sound N
  · cases h
def z61h : Nat → Hint := fun i =>
  match i with
  | _ => ⟨[], [], [], [], [], []⟩
abbrev z61E (N : Nat) : Env := mkE z61h (z61fn N) (fun _ => false) (fun _ => false)
noncomputable def z61LP (N : Nat) : Nat → Code → St → (Ex → St → Option (GValue × Int)) → Option (GValue × Int) := fun i c =>
  match i with
  | i => fun st k => iter (z61h i) (exec (z61E N) N c i) N st k
theorem z61core (N : Nat) (x : SV [.v (.pr (.sl (.pr .str (.sl .str))) (.pr (.sl (.pr .str (.pr (.sl (.pr .str .str)) (.sl (.pr .str .str))))) (.pr (.sl (.pr .str (.sl (.pr .str .str)))) (.pr (.sl (.pr .str (.pr .str (.pr (.sl (.pr .str .str)) (.sl (.pr .str .str)))))) (.sl (.pr .str (.pr (.sl (.pr .str .str)) (.sl .str)))))))), .v (.rc .value), .v (.sl (.pr .str .str)), .v (.pr .str (.sl (.pr .str .str)))]) (y : BV []) : runL (z61E N) Tryz.f8 (z61sg fun x _ => config_Chosen N x.1 x.2.1 x.2.2.1 x.2.2.2.1) z61pk (z61LP N) x y = config_Chosen N x.1 x.2.1 x.2.2.1 x.2.2.2.1 := by kernel_rfl
theorem z61sound (N : Nat) : Sound Tryz.prog GW B0G 8 (z61sg fun x _ => config_Chosen N x.1 x.2.1 x.2.2.1 x.2.2.2.1) :=
  runD_sound (mkE_ok z61h (z61fn N) _ _ (z61fn_ok N)) Tryz.func8 rfl Tryz.call8 (z61sg fun x _ => config_Chosen N x.1 x.2.1 x.2.2.1 x.2.2.2.1) z61pk (fun _ _ => rfl) N (fun x y _ h => ((runL_eq (z61E N) N Tryz.f8 (z61sg fun x _ => config_Chosen N x.1 x.2.1 x.2.2.1 x.2.2.2.1) z61pk (z61LP N) (show LoopsOk (z61LP N) (z61E N) N (resD (z61E N) Tryz.f8 (z61sg fun x _ => config_Chosen N x.1 x.2.1 x.2.2.1 x.2.2.2.1) z61pk) [] from trivial) x y).trans (z61core N x y)).trans h)
abbrev z56sg (f : SV [.v (.rc .value), .v (.rc .value)] → BV [] → Option (Bool)) : AF := { ps := [.v (.rc .value), .v (.rc .value)], bs := [], rs := [.v .bool], cs := [], R := Bool, out := fun z => ((z, ()), ()), f := f }
def z43L0T (_N : Nat) (r_ref2_SameValue : GValue → GValue → Option (Bool)) (c44 : Int) (c1002_4 : List (Str × GValue)) (c1003_4 : List (Str × GValue)) (k0 : Option Bool) (self : Int → Option Bool) (s45 : Int) : Option Bool :=
  br (decide (s45 < c44))
    (bnd (geti c1002_4 s45) fun t51 =>
    bnd (geti c1003_4 s45) fun t57 =>
    br (!(t51.1 == t57.1))
      (some false)
      (bnd (geti c1002_4 s45) fun t65 =>
      bnd (geti c1003_4 s45) fun t71 =>
      bnd (r_ref2_SameValue t65.2 t71.2) fun t74 =>
      br (!t74)
        (some false)
        (self (IntKind.i64.wrap (s45 + (1 : Int))))))
    (k0)
def z43L0 (N : Nat) (r_ref2_SameValue : GValue → GValue → Option (Bool)) (c44 : Int) (c1002_4 : List (Str × GValue)) (c1003_4 : List (Str × GValue)) (k0 : Option Bool) : Nat → Int → Option Bool
  | 0, _ => none
  | n + 1, s45 => z43L0T N r_ref2_SameValue c44 c1002_4 c1003_4 k0 (z43L0 N r_ref2_SameValue c44 c1002_4 c1003_4 k0 n) s45
def ref2_SameValue_b (N : Nat) (r_ref2_SameValue : GValue → GValue → Option (Bool)) (x0 : GValue) (x1 : GValue) : Option Bool :=
  br (x0.kind != x1.kind)
    (some false)
    (br (!(x0.text == x1.text))
      (some false)
      (br (x0.number != x1.number)
        (some false)
        (bnd (slices_Equal_string_string N x0.list x1.list) fun t30 =>
        br (!t30)
          (some false)
          (br ((x0.cases.length : Int) != (x1.cases.length : Int))
            (some false)
            (z43L0 N r_ref2_SameValue (x0.cases.length : Int) x0.cases x1.cases (some true) N (0 : Int))))))
abbrev z43sg (f : SV [.v (.rc .value), .v (.rc .value)] → BV [] → Option (Bool)) : AF := { ps := [.v (.rc .value), .v (.rc .value)], bs := [], rs := [.v .bool], cs := [], R := Bool, out := fun z => ((z, ()), ()), f := f }
abbrev z43pk : SV [.v .bool] → BV [] → Bool := fun x _ => x.1
def z43fn (N : Nat) (r_ref2_SameValue : GValue → GValue → Option (Bool)) : FuncId → Option Tmp → Option AF := fun f _ =>
  match f with
    | 10 => some (z56sg fun x _ => r_ref2_SameValue x.1 x.2.1)
    | 20 => some (z14sg fun x _ => slices_Equal_string_string N x.1 x.2.1)
    | _ => none
theorem z43fn_ok (N : Nat) (r_ref2_SameValue : GValue → GValue → Option (Bool)) (h_ref2_SameValue : Sound Tryz.prog GW B0G 10 (z56sg fun x y => r_ref2_SameValue x.1 x.2.1)) : ∀ f q F, z43fn N r_ref2_SameValue f q = some F → Sound Tryz.prog GW B0G f F := by
  intro f q F h
  unfold z43fn at h
  split at h
  · cases h; exact h_ref2_SameValue
  · cases h; exact z14sound N
  · cases h
def z43h : Nat → Hint := fun i =>
  match i with
  | 0 => ⟨[], [2, 3, 44, 45], [1002, 1003], [], [], []⟩
  | _ => ⟨[], [], [], [], [], []⟩
abbrev z43E (N : Nat) (r_ref2_SameValue : GValue → GValue → Option (Bool)) : Env := mkE z43h (z43fn N r_ref2_SameValue) (fun _ => false) (fun _ => false)
abbrev z43L0_fs : List (Nat × Sl) := [(2, .box 1002 0), (3, .box 1003 0), (44, .v (.int .i64)), (45, .v (.int .i64))]
abbrev z43L0_bs : List (Nat × Sb) := [(1002, .cells [.v (.int .i64), .v .str, .v (.int .i64), .v (.sl .str), .v (.sl (.pr .str (.rc .value)))]), (1003, .cells [.v (.int .i64), .v .str, .v (.int .i64), .v (.sl .str), .v (.sl (.pr .str (.rc .value)))])]
def z43L0_hd (c44 : Int) (c1002_0 : Int) (c1002_1 : Str) (c1002_2 : Int) (c1002_3 : List Str) (c1002_4 : List (Str × GValue)) (c1003_0 : Int) (c1003_1 : Str) (c1003_2 : Int) (c1003_3 : List Str) (c1003_4 : List (Str × GValue)) (s45 : Int) : St := ⟨78, [(2, .box 1002 0), (3, .box 1003 0), (44, .v (.int .i64) c44), (45, .v (.int .i64) s45)], [(1002, .cells [.v (.int .i64) c1002_0, .v .str c1002_1, .v (.int .i64) c1002_2, .v (.sl .str) c1002_3, .v (.sl (.pr .str (.rc .value))) c1002_4]), (1003, .cells [.v (.int .i64) c1003_0, .v .str c1003_1, .v (.int .i64) c1003_2, .v (.sl .str) c1003_3, .v (.sl (.pr .str (.rc .value))) c1003_4])]⟩
def z43L0_tl0 (_c44 : Int) (_c1002_0 : Int) (_c1002_1 : Str) (_c1002_2 : Int) (_c1002_3 : List Str) (_c1002_4 : List (Str × GValue)) (_c1003_0 : Int) (_c1003_1 : Str) (_c1003_2 : Int) (_c1003_3 : List Str) (_c1003_4 : List (Str × GValue)) : St := ⟨78, [], []⟩
def z43L0_G (N : Nat) (r_ref2_SameValue : GValue → GValue → Option (Bool)) (c44 : Int) (c1002_0 : Int) (c1002_1 : Str) (c1002_2 : Int) (c1002_3 : List Str) (c1002_4 : List (Str × GValue)) (c1003_0 : Int) (c1003_1 : Str) (c1003_2 : Int) (c1003_3 : List Str) (c1003_4 : List (Str × GValue)) (s45 : Int) (k : Ex → St → Option Bool) : Option Bool :=
  z43L0 N r_ref2_SameValue c44 c1002_4 c1003_4 (k (.exit 0) (z43L0_tl0 c44 c1002_0 c1002_1 c1002_2 c1002_3 c1002_4 c1003_0 c1003_1 c1003_2 c1003_3 c1003_4)) N s45
abbrev z43L0_F (N : Nat) (r_ref2_SameValue : GValue → GValue → Option (Bool)) : FV z43L0_fs → HV z43L0_bs → (Ex → St → Option Bool) → Option Bool := fun x y k => z43L0_G N r_ref2_SameValue x.2.2.1 y.1.1 y.1.2.1 y.1.2.2.1 y.1.2.2.2.1 y.1.2.2.2.2.1 y.2.1.1 y.2.1.2.1 y.2.1.2.2.1 y.2.1.2.2.2.1 y.2.1.2.2.2.2.1 x.2.2.2.1 k
noncomputable def z43LP (N : Nat) (r_ref2_SameValue : GValue → GValue → Option (Bool)) : Nat → Code → St → (Ex → St → Option Bool) → Option Bool := fun i c =>
  match i with
  | 0 => (LPc 78 z43L0_fs z43L0_bs (z43L0_F N r_ref2_SameValue) (fun st k => iter (z43h 0) (exec (z43E N r_ref2_SameValue) N c 0) N st k))
  | i => fun st k => iter (z43h i) (exec (z43E N r_ref2_SameValue) N c i) N st k
theorem z43L0_step (N : Nat) (r_ref2_SameValue : GValue → GValue → Option (Bool)) (c44 : Int) (c1002_0 : Int) (c1002_1 : Str) (c1002_2 : Int) (c1002_3 : List Str) (c1002_4 : List (Str × GValue)) (c1003_0 : Int) (c1003_1 : Str) (c1003_2 : Int) (c1003_3 : List Str) (c1003_4 : List (Str × GValue)) (KX : Nat → St → Option Bool) (I : St → Option Bool) (s45 : Int) :
    execL (z43LP N r_ref2_SameValue) (z43E N r_ref2_SameValue) (cAt (bodyOf Tryz.f10) [true, true, false, true, false, false]) 0 (z43L0_hd c44 c1002_0 c1002_1 c1002_2 c1002_3 c1002_4 c1003_0 c1003_1 c1003_2 c1003_3 c1003_4 s45) (roundK (z43h 0) I KX (resD (z43E N r_ref2_SameValue) Tryz.f10 (z43sg fun x _ => ref2_SameValue_b N r_ref2_SameValue x.1 x.2.1) z43pk)) = z43L0T N r_ref2_SameValue c44 c1002_4 c1003_4 (KX 0 (z43L0_tl0 c44 c1002_0 c1002_1 c1002_2 c1002_3 c1002_4 c1003_0 c1003_1 c1003_2 c1003_3 c1003_4)) (fun s45 => I (z43L0_hd c44 c1002_0 c1002_1 c1002_2 c1002_3 c1002_4 c1003_0 c1003_1 c1003_2 c1003_3 c1003_4 s45)) s45 := by kernel_rfl
theorem z43L0_ok (N : Nat) (r_ref2_SameValue : GValue → GValue → Option (Bool)) : ∀ x y k, (∀ st, k .ret st = (resD (z43E N r_ref2_SameValue) Tryz.f10 (z43sg fun x _ => ref2_SameValue_b N r_ref2_SameValue x.1 x.2.1) z43pk) st) → iter (z43h 0) (exec (z43E N r_ref2_SameValue) N (cAt (bodyOf Tryz.f10) [true, true, false, true, false, false]) 0) N ⟨78, unF z43L0_fs x, unH z43L0_bs y⟩ k = z43L0_F N r_ref2_SameValue x y k := fun x y k hk =>
  iter_link (S := (Int) × Unit) (z43h 0) _ (execL (z43LP N r_ref2_SameValue) (z43E N r_ref2_SameValue) (cAt (bodyOf Tryz.f10) [true, true, false, true, false, false]) 0) (resD (z43E N r_ref2_SameValue) Tryz.f10 (z43sg fun x _ => ref2_SameValue_b N r_ref2_SameValue x.1 x.2.1) z43pk) (fun st k hk => execL_eq _ _ N _ (cAt (bodyOf Tryz.f10) [true, true, false, true, false, false]) 0 (show LoopsOk (z43LP N r_ref2_SameValue) (z43E N r_ref2_SameValue) N (resD (z43E N r_ref2_SameValue) Tryz.f10 (z43sg fun x _ => ref2_SameValue_b N r_ref2_SameValue x.1 x.2.1) z43pk) [] from trivial) st k hk) (fun s => z43L0_hd x.2.2.1 y.1.1 y.1.2.1 y.1.2.2.1 y.1.2.2.2.1 y.1.2.2.2.2.1 y.2.1.1 y.2.1.2.1 y.2.1.2.2.1 y.2.1.2.2.2.1 y.2.1.2.2.2.2.1 s.1) k hk
    (fun self s => z43L0T N r_ref2_SameValue x.2.2.1 y.1.2.2.2.2.1 y.2.1.2.2.2.2.1 (k (.exit 0) (z43L0_tl0 x.2.2.1 y.1.1 y.1.2.1 y.1.2.2.1 y.1.2.2.2.1 y.1.2.2.2.2.1 y.2.1.1 y.2.1.2.1 y.2.1.2.2.1 y.2.1.2.2.2.1 y.2.1.2.2.2.2.1)) (fun s45 => self (s45, ())) s.1) (fun n s => z43L0 N r_ref2_SameValue x.2.2.1 y.1.2.2.2.2.1 y.2.1.2.2.2.2.1 (k (.exit 0) (z43L0_tl0 x.2.2.1 y.1.1 y.1.2.1 y.1.2.2.1 y.1.2.2.2.1 y.1.2.2.2.2.1 y.2.1.1 y.2.1.2.1 y.2.1.2.2.1 y.2.1.2.2.2.1 y.2.1.2.2.2.2.1)) n s.1) (fun _ => rfl) (fun _ _ => rfl)
    (fun I s => z43L0_step N r_ref2_SameValue x.2.2.1 y.1.1 y.1.2.1 y.1.2.2.1 y.1.2.2.2.1 y.1.2.2.2.2.1 y.2.1.1 y.2.1.2.1 y.2.1.2.2.1 y.2.1.2.2.2.1 y.2.1.2.2.2.2.1 (fun j => k (.exit j)) I s.1) N (x.2.2.2.1, ())
theorem z43lp0 (N : Nat) (r_ref2_SameValue : GValue → GValue → Option (Bool)) : ∀ st k, (∀ st, k .ret st = (resD (z43E N r_ref2_SameValue) Tryz.f10 (z43sg fun x _ => ref2_SameValue_b N r_ref2_SameValue x.1 x.2.1) z43pk) st) → z43LP N r_ref2_SameValue 0 (cAt (bodyOf Tryz.f10) [true, true, false, true, false, false]) st k = iter (Env.hint (z43E N r_ref2_SameValue) 0) (exec (z43E N r_ref2_SameValue) N (cAt (bodyOf Tryz.f10) [true, true, false, true, false, false]) 0) N st k := fun st k hk => LPc_eq 78 z43L0_fs z43L0_bs _ _ (resD (z43E N r_ref2_SameValue) Tryz.f10 (z43sg fun x _ => ref2_SameValue_b N r_ref2_SameValue x.1 x.2.1) z43pk) (z43L0_ok N r_ref2_SameValue) _ st k hk (rfl)
theorem z43core (N : Nat) (r_ref2_SameValue : GValue → GValue → Option (Bool)) (x : SV [.v (.rc .value), .v (.rc .value)]) (y : BV []) : runL (z43E N r_ref2_SameValue) Tryz.f10 (z43sg fun x _ => ref2_SameValue_b N r_ref2_SameValue x.1 x.2.1) z43pk (z43LP N r_ref2_SameValue) x y = ref2_SameValue_b N r_ref2_SameValue x.1 x.2.1 := by kernel_rfl
theorem z43sound (N : Nat) (r_ref2_SameValue : GValue → GValue → Option (Bool)) (h_ref2_SameValue : Sound Tryz.prog GW B0G 10 (z56sg fun x y => r_ref2_SameValue x.1 x.2.1)) : Sound Tryz.prog GW B0G 10 (z43sg fun x _ => ref2_SameValue_b N r_ref2_SameValue x.1 x.2.1) :=
  runD_sound (mkE_ok z43h (z43fn N r_ref2_SameValue) _ _ (z43fn_ok N r_ref2_SameValue h_ref2_SameValue)) Tryz.func10 rfl Tryz.call10 (z43sg fun x _ => ref2_SameValue_b N r_ref2_SameValue x.1 x.2.1) z43pk (fun _ _ => rfl) N (fun x y _ h => ((runL_eq (z43E N r_ref2_SameValue) N Tryz.f10 (z43sg fun x _ => ref2_SameValue_b N r_ref2_SameValue x.1 x.2.1) z43pk (z43LP N r_ref2_SameValue) (show LoopsOk (z43LP N r_ref2_SameValue) (z43E N r_ref2_SameValue) N (resD (z43E N r_ref2_SameValue) Tryz.f10 (z43sg fun x _ => ref2_SameValue_b N r_ref2_SameValue x.1 x.2.1) z43pk) [(0, (cAt (bodyOf Tryz.f10) [true, true, false, true, false, false]))] from ⟨z43lp0 N r_ref2_SameValue, trivial⟩) x y).trans (z43core N r_ref2_SameValue x y)).trans h)
def ref2_SameValue (N : Nat) : Nat → GValue → GValue → Option (Bool)
  | 0 => fun _ _ => none
  | d + 1 => ref2_SameValue_b N (ref2_SameValue N d)
theorem z56sound (N : Nat) : ∀ d, Sound Tryz.prog GW B0G 10 (z56sg fun x y => ref2_SameValue N d x.1 x.2.1)
  | 0 => Sound.never Tryz.call10 (fun _ _ => rfl)
  | d + 1 => z43sound N (ref2_SameValue N d) (z56sound N d)
def ref3_ask (N : Nat) (x0 : List (Str × List Str) × List (Str × List (Str × Str) × List (Str × Str)) × List (Str × List (Str × Str)) × List (Str × Str × List (Str × Str) × List (Str × Str)) × List (Str × List (Str × Str) × List Str)) (x1 : List (Str × Str)) (x2 : Str × List (Str × Str)) : Option Int :=
  bnd (ref3_CheckConditions N x0.1 x0.2.1) fun t13 =>
  br (t13 != (0 : Int))
    (some t13)
    (bnd (ref3_CheckConfig N x0.1 x1) fun t20 =>
    br (t20 != (0 : Int))
      (some t20)
      (bnd (ref3_CheckPlatforms N [x2]) fun t26 =>
      some t26))
abbrev z88sg (f : SV [.v (.pr (.sl (.pr .str (.sl .str))) (.pr (.sl (.pr .str (.pr (.sl (.pr .str .str)) (.sl (.pr .str .str))))) (.pr (.sl (.pr .str (.sl (.pr .str .str)))) (.pr (.sl (.pr .str (.pr .str (.pr (.sl (.pr .str .str)) (.sl (.pr .str .str)))))) (.sl (.pr .str (.pr (.sl (.pr .str .str)) (.sl .str)))))))), .v (.sl (.pr .str .str)), .v (.pr .str (.sl (.pr .str .str)))] → BV [] → Option (Int)) : AF := { ps := [.v (.pr (.sl (.pr .str (.sl .str))) (.pr (.sl (.pr .str (.pr (.sl (.pr .str .str)) (.sl (.pr .str .str))))) (.pr (.sl (.pr .str (.sl (.pr .str .str)))) (.pr (.sl (.pr .str (.pr .str (.pr (.sl (.pr .str .str)) (.sl (.pr .str .str)))))) (.sl (.pr .str (.pr (.sl (.pr .str .str)) (.sl .str)))))))), .v (.sl (.pr .str .str)), .v (.pr .str (.sl (.pr .str .str)))], bs := [], rs := [.v (.int .i64)], cs := [], R := Int, out := fun z => ((z, ()), ()), f := f }
abbrev z88pk : SV [.v (.int .i64)] → BV [] → Int := fun x _ => x.1
def z88fn (N : Nat) : FuncId → Option Tmp → Option AF := fun f _ =>
  match f with
    | 39 => some (z44sg fun x _ => ref3_CheckConfig N x.1 x.2.1)
    | 69 => some (z27sg fun x _ => ref3_CheckConditions N x.1 x.2.1)
    | 86 => some (z28sg fun x _ => ref3_CheckPlatforms N x.1)
    | _ => none
theorem z88fn_ok (N : Nat) : ∀ f q F, z88fn N f q = some F → Sound Tryz.prog GW B0G f F := by
  intro f q F h
  unfold z88fn at h
  split at h
  · cases h; exact z44sound N
  · cases h; exact z27sound N
  · cases h; exact z28sound N
  · cases h
def z88h : Nat → Hint := fun i =>
  match i with
  | _ => ⟨[], [], [], [], [], []⟩
abbrev z88E (N : Nat) : Env := mkE z88h (z88fn N) (fun _ => false) (fun _ => false)
noncomputable def z88LP (N : Nat) : Nat → Code → St → (Ex → St → Option Int) → Option Int := fun i c =>
  match i with
  | i => fun st k => iter (z88h i) (exec (z88E N) N c i) N st k
theorem z88core (N : Nat) (x : SV [.v (.pr (.sl (.pr .str (.sl .str))) (.pr (.sl (.pr .str (.pr (.sl (.pr .str .str)) (.sl (.pr .str .str))))) (.pr (.sl (.pr .str (.sl (.pr .str .str)))) (.pr (.sl (.pr .str (.pr .str (.pr (.sl (.pr .str .str)) (.sl (.pr .str .str)))))) (.sl (.pr .str (.pr (.sl (.pr .str .str)) (.sl .str)))))))), .v (.sl (.pr .str .str)), .v (.pr .str (.sl (.pr .str .str)))]) (y : BV []) : runL (z88E N) Tryz.f33 (z88sg fun x _ => ref3_ask N x.1 x.2.1 x.2.2.1) z88pk (z88LP N) x y = ref3_ask N x.1 x.2.1 x.2.2.1 := by kernel_rfl
theorem z88sound (N : Nat) : Sound Tryz.prog GW B0G 33 (z88sg fun x _ => ref3_ask N x.1 x.2.1 x.2.2.1) :=
  runD_sound (mkE_ok z88h (z88fn N) _ _ (z88fn_ok N)) Tryz.func33 rfl Tryz.call33 (z88sg fun x _ => ref3_ask N x.1 x.2.1 x.2.2.1) z88pk (fun _ _ => rfl) N (fun x y _ h => ((runL_eq (z88E N) N Tryz.f33 (z88sg fun x _ => ref3_ask N x.1 x.2.1 x.2.2.1) z88pk (z88LP N) (show LoopsOk (z88LP N) (z88E N) N (resD (z88E N) Tryz.f33 (z88sg fun x _ => ref3_ask N x.1 x.2.1 x.2.2.1) z88pk) [] from trivial) x y).trans (z88core N x y)).trans h)
def ref2_isPlain (_N : Nat) (x0 : GValue) : Option Bool :=
  br (x0.text == ([] : Str))
    (br (x0.number == (0 : Int))
      (br ((x0.list.length : Int) == (0 : Int))
        (br ((x0.cases.length : Int) == (0 : Int))
          (some true)
          (some (x0.kind == (4 : Int))))
        (br (x0.kind == (3 : Int))
          (br ((x0.cases.length : Int) == (0 : Int))
            (some true)
            (some (x0.kind == (4 : Int))))
          (some false)))
      (br (x0.kind == (2 : Int))
        (br ((x0.list.length : Int) == (0 : Int))
          (br ((x0.cases.length : Int) == (0 : Int))
            (some true)
            (some (x0.kind == (4 : Int))))
          (br (x0.kind == (3 : Int))
            (br ((x0.cases.length : Int) == (0 : Int))
              (some true)
              (some (x0.kind == (4 : Int))))
            (some false)))
        (some false)))
    (br (x0.kind == (1 : Int))
      (br (x0.number == (0 : Int))
        (br ((x0.list.length : Int) == (0 : Int))
          (br ((x0.cases.length : Int) == (0 : Int))
            (some true)
            (some (x0.kind == (4 : Int))))
          (br (x0.kind == (3 : Int))
            (br ((x0.cases.length : Int) == (0 : Int))
              (some true)
              (some (x0.kind == (4 : Int))))
            (some false)))
        (br (x0.kind == (2 : Int))
          (br ((x0.list.length : Int) == (0 : Int))
            (br ((x0.cases.length : Int) == (0 : Int))
              (some true)
              (some (x0.kind == (4 : Int))))
            (br (x0.kind == (3 : Int))
              (br ((x0.cases.length : Int) == (0 : Int))
                (some true)
                (some (x0.kind == (4 : Int))))
              (some false)))
          (some false)))
      (some false))
abbrev z69sg (f : SV [.v (.rc .value)] → BV [] → Option (Bool)) : AF := { ps := [.v (.rc .value)], bs := [], rs := [.v .bool], cs := [], R := Bool, out := fun z => ((z, ()), ()), f := f }
abbrev z69pk : SV [.v .bool] → BV [] → Bool := fun x _ => x.1
def z69fn (_N : Nat) : FuncId → Option Tmp → Option AF := fun f _ =>
  match f with
    | _ => none
theorem z69fn_ok (N : Nat) : ∀ f q F, z69fn N f q = some F → Sound Tryz.prog GW B0G f F := by
  intro f q F h
  unfold z69fn at h
  split at h
  · cases h
def z69h : Nat → Hint := fun i =>
  match i with
  | _ => ⟨[], [], [], [], [], []⟩
abbrev z69E (N : Nat) : Env := mkE z69h (z69fn N) (fun _ => false) (fun _ => false)
noncomputable def z69LP (N : Nat) : Nat → Code → St → (Ex → St → Option Bool) → Option Bool := fun i c =>
  match i with
  | i => fun st k => iter (z69h i) (exec (z69E N) N c i) N st k
theorem z69core (N : Nat) (x : SV [.v (.rc .value)]) (y : BV []) : runL (z69E N) Tryz.f87 (z69sg fun x _ => ref2_isPlain N x.1) z69pk (z69LP N) x y = ref2_isPlain N x.1 := by kernel_rfl
theorem z69sound (N : Nat) : Sound Tryz.prog GW B0G 87 (z69sg fun x _ => ref2_isPlain N x.1) :=
  runD_sound (mkE_ok z69h (z69fn N) _ _ (z69fn_ok N)) Tryz.func87 rfl Tryz.call87 (z69sg fun x _ => ref2_isPlain N x.1) z69pk (fun _ _ => rfl) N (fun x y _ h => ((runL_eq (z69E N) N Tryz.f87 (z69sg fun x _ => ref2_isPlain N x.1) z69pk (z69LP N) (show LoopsOk (z69LP N) (z69E N) N (resD (z69E N) Tryz.f87 (z69sg fun x _ => ref2_isPlain N x.1) z69pk) [] from trivial) x y).trans (z69core N x y)).trans h)
def z76L0T (_N : Nat) (x0 : Str) (c5 : Int) (k0 : Option Bool) (self : Int → Option Bool) (s6 : Int) : Option Bool :=
  br (decide (s6 < c5))
    (bnd (geti x0 s6) fun t11 =>
    br (t11 != (10 : UInt8))
      (bnd (geti x0 s6) fun t16 =>
      br (decide (t16 < (32 : UInt8)))
        (some false)
        (bnd (geti x0 s6) fun t21 =>
        br (decide (t21 > (126 : UInt8)))
          (some false)
          (self (IntKind.i64.wrap (s6 + (1 : Int))))))
      (self (IntKind.i64.wrap (s6 + (1 : Int)))))
    (k0)
def z76L0 (N : Nat) (x0 : Str) (c5 : Int) (k0 : Option Bool) : Nat → Int → Option Bool
  | 0, _ => none
  | n + 1, s6 => z76L0T N x0 c5 k0 (z76L0 N x0 c5 k0 n) s6
def ref2_isText (N : Nat) (x0 : Str) : Option Bool :=
  z76L0 N x0 (x0.length : Int) (some true) N (0 : Int)
abbrev z76sg (f : SV [.v .str] → BV [] → Option (Bool)) : AF := { ps := [.v .str], bs := [], rs := [.v .bool], cs := [], R := Bool, out := fun z => ((z, ()), ()), f := f }
abbrev z76pk : SV [.v .bool] → BV [] → Bool := fun x _ => x.1
def z76fn (_N : Nat) : FuncId → Option Tmp → Option AF := fun f _ =>
  match f with
    | _ => none
theorem z76fn_ok (N : Nat) : ∀ f q F, z76fn N f q = some F → Sound Tryz.prog GW B0G f F := by
  intro f q F h
  unfold z76fn at h
  split at h
  · cases h
def z76h : Nat → Hint := fun i =>
  match i with
  | 0 => ⟨[], [0, 5, 6], [], [], [], []⟩
  | _ => ⟨[], [], [], [], [], []⟩
abbrev z76E (N : Nat) : Env := mkE z76h (z76fn N) (fun _ => false) (fun _ => false)
abbrev z76L0_fs : List (Nat × Sl) := [(0, .v .str), (5, .v (.int .i64)), (6, .v (.int .i64))]
abbrev z76L0_bs : List (Nat × Sb) := []
def z76L0_hd (x0 : Str) (c5 : Int) (s6 : Int) : St := ⟨26, [(0, .v .str x0), (5, .v (.int .i64) c5), (6, .v (.int .i64) s6)], []⟩
def z76L0_tl0 (_x0 : Str) (_c5 : Int) : St := ⟨26, [], []⟩
def z76L0_G (N : Nat) (x0 : Str) (c5 : Int) (s6 : Int) (k : Ex → St → Option Bool) : Option Bool :=
  z76L0 N x0 c5 (k (.exit 0) (z76L0_tl0 x0 c5)) N s6
abbrev z76L0_F (N : Nat) : FV z76L0_fs → HV z76L0_bs → (Ex → St → Option Bool) → Option Bool := fun x _ k => z76L0_G N x.1 x.2.1 x.2.2.1 k
noncomputable def z76LP (N : Nat) : Nat → Code → St → (Ex → St → Option Bool) → Option Bool := fun i c =>
  match i with
  | 0 => (LPc 26 z76L0_fs z76L0_bs (z76L0_F N) (fun st k => iter (z76h 0) (exec (z76E N) N c 0) N st k))
  | i => fun st k => iter (z76h i) (exec (z76E N) N c i) N st k
theorem z76L0_step (N : Nat) (x0 : Str) (c5 : Int) (KX : Nat → St → Option Bool) (I : St → Option Bool) (s6 : Int) :
    execL (z76LP N) (z76E N) (cAt (bodyOf Tryz.f88) [true, false, true, false, false]) 0 (z76L0_hd x0 c5 s6) (roundK (z76h 0) I KX (resD (z76E N) Tryz.f88 (z76sg fun x _ => ref2_isText N x.1) z76pk)) = z76L0T N x0 c5 (KX 0 (z76L0_tl0 x0 c5)) (fun s6 => I (z76L0_hd x0 c5 s6)) s6 := by kernel_rfl
theorem z76L0_ok (N : Nat) : ∀ x y k, (∀ st, k .ret st = (resD (z76E N) Tryz.f88 (z76sg fun x _ => ref2_isText N x.1) z76pk) st) → iter (z76h 0) (exec (z76E N) N (cAt (bodyOf Tryz.f88) [true, false, true, false, false]) 0) N ⟨26, unF z76L0_fs x, unH z76L0_bs y⟩ k = z76L0_F N x y k := fun x _ k hk =>
  iter_link (S := (Int) × Unit) (z76h 0) _ (execL (z76LP N) (z76E N) (cAt (bodyOf Tryz.f88) [true, false, true, false, false]) 0) (resD (z76E N) Tryz.f88 (z76sg fun x _ => ref2_isText N x.1) z76pk) (fun st k hk => execL_eq _ _ N _ (cAt (bodyOf Tryz.f88) [true, false, true, false, false]) 0 (show LoopsOk (z76LP N) (z76E N) N (resD (z76E N) Tryz.f88 (z76sg fun x _ => ref2_isText N x.1) z76pk) [] from trivial) st k hk) (fun s => z76L0_hd x.1 x.2.1 s.1) k hk
    (fun self s => z76L0T N x.1 x.2.1 (k (.exit 0) (z76L0_tl0 x.1 x.2.1)) (fun s6 => self (s6, ())) s.1) (fun n s => z76L0 N x.1 x.2.1 (k (.exit 0) (z76L0_tl0 x.1 x.2.1)) n s.1) (fun _ => rfl) (fun _ _ => rfl)
    (fun I s => z76L0_step N x.1 x.2.1 (fun j => k (.exit j)) I s.1) N (x.2.2.1, ())
theorem z76lp0 (N : Nat) : ∀ st k, (∀ st, k .ret st = (resD (z76E N) Tryz.f88 (z76sg fun x _ => ref2_isText N x.1) z76pk) st) → z76LP N 0 (cAt (bodyOf Tryz.f88) [true, false, true, false, false]) st k = iter (Env.hint (z76E N) 0) (exec (z76E N) N (cAt (bodyOf Tryz.f88) [true, false, true, false, false]) 0) N st k := fun st k hk => LPc_eq 26 z76L0_fs z76L0_bs _ _ (resD (z76E N) Tryz.f88 (z76sg fun x _ => ref2_isText N x.1) z76pk) (z76L0_ok N) _ st k hk (rfl)
theorem z76core (N : Nat) (x : SV [.v .str]) (y : BV []) : runL (z76E N) Tryz.f88 (z76sg fun x _ => ref2_isText N x.1) z76pk (z76LP N) x y = ref2_isText N x.1 := by kernel_rfl
theorem z76sound (N : Nat) : Sound Tryz.prog GW B0G 88 (z76sg fun x _ => ref2_isText N x.1) :=
  runD_sound (mkE_ok z76h (z76fn N) _ _ (z76fn_ok N)) Tryz.func88 rfl Tryz.call88 (z76sg fun x _ => ref2_isText N x.1) z76pk (fun _ _ => rfl) N (fun x y _ h => ((runL_eq (z76E N) N Tryz.f88 (z76sg fun x _ => ref2_isText N x.1) z76pk (z76LP N) (show LoopsOk (z76LP N) (z76E N) N (resD (z76E N) Tryz.f88 (z76sg fun x _ => ref2_isText N x.1) z76pk) [(0, (cAt (bodyOf Tryz.f88) [true, false, true, false, false]))] from ⟨z76lp0 N, trivial⟩) x y).trans (z76core N x y)).trans h)
def ref2_within (_N : Nat) (x0 : Int) (x1 : Int) (x2 : Int) : Option Bool :=
  br (decide (x1 ≤ x0))
    (some (decide (x0 ≤ x2)))
    (some false)
abbrev z77sg (f : SV [.v (.int .i64), .v (.int .i64), .v (.int .i64)] → BV [] → Option (Bool)) : AF := { ps := [.v (.int .i64), .v (.int .i64), .v (.int .i64)], bs := [], rs := [.v .bool], cs := [], R := Bool, out := fun z => ((z, ()), ()), f := f }
abbrev z77pk : SV [.v .bool] → BV [] → Bool := fun x _ => x.1
def z77fn (_N : Nat) : FuncId → Option Tmp → Option AF := fun f _ =>
  match f with
    | _ => none
theorem z77fn_ok (N : Nat) : ∀ f q F, z77fn N f q = some F → Sound Tryz.prog GW B0G f F := by
  intro f q F h
  unfold z77fn at h
  split at h
  · cases h
def z77h : Nat → Hint := fun i =>
  match i with
  | _ => ⟨[], [], [], [], [], []⟩
abbrev z77E (N : Nat) : Env := mkE z77h (z77fn N) (fun _ => false) (fun _ => false)
noncomputable def z77LP (N : Nat) : Nat → Code → St → (Ex → St → Option Bool) → Option Bool := fun i c =>
  match i with
  | i => fun st k => iter (z77h i) (exec (z77E N) N c i) N st k
theorem z77core (N : Nat) (x : SV [.v (.int .i64), .v (.int .i64), .v (.int .i64)]) (y : BV []) : runL (z77E N) Tryz.f89 (z77sg fun x _ => ref2_within N x.1 x.2.1 x.2.2.1) z77pk (z77LP N) x y = ref2_within N x.1 x.2.1 x.2.2.1 := by kernel_rfl
theorem z77sound (N : Nat) : Sound Tryz.prog GW B0G 89 (z77sg fun x _ => ref2_within N x.1 x.2.1 x.2.2.1) :=
  runD_sound (mkE_ok z77h (z77fn N) _ _ (z77fn_ok N)) Tryz.func89 rfl Tryz.call89 (z77sg fun x _ => ref2_within N x.1 x.2.1 x.2.2.1) z77pk (fun _ _ => rfl) N (fun x y _ h => ((runL_eq (z77E N) N Tryz.f89 (z77sg fun x _ => ref2_within N x.1 x.2.1 x.2.2.1) z77pk (z77LP N) (show LoopsOk (z77LP N) (z77E N) N (resD (z77E N) Tryz.f89 (z77sg fun x _ => ref2_within N x.1 x.2.1 x.2.2.1) z77pk) [] from trivial) x y).trans (z77core N x y)).trans h)
def ref2_checkText (N : Nat) (x0 : Str) : Option Int :=
  br (decide ((x0.length : Int) > (1000 : Int)))
    (some (2 : Int))
    (bnd (ref2_isText N x0) fun t7 =>
    br (!t7)
      (some (3 : Int))
      (some (0 : Int)))
abbrev z57sg (f : SV [.v .str] → BV [] → Option (Int)) : AF := { ps := [.v .str], bs := [], rs := [.v (.int .i64)], cs := [], R := Int, out := fun z => ((z, ()), ()), f := f }
abbrev z57pk : SV [.v (.int .i64)] → BV [] → Int := fun x _ => x.1
def z57fn (N : Nat) : FuncId → Option Tmp → Option AF := fun f _ =>
  match f with
    | 88 => some (z76sg fun x _ => ref2_isText N x.1)
    | _ => none
theorem z57fn_ok (N : Nat) : ∀ f q F, z57fn N f q = some F → Sound Tryz.prog GW B0G f F := by
  intro f q F h
  unfold z57fn at h
  split at h
  · cases h; exact z76sound N
  · cases h
def z57h : Nat → Hint := fun i =>
  match i with
  | _ => ⟨[], [], [], [], [], []⟩
abbrev z57E (N : Nat) : Env := mkE z57h (z57fn N) (fun _ => false) (fun _ => false)
noncomputable def z57LP (N : Nat) : Nat → Code → St → (Ex → St → Option Int) → Option Int := fun i c =>
  match i with
  | i => fun st k => iter (z57h i) (exec (z57E N) N c i) N st k
theorem z57core (N : Nat) (x : SV [.v .str]) (y : BV []) : runL (z57E N) Tryz.f137 (z57sg fun x _ => ref2_checkText N x.1) z57pk (z57LP N) x y = ref2_checkText N x.1 := by kernel_rfl
theorem z57sound (N : Nat) : Sound Tryz.prog GW B0G 137 (z57sg fun x _ => ref2_checkText N x.1) :=
  runD_sound (mkE_ok z57h (z57fn N) _ _ (z57fn_ok N)) Tryz.func137 rfl Tryz.call137 (z57sg fun x _ => ref2_checkText N x.1) z57pk (fun _ _ => rfl) N (fun x y _ h => ((runL_eq (z57E N) N Tryz.f137 (z57sg fun x _ => ref2_checkText N x.1) z57pk (z57LP N) (show LoopsOk (z57LP N) (z57E N) N (resD (z57E N) Tryz.f137 (z57sg fun x _ => ref2_checkText N x.1) z57pk) [] from trivial) x y).trans (z57core N x y)).trans h)
abbrev z52sg (f : SV [.v (.sl (.pr .str (.rc .value)))] → BV [] → Option (Int)) : AF := { ps := [.v (.sl (.pr .str (.rc .value)))], bs := [], rs := [.v (.int .i64)], cs := [], R := Int, out := fun z => ((z, ()), ()), f := f }
end
end Go.Proofs.YtbekhaioddmliaaGreatDoor

