/- What functions of the program compute, as plain functions (printed). -/
import Derived.Test.YtbekhaioddmliaaDoorQCfF12
namespace Go.Proofs.YtbekhaioddmliaaDoor
open Go Go.RowKit
set_option maxRecDepth 100000
set_option linter.unusedVariables false
noncomputable section
def config_chosen_L0T (N : Nat) (x2 : List (Str × Str)) (c36 : List (Str × GValue)) (c37 : Int) (c1004_0 : List (Str × List Str)) (c1004_1 : List (Str × List (Str × Str) × List (Str × Str))) (c1007_0 : Str) (c1007_1 : List (Str × Str)) (k0 : (List (Str × GValue)) → (List (Str × List (Str × Str) × List (Str × Str))) → Option (GValue × Int)) (self : Int → (List (Str × GValue)) → (List (Str × List (Str × Str) × List (Str × Str))) → Option (GValue × Int)) (s38 : Int) (w1011 : List (Str × GValue)) (w1012 : List (Str × List (Str × Str) × List (Str × Str))) : Option (GValue × Int) :=
  br (decide (s38 < c37))
    (bnd (geti c36 s38) fun t40 =>
    bnd (config_conditionOf N c1004_1 t40.1) fun t47 =>
    br (t47.2)
      (bnd (config_holds N c1004_0 t47.1 x2 (c1007_0, c1007_1)) fun t57 =>
      br (t57)
        (both
          (times 1
            (br (decide ((w1011.length + [(t40.1, GValue.mk t40.2.kind t40.2.text t40.2.number t40.2.list t40.2.cases)].length) * (24 * Ty.sz (.pr .str (.rc .value))) ≤ 140737488355328))
              (br (decide ((w1012.length + [t47.1].length) * (24 * Ty.sz (.pr .str (.pr (.sl (.pr .str .str)) (.sl (.pr .str .str))))) ≤ 140737488355328))
                (self (IntKind.i64.wrap (s38 + (1 : Int))) (w1011 ++ [(t40.1, GValue.mk t40.2.kind t40.2.text t40.2.number t40.2.list t40.2.cases)]) (w1012 ++ [t47.1]))
                none)
              none))
          (br (decide ((w1011.length + [(t40.1, GValue.mk t40.2.kind t40.2.text t40.2.number t40.2.list t40.2.cases)].length) * (24 * Ty.sz (.pr .str (.rc .value))) ≤ 140737488355328))
            (br (decide ((w1012.length + [t47.1].length) * (24 * Ty.sz (.pr .str (.pr (.sl (.pr .str .str)) (.sl (.pr .str .str))))) ≤ 140737488355328))
              (self (IntKind.i64.wrap (s38 + (1 : Int))) (w1011 ++ [(t40.1, GValue.mk t40.2.kind t40.2.text t40.2.number t40.2.list t40.2.cases)]) (w1012 ++ [t47.1]))
              none)
            none))
        (self (IntKind.i64.wrap (s38 + (1 : Int))) w1011 w1012))
      (self (IntKind.i64.wrap (s38 + (1 : Int))) w1011 w1012))
    (k0 w1011 w1012)
def config_chosen_L0 (N : Nat) (x2 : List (Str × Str)) (c36 : List (Str × GValue)) (c37 : Int) (c1004_0 : List (Str × List Str)) (c1004_1 : List (Str × List (Str × Str) × List (Str × Str))) (c1007_0 : Str) (c1007_1 : List (Str × Str)) (k0 : (List (Str × GValue)) → (List (Str × List (Str × Str) × List (Str × Str))) → Option (GValue × Int)) : Nat → Int → (List (Str × GValue)) → (List (Str × List (Str × Str) × List (Str × Str))) → Option (GValue × Int)
  | 0, _, _, _ => none
  | n + 1, s38, w1011, w1012 => config_chosen_L0T N x2 c36 c37 c1004_0 c1004_1 c1007_0 c1007_1 k0 (config_chosen_L0 N x2 c36 c37 c1004_0 c1004_1 c1007_0 c1007_1 k0 n) s38 w1011 w1012
def config_chosen_L2T (N : Nat) (s86 : Int) (c103 : Int) (o0_w1012 : List (Str × List (Str × Str) × List (Str × Str))) (k4 : Bool → Option (GValue × Int)) (self : Bool → Int → Option (GValue × Int)) (s20 : Bool) (s104 : Int) : Option (GValue × Int) :=
  br (decide (s104 < c103))
    (br (s20)
      (br (s104 == s86)
        (self true (IntKind.i64.wrap (s104 + (1 : Int))))
        (bnd (geti o0_w1012 s86) fun t115 =>
        bnd (geti o0_w1012 s104) fun t119 =>
        bnd (config_isMore N t115 t119) fun t121 =>
        self t121 (IntKind.i64.wrap (s104 + (1 : Int)))))
      (self false (IntKind.i64.wrap (s104 + (1 : Int)))))
    (k4 s20)
def config_chosen_L2 (N : Nat) (s86 : Int) (c103 : Int) (o0_w1012 : List (Str × List (Str × Str) × List (Str × Str))) (k4 : Bool → Option (GValue × Int)) : Nat → Bool → Int → Option (GValue × Int)
  | 0, _, _ => none
  | n + 1, s20, s104 => config_chosen_L2T N s86 c103 o0_w1012 k4 (config_chosen_L2 N s86 c103 o0_w1012 k4 n) s20 s104
def config_chosen_L3T (N : Nat) (s86 : Int) (c103_6 : Int) (o0_w1012 : List (Str × List (Str × Str) × List (Str × Str))) (k4 : Bool → Option (GValue × Int)) (self : Bool → Int → Option (GValue × Int)) (s20_4 : Bool) (s104_7 : Int) : Option (GValue × Int) :=
  br (decide (s104_7 < c103_6))
    (br (s20_4)
      (br (s104_7 == s86)
        (self true (IntKind.i64.wrap (s104_7 + (1 : Int))))
        (bnd (geti o0_w1012 s86) fun t115_8 =>
        bnd (geti o0_w1012 s104_7) fun t119_9 =>
        bnd (config_isMore N t115_8 t119_9) fun t121_10 =>
        self t121_10 (IntKind.i64.wrap (s104_7 + (1 : Int)))))
      (self false (IntKind.i64.wrap (s104_7 + (1 : Int)))))
    (k4 s20_4)
def config_chosen_L3 (N : Nat) (s86 : Int) (c103_6 : Int) (o0_w1012 : List (Str × List (Str × Str) × List (Str × Str))) (k4 : Bool → Option (GValue × Int)) : Nat → Bool → Int → Option (GValue × Int)
  | 0, _, _ => none
  | n + 1, s20_4, s104_7 => config_chosen_L3T N s86 c103_6 o0_w1012 k4 (config_chosen_L3 N s86 c103_6 o0_w1012 k4 n) s20_4 s104_7
def config_chosen_L1T (N : Nat) (c85 : Int) (o0_w1011 : List (Str × GValue)) (o0_w1012 : List (Str × List (Str × Str) × List (Str × Str))) (k2 : Bool → Option (GValue × Int)) (self : Bool → Int → Option (GValue × Int)) (s18 : Bool) (s86 : Int) : Option (GValue × Int) :=
  br (decide (s86 < c85))
    (br (s18)
      (bnd (geti o0_w1011 (0 : Int)) fun t92 =>
      bnd (geti o0_w1011 s86) fun t97 =>
      bnd (script_Equal N (script_Equal_1 N N) t92.2 t97.2) fun t100 =>
      config_chosen_L2 N s86 (o0_w1011.length : Int) o0_w1012 (fun o2_20 =>
          br (o2_20)
            (bnd (geti o0_w1011 s86) fun t128 =>
            bnd (script_Own N N t128.2) fun t131 =>
            some (GValue.mk t131.kind t131.text t131.number t131.list t131.cases, (0 : Int)))
            (self t100 (IntKind.i64.wrap (s86 + (1 : Int))))) N true (0 : Int))
      (config_chosen_L3 N s86 (o0_w1011.length : Int) o0_w1012 (fun o3_20 =>
          br (o3_20)
            (bnd (geti o0_w1011 s86) fun t128_11 =>
            bnd (script_Own N N t128_11.2) fun t131_12 =>
            some (GValue.mk t131_12.kind t131_12.text t131_12.number t131_12.list t131_12.cases, (0 : Int)))
            (self false (IntKind.i64.wrap (s86 + (1 : Int))))) N true (0 : Int)))
    (k2 s18)
def config_chosen_L1 (N : Nat) (c85 : Int) (o0_w1011 : List (Str × GValue)) (o0_w1012 : List (Str × List (Str × Str) × List (Str × Str))) (k2 : Bool → Option (GValue × Int)) : Nat → Bool → Int → Option (GValue × Int)
  | 0, _, _ => none
  | n + 1, s18, s86 => config_chosen_L1T N c85 o0_w1011 o0_w1012 k2 (config_chosen_L1 N c85 o0_w1011 o0_w1012 k2 n) s18 s86
def config_chosen (N : Nat) (x0 : List (Str × List Str) × List (Str × List (Str × Str) × List (Str × Str)) × List (Str × List (Str × Str)) × List (Str × Str × List (Str × Str) × List (Str × Str)) × List (Str × List (Str × Str) × List Str)) (x1 : GValue) (x2 : List (Str × Str)) (x3 : Str × List (Str × Str)) : Option (GValue × Int) :=
  br (x1.kind != (4 : Int))
    (bnd (script_Own N N (GValue.mk x1.kind x1.text x1.number x1.list x1.cases)) fun t26 =>
    some (GValue.mk t26.kind t26.text t26.number t26.list t26.cases, (0 : Int)))
    (bnd (config_checkNamed N x0.2.1 (GValue.mk x1.kind x1.text x1.number x1.list x1.cases)) fun t30 =>
    br (t30 != (0 : Int))
      (some (GValue.mk (0 : Int) ([] : Str) (0 : Int) ([] : List Str) ([] : List (Str × GValue)), t30))
      (config_chosen_L0 N x2 x1.cases (x1.cases.length : Int) x0.1 x0.2.1 x3.1 x3.2 (fun o0_w1011 o0_w1012 =>
          br ((o0_w1011.length : Int) == (0 : Int))
            (bnd (slices_IndexFunc_api_Case_2 N x1.cases ()) fun t73 =>
            br (decide (t73 < (0 : Int)))
              (some (GValue.mk (0 : Int) ([] : Str) (0 : Int) ([] : List Str) ([] : List (Str × GValue)), (9 : Int)))
              (bnd (geti x1.cases t73) fun t80 =>
              bnd (script_Own N N t80.2) fun t83 =>
              some (GValue.mk t83.kind t83.text t83.number t83.list t83.cases, (0 : Int))))
            (config_chosen_L1 N (o0_w1011.length : Int) o0_w1011 o0_w1012 (fun o1_18 =>
                br (o1_18)
                  (bnd (geti o0_w1011 (0 : Int)) fun t135 =>
                  bnd (script_Own N N t135.2) fun t138 =>
                  some (GValue.mk t138.kind t138.text t138.number t138.list t138.cases, (0 : Int)))
                  (some (GValue.mk (0 : Int) ([] : Str) (0 : Int) ([] : List Str) ([] : List (Str × GValue)), (12 : Int)))) N true (0 : Int))) N (0 : Int) ([] : List (Str × GValue)) ([] : List (Str × List (Str × Str) × List (Str × Str)))))
abbrev config_chosen_sg (f : SV [.v (.pr (.sl (.pr .str (.sl .str))) (.pr (.sl (.pr .str (.pr (.sl (.pr .str .str)) (.sl (.pr .str .str))))) (.pr (.sl (.pr .str (.sl (.pr .str .str)))) (.pr (.sl (.pr .str (.pr .str (.pr (.sl (.pr .str .str)) (.sl (.pr .str .str)))))) (.sl (.pr .str (.pr (.sl (.pr .str .str)) (.sl .str)))))))), .v (.rc .value), .v (.sl (.pr .str .str)), .v (.pr .str (.sl (.pr .str .str)))] → BV [] → Option (GValue × Int)) : AF := { ps := [.v (.pr (.sl (.pr .str (.sl .str))) (.pr (.sl (.pr .str (.pr (.sl (.pr .str .str)) (.sl (.pr .str .str))))) (.pr (.sl (.pr .str (.sl (.pr .str .str)))) (.pr (.sl (.pr .str (.pr .str (.pr (.sl (.pr .str .str)) (.sl (.pr .str .str)))))) (.sl (.pr .str (.pr (.sl (.pr .str .str)) (.sl .str)))))))), .v (.rc .value), .v (.sl (.pr .str .str)), .v (.pr .str (.sl (.pr .str .str)))], bs := [], rs := [.v (.rc .value), .v (.int .i64)], cs := [], R := GValue × Int, out := fun z => ((z.1, z.2, ()), ()), f := f }
abbrev config_chosen_pk : SV [.v (.rc .value), .v (.int .i64)] → BV [] → (GValue × Int) := fun x _ => (x.1, x.2.1)
def config_chosen_fn (N : Nat) : FuncId → Option Tmp → Option AF := fun f _ =>
  match f with
    | 57 => some (config_holds_sg fun x _ => config_holds N x.1 x.2.1 x.2.2.1 x.2.2.2.1)
    | 117 => some (script_Own_sg fun x _ => script_Own N N x.1)
    | 118 => some (config_checkNamed_sg fun x _ => config_checkNamed N x.1 x.2.1)
    | 119 => some (config_conditionOf_sg fun x _ => config_conditionOf N x.1 x.2.1)
    | 120 => some (slices_IndexFunc_api_Case_2_sg fun x _ => slices_IndexFunc_api_Case_2 N x.1 x.2.1)
    | 122 => some (script_Equal_sg fun x _ => script_Equal N (script_Equal_1 N N) x.1 x.2.1)
    | 123 => some (config_isMore_sg fun x _ => config_isMore N x.1 x.2.1)
    | _ => none
theorem config_chosen_fn_ok (N : Nat) : ∀ f q F, config_chosen_fn N f q = some F → Sound Tryd.prog GW B0G f F := by
  intro f q F h
  unfold config_chosen_fn at h
  split at h
  · cases h; exact config_holds_sound N
  · cases h; exact script_Own_sound N N
  · cases h; exact config_checkNamed_sound N
  · cases h; exact config_conditionOf_sound N
  · cases h; exact slices_IndexFunc_api_Case_2_sound N
  · cases h; exact script_Equal_sound N (script_Equal_1 N N) (script_Equal_1_sound N N)
  · cases h; exact config_isMore_sound N
  · cases h
def config_chosen_h : Nat → Hint := fun i =>
  match i with
  | 0 => ⟨[], [2, 4, 5, 7, 8, 11, 12, 36, 37, 38], [1004, 1005, 1007, 1008, 1011, 1012], [5, 8, 11, 12], [1005, 1008, 1011, 1012], []⟩
  | 2 => ⟨[], [8, 11, 12, 18, 85, 86], [1008, 1011, 1012], [8, 11, 18], [1008, 1011], []⟩
  | 4 => ⟨[], [8, 11, 12, 18, 19, 20, 85, 86, 91, 92, 93, 94, 95, 96, 97, 98, 99, 100, 103, 104], [1008, 1011, 1012], [8, 11, 12, 18, 19, 20, 85, 86, 91, 92, 93, 94, 95, 96, 97, 98, 99, 100], [1008, 1011, 1012], []⟩
  | 100013 => ⟨[1014, 1015], [], [], [], [], []⟩
  | _ => ⟨[], [], [], [], [], []⟩
abbrev config_chosen_E (N : Nat) : Env := mkE config_chosen_h (config_chosen_fn N) (fun _ => false) (fun _ => false)
abbrev config_chosen_L0_fs : List (Nat × Sl) := [(2, .v (.sl (.pr .str .str))), (4, .box 1004 0), (5, .box 1005 0), (7, .box 1007 0), (8, .box 1008 0), (11, .row 1011), (12, .row 1012), (36, .v (.sl (.pr .str (.rc .value)))), (37, .v (.int .i64)), (38, .v (.int .i64))]
abbrev config_chosen_L0_bs : List (Nat × Sb) := [(1004, .cells [.v (.sl (.pr .str (.sl .str))), .v (.sl (.pr .str (.pr (.sl (.pr .str .str)) (.sl (.pr .str .str))))), .v (.sl (.pr .str (.sl (.pr .str .str)))), .v (.sl (.pr .str (.pr .str (.pr (.sl (.pr .str .str)) (.sl (.pr .str .str)))))), .v (.sl (.pr .str (.pr (.sl (.pr .str .str)) (.sl .str))))]), (1005, .cells [.v (.int .i64), .v .str, .v (.int .i64), .v (.sl .str), .v (.sl (.pr .str (.rc .value)))]), (1007, .cells [.v .str, .v (.sl (.pr .str .str))]), (1008, .cells [.v (.int .i64), .v .str, .v (.int .i64), .nilS, .nilS]), (1011, .row 81 (.pr .str (.rc .value)) false), (1012, .row 38 (.pr .str (.pr (.sl (.pr .str .str)) (.sl (.pr .str .str)))) false)]
def config_chosen_L0_hd (x2 : List (Str × Str)) (c36 : List (Str × GValue)) (c37 : Int) (c1004_0 : List (Str × List Str)) (c1004_1 : List (Str × List (Str × Str) × List (Str × Str))) (c1004_2 : List (Str × List (Str × Str))) (c1004_3 : List (Str × Str × List (Str × Str) × List (Str × Str))) (c1004_4 : List (Str × List (Str × Str) × List Str)) (c1005_0 : Int) (c1005_1 : Str) (c1005_2 : Int) (c1005_3 : List Str) (c1005_4 : List (Str × GValue)) (c1007_0 : Str) (c1007_1 : List (Str × Str)) (c1008_0 : Int) (c1008_1 : Str) (c1008_2 : Int) (s38 : Int) (w1011 : List (Str × GValue)) (w1012 : List (Str × List (Str × Str) × List (Str × Str))) : St := ⟨140, [(2, .v (.sl (.pr .str .str)) x2), (4, .box 1004 0), (5, .box 1005 0), (7, .box 1007 0), (8, .box 1008 0), (11, .row 1011), (12, .row 1012), (36, .v (.sl (.pr .str (.rc .value))) c36), (37, .v (.int .i64) c37), (38, .v (.int .i64) s38)], [(1004, .cells [.v (.sl (.pr .str (.sl .str))) c1004_0, .v (.sl (.pr .str (.pr (.sl (.pr .str .str)) (.sl (.pr .str .str))))) c1004_1, .v (.sl (.pr .str (.sl (.pr .str .str)))) c1004_2, .v (.sl (.pr .str (.pr .str (.pr (.sl (.pr .str .str)) (.sl (.pr .str .str)))))) c1004_3, .v (.sl (.pr .str (.pr (.sl (.pr .str .str)) (.sl .str)))) c1004_4]), (1005, .cells [.v (.int .i64) c1005_0, .v .str c1005_1, .v (.int .i64) c1005_2, .v (.sl .str) c1005_3, .v (.sl (.pr .str (.rc .value))) c1005_4]), (1007, .cells [.v .str c1007_0, .v (.sl (.pr .str .str)) c1007_1]), (1008, .cells [.v (.int .i64) c1008_0, .v .str c1008_1, .v (.int .i64) c1008_2, .nilS, .nilS]), (1011, .row 81 (.pr .str (.rc .value)) false w1011), (1012, .row 38 (.pr .str (.pr (.sl (.pr .str .str)) (.sl (.pr .str .str)))) false w1012)]⟩
def config_chosen_L0_tl0 (_x2 : List (Str × Str)) (_c36 : List (Str × GValue)) (_c37 : Int) (_c1004_0 : List (Str × List Str)) (_c1004_1 : List (Str × List (Str × Str) × List (Str × Str))) (_c1004_2 : List (Str × List (Str × Str))) (_c1004_3 : List (Str × Str × List (Str × Str) × List (Str × Str))) (_c1004_4 : List (Str × List (Str × Str) × List Str)) (c1005_0 : Int) (c1005_1 : Str) (c1005_2 : Int) (c1005_3 : List Str) (c1005_4 : List (Str × GValue)) (_c1007_0 : Str) (_c1007_1 : List (Str × Str)) (c1008_0 : Int) (c1008_1 : Str) (c1008_2 : Int) (o0_w1011 : List (Str × GValue)) (o0_w1012 : List (Str × List (Str × Str) × List (Str × Str))) : St := ⟨140, [(5, .box 1005 0), (8, .box 1008 0), (11, .row 1011), (12, .row 1012)], [(1005, .cells [.v (.int .i64) c1005_0, .v .str c1005_1, .v (.int .i64) c1005_2, .v (.sl .str) c1005_3, .v (.sl (.pr .str (.rc .value))) c1005_4]), (1008, .cells [.v (.int .i64) c1008_0, .v .str c1008_1, .v (.int .i64) c1008_2, .nilS, .nilS]), (1011, .row 81 (.pr .str (.rc .value)) false o0_w1011), (1012, .row 38 (.pr .str (.pr (.sl (.pr .str .str)) (.sl (.pr .str .str)))) false o0_w1012)]⟩
def config_chosen_L0_G (N : Nat) (x2 : List (Str × Str)) (c36 : List (Str × GValue)) (c37 : Int) (c1004_0 : List (Str × List Str)) (c1004_1 : List (Str × List (Str × Str) × List (Str × Str))) (c1004_2 : List (Str × List (Str × Str))) (c1004_3 : List (Str × Str × List (Str × Str) × List (Str × Str))) (c1004_4 : List (Str × List (Str × Str) × List Str)) (c1005_0 : Int) (c1005_1 : Str) (c1005_2 : Int) (c1005_3 : List Str) (c1005_4 : List (Str × GValue)) (c1007_0 : Str) (c1007_1 : List (Str × Str)) (c1008_0 : Int) (c1008_1 : Str) (c1008_2 : Int) (s38 : Int) (w1011 : List (Str × GValue)) (w1012 : List (Str × List (Str × Str) × List (Str × Str))) (k : Ex → St → Option (GValue × Int)) : Option (GValue × Int) :=
  config_chosen_L0 N x2 c36 c37 c1004_0 c1004_1 c1007_0 c1007_1 (fun o0_w1011 o0_w1012 => k (.exit 0) (config_chosen_L0_tl0 x2 c36 c37 c1004_0 c1004_1 c1004_2 c1004_3 c1004_4 c1005_0 c1005_1 c1005_2 c1005_3 c1005_4 c1007_0 c1007_1 c1008_0 c1008_1 c1008_2 o0_w1011 o0_w1012)) N s38 w1011 w1012
abbrev config_chosen_L0_F (N : Nat) : FV config_chosen_L0_fs → HV config_chosen_L0_bs → (Ex → St → Option (GValue × Int)) → Option (GValue × Int) := fun x y k => config_chosen_L0_G N x.1 x.2.2.2.2.2.2.2.1 x.2.2.2.2.2.2.2.2.1 y.1.1 y.1.2.1 y.1.2.2.1 y.1.2.2.2.1 y.1.2.2.2.2.1 y.2.1.1 y.2.1.2.1 y.2.1.2.2.1 y.2.1.2.2.2.1 y.2.1.2.2.2.2.1 y.2.2.1.1 y.2.2.1.2.1 y.2.2.2.1.1 y.2.2.2.1.2.1 y.2.2.2.1.2.2.1 x.2.2.2.2.2.2.2.2.2.1 y.2.2.2.2.1 y.2.2.2.2.2.1 k
abbrev config_chosen_L2_fs : List (Nat × Sl) := [(8, .box 1008 0), (11, .row 1011), (12, .row 1012), (18, .v .bool), (19, .v (.int .i64)), (20, .v .bool), (85, .v (.int .i64)), (86, .v (.int .i64)), (91, .row 1011), (92, .at_ (.pr .str (.rc .value))), (93, .at_ (.rc .value)), (94, .v (.rc .value)), (95, .row 1011), (96, .v (.int .i64)), (97, .at_ (.pr .str (.rc .value))), (98, .at_ (.rc .value)), (99, .v (.rc .value)), (100, .v .bool), (103, .v (.int .i64)), (104, .v (.int .i64))]
abbrev config_chosen_L2_bs : List (Nat × Sb) := [(1008, .cells [.v (.int .i64), .v .str, .v (.int .i64), .nilS, .nilS]), (1011, .row 81 (.pr .str (.rc .value)) false), (1012, .row 38 (.pr .str (.pr (.sl (.pr .str .str)) (.sl (.pr .str .str)))) false)]
def config_chosen_L2_hd (t100 : Bool) (s86 : Int) (c85 : Int) (c86 : Int) (t92 : Str × GValue) (c93 : GValue) (c94 : GValue) (c96 : Int) (t97 : Str × GValue) (c98 : GValue) (c99 : GValue) (c100 : Bool) (c103 : Int) (c1008_0_1 : Int) (c1008_1_2 : Str) (c1008_2_3 : Int) (o0_w1011 : List (Str × GValue)) (o0_w1012 : List (Str × List (Str × Str) × List (Str × Str))) (s20 : Bool) (s104 : Int) : St := ⟨140, [(8, .box 1008 0), (11, .row 1011), (12, .row 1012), (18, .v .bool t100), (19, .v (.int .i64) s86), (20, .v .bool s20), (85, .v (.int .i64) c85), (86, .v (.int .i64) c86), (91, .row 1011), (92, .at_ (.pr .str (.rc .value)) t92), (93, .at_ (.rc .value) c93), (94, .v (.rc .value) c94), (95, .row 1011), (96, .v (.int .i64) c96), (97, .at_ (.pr .str (.rc .value)) t97), (98, .at_ (.rc .value) c98), (99, .v (.rc .value) c99), (100, .v .bool c100), (103, .v (.int .i64) c103), (104, .v (.int .i64) s104)], [(1008, .cells [.v (.int .i64) c1008_0_1, .v .str c1008_1_2, .v (.int .i64) c1008_2_3, .nilS, .nilS]), (1011, .row 81 (.pr .str (.rc .value)) false o0_w1011), (1012, .row 38 (.pr .str (.pr (.sl (.pr .str .str)) (.sl (.pr .str .str)))) false o0_w1012)]⟩
def config_chosen_L2_tl4 (t100 : Bool) (s86 : Int) (c85 : Int) (c86 : Int) (t92 : Str × GValue) (c93 : GValue) (c94 : GValue) (c96 : Int) (t97 : Str × GValue) (c98 : GValue) (c99 : GValue) (c100 : Bool) (_c103 : Int) (c1008_0_1 : Int) (c1008_1_2 : Str) (c1008_2_3 : Int) (o0_w1011 : List (Str × GValue)) (o0_w1012 : List (Str × List (Str × Str) × List (Str × Str))) (o2_20 : Bool) : St := ⟨140, [(8, .box 1008 0), (11, .row 1011), (12, .row 1012), (18, .v .bool t100), (19, .v (.int .i64) s86), (20, .v .bool o2_20), (85, .v (.int .i64) c85), (86, .v (.int .i64) c86), (91, .row 1011), (92, .at_ (.pr .str (.rc .value)) t92), (93, .at_ (.rc .value) c93), (94, .v (.rc .value) c94), (95, .row 1011), (96, .v (.int .i64) c96), (97, .at_ (.pr .str (.rc .value)) t97), (98, .at_ (.rc .value) c98), (99, .v (.rc .value) c99), (100, .v .bool c100)], [(1008, .cells [.v (.int .i64) c1008_0_1, .v .str c1008_1_2, .v (.int .i64) c1008_2_3, .nilS, .nilS]), (1011, .row 81 (.pr .str (.rc .value)) false o0_w1011), (1012, .row 38 (.pr .str (.pr (.sl (.pr .str .str)) (.sl (.pr .str .str)))) false o0_w1012)]⟩
def config_chosen_L2_G (N : Nat) (t100 : Bool) (s86 : Int) (c85 : Int) (c86 : Int) (t92 : Str × GValue) (c93 : GValue) (c94 : GValue) (c96 : Int) (t97 : Str × GValue) (c98 : GValue) (c99 : GValue) (c100 : Bool) (c103 : Int) (c1008_0_1 : Int) (c1008_1_2 : Str) (c1008_2_3 : Int) (o0_w1011 : List (Str × GValue)) (o0_w1012 : List (Str × List (Str × Str) × List (Str × Str))) (s20 : Bool) (s104 : Int) (k : Ex → St → Option (GValue × Int)) : Option (GValue × Int) :=
  config_chosen_L2 N s86 c103 o0_w1012 (fun o2_20 => k (.exit 4) (config_chosen_L2_tl4 t100 s86 c85 c86 t92 c93 c94 c96 t97 c98 c99 c100 c103 c1008_0_1 c1008_1_2 c1008_2_3 o0_w1011 o0_w1012 o2_20)) N s20 s104
abbrev config_chosen_L2_F (N : Nat) : FV config_chosen_L2_fs → HV config_chosen_L2_bs → (Ex → St → Option (GValue × Int)) → Option (GValue × Int) := fun x y k => config_chosen_L2_G N x.2.2.2.1 x.2.2.2.2.1 x.2.2.2.2.2.2.1 x.2.2.2.2.2.2.2.1 x.2.2.2.2.2.2.2.2.2.1 x.2.2.2.2.2.2.2.2.2.2.1 x.2.2.2.2.2.2.2.2.2.2.2.1 x.2.2.2.2.2.2.2.2.2.2.2.2.2.1 x.2.2.2.2.2.2.2.2.2.2.2.2.2.2.1 x.2.2.2.2.2.2.2.2.2.2.2.2.2.2.2.1 x.2.2.2.2.2.2.2.2.2.2.2.2.2.2.2.2.1 x.2.2.2.2.2.2.2.2.2.2.2.2.2.2.2.2.2.1 x.2.2.2.2.2.2.2.2.2.2.2.2.2.2.2.2.2.2.1 y.1.1 y.1.2.1 y.1.2.2.1 y.2.1 y.2.2.1 x.2.2.2.2.2.1 x.2.2.2.2.2.2.2.2.2.2.2.2.2.2.2.2.2.2.2.1 k
abbrev config_chosen_L3_fs : List (Nat × Sl) := [(8, .box 1008 0), (11, .row 1011), (12, .row 1012), (18, .v .bool), (19, .v (.int .i64)), (20, .v .bool), (85, .v (.int .i64)), (86, .v (.int .i64)), (91, .skip), (92, .skip), (93, .skip), (94, .skip), (95, .skip), (96, .skip), (97, .skip), (98, .skip), (99, .skip), (100, .skip), (103, .v (.int .i64)), (104, .v (.int .i64))]
abbrev config_chosen_L3_bs : List (Nat × Sb) := [(1008, .cells [.v (.int .i64), .v .str, .v (.int .i64), .nilS, .nilS]), (1011, .row 81 (.pr .str (.rc .value)) false), (1012, .row 38 (.pr .str (.pr (.sl (.pr .str .str)) (.sl (.pr .str .str)))) false)]
def config_chosen_L3_hd (c18 : Bool) (s86 : Int) (c85 : Int) (c86_5 : Int) (c103_6 : Int) (c1008_0_1 : Int) (c1008_1_2 : Str) (c1008_2_3 : Int) (o0_w1011 : List (Str × GValue)) (o0_w1012 : List (Str × List (Str × Str) × List (Str × Str))) (s20_4 : Bool) (s104_7 : Int) : St := ⟨140, [(8, .box 1008 0), (11, .row 1011), (12, .row 1012), (18, .v .bool c18), (19, .v (.int .i64) s86), (20, .v .bool s20_4), (85, .v (.int .i64) c85), (86, .v (.int .i64) c86_5), (91, .skip), (92, .skip), (93, .skip), (94, .skip), (95, .skip), (96, .skip), (97, .skip), (98, .skip), (99, .skip), (100, .skip), (103, .v (.int .i64) c103_6), (104, .v (.int .i64) s104_7)], [(1008, .cells [.v (.int .i64) c1008_0_1, .v .str c1008_1_2, .v (.int .i64) c1008_2_3, .nilS, .nilS]), (1011, .row 81 (.pr .str (.rc .value)) false o0_w1011), (1012, .row 38 (.pr .str (.pr (.sl (.pr .str .str)) (.sl (.pr .str .str)))) false o0_w1012)]⟩
def config_chosen_L3_tl4 (c18 : Bool) (s86 : Int) (c85 : Int) (c86_5 : Int) (_c103_6 : Int) (c1008_0_1 : Int) (c1008_1_2 : Str) (c1008_2_3 : Int) (o0_w1011 : List (Str × GValue)) (o0_w1012 : List (Str × List (Str × Str) × List (Str × Str))) (o3_20 : Bool) : St := ⟨140, [(8, .box 1008 0), (11, .row 1011), (12, .row 1012), (18, .v .bool c18), (19, .v (.int .i64) s86), (20, .v .bool o3_20), (85, .v (.int .i64) c85), (86, .v (.int .i64) c86_5), (91, .skip), (92, .skip), (93, .skip), (94, .skip), (95, .skip), (96, .skip), (97, .skip), (98, .skip), (99, .skip), (100, .skip)], [(1008, .cells [.v (.int .i64) c1008_0_1, .v .str c1008_1_2, .v (.int .i64) c1008_2_3, .nilS, .nilS]), (1011, .row 81 (.pr .str (.rc .value)) false o0_w1011), (1012, .row 38 (.pr .str (.pr (.sl (.pr .str .str)) (.sl (.pr .str .str)))) false o0_w1012)]⟩
def config_chosen_L3_G (N : Nat) (c18 : Bool) (s86 : Int) (c85 : Int) (c86_5 : Int) (c103_6 : Int) (c1008_0_1 : Int) (c1008_1_2 : Str) (c1008_2_3 : Int) (o0_w1011 : List (Str × GValue)) (o0_w1012 : List (Str × List (Str × Str) × List (Str × Str))) (s20_4 : Bool) (s104_7 : Int) (k : Ex → St → Option (GValue × Int)) : Option (GValue × Int) :=
  config_chosen_L3 N s86 c103_6 o0_w1012 (fun o3_20 => k (.exit 4) (config_chosen_L3_tl4 c18 s86 c85 c86_5 c103_6 c1008_0_1 c1008_1_2 c1008_2_3 o0_w1011 o0_w1012 o3_20)) N s20_4 s104_7
abbrev config_chosen_L3_F (N : Nat) : FV config_chosen_L3_fs → HV config_chosen_L3_bs → (Ex → St → Option (GValue × Int)) → Option (GValue × Int) := fun x y k => config_chosen_L3_G N x.2.2.2.1 x.2.2.2.2.1 x.2.2.2.2.2.2.1 x.2.2.2.2.2.2.2.1 x.2.2.2.2.2.2.2.2.2.2.2.2.2.2.2.2.2.2.1 y.1.1 y.1.2.1 y.1.2.2.1 y.2.1 y.2.2.1 x.2.2.2.2.2.1 x.2.2.2.2.2.2.2.2.2.2.2.2.2.2.2.2.2.2.2.1 k
abbrev config_chosen_L1_fs : List (Nat × Sl) := [(8, .box 1008 0), (11, .row 1011), (12, .row 1012), (18, .v .bool), (85, .v (.int .i64)), (86, .v (.int .i64))]
abbrev config_chosen_L1_bs : List (Nat × Sb) := [(1008, .cells [.v (.int .i64), .v .str, .v (.int .i64), .nilS, .nilS]), (1011, .row 81 (.pr .str (.rc .value)) false), (1012, .row 38 (.pr .str (.pr (.sl (.pr .str .str)) (.sl (.pr .str .str)))) false)]
def config_chosen_L1_hd (c85 : Int) (c1008_0_1 : Int) (c1008_1_2 : Str) (c1008_2_3 : Int) (o0_w1011 : List (Str × GValue)) (o0_w1012 : List (Str × List (Str × Str) × List (Str × Str))) (s18 : Bool) (s86 : Int) : St := ⟨140, [(8, .box 1008 0), (11, .row 1011), (12, .row 1012), (18, .v .bool s18), (85, .v (.int .i64) c85), (86, .v (.int .i64) s86)], [(1008, .cells [.v (.int .i64) c1008_0_1, .v .str c1008_1_2, .v (.int .i64) c1008_2_3, .nilS, .nilS]), (1011, .row 81 (.pr .str (.rc .value)) false o0_w1011), (1012, .row 38 (.pr .str (.pr (.sl (.pr .str .str)) (.sl (.pr .str .str)))) false o0_w1012)]⟩
def config_chosen_L1_tl2 (_c85 : Int) (c1008_0_1 : Int) (c1008_1_2 : Str) (c1008_2_3 : Int) (o0_w1011 : List (Str × GValue)) (_o0_w1012 : List (Str × List (Str × Str) × List (Str × Str))) (o1_18 : Bool) : St := ⟨140, [(8, .box 1008 0), (11, .row 1011), (18, .v .bool o1_18)], [(1008, .cells [.v (.int .i64) c1008_0_1, .v .str c1008_1_2, .v (.int .i64) c1008_2_3, .nilS, .nilS]), (1011, .row 81 (.pr .str (.rc .value)) false o0_w1011)]⟩
def config_chosen_L1_G (N : Nat) (c85 : Int) (c1008_0_1 : Int) (c1008_1_2 : Str) (c1008_2_3 : Int) (o0_w1011 : List (Str × GValue)) (o0_w1012 : List (Str × List (Str × Str) × List (Str × Str))) (s18 : Bool) (s86 : Int) (k : Ex → St → Option (GValue × Int)) : Option (GValue × Int) :=
  config_chosen_L1 N c85 o0_w1011 o0_w1012 (fun o1_18 => k (.exit 2) (config_chosen_L1_tl2 c85 c1008_0_1 c1008_1_2 c1008_2_3 o0_w1011 o0_w1012 o1_18)) N s18 s86
abbrev config_chosen_L1_F (N : Nat) : FV config_chosen_L1_fs → HV config_chosen_L1_bs → (Ex → St → Option (GValue × Int)) → Option (GValue × Int) := fun x y k => config_chosen_L1_G N x.2.2.2.2.1 y.1.1 y.1.2.1 y.1.2.2.1 y.2.1 y.2.2.1 x.2.2.2.1 x.2.2.2.2.2.1 k
noncomputable def config_chosen_LP (N : Nat) : Nat → Code → St → (Ex → St → Option (GValue × Int)) → Option (GValue × Int) := fun i c =>
  match i with
  | 0 => (LPc 140 config_chosen_L0_fs config_chosen_L0_bs (config_chosen_L0_F N) (fun st k => iter (config_chosen_h 0) (exec (config_chosen_E N) N c 0) N st k))
  | 2 => (LPc 140 config_chosen_L1_fs config_chosen_L1_bs (config_chosen_L1_F N) (fun st k => iter (config_chosen_h 2) (exec (config_chosen_E N) N c 2) N st k))
  | 4 => (LPc 140 config_chosen_L3_fs config_chosen_L3_bs (config_chosen_L3_F N) (LPc 140 config_chosen_L2_fs config_chosen_L2_bs (config_chosen_L2_F N) (fun st k => iter (config_chosen_h 4) (exec (config_chosen_E N) N c 4) N st k)))
  | i => fun st k => iter (config_chosen_h i) (exec (config_chosen_E N) N c i) N st k
theorem config_chosen_L2_step (N : Nat) (t100 : Bool) (s86 : Int) (c85 : Int) (c86 : Int) (t92 : Str × GValue) (c93 : GValue) (c94 : GValue) (c96 : Int) (t97 : Str × GValue) (c98 : GValue) (c99 : GValue) (c100 : Bool) (c103 : Int) (c1008_0_1 : Int) (c1008_1_2 : Str) (c1008_2_3 : Int) (o0_w1011 : List (Str × GValue)) (o0_w1012 : List (Str × List (Str × Str) × List (Str × Str))) (KX : Nat → St → Option (GValue × Int)) (I : St → Option (GValue × Int)) (s20 : Bool) (s104 : Int) :
    execL (config_chosen_LP N) (config_chosen_E N) (cAt (bodyOf Tryd.f86) [true, true, true, true, true, true, true, true, false, true, false, false, true, true, false, false, true, true, true, false, true, false, false]) 4 (config_chosen_L2_hd t100 s86 c85 c86 t92 c93 c94 c96 t97 c98 c99 c100 c103 c1008_0_1 c1008_1_2 c1008_2_3 o0_w1011 o0_w1012 s20 s104) (roundK (config_chosen_h 4) I KX (resD (config_chosen_E N) Tryd.f86 (config_chosen_sg fun x _ => config_chosen N x.1 x.2.1 x.2.2.1 x.2.2.2.1) config_chosen_pk)) = config_chosen_L2T N s86 c103 o0_w1012 (fun o2_20 => KX 4 (config_chosen_L2_tl4 t100 s86 c85 c86 t92 c93 c94 c96 t97 c98 c99 c100 c103 c1008_0_1 c1008_1_2 c1008_2_3 o0_w1011 o0_w1012 o2_20)) (fun s20 s104 => I (config_chosen_L2_hd t100 s86 c85 c86 t92 c93 c94 c96 t97 c98 c99 c100 c103 c1008_0_1 c1008_1_2 c1008_2_3 o0_w1011 o0_w1012 s20 s104)) s20 s104 := by kernel_rfl
theorem config_chosen_L2_ok (N : Nat) : ∀ x y k, (∀ st, k .ret st = (resD (config_chosen_E N) Tryd.f86 (config_chosen_sg fun x _ => config_chosen N x.1 x.2.1 x.2.2.1 x.2.2.2.1) config_chosen_pk) st) → iter (config_chosen_h 4) (exec (config_chosen_E N) N (cAt (bodyOf Tryd.f86) [true, true, true, true, true, true, true, true, false, true, false, false, true, true, false, false, true, true, true, false, true, false, false]) 4) N ⟨140, unF config_chosen_L2_fs x, unH config_chosen_L2_bs y⟩ k = config_chosen_L2_F N x y k := fun x y k hk =>
  iter_link (S := (Bool) × (Int) × Unit) (config_chosen_h 4) _ (execL (config_chosen_LP N) (config_chosen_E N) (cAt (bodyOf Tryd.f86) [true, true, true, true, true, true, true, true, false, true, false, false, true, true, false, false, true, true, true, false, true, false, false]) 4) (resD (config_chosen_E N) Tryd.f86 (config_chosen_sg fun x _ => config_chosen N x.1 x.2.1 x.2.2.1 x.2.2.2.1) config_chosen_pk) (fun st k hk => execL_eq _ _ N _ (cAt (bodyOf Tryd.f86) [true, true, true, true, true, true, true, true, false, true, false, false, true, true, false, false, true, true, true, false, true, false, false]) 4 (show LoopsOk (config_chosen_LP N) (config_chosen_E N) N (resD (config_chosen_E N) Tryd.f86 (config_chosen_sg fun x _ => config_chosen N x.1 x.2.1 x.2.2.1 x.2.2.2.1) config_chosen_pk) [] from trivial) st k hk) (fun s => config_chosen_L2_hd x.2.2.2.1 x.2.2.2.2.1 x.2.2.2.2.2.2.1 x.2.2.2.2.2.2.2.1 x.2.2.2.2.2.2.2.2.2.1 x.2.2.2.2.2.2.2.2.2.2.1 x.2.2.2.2.2.2.2.2.2.2.2.1 x.2.2.2.2.2.2.2.2.2.2.2.2.2.1 x.2.2.2.2.2.2.2.2.2.2.2.2.2.2.1 x.2.2.2.2.2.2.2.2.2.2.2.2.2.2.2.1 x.2.2.2.2.2.2.2.2.2.2.2.2.2.2.2.2.1 x.2.2.2.2.2.2.2.2.2.2.2.2.2.2.2.2.2.1 x.2.2.2.2.2.2.2.2.2.2.2.2.2.2.2.2.2.2.1 y.1.1 y.1.2.1 y.1.2.2.1 y.2.1 y.2.2.1 s.1 s.2.1) k hk
    (fun self s => config_chosen_L2T N x.2.2.2.2.1 x.2.2.2.2.2.2.2.2.2.2.2.2.2.2.2.2.2.2.1 y.2.2.1 (fun o2_20 => k (.exit 4) (config_chosen_L2_tl4 x.2.2.2.1 x.2.2.2.2.1 x.2.2.2.2.2.2.1 x.2.2.2.2.2.2.2.1 x.2.2.2.2.2.2.2.2.2.1 x.2.2.2.2.2.2.2.2.2.2.1 x.2.2.2.2.2.2.2.2.2.2.2.1 x.2.2.2.2.2.2.2.2.2.2.2.2.2.1 x.2.2.2.2.2.2.2.2.2.2.2.2.2.2.1 x.2.2.2.2.2.2.2.2.2.2.2.2.2.2.2.1 x.2.2.2.2.2.2.2.2.2.2.2.2.2.2.2.2.1 x.2.2.2.2.2.2.2.2.2.2.2.2.2.2.2.2.2.1 x.2.2.2.2.2.2.2.2.2.2.2.2.2.2.2.2.2.2.1 y.1.1 y.1.2.1 y.1.2.2.1 y.2.1 y.2.2.1 o2_20)) (fun s20 s104 => self (s20, s104, ())) s.1 s.2.1) (fun n s => config_chosen_L2 N x.2.2.2.2.1 x.2.2.2.2.2.2.2.2.2.2.2.2.2.2.2.2.2.2.1 y.2.2.1 (fun o2_20 => k (.exit 4) (config_chosen_L2_tl4 x.2.2.2.1 x.2.2.2.2.1 x.2.2.2.2.2.2.1 x.2.2.2.2.2.2.2.1 x.2.2.2.2.2.2.2.2.2.1 x.2.2.2.2.2.2.2.2.2.2.1 x.2.2.2.2.2.2.2.2.2.2.2.1 x.2.2.2.2.2.2.2.2.2.2.2.2.2.1 x.2.2.2.2.2.2.2.2.2.2.2.2.2.2.1 x.2.2.2.2.2.2.2.2.2.2.2.2.2.2.2.1 x.2.2.2.2.2.2.2.2.2.2.2.2.2.2.2.2.1 x.2.2.2.2.2.2.2.2.2.2.2.2.2.2.2.2.2.1 x.2.2.2.2.2.2.2.2.2.2.2.2.2.2.2.2.2.2.1 y.1.1 y.1.2.1 y.1.2.2.1 y.2.1 y.2.2.1 o2_20)) n s.1 s.2.1) (fun _ => rfl) (fun _ _ => rfl)
    (fun I s => config_chosen_L2_step N x.2.2.2.1 x.2.2.2.2.1 x.2.2.2.2.2.2.1 x.2.2.2.2.2.2.2.1 x.2.2.2.2.2.2.2.2.2.1 x.2.2.2.2.2.2.2.2.2.2.1 x.2.2.2.2.2.2.2.2.2.2.2.1 x.2.2.2.2.2.2.2.2.2.2.2.2.2.1 x.2.2.2.2.2.2.2.2.2.2.2.2.2.2.1 x.2.2.2.2.2.2.2.2.2.2.2.2.2.2.2.1 x.2.2.2.2.2.2.2.2.2.2.2.2.2.2.2.2.1 x.2.2.2.2.2.2.2.2.2.2.2.2.2.2.2.2.2.1 x.2.2.2.2.2.2.2.2.2.2.2.2.2.2.2.2.2.2.1 y.1.1 y.1.2.1 y.1.2.2.1 y.2.1 y.2.2.1 (fun j => k (.exit j)) I s.1 s.2.1) N (x.2.2.2.2.2.1, x.2.2.2.2.2.2.2.2.2.2.2.2.2.2.2.2.2.2.2.1, ())
theorem config_chosen_L3_step (N : Nat) (c18 : Bool) (s86 : Int) (c85 : Int) (c86_5 : Int) (c103_6 : Int) (c1008_0_1 : Int) (c1008_1_2 : Str) (c1008_2_3 : Int) (o0_w1011 : List (Str × GValue)) (o0_w1012 : List (Str × List (Str × Str) × List (Str × Str))) (KX : Nat → St → Option (GValue × Int)) (I : St → Option (GValue × Int)) (s20_4 : Bool) (s104_7 : Int) :
    execL (config_chosen_LP N) (config_chosen_E N) (cAt (bodyOf Tryd.f86) [true, true, true, true, true, true, true, true, false, true, false, false, true, true, false, false, true, true, true, false, true, false, false]) 4 (config_chosen_L3_hd c18 s86 c85 c86_5 c103_6 c1008_0_1 c1008_1_2 c1008_2_3 o0_w1011 o0_w1012 s20_4 s104_7) (roundK (config_chosen_h 4) I KX (resD (config_chosen_E N) Tryd.f86 (config_chosen_sg fun x _ => config_chosen N x.1 x.2.1 x.2.2.1 x.2.2.2.1) config_chosen_pk)) = config_chosen_L3T N s86 c103_6 o0_w1012 (fun o3_20 => KX 4 (config_chosen_L3_tl4 c18 s86 c85 c86_5 c103_6 c1008_0_1 c1008_1_2 c1008_2_3 o0_w1011 o0_w1012 o3_20)) (fun s20_4 s104_7 => I (config_chosen_L3_hd c18 s86 c85 c86_5 c103_6 c1008_0_1 c1008_1_2 c1008_2_3 o0_w1011 o0_w1012 s20_4 s104_7)) s20_4 s104_7 := by kernel_rfl
theorem config_chosen_L3_ok (N : Nat) : ∀ x y k, (∀ st, k .ret st = (resD (config_chosen_E N) Tryd.f86 (config_chosen_sg fun x _ => config_chosen N x.1 x.2.1 x.2.2.1 x.2.2.2.1) config_chosen_pk) st) → iter (config_chosen_h 4) (exec (config_chosen_E N) N (cAt (bodyOf Tryd.f86) [true, true, true, true, true, true, true, true, false, true, false, false, true, true, false, false, true, true, true, false, true, false, false]) 4) N ⟨140, unF config_chosen_L3_fs x, unH config_chosen_L3_bs y⟩ k = config_chosen_L3_F N x y k := fun x y k hk =>
  iter_link (S := (Bool) × (Int) × Unit) (config_chosen_h 4) _ (execL (config_chosen_LP N) (config_chosen_E N) (cAt (bodyOf Tryd.f86) [true, true, true, true, true, true, true, true, false, true, false, false, true, true, false, false, true, true, true, false, true, false, false]) 4) (resD (config_chosen_E N) Tryd.f86 (config_chosen_sg fun x _ => config_chosen N x.1 x.2.1 x.2.2.1 x.2.2.2.1) config_chosen_pk) (fun st k hk => execL_eq _ _ N _ (cAt (bodyOf Tryd.f86) [true, true, true, true, true, true, true, true, false, true, false, false, true, true, false, false, true, true, true, false, true, false, false]) 4 (show LoopsOk (config_chosen_LP N) (config_chosen_E N) N (resD (config_chosen_E N) Tryd.f86 (config_chosen_sg fun x _ => config_chosen N x.1 x.2.1 x.2.2.1 x.2.2.2.1) config_chosen_pk) [] from trivial) st k hk) (fun s => config_chosen_L3_hd x.2.2.2.1 x.2.2.2.2.1 x.2.2.2.2.2.2.1 x.2.2.2.2.2.2.2.1 x.2.2.2.2.2.2.2.2.2.2.2.2.2.2.2.2.2.2.1 y.1.1 y.1.2.1 y.1.2.2.1 y.2.1 y.2.2.1 s.1 s.2.1) k hk
    (fun self s => config_chosen_L3T N x.2.2.2.2.1 x.2.2.2.2.2.2.2.2.2.2.2.2.2.2.2.2.2.2.1 y.2.2.1 (fun o3_20 => k (.exit 4) (config_chosen_L3_tl4 x.2.2.2.1 x.2.2.2.2.1 x.2.2.2.2.2.2.1 x.2.2.2.2.2.2.2.1 x.2.2.2.2.2.2.2.2.2.2.2.2.2.2.2.2.2.2.1 y.1.1 y.1.2.1 y.1.2.2.1 y.2.1 y.2.2.1 o3_20)) (fun s20_4 s104_7 => self (s20_4, s104_7, ())) s.1 s.2.1) (fun n s => config_chosen_L3 N x.2.2.2.2.1 x.2.2.2.2.2.2.2.2.2.2.2.2.2.2.2.2.2.2.1 y.2.2.1 (fun o3_20 => k (.exit 4) (config_chosen_L3_tl4 x.2.2.2.1 x.2.2.2.2.1 x.2.2.2.2.2.2.1 x.2.2.2.2.2.2.2.1 x.2.2.2.2.2.2.2.2.2.2.2.2.2.2.2.2.2.2.1 y.1.1 y.1.2.1 y.1.2.2.1 y.2.1 y.2.2.1 o3_20)) n s.1 s.2.1) (fun _ => rfl) (fun _ _ => rfl)
    (fun I s => config_chosen_L3_step N x.2.2.2.1 x.2.2.2.2.1 x.2.2.2.2.2.2.1 x.2.2.2.2.2.2.2.1 x.2.2.2.2.2.2.2.2.2.2.2.2.2.2.2.2.2.2.1 y.1.1 y.1.2.1 y.1.2.2.1 y.2.1 y.2.2.1 (fun j => k (.exit j)) I s.1 s.2.1) N (x.2.2.2.2.2.1, x.2.2.2.2.2.2.2.2.2.2.2.2.2.2.2.2.2.2.2.1, ())
theorem config_chosen_lp4 (N : Nat) : ∀ st k, (∀ st, k .ret st = (resD (config_chosen_E N) Tryd.f86 (config_chosen_sg fun x _ => config_chosen N x.1 x.2.1 x.2.2.1 x.2.2.2.1) config_chosen_pk) st) → config_chosen_LP N 4 (cAt (bodyOf Tryd.f86) [true, true, true, true, true, true, true, true, false, true, false, false, true, true, false, false, true, true, true, false, true, false, false]) st k = iter (Env.hint (config_chosen_E N) 4) (exec (config_chosen_E N) N (cAt (bodyOf Tryd.f86) [true, true, true, true, true, true, true, true, false, true, false, false, true, true, false, false, true, true, true, false, true, false, false]) 4) N st k := fun st k hk => LPc_eq 140 config_chosen_L3_fs config_chosen_L3_bs _ _ (resD (config_chosen_E N) Tryd.f86 (config_chosen_sg fun x _ => config_chosen N x.1 x.2.1 x.2.2.1 x.2.2.2.1) config_chosen_pk) (config_chosen_L3_ok N) _ st k hk (LPc_eq 140 config_chosen_L2_fs config_chosen_L2_bs _ _ (resD (config_chosen_E N) Tryd.f86 (config_chosen_sg fun x _ => config_chosen N x.1 x.2.1 x.2.2.1 x.2.2.2.1) config_chosen_pk) (config_chosen_L2_ok N) _ st k hk (rfl))
theorem config_chosen_L1_step (N : Nat) (c85 : Int) (c1008_0_1 : Int) (c1008_1_2 : Str) (c1008_2_3 : Int) (o0_w1011 : List (Str × GValue)) (o0_w1012 : List (Str × List (Str × Str) × List (Str × Str))) (KX : Nat → St → Option (GValue × Int)) (I : St → Option (GValue × Int)) (s18 : Bool) (s86 : Int) :
    execL (config_chosen_LP N) (config_chosen_E N) (cAt (bodyOf Tryd.f86) [true, true, true, true, true, true, true, true, false, true, false, false]) 2 (config_chosen_L1_hd c85 c1008_0_1 c1008_1_2 c1008_2_3 o0_w1011 o0_w1012 s18 s86) (roundK (config_chosen_h 2) I KX (resD (config_chosen_E N) Tryd.f86 (config_chosen_sg fun x _ => config_chosen N x.1 x.2.1 x.2.2.1 x.2.2.2.1) config_chosen_pk)) = config_chosen_L1T N c85 o0_w1011 o0_w1012 (fun o1_18 => KX 2 (config_chosen_L1_tl2 c85 c1008_0_1 c1008_1_2 c1008_2_3 o0_w1011 o0_w1012 o1_18)) (fun s18 s86 => I (config_chosen_L1_hd c85 c1008_0_1 c1008_1_2 c1008_2_3 o0_w1011 o0_w1012 s18 s86)) s18 s86 := by kernel_rfl
theorem config_chosen_L1_ok (N : Nat) : ∀ x y k, (∀ st, k .ret st = (resD (config_chosen_E N) Tryd.f86 (config_chosen_sg fun x _ => config_chosen N x.1 x.2.1 x.2.2.1 x.2.2.2.1) config_chosen_pk) st) → iter (config_chosen_h 2) (exec (config_chosen_E N) N (cAt (bodyOf Tryd.f86) [true, true, true, true, true, true, true, true, false, true, false, false]) 2) N ⟨140, unF config_chosen_L1_fs x, unH config_chosen_L1_bs y⟩ k = config_chosen_L1_F N x y k := fun x y k hk =>
  iter_link (S := (Bool) × (Int) × Unit) (config_chosen_h 2) _ (execL (config_chosen_LP N) (config_chosen_E N) (cAt (bodyOf Tryd.f86) [true, true, true, true, true, true, true, true, false, true, false, false]) 2) (resD (config_chosen_E N) Tryd.f86 (config_chosen_sg fun x _ => config_chosen N x.1 x.2.1 x.2.2.1 x.2.2.2.1) config_chosen_pk) (fun st k hk => execL_eq _ _ N _ (cAt (bodyOf Tryd.f86) [true, true, true, true, true, true, true, true, false, true, false, false]) 2 (show LoopsOk (config_chosen_LP N) (config_chosen_E N) N (resD (config_chosen_E N) Tryd.f86 (config_chosen_sg fun x _ => config_chosen N x.1 x.2.1 x.2.2.1 x.2.2.2.1) config_chosen_pk) [(4, (cAt (bodyOf Tryd.f86) [true, true, true, true, true, true, true, true, false, true, false, false, true, true, false, false, true, true, true, false, true, false, false]))] from ⟨config_chosen_lp4 N, trivial⟩) st k hk) (fun s => config_chosen_L1_hd x.2.2.2.2.1 y.1.1 y.1.2.1 y.1.2.2.1 y.2.1 y.2.2.1 s.1 s.2.1) k hk
    (fun self s => config_chosen_L1T N x.2.2.2.2.1 y.2.1 y.2.2.1 (fun o1_18 => k (.exit 2) (config_chosen_L1_tl2 x.2.2.2.2.1 y.1.1 y.1.2.1 y.1.2.2.1 y.2.1 y.2.2.1 o1_18)) (fun s18 s86 => self (s18, s86, ())) s.1 s.2.1) (fun n s => config_chosen_L1 N x.2.2.2.2.1 y.2.1 y.2.2.1 (fun o1_18 => k (.exit 2) (config_chosen_L1_tl2 x.2.2.2.2.1 y.1.1 y.1.2.1 y.1.2.2.1 y.2.1 y.2.2.1 o1_18)) n s.1 s.2.1) (fun _ => rfl) (fun _ _ => rfl)
    (fun I s => config_chosen_L1_step N x.2.2.2.2.1 y.1.1 y.1.2.1 y.1.2.2.1 y.2.1 y.2.2.1 (fun j => k (.exit j)) I s.1 s.2.1) N (x.2.2.2.1, x.2.2.2.2.2.1, ())
theorem config_chosen_lp2 (N : Nat) : ∀ st k, (∀ st, k .ret st = (resD (config_chosen_E N) Tryd.f86 (config_chosen_sg fun x _ => config_chosen N x.1 x.2.1 x.2.2.1 x.2.2.2.1) config_chosen_pk) st) → config_chosen_LP N 2 (cAt (bodyOf Tryd.f86) [true, true, true, true, true, true, true, true, false, true, false, false]) st k = iter (Env.hint (config_chosen_E N) 2) (exec (config_chosen_E N) N (cAt (bodyOf Tryd.f86) [true, true, true, true, true, true, true, true, false, true, false, false]) 2) N st k := fun st k hk => LPc_eq 140 config_chosen_L1_fs config_chosen_L1_bs _ _ (resD (config_chosen_E N) Tryd.f86 (config_chosen_sg fun x _ => config_chosen N x.1 x.2.1 x.2.2.1 x.2.2.2.1) config_chosen_pk) (config_chosen_L1_ok N) _ st k hk (rfl)
theorem config_chosen_L0_step (N : Nat) (x2 : List (Str × Str)) (c36 : List (Str × GValue)) (c37 : Int) (c1004_0 : List (Str × List Str)) (c1004_1 : List (Str × List (Str × Str) × List (Str × Str))) (c1004_2 : List (Str × List (Str × Str))) (c1004_3 : List (Str × Str × List (Str × Str) × List (Str × Str))) (c1004_4 : List (Str × List (Str × Str) × List Str)) (c1005_0 : Int) (c1005_1 : Str) (c1005_2 : Int) (c1005_3 : List Str) (c1005_4 : List (Str × GValue)) (c1007_0 : Str) (c1007_1 : List (Str × Str)) (c1008_0 : Int) (c1008_1 : Str) (c1008_2 : Int) (KX : Nat → St → Option (GValue × Int)) (I : St → Option (GValue × Int)) (s38 : Int) (w1011 : List (Str × GValue)) (w1012 : List (Str × List (Str × Str) × List (Str × Str))) :
    execL (config_chosen_LP N) (config_chosen_E N) (cAt (bodyOf Tryd.f86) [true, true, true, true, true, false, true, false, false]) 0 (config_chosen_L0_hd x2 c36 c37 c1004_0 c1004_1 c1004_2 c1004_3 c1004_4 c1005_0 c1005_1 c1005_2 c1005_3 c1005_4 c1007_0 c1007_1 c1008_0 c1008_1 c1008_2 s38 w1011 w1012) (roundK (config_chosen_h 0) I KX (resD (config_chosen_E N) Tryd.f86 (config_chosen_sg fun x _ => config_chosen N x.1 x.2.1 x.2.2.1 x.2.2.2.1) config_chosen_pk)) = config_chosen_L0T N x2 c36 c37 c1004_0 c1004_1 c1007_0 c1007_1 (fun o0_w1011 o0_w1012 => KX 0 (config_chosen_L0_tl0 x2 c36 c37 c1004_0 c1004_1 c1004_2 c1004_3 c1004_4 c1005_0 c1005_1 c1005_2 c1005_3 c1005_4 c1007_0 c1007_1 c1008_0 c1008_1 c1008_2 o0_w1011 o0_w1012)) (fun s38 w1011 w1012 => I (config_chosen_L0_hd x2 c36 c37 c1004_0 c1004_1 c1004_2 c1004_3 c1004_4 c1005_0 c1005_1 c1005_2 c1005_3 c1005_4 c1007_0 c1007_1 c1008_0 c1008_1 c1008_2 s38 w1011 w1012)) s38 w1011 w1012 := by kernel_rfl
theorem config_chosen_L0_ok (N : Nat) : ∀ x y k, (∀ st, k .ret st = (resD (config_chosen_E N) Tryd.f86 (config_chosen_sg fun x _ => config_chosen N x.1 x.2.1 x.2.2.1 x.2.2.2.1) config_chosen_pk) st) → iter (config_chosen_h 0) (exec (config_chosen_E N) N (cAt (bodyOf Tryd.f86) [true, true, true, true, true, false, true, false, false]) 0) N ⟨140, unF config_chosen_L0_fs x, unH config_chosen_L0_bs y⟩ k = config_chosen_L0_F N x y k := fun x y k hk =>
  iter_link (S := (Int) × (List (Str × GValue)) × (List (Str × List (Str × Str) × List (Str × Str))) × Unit) (config_chosen_h 0) _ (execL (config_chosen_LP N) (config_chosen_E N) (cAt (bodyOf Tryd.f86) [true, true, true, true, true, false, true, false, false]) 0) (resD (config_chosen_E N) Tryd.f86 (config_chosen_sg fun x _ => config_chosen N x.1 x.2.1 x.2.2.1 x.2.2.2.1) config_chosen_pk) (fun st k hk => execL_eq _ _ N _ (cAt (bodyOf Tryd.f86) [true, true, true, true, true, false, true, false, false]) 0 (show LoopsOk (config_chosen_LP N) (config_chosen_E N) N (resD (config_chosen_E N) Tryd.f86 (config_chosen_sg fun x _ => config_chosen N x.1 x.2.1 x.2.2.1 x.2.2.2.1) config_chosen_pk) [] from trivial) st k hk) (fun s => config_chosen_L0_hd x.1 x.2.2.2.2.2.2.2.1 x.2.2.2.2.2.2.2.2.1 y.1.1 y.1.2.1 y.1.2.2.1 y.1.2.2.2.1 y.1.2.2.2.2.1 y.2.1.1 y.2.1.2.1 y.2.1.2.2.1 y.2.1.2.2.2.1 y.2.1.2.2.2.2.1 y.2.2.1.1 y.2.2.1.2.1 y.2.2.2.1.1 y.2.2.2.1.2.1 y.2.2.2.1.2.2.1 s.1 s.2.1 s.2.2.1) k hk
    (fun self s => config_chosen_L0T N x.1 x.2.2.2.2.2.2.2.1 x.2.2.2.2.2.2.2.2.1 y.1.1 y.1.2.1 y.2.2.1.1 y.2.2.1.2.1 (fun o0_w1011 o0_w1012 => k (.exit 0) (config_chosen_L0_tl0 x.1 x.2.2.2.2.2.2.2.1 x.2.2.2.2.2.2.2.2.1 y.1.1 y.1.2.1 y.1.2.2.1 y.1.2.2.2.1 y.1.2.2.2.2.1 y.2.1.1 y.2.1.2.1 y.2.1.2.2.1 y.2.1.2.2.2.1 y.2.1.2.2.2.2.1 y.2.2.1.1 y.2.2.1.2.1 y.2.2.2.1.1 y.2.2.2.1.2.1 y.2.2.2.1.2.2.1 o0_w1011 o0_w1012)) (fun s38 w1011 w1012 => self (s38, w1011, w1012, ())) s.1 s.2.1 s.2.2.1) (fun n s => config_chosen_L0 N x.1 x.2.2.2.2.2.2.2.1 x.2.2.2.2.2.2.2.2.1 y.1.1 y.1.2.1 y.2.2.1.1 y.2.2.1.2.1 (fun o0_w1011 o0_w1012 => k (.exit 0) (config_chosen_L0_tl0 x.1 x.2.2.2.2.2.2.2.1 x.2.2.2.2.2.2.2.2.1 y.1.1 y.1.2.1 y.1.2.2.1 y.1.2.2.2.1 y.1.2.2.2.2.1 y.2.1.1 y.2.1.2.1 y.2.1.2.2.1 y.2.1.2.2.2.1 y.2.1.2.2.2.2.1 y.2.2.1.1 y.2.2.1.2.1 y.2.2.2.1.1 y.2.2.2.1.2.1 y.2.2.2.1.2.2.1 o0_w1011 o0_w1012)) n s.1 s.2.1 s.2.2.1) (fun _ => rfl) (fun _ _ => rfl)
    (fun I s => config_chosen_L0_step N x.1 x.2.2.2.2.2.2.2.1 x.2.2.2.2.2.2.2.2.1 y.1.1 y.1.2.1 y.1.2.2.1 y.1.2.2.2.1 y.1.2.2.2.2.1 y.2.1.1 y.2.1.2.1 y.2.1.2.2.1 y.2.1.2.2.2.1 y.2.1.2.2.2.2.1 y.2.2.1.1 y.2.2.1.2.1 y.2.2.2.1.1 y.2.2.2.1.2.1 y.2.2.2.1.2.2.1 (fun j => k (.exit j)) I s.1 s.2.1 s.2.2.1) N (x.2.2.2.2.2.2.2.2.2.1, y.2.2.2.2.1, y.2.2.2.2.2.1, ())
theorem config_chosen_lp0 (N : Nat) : ∀ st k, (∀ st, k .ret st = (resD (config_chosen_E N) Tryd.f86 (config_chosen_sg fun x _ => config_chosen N x.1 x.2.1 x.2.2.1 x.2.2.2.1) config_chosen_pk) st) → config_chosen_LP N 0 (cAt (bodyOf Tryd.f86) [true, true, true, true, true, false, true, false, false]) st k = iter (Env.hint (config_chosen_E N) 0) (exec (config_chosen_E N) N (cAt (bodyOf Tryd.f86) [true, true, true, true, true, false, true, false, false]) 0) N st k := fun st k hk => LPc_eq 140 config_chosen_L0_fs config_chosen_L0_bs _ _ (resD (config_chosen_E N) Tryd.f86 (config_chosen_sg fun x _ => config_chosen N x.1 x.2.1 x.2.2.1 x.2.2.2.1) config_chosen_pk) (config_chosen_L0_ok N) _ st k hk (rfl)
theorem config_chosen_core (N : Nat) (x : SV [.v (.pr (.sl (.pr .str (.sl .str))) (.pr (.sl (.pr .str (.pr (.sl (.pr .str .str)) (.sl (.pr .str .str))))) (.pr (.sl (.pr .str (.sl (.pr .str .str)))) (.pr (.sl (.pr .str (.pr .str (.pr (.sl (.pr .str .str)) (.sl (.pr .str .str)))))) (.sl (.pr .str (.pr (.sl (.pr .str .str)) (.sl .str)))))))), .v (.rc .value), .v (.sl (.pr .str .str)), .v (.pr .str (.sl (.pr .str .str)))]) (y : BV []) : runL (config_chosen_E N) Tryd.f86 (config_chosen_sg fun x _ => config_chosen N x.1 x.2.1 x.2.2.1 x.2.2.2.1) config_chosen_pk (config_chosen_LP N) x y = config_chosen N x.1 x.2.1 x.2.2.1 x.2.2.2.1 := by kernel_rfl
theorem config_chosen_sound (N : Nat) : Sound Tryd.prog GW B0G 86 (config_chosen_sg fun x _ => config_chosen N x.1 x.2.1 x.2.2.1 x.2.2.2.1) :=
  runD_sound (mkE_ok config_chosen_h (config_chosen_fn N) _ _ (config_chosen_fn_ok N)) Tryd.func86 rfl Tryd.call86 (config_chosen_sg fun x _ => config_chosen N x.1 x.2.1 x.2.2.1 x.2.2.2.1) config_chosen_pk (fun _ _ => rfl) N (fun x y _ h => ((runL_eq (config_chosen_E N) N Tryd.f86 (config_chosen_sg fun x _ => config_chosen N x.1 x.2.1 x.2.2.1 x.2.2.2.1) config_chosen_pk (config_chosen_LP N) (show LoopsOk (config_chosen_LP N) (config_chosen_E N) N (resD (config_chosen_E N) Tryd.f86 (config_chosen_sg fun x _ => config_chosen N x.1 x.2.1 x.2.2.1 x.2.2.2.1) config_chosen_pk) [(0, (cAt (bodyOf Tryd.f86) [true, true, true, true, true, false, true, false, false])), (2, (cAt (bodyOf Tryd.f86) [true, true, true, true, true, true, true, true, false, true, false, false])), (4, (cAt (bodyOf Tryd.f86) [true, true, true, true, true, true, true, true, false, true, false, false, true, true, false, false, true, true, true, false, true, false, false]))] from ⟨config_chosen_lp0 N, config_chosen_lp2 N, config_chosen_lp4 N, trivial⟩) x y).trans (config_chosen_core N x y)).trans h)
def config_Chosen (N : Nat) (x0 : List (Str × List Str) × List (Str × List (Str × Str) × List (Str × Str)) × List (Str × List (Str × Str)) × List (Str × Str × List (Str × Str) × List (Str × Str)) × List (Str × List (Str × Str) × List Str)) (x1 : GValue) (x2 : List (Str × Str)) (x3 : Str × List (Str × Str)) : Option (GValue × Int) :=
  bnd (config_checkChoice N x0 x2 x3) fun t15 =>
  br (t15 != (0 : Int))
    (some (GValue.mk (0 : Int) ([] : Str) (0 : Int) ([] : List Str) ([] : List (Str × GValue)), t15))
    (bnd (script_CheckValue N (script_checkCases N N) (GValue.mk x1.kind x1.text x1.number x1.list x1.cases)) fun t21 =>
    br (t21 != (0 : Int))
      (some (GValue.mk (0 : Int) ([] : Str) (0 : Int) ([] : List Str) ([] : List (Str × GValue)), t21))
      (bnd (config_chosen N x0 (GValue.mk x1.kind x1.text x1.number x1.list x1.cases) x2 x3) fun t30 =>
      some (GValue.mk t30.1.kind t30.1.text t30.1.number t30.1.list t30.1.cases, t30.2)))
abbrev config_Chosen_sg (f : SV [.v (.pr (.sl (.pr .str (.sl .str))) (.pr (.sl (.pr .str (.pr (.sl (.pr .str .str)) (.sl (.pr .str .str))))) (.pr (.sl (.pr .str (.sl (.pr .str .str)))) (.pr (.sl (.pr .str (.pr .str (.pr (.sl (.pr .str .str)) (.sl (.pr .str .str)))))) (.sl (.pr .str (.pr (.sl (.pr .str .str)) (.sl .str)))))))), .v (.rc .value), .v (.sl (.pr .str .str)), .v (.pr .str (.sl (.pr .str .str)))] → BV [] → Option (GValue × Int)) : AF := { ps := [.v (.pr (.sl (.pr .str (.sl .str))) (.pr (.sl (.pr .str (.pr (.sl (.pr .str .str)) (.sl (.pr .str .str))))) (.pr (.sl (.pr .str (.sl (.pr .str .str)))) (.pr (.sl (.pr .str (.pr .str (.pr (.sl (.pr .str .str)) (.sl (.pr .str .str)))))) (.sl (.pr .str (.pr (.sl (.pr .str .str)) (.sl .str)))))))), .v (.rc .value), .v (.sl (.pr .str .str)), .v (.pr .str (.sl (.pr .str .str)))], bs := [], rs := [.v (.rc .value), .v (.int .i64)], cs := [], R := GValue × Int, out := fun z => ((z.1, z.2, ()), ()), f := f }
abbrev config_Chosen_pk : SV [.v (.rc .value), .v (.int .i64)] → BV [] → (GValue × Int) := fun x _ => (x.1, x.2.1)
def config_Chosen_fn (N : Nat) : FuncId → Option Tmp → Option AF := fun f _ =>
  match f with
    | 84 => some (config_checkChoice_sg fun x _ => config_checkChoice N x.1 x.2.1 x.2.2.1)
    | 85 => some (script_CheckValue_sg fun x _ => script_CheckValue N (script_checkCases N N) x.1)
    | 86 => some (config_chosen_sg fun x _ => config_chosen N x.1 x.2.1 x.2.2.1 x.2.2.2.1)
    | _ => none
theorem config_Chosen_fn_ok (N : Nat) : ∀ f q F, config_Chosen_fn N f q = some F → Sound Tryd.prog GW B0G f F := by
  intro f q F h
  unfold config_Chosen_fn at h
  split at h
  · cases h; exact config_checkChoice_sound N
  · cases h; exact script_CheckValue_sound N (script_checkCases N N) (script_checkCases_sound N N)
  · cases h; exact config_chosen_sound N
  · cases h
def config_Chosen_h : Nat → Hint := fun i =>
  match i with
  | _ => ⟨[], [], [], [], [], []⟩
abbrev config_Chosen_E (N : Nat) : Env := mkE config_Chosen_h (config_Chosen_fn N) (fun _ => false) (fun _ => false)
noncomputable def config_Chosen_LP (N : Nat) : Nat → Code → St → (Ex → St → Option (GValue × Int)) → Option (GValue × Int) := fun i c =>
  match i with
  | i => fun st k => iter (config_Chosen_h i) (exec (config_Chosen_E N) N c i) N st k
theorem config_Chosen_core (N : Nat) (x : SV [.v (.pr (.sl (.pr .str (.sl .str))) (.pr (.sl (.pr .str (.pr (.sl (.pr .str .str)) (.sl (.pr .str .str))))) (.pr (.sl (.pr .str (.sl (.pr .str .str)))) (.pr (.sl (.pr .str (.pr .str (.pr (.sl (.pr .str .str)) (.sl (.pr .str .str)))))) (.sl (.pr .str (.pr (.sl (.pr .str .str)) (.sl .str)))))))), .v (.rc .value), .v (.sl (.pr .str .str)), .v (.pr .str (.sl (.pr .str .str)))]) (y : BV []) : runL (config_Chosen_E N) Tryd.f46 (config_Chosen_sg fun x _ => config_Chosen N x.1 x.2.1 x.2.2.1 x.2.2.2.1) config_Chosen_pk (config_Chosen_LP N) x y = config_Chosen N x.1 x.2.1 x.2.2.1 x.2.2.2.1 := by kernel_rfl
theorem config_Chosen_sound (N : Nat) : Sound Tryd.prog GW B0G 46 (config_Chosen_sg fun x _ => config_Chosen N x.1 x.2.1 x.2.2.1 x.2.2.2.1) :=
  runD_sound (mkE_ok config_Chosen_h (config_Chosen_fn N) _ _ (config_Chosen_fn_ok N)) Tryd.func46 rfl Tryd.call46 (config_Chosen_sg fun x _ => config_Chosen N x.1 x.2.1 x.2.2.1 x.2.2.2.1) config_Chosen_pk (fun _ _ => rfl) N (fun x y _ h => ((runL_eq (config_Chosen_E N) N Tryd.f46 (config_Chosen_sg fun x _ => config_Chosen N x.1 x.2.1 x.2.2.1 x.2.2.2.1) config_Chosen_pk (config_Chosen_LP N) (show LoopsOk (config_Chosen_LP N) (config_Chosen_E N) N (resD (config_Chosen_E N) Tryd.f46 (config_Chosen_sg fun x _ => config_Chosen N x.1 x.2.1 x.2.2.1 x.2.2.2.1) config_Chosen_pk) [] from trivial) x y).trans (config_Chosen_core N x y)).trans h)
abbrev ref2_SameValue_sg (f : SV [.v (.rc .value), .v (.rc .value)] → BV [] → Option (Bool)) : AF := { ps := [.v (.rc .value), .v (.rc .value)], bs := [], rs := [.v .bool], cs := [], R := Bool, out := fun z => ((z, ()), ()), f := f }
def ref2_SameValue_b_L0T (_N : Nat) (r_ref2_SameValue : GValue → GValue → Option (Bool)) (c44 : Int) (c1002_4 : List (Str × GValue)) (c1003_4 : List (Str × GValue)) (k0 : Option Bool) (self : Int → Option Bool) (s45 : Int) : Option Bool :=
  br (decide (s45 < c44))
    (bnd (geti c1002_4 s45) fun t51 =>
    bnd (geti c1003_4 s45) fun t57 =>
    br (!(t51.1 == t57.1))
      (some false)
      (bnd (geti c1002_4 s45) fun t65 =>
      bnd (geti c1003_4 s45) fun t71 =>
      bnd (r_ref2_SameValue t65.2 t71.2) fun t74 =>
      br (!t74)
        (some false)
        (self (IntKind.i64.wrap (s45 + (1 : Int))))))
    (k0)
def ref2_SameValue_b_L0 (N : Nat) (r_ref2_SameValue : GValue → GValue → Option (Bool)) (c44 : Int) (c1002_4 : List (Str × GValue)) (c1003_4 : List (Str × GValue)) (k0 : Option Bool) : Nat → Int → Option Bool
  | 0, _ => none
  | n + 1, s45 => ref2_SameValue_b_L0T N r_ref2_SameValue c44 c1002_4 c1003_4 k0 (ref2_SameValue_b_L0 N r_ref2_SameValue c44 c1002_4 c1003_4 k0 n) s45
def ref2_SameValue_b (N : Nat) (r_ref2_SameValue : GValue → GValue → Option (Bool)) (x0 : GValue) (x1 : GValue) : Option Bool :=
  br (x0.kind != x1.kind)
    (some false)
    (br (!(x0.text == x1.text))
      (some false)
      (br (x0.number != x1.number)
        (some false)
        (bnd (slices_Equal_string_string N x0.list x1.list) fun t30 =>
        br (!t30)
          (some false)
          (br ((x0.cases.length : Int) != (x1.cases.length : Int))
            (some false)
            (ref2_SameValue_b_L0 N r_ref2_SameValue (x0.cases.length : Int) x0.cases x1.cases (some true) N (0 : Int))))))
abbrev ref2_SameValue_b_sg (f : SV [.v (.rc .value), .v (.rc .value)] → BV [] → Option (Bool)) : AF := { ps := [.v (.rc .value), .v (.rc .value)], bs := [], rs := [.v .bool], cs := [], R := Bool, out := fun z => ((z, ()), ()), f := f }
abbrev ref2_SameValue_b_pk : SV [.v .bool] → BV [] → Bool := fun x _ => x.1
def ref2_SameValue_b_fn (N : Nat) (r_ref2_SameValue : GValue → GValue → Option (Bool)) : FuncId → Option Tmp → Option AF := fun f _ =>
  match f with
    | 31 => some (slices_Equal_string_string_sg fun x _ => slices_Equal_string_string N x.1 x.2.1)
    | 47 => some (ref2_SameValue_sg fun x _ => r_ref2_SameValue x.1 x.2.1)
    | _ => none
theorem ref2_SameValue_b_fn_ok (N : Nat) (r_ref2_SameValue : GValue → GValue → Option (Bool)) (h_ref2_SameValue : Sound Tryd.prog GW B0G 47 (ref2_SameValue_sg fun x y => r_ref2_SameValue x.1 x.2.1)) : ∀ f q F, ref2_SameValue_b_fn N r_ref2_SameValue f q = some F → Sound Tryd.prog GW B0G f F := by
  intro f q F h
  unfold ref2_SameValue_b_fn at h
  split at h
  · cases h; exact slices_Equal_string_string_sound N
  · cases h; exact h_ref2_SameValue
  · cases h
def ref2_SameValue_b_h : Nat → Hint := fun i =>
  match i with
  | 0 => ⟨[], [2, 3, 44, 45], [1002, 1003], [], [], []⟩
  | _ => ⟨[], [], [], [], [], []⟩
abbrev ref2_SameValue_b_E (N : Nat) (r_ref2_SameValue : GValue → GValue → Option (Bool)) : Env := mkE ref2_SameValue_b_h (ref2_SameValue_b_fn N r_ref2_SameValue) (fun _ => false) (fun _ => false)
abbrev ref2_SameValue_b_L0_fs : List (Nat × Sl) := [(2, .box 1002 0), (3, .box 1003 0), (44, .v (.int .i64)), (45, .v (.int .i64))]
abbrev ref2_SameValue_b_L0_bs : List (Nat × Sb) := [(1002, .cells [.v (.int .i64), .v .str, .v (.int .i64), .v (.sl .str), .v (.sl (.pr .str (.rc .value)))]), (1003, .cells [.v (.int .i64), .v .str, .v (.int .i64), .v (.sl .str), .v (.sl (.pr .str (.rc .value)))])]
def ref2_SameValue_b_L0_hd (c44 : Int) (c1002_0 : Int) (c1002_1 : Str) (c1002_2 : Int) (c1002_3 : List Str) (c1002_4 : List (Str × GValue)) (c1003_0 : Int) (c1003_1 : Str) (c1003_2 : Int) (c1003_3 : List Str) (c1003_4 : List (Str × GValue)) (s45 : Int) : St := ⟨78, [(2, .box 1002 0), (3, .box 1003 0), (44, .v (.int .i64) c44), (45, .v (.int .i64) s45)], [(1002, .cells [.v (.int .i64) c1002_0, .v .str c1002_1, .v (.int .i64) c1002_2, .v (.sl .str) c1002_3, .v (.sl (.pr .str (.rc .value))) c1002_4]), (1003, .cells [.v (.int .i64) c1003_0, .v .str c1003_1, .v (.int .i64) c1003_2, .v (.sl .str) c1003_3, .v (.sl (.pr .str (.rc .value))) c1003_4])]⟩
def ref2_SameValue_b_L0_tl0 (_c44 : Int) (_c1002_0 : Int) (_c1002_1 : Str) (_c1002_2 : Int) (_c1002_3 : List Str) (_c1002_4 : List (Str × GValue)) (_c1003_0 : Int) (_c1003_1 : Str) (_c1003_2 : Int) (_c1003_3 : List Str) (_c1003_4 : List (Str × GValue)) : St := ⟨78, [], []⟩
def ref2_SameValue_b_L0_G (N : Nat) (r_ref2_SameValue : GValue → GValue → Option (Bool)) (c44 : Int) (c1002_0 : Int) (c1002_1 : Str) (c1002_2 : Int) (c1002_3 : List Str) (c1002_4 : List (Str × GValue)) (c1003_0 : Int) (c1003_1 : Str) (c1003_2 : Int) (c1003_3 : List Str) (c1003_4 : List (Str × GValue)) (s45 : Int) (k : Ex → St → Option Bool) : Option Bool :=
  ref2_SameValue_b_L0 N r_ref2_SameValue c44 c1002_4 c1003_4 (k (.exit 0) (ref2_SameValue_b_L0_tl0 c44 c1002_0 c1002_1 c1002_2 c1002_3 c1002_4 c1003_0 c1003_1 c1003_2 c1003_3 c1003_4)) N s45
abbrev ref2_SameValue_b_L0_F (N : Nat) (r_ref2_SameValue : GValue → GValue → Option (Bool)) : FV ref2_SameValue_b_L0_fs → HV ref2_SameValue_b_L0_bs → (Ex → St → Option Bool) → Option Bool := fun x y k => ref2_SameValue_b_L0_G N r_ref2_SameValue x.2.2.1 y.1.1 y.1.2.1 y.1.2.2.1 y.1.2.2.2.1 y.1.2.2.2.2.1 y.2.1.1 y.2.1.2.1 y.2.1.2.2.1 y.2.1.2.2.2.1 y.2.1.2.2.2.2.1 x.2.2.2.1 k
noncomputable def ref2_SameValue_b_LP (N : Nat) (r_ref2_SameValue : GValue → GValue → Option (Bool)) : Nat → Code → St → (Ex → St → Option Bool) → Option Bool := fun i c =>
  match i with
  | 0 => (LPc 78 ref2_SameValue_b_L0_fs ref2_SameValue_b_L0_bs (ref2_SameValue_b_L0_F N r_ref2_SameValue) (fun st k => iter (ref2_SameValue_b_h 0) (exec (ref2_SameValue_b_E N r_ref2_SameValue) N c 0) N st k))
  | i => fun st k => iter (ref2_SameValue_b_h i) (exec (ref2_SameValue_b_E N r_ref2_SameValue) N c i) N st k
theorem ref2_SameValue_b_L0_step (N : Nat) (r_ref2_SameValue : GValue → GValue → Option (Bool)) (c44 : Int) (c1002_0 : Int) (c1002_1 : Str) (c1002_2 : Int) (c1002_3 : List Str) (c1002_4 : List (Str × GValue)) (c1003_0 : Int) (c1003_1 : Str) (c1003_2 : Int) (c1003_3 : List Str) (c1003_4 : List (Str × GValue)) (KX : Nat → St → Option Bool) (I : St → Option Bool) (s45 : Int) :
    execL (ref2_SameValue_b_LP N r_ref2_SameValue) (ref2_SameValue_b_E N r_ref2_SameValue) (cAt (bodyOf Tryd.f47) [true, true, false, true, false, false]) 0 (ref2_SameValue_b_L0_hd c44 c1002_0 c1002_1 c1002_2 c1002_3 c1002_4 c1003_0 c1003_1 c1003_2 c1003_3 c1003_4 s45) (roundK (ref2_SameValue_b_h 0) I KX (resD (ref2_SameValue_b_E N r_ref2_SameValue) Tryd.f47 (ref2_SameValue_b_sg fun x _ => ref2_SameValue_b N r_ref2_SameValue x.1 x.2.1) ref2_SameValue_b_pk)) = ref2_SameValue_b_L0T N r_ref2_SameValue c44 c1002_4 c1003_4 (KX 0 (ref2_SameValue_b_L0_tl0 c44 c1002_0 c1002_1 c1002_2 c1002_3 c1002_4 c1003_0 c1003_1 c1003_2 c1003_3 c1003_4)) (fun s45 => I (ref2_SameValue_b_L0_hd c44 c1002_0 c1002_1 c1002_2 c1002_3 c1002_4 c1003_0 c1003_1 c1003_2 c1003_3 c1003_4 s45)) s45 := by kernel_rfl
theorem ref2_SameValue_b_L0_ok (N : Nat) (r_ref2_SameValue : GValue → GValue → Option (Bool)) : ∀ x y k, (∀ st, k .ret st = (resD (ref2_SameValue_b_E N r_ref2_SameValue) Tryd.f47 (ref2_SameValue_b_sg fun x _ => ref2_SameValue_b N r_ref2_SameValue x.1 x.2.1) ref2_SameValue_b_pk) st) → iter (ref2_SameValue_b_h 0) (exec (ref2_SameValue_b_E N r_ref2_SameValue) N (cAt (bodyOf Tryd.f47) [true, true, false, true, false, false]) 0) N ⟨78, unF ref2_SameValue_b_L0_fs x, unH ref2_SameValue_b_L0_bs y⟩ k = ref2_SameValue_b_L0_F N r_ref2_SameValue x y k := fun x y k hk =>
  iter_link (S := (Int) × Unit) (ref2_SameValue_b_h 0) _ (execL (ref2_SameValue_b_LP N r_ref2_SameValue) (ref2_SameValue_b_E N r_ref2_SameValue) (cAt (bodyOf Tryd.f47) [true, true, false, true, false, false]) 0) (resD (ref2_SameValue_b_E N r_ref2_SameValue) Tryd.f47 (ref2_SameValue_b_sg fun x _ => ref2_SameValue_b N r_ref2_SameValue x.1 x.2.1) ref2_SameValue_b_pk) (fun st k hk => execL_eq _ _ N _ (cAt (bodyOf Tryd.f47) [true, true, false, true, false, false]) 0 (show LoopsOk (ref2_SameValue_b_LP N r_ref2_SameValue) (ref2_SameValue_b_E N r_ref2_SameValue) N (resD (ref2_SameValue_b_E N r_ref2_SameValue) Tryd.f47 (ref2_SameValue_b_sg fun x _ => ref2_SameValue_b N r_ref2_SameValue x.1 x.2.1) ref2_SameValue_b_pk) [] from trivial) st k hk) (fun s => ref2_SameValue_b_L0_hd x.2.2.1 y.1.1 y.1.2.1 y.1.2.2.1 y.1.2.2.2.1 y.1.2.2.2.2.1 y.2.1.1 y.2.1.2.1 y.2.1.2.2.1 y.2.1.2.2.2.1 y.2.1.2.2.2.2.1 s.1) k hk
    (fun self s => ref2_SameValue_b_L0T N r_ref2_SameValue x.2.2.1 y.1.2.2.2.2.1 y.2.1.2.2.2.2.1 (k (.exit 0) (ref2_SameValue_b_L0_tl0 x.2.2.1 y.1.1 y.1.2.1 y.1.2.2.1 y.1.2.2.2.1 y.1.2.2.2.2.1 y.2.1.1 y.2.1.2.1 y.2.1.2.2.1 y.2.1.2.2.2.1 y.2.1.2.2.2.2.1)) (fun s45 => self (s45, ())) s.1) (fun n s => ref2_SameValue_b_L0 N r_ref2_SameValue x.2.2.1 y.1.2.2.2.2.1 y.2.1.2.2.2.2.1 (k (.exit 0) (ref2_SameValue_b_L0_tl0 x.2.2.1 y.1.1 y.1.2.1 y.1.2.2.1 y.1.2.2.2.1 y.1.2.2.2.2.1 y.2.1.1 y.2.1.2.1 y.2.1.2.2.1 y.2.1.2.2.2.1 y.2.1.2.2.2.2.1)) n s.1) (fun _ => rfl) (fun _ _ => rfl)
    (fun I s => ref2_SameValue_b_L0_step N r_ref2_SameValue x.2.2.1 y.1.1 y.1.2.1 y.1.2.2.1 y.1.2.2.2.1 y.1.2.2.2.2.1 y.2.1.1 y.2.1.2.1 y.2.1.2.2.1 y.2.1.2.2.2.1 y.2.1.2.2.2.2.1 (fun j => k (.exit j)) I s.1) N (x.2.2.2.1, ())
theorem ref2_SameValue_b_lp0 (N : Nat) (r_ref2_SameValue : GValue → GValue → Option (Bool)) : ∀ st k, (∀ st, k .ret st = (resD (ref2_SameValue_b_E N r_ref2_SameValue) Tryd.f47 (ref2_SameValue_b_sg fun x _ => ref2_SameValue_b N r_ref2_SameValue x.1 x.2.1) ref2_SameValue_b_pk) st) → ref2_SameValue_b_LP N r_ref2_SameValue 0 (cAt (bodyOf Tryd.f47) [true, true, false, true, false, false]) st k = iter (Env.hint (ref2_SameValue_b_E N r_ref2_SameValue) 0) (exec (ref2_SameValue_b_E N r_ref2_SameValue) N (cAt (bodyOf Tryd.f47) [true, true, false, true, false, false]) 0) N st k := fun st k hk => LPc_eq 78 ref2_SameValue_b_L0_fs ref2_SameValue_b_L0_bs _ _ (resD (ref2_SameValue_b_E N r_ref2_SameValue) Tryd.f47 (ref2_SameValue_b_sg fun x _ => ref2_SameValue_b N r_ref2_SameValue x.1 x.2.1) ref2_SameValue_b_pk) (ref2_SameValue_b_L0_ok N r_ref2_SameValue) _ st k hk (rfl)
theorem ref2_SameValue_b_core (N : Nat) (r_ref2_SameValue : GValue → GValue → Option (Bool)) (x : SV [.v (.rc .value), .v (.rc .value)]) (y : BV []) : runL (ref2_SameValue_b_E N r_ref2_SameValue) Tryd.f47 (ref2_SameValue_b_sg fun x _ => ref2_SameValue_b N r_ref2_SameValue x.1 x.2.1) ref2_SameValue_b_pk (ref2_SameValue_b_LP N r_ref2_SameValue) x y = ref2_SameValue_b N r_ref2_SameValue x.1 x.2.1 := by kernel_rfl
theorem ref2_SameValue_b_sound (N : Nat) (r_ref2_SameValue : GValue → GValue → Option (Bool)) (h_ref2_SameValue : Sound Tryd.prog GW B0G 47 (ref2_SameValue_sg fun x y => r_ref2_SameValue x.1 x.2.1)) : Sound Tryd.prog GW B0G 47 (ref2_SameValue_b_sg fun x _ => ref2_SameValue_b N r_ref2_SameValue x.1 x.2.1) :=
  runD_sound (mkE_ok ref2_SameValue_b_h (ref2_SameValue_b_fn N r_ref2_SameValue) _ _ (ref2_SameValue_b_fn_ok N r_ref2_SameValue h_ref2_SameValue)) Tryd.func47 rfl Tryd.call47 (ref2_SameValue_b_sg fun x _ => ref2_SameValue_b N r_ref2_SameValue x.1 x.2.1) ref2_SameValue_b_pk (fun _ _ => rfl) N (fun x y _ h => ((runL_eq (ref2_SameValue_b_E N r_ref2_SameValue) N Tryd.f47 (ref2_SameValue_b_sg fun x _ => ref2_SameValue_b N r_ref2_SameValue x.1 x.2.1) ref2_SameValue_b_pk (ref2_SameValue_b_LP N r_ref2_SameValue) (show LoopsOk (ref2_SameValue_b_LP N r_ref2_SameValue) (ref2_SameValue_b_E N r_ref2_SameValue) N (resD (ref2_SameValue_b_E N r_ref2_SameValue) Tryd.f47 (ref2_SameValue_b_sg fun x _ => ref2_SameValue_b N r_ref2_SameValue x.1 x.2.1) ref2_SameValue_b_pk) [(0, (cAt (bodyOf Tryd.f47) [true, true, false, true, false, false]))] from ⟨ref2_SameValue_b_lp0 N r_ref2_SameValue, trivial⟩) x y).trans (ref2_SameValue_b_core N r_ref2_SameValue x y)).trans h)
def ref2_SameValue (N : Nat) : Nat → GValue → GValue → Option (Bool)
  | 0 => fun _ _ => none
  | d + 1 => ref2_SameValue_b N (ref2_SameValue N d)
theorem ref2_SameValue_sound (N : Nat) : ∀ d, Sound Tryd.prog GW B0G 47 (ref2_SameValue_sg fun x y => ref2_SameValue N d x.1 x.2.1)
  | 0 => Sound.never Tryd.call47 (fun _ _ => rfl)
  | d + 1 => ref2_SameValue_b_sound N (ref2_SameValue N d) (ref2_SameValue_sound N d)
def script_checkTwo (N : Nat) (x0 : GValue) (x1 : GValue) : Option Int :=
  bnd (script_CheckValue N (script_checkCases N N) (GValue.mk x0.kind x0.text x0.number x0.list x0.cases)) fun t7 =>
  br (t7 != (0 : Int))
    (some t7)
    (bnd (script_CheckValue N (script_checkCases N N) (GValue.mk x1.kind x1.text x1.number x1.list x1.cases)) fun t12 =>
    some t12)
abbrev script_checkTwo_sg (f : SV [.v (.rc .value), .v (.rc .value)] → BV [] → Option (Int)) : AF := { ps := [.v (.rc .value), .v (.rc .value)], bs := [], rs := [.v (.int .i64)], cs := [], R := Int, out := fun z => ((z, ()), ()), f := f }
abbrev script_checkTwo_pk : SV [.v (.int .i64)] → BV [] → Int := fun x _ => x.1
def script_checkTwo_fn (N : Nat) : FuncId → Option Tmp → Option AF := fun f _ =>
  match f with
    | 85 => some (script_CheckValue_sg fun x _ => script_CheckValue N (script_checkCases N N) x.1)
    | _ => none
theorem script_checkTwo_fn_ok (N : Nat) : ∀ f q F, script_checkTwo_fn N f q = some F → Sound Tryd.prog GW B0G f F := by
  intro f q F h
  unfold script_checkTwo_fn at h
  split at h
  · cases h; exact script_CheckValue_sound N (script_checkCases N N) (script_checkCases_sound N N)
  · cases h
def script_checkTwo_h : Nat → Hint := fun i =>
  match i with
  | _ => ⟨[], [], [], [], [], []⟩
abbrev script_checkTwo_E (N : Nat) : Env := mkE script_checkTwo_h (script_checkTwo_fn N) (fun _ => false) (fun _ => false)
noncomputable def script_checkTwo_LP (N : Nat) : Nat → Code → St → (Ex → St → Option Int) → Option Int := fun i c =>
  match i with
  | i => fun st k => iter (script_checkTwo_h i) (exec (script_checkTwo_E N) N c i) N st k
theorem script_checkTwo_core (N : Nat) (x : SV [.v (.rc .value), .v (.rc .value)]) (y : BV []) : runL (script_checkTwo_E N) Tryd.f87 (script_checkTwo_sg fun x _ => script_checkTwo N x.1 x.2.1) script_checkTwo_pk (script_checkTwo_LP N) x y = script_checkTwo N x.1 x.2.1 := by kernel_rfl
theorem script_checkTwo_sound (N : Nat) : Sound Tryd.prog GW B0G 87 (script_checkTwo_sg fun x _ => script_checkTwo N x.1 x.2.1) :=
  runD_sound (mkE_ok script_checkTwo_h (script_checkTwo_fn N) _ _ (script_checkTwo_fn_ok N)) Tryd.func87 rfl Tryd.call87 (script_checkTwo_sg fun x _ => script_checkTwo N x.1 x.2.1) script_checkTwo_pk (fun _ _ => rfl) N (fun x y _ h => ((runL_eq (script_checkTwo_E N) N Tryd.f87 (script_checkTwo_sg fun x _ => script_checkTwo N x.1 x.2.1) script_checkTwo_pk (script_checkTwo_LP N) (show LoopsOk (script_checkTwo_LP N) (script_checkTwo_E N) N (resD (script_checkTwo_E N) Tryd.f87 (script_checkTwo_sg fun x _ => script_checkTwo N x.1 x.2.1) script_checkTwo_pk) [] from trivial) x y).trans (script_checkTwo_core N x y)).trans h)
end
end Go.Proofs.YtbekhaioddmliaaDoor

