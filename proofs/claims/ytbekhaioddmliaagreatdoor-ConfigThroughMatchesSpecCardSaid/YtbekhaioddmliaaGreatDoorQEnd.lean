/- What functions of the program compute, as plain functions (printed). -/
import Derived.Test.YtbekhaioddmliaaGreatDoorQZeF10
import Derived.Test.YtbekhaioddmliaaGreatDoorQZeT
import Derived.Shelf.SlGeneric
import Derived.Shelf.SlIter.Nil
import Derived.Ground.GgzProg
import Derived.Test.YtbekhaioddmliaaGreatDoorProg
import Derived.Test.YtbekhaioddmliaaGreatDoorQBmSf
import Derived.ProofKit
import Derived.OpenShut
import Derived.ShutString
import Derived.DataReads
import Derived.ChangeShapes
import Derived.WideShapes
namespace Go.Proofs.YtbekhaioddmliaaGreatDoor
open Go Go.RowKit
set_option maxRecDepth 100000
set_option linter.unusedVariables false
noncomputable section
def ref3_Then_L0T (N : Nat) (c36 : List Str) (c37 : Int) (c1005_0 : Str) (c1005_1 : List (Str × Str)) (c1005_2 : List Str) (k0 : Option ((Str × List (Str × Str) × List Str) × Int)) (self : Int → Option ((Str × List (Str × Str) × List Str) × Int)) (s38 : Int) : Option ((Str × List (Str × Str) × List Str) × Int) :=
  br (decide (s38 < c37))
    (bnd (geti c36 s38) fun t40 =>
    bnd (slices_Contains_string_string N c1005_2 t40) fun t45 =>
    br (t45)
      (some ((([] : Str), (([] : List (Str × Str)), ([] : List Str))), (11 : Int)))
      (bnd (ref3_setBy N (c1005_0, (c1005_1, c1005_2)) t40) fun t49 =>
      br (t49)
        (some ((([] : Str), (([] : List (Str × Str)), ([] : List Str))), (11 : Int)))
        (self (IntKind.i64.wrap (s38 + (1 : Int))))))
    (k0)
def ref3_Then_L0 (N : Nat) (c36 : List Str) (c37 : Int) (c1005_0 : Str) (c1005_1 : List (Str × Str)) (c1005_2 : List Str) (k0 : Option ((Str × List (Str × Str) × List Str) × Int)) : Nat → Int → Option ((Str × List (Str × Str) × List Str) × Int)
  | 0, _ => none
  | n + 1, s38 => ref3_Then_L0T N c36 c37 c1005_0 c1005_1 c1005_2 k0 (ref3_Then_L0 N c36 c37 c1005_0 c1005_1 c1005_2 k0 n) s38
def ref3_Then_L2T (_N : Nat) (c1005_1_5 : List (Str × Str)) (c64 : Int) (c1014_0 : Str) (k4 : (List (Str × Str)) → Option ((Str × List (Str × Str) × List Str) × Int)) (self : Int → (List (Str × Str)) → Option ((Str × List (Str × Str) × List Str) × Int)) (s65 : Int) (w900002_9 : List (Str × Str)) : Option ((Str × List (Str × Str) × List Str) × Int) :=
  br (decide (s65 < c64))
    (bnd (geti c1005_1_5 s65) fun t67 =>
    br (t67.1 == c1014_0)
      (br (decide ((w900002_9.length + [t67].length) * (24 * Ty.sz (.pr .str .str)) ≤ 140737488355328))
        (self (IntKind.i64.wrap (s65 + (1 : Int))) (w900002_9 ++ [t67]))
        none)
      (self (IntKind.i64.wrap (s65 + (1 : Int))) w900002_9))
    (k4 w900002_9)
def ref3_Then_L2 (N : Nat) (c1005_1_5 : List (Str × Str)) (c64 : Int) (c1014_0 : Str) (k4 : (List (Str × Str)) → Option ((Str × List (Str × Str) × List Str) × Int)) : Nat → Int → (List (Str × Str)) → Option ((Str × List (Str × Str) × List Str) × Int)
  | 0, _, _ => none
  | n + 1, s65, w900002_9 => ref3_Then_L2T N c1005_1_5 c64 c1014_0 k4 (ref3_Then_L2 N c1005_1_5 c64 c1014_0 k4 n) s65 w900002_9
def ref3_Then_L3T (N : Nat) (c1004_1_2 : List (Str × Str)) (c83 : Int) (c1005_0_4 : Str) (c1005_1_5 : List (Str × Str)) (c1005_2_6 : List Str) (c1014_0_11 : Str) (k6 : (List (Str × Str)) → Option ((Str × List (Str × Str) × List Str) × Int)) (self : Int → (List (Str × Str)) → Option ((Str × List (Str × Str) × List Str) × Int)) (s84 : Int) (w900002_13 : List (Str × Str)) : Option ((Str × List (Str × Str) × List Str) × Int) :=
  br (decide (s84 < c83))
    (bnd (geti c1004_1_2 s84) fun t86 =>
    br (t86.1 == c1014_0_11)
      (bnd (ref3_setBy N (c1005_0_4, (c1005_1_5, c1005_2_6)) c1014_0_11) fun t97 =>
      br (!t97)
        (bnd (slices_Contains_string_string N c1005_2_6 c1014_0_11) fun t105 =>
        br (!t105)
          (br (decide ((w900002_13.length + [t86].length) * (24 * Ty.sz (.pr .str .str)) ≤ 140737488355328))
            (self (IntKind.i64.wrap (s84 + (1 : Int))) (w900002_13 ++ [t86]))
            none)
          (self (IntKind.i64.wrap (s84 + (1 : Int))) w900002_13))
        (self (IntKind.i64.wrap (s84 + (1 : Int))) w900002_13))
      (self (IntKind.i64.wrap (s84 + (1 : Int))) w900002_13))
    (k6 w900002_13)
def ref3_Then_L3 (N : Nat) (c1004_1_2 : List (Str × Str)) (c83 : Int) (c1005_0_4 : Str) (c1005_1_5 : List (Str × Str)) (c1005_2_6 : List Str) (c1014_0_11 : Str) (k6 : (List (Str × Str)) → Option ((Str × List (Str × Str) × List Str) × Int)) : Nat → Int → (List (Str × Str)) → Option ((Str × List (Str × Str) × List Str) × Int)
  | 0, _, _ => none
  | n + 1, s84, w900002_13 => ref3_Then_L3T N c1004_1_2 c83 c1005_0_4 c1005_1_5 c1005_2_6 c1014_0_11 k6 (ref3_Then_L3 N c1004_1_2 c83 c1005_0_4 c1005_1_5 c1005_2_6 c1014_0_11 k6 n) s84 w900002_13
def ref3_Then_L1T (N : Nat) (x0 : List (Str × List Str)) (c57 : Int) (c1004_1_2 : List (Str × Str)) (c1004_2_3 : List Str) (c1005_0_4 : Str) (c1005_1_5 : List (Str × Str)) (c1005_2_6 : List Str) (k2 : (List (Str × Str)) → (List Str) → Option ((Str × List (Str × Str) × List Str) × Int)) (self : Int → (List (Str × Str)) → (List Str) → Option ((Str × List (Str × Str) × List Str) × Int)) (s58 : Int) (w900002 : List (Str × Str)) (w900003 : List Str) : Option ((Str × List (Str × Str) × List Str) × Int) :=
  br (decide (s58 < c57))
    (bnd (geti x0 s58) fun t60 =>
    ref3_Then_L2 N c1005_1_5 (c1005_1_5.length : Int) t60.1 (fun o2_w900002 =>
        ref3_Then_L3 N c1004_1_2 (c1004_1_2.length : Int) c1005_0_4 c1005_1_5 c1005_2_6 t60.1 (fun o3_w900002 =>
            bnd (slices_Contains_string_string N c1004_2_3 t60.1) fun t119 =>
            br (t119)
              (br (decide ((w900003.length + [t60.1].length) * (24 * Ty.sz .str) ≤ 140737488355328))
                (self (IntKind.i64.wrap (s58 + (1 : Int))) o3_w900002 (w900003 ++ [t60.1]))
                none)
              (bnd (slices_Contains_string_string N c1005_2_6 t60.1) fun t125 =>
              br (t125)
                (br (decide ((w900003.length + [t60.1].length) * (24 * Ty.sz .str) ≤ 140737488355328))
                  (self (IntKind.i64.wrap (s58 + (1 : Int))) o3_w900002 (w900003 ++ [t60.1]))
                  none)
                (self (IntKind.i64.wrap (s58 + (1 : Int))) o3_w900002 w900003))) N (0 : Int) o2_w900002) N (0 : Int) w900002)
    (k2 w900002 w900003)
def ref3_Then_L1 (N : Nat) (x0 : List (Str × List Str)) (c57 : Int) (c1004_1_2 : List (Str × Str)) (c1004_2_3 : List Str) (c1005_0_4 : Str) (c1005_1_5 : List (Str × Str)) (c1005_2_6 : List Str) (k2 : (List (Str × Str)) → (List Str) → Option ((Str × List (Str × Str) × List Str) × Int)) : Nat → Int → (List (Str × Str)) → (List Str) → Option ((Str × List (Str × Str) × List Str) × Int)
  | 0, _, _, _ => none
  | n + 1, s58, w900002, w900003 => ref3_Then_L1T N x0 c57 c1004_1_2 c1004_2_3 c1005_0_4 c1005_1_5 c1005_2_6 k2 (ref3_Then_L1 N x0 c57 c1004_1_2 c1004_2_3 c1005_0_4 c1005_1_5 c1005_2_6 k2 n) s58 w900002 w900003
def ref3_Then (N : Nat) (x0 : List (Str × List Str)) (x1 : Str × List (Str × Str) × List Str) (x2 : Str × List (Str × Str) × List Str) : Option ((Str × List (Str × Str) × List Str) × Int) :=
  bnd (ref3_CheckTransitions N x0 [x1]) fun t22 =>
  br (t22 != (0 : Int))
    (some ((([] : Str), (([] : List (Str × Str)), ([] : List Str))), t22))
    (bnd (ref3_CheckTransitions N x0 [x2]) fun t30 =>
    br (t30 != (0 : Int))
      (some ((([] : Str), (([] : List (Str × Str)), ([] : List Str))), t30))
      (ref3_Then_L0 N x1.2.2 (x1.2.2.length : Int) x2.1 x2.2.1 x2.2.2 (ref3_Then_L1 N x0 (x0.length : Int) x1.2.1 x1.2.2 x2.1 x2.2.1 x2.2.2 (fun o1_w900002 o1_w900003 =>
              some ((x1.1, (o1_w900002, o1_w900003)), (0 : Int))) N (0 : Int) ([] : List (Str × Str)) ([] : List Str)) N (0 : Int)))
abbrev ref3_Then_sg (f : SV [.v (.sl (.pr .str (.sl .str))), .v (.pr .str (.pr (.sl (.pr .str .str)) (.sl .str))), .v (.pr .str (.pr (.sl (.pr .str .str)) (.sl .str)))] → BV [] → Option ((Str × List (Str × Str) × List Str) × Int)) : AF := { ps := [.v (.sl (.pr .str (.sl .str))), .v (.pr .str (.pr (.sl (.pr .str .str)) (.sl .str))), .v (.pr .str (.pr (.sl (.pr .str .str)) (.sl .str)))], bs := [], rs := [.v (.pr .str (.pr (.sl (.pr .str .str)) (.sl .str))), .v (.int .i64)], cs := [], R := (Str × List (Str × Str) × List Str) × Int, out := fun z => ((z.1, z.2, ()), ()), f := f }
abbrev ref3_Then_pk : SV [.v (.pr .str (.pr (.sl (.pr .str .str)) (.sl .str))), .v (.int .i64)] → BV [] → ((Str × List (Str × Str) × List Str) × Int) := fun x _ => (x.1, x.2.1)
def ref3_Then_fn (N : Nat) : FuncId → Option Tmp → Option AF := fun f _ =>
  match f with
    | 15 => some (ref3_CheckTransitions_sg fun x _ => ref3_CheckTransitions N x.1 x.2.1)
    | 53 => some (ref3_setBy_sg fun x _ => ref3_setBy N x.1 x.2.1)
    | 56 => some (slices_Contains_string_string_sg fun x _ => slices_Contains_string_string N x.1 x.2.1)
    | _ => none
theorem ref3_Then_fn_ok (N : Nat) : ∀ f q F, ref3_Then_fn N f q = some F → Sound Tryz.prog GW B0G f F := by
  intro f q F h
  unfold ref3_Then_fn at h
  split at h
  · cases h; exact ref3_CheckTransitions_sound N
  · cases h; exact ref3_setBy_sound N
  · cases h; exact slices_Contains_string_string_sound N
  · cases h
def ref3_Then_h : Nat → Hint := fun i =>
  match i with
  | 0 => ⟨[], [0, 4, 5, 6, 36, 37, 38], [1004, 1005, 1006], [0, 4, 5, 6], [1004, 1005, 1006], []⟩
  | 2 => ⟨[], [4, 5, 6, 12, 56, 57, 58], [1004, 1005, 1006, 1012, 900002, 900003], [6, 12], [1006, 1012, 900002, 900003], [(1012, 1, 900002, 53, (.pr .str .str)), (1012, 2, 900003, 9, .str)]⟩
  | 4 => ⟨[], [4, 5, 6, 12, 14, 56, 57, 58, 63, 64, 65], [1004, 1005, 1006, 1012, 1014, 900002, 900003], [4, 5, 6, 12, 14, 56, 57, 58], [1004, 1005, 1006, 1012, 1014, 900002, 900003], [(1012, 1, 900001, 53, (.pr .str .str))]⟩
  | 6 => ⟨[], [4, 5, 6, 12, 14, 56, 57, 58, 82, 83, 84], [1004, 1005, 1006, 1012, 1014, 900002, 900003], [4, 5, 6, 12, 14, 56, 57, 58], [1004, 1005, 1006, 1012, 1014, 900002, 900003], []⟩
  | _ => ⟨[], [], [], [], [], []⟩
abbrev ref3_Then_E (N : Nat) : Env := mkE ref3_Then_h (ref3_Then_fn N) (fun _ => false) (fun _ => false)
abbrev ref3_Then_L0_fs : List (Nat × Sl) := [(0, .v (.sl (.pr .str (.sl .str)))), (4, .box 1004 0), (5, .box 1005 0), (6, .box 1006 0), (36, .v (.sl .str)), (37, .v (.int .i64)), (38, .v (.int .i64))]
abbrev ref3_Then_L0_bs : List (Nat × Sb) := [(1004, .cells [.v .str, .v (.sl (.pr .str .str)), .v (.sl .str)]), (1005, .cells [.v .str, .v (.sl (.pr .str .str)), .v (.sl .str)]), (1006, .cells [.v .str, .nilS, .nilS])]
def ref3_Then_L0_hd (x0 : List (Str × List Str)) (c36 : List Str) (c37 : Int) (c1004_0 : Str) (c1004_1 : List (Str × Str)) (c1004_2 : List Str) (c1005_0 : Str) (c1005_1 : List (Str × Str)) (c1005_2 : List Str) (c1006_0 : Str) (s38 : Int) : St := ⟨136, [(0, .v (.sl (.pr .str (.sl .str))) x0), (4, .box 1004 0), (5, .box 1005 0), (6, .box 1006 0), (36, .v (.sl .str) c36), (37, .v (.int .i64) c37), (38, .v (.int .i64) s38)], [(1004, .cells [.v .str c1004_0, .v (.sl (.pr .str .str)) c1004_1, .v (.sl .str) c1004_2]), (1005, .cells [.v .str c1005_0, .v (.sl (.pr .str .str)) c1005_1, .v (.sl .str) c1005_2]), (1006, .cells [.v .str c1006_0, .nilS, .nilS])]⟩
def ref3_Then_L0_tl0 (x0 : List (Str × List Str)) (_c36 : List Str) (_c37 : Int) (c1004_0 : Str) (c1004_1 : List (Str × Str)) (c1004_2 : List Str) (c1005_0 : Str) (c1005_1 : List (Str × Str)) (c1005_2 : List Str) (c1006_0 : Str) : St := ⟨136, [(0, .v (.sl (.pr .str (.sl .str))) x0), (4, .box 1004 0), (5, .box 1005 0), (6, .box 1006 0)], [(1004, .cells [.v .str c1004_0, .v (.sl (.pr .str .str)) c1004_1, .v (.sl .str) c1004_2]), (1005, .cells [.v .str c1005_0, .v (.sl (.pr .str .str)) c1005_1, .v (.sl .str) c1005_2]), (1006, .cells [.v .str c1006_0, .nilS, .nilS])]⟩
def ref3_Then_L0_G (N : Nat) (x0 : List (Str × List Str)) (c36 : List Str) (c37 : Int) (c1004_0 : Str) (c1004_1 : List (Str × Str)) (c1004_2 : List Str) (c1005_0 : Str) (c1005_1 : List (Str × Str)) (c1005_2 : List Str) (c1006_0 : Str) (s38 : Int) (k : Ex → St → Option ((Str × List (Str × Str) × List Str) × Int)) : Option ((Str × List (Str × Str) × List Str) × Int) :=
  ref3_Then_L0 N c36 c37 c1005_0 c1005_1 c1005_2 (k (.exit 0) (ref3_Then_L0_tl0 x0 c36 c37 c1004_0 c1004_1 c1004_2 c1005_0 c1005_1 c1005_2 c1006_0)) N s38
abbrev ref3_Then_L0_F (N : Nat) : FV ref3_Then_L0_fs → HV ref3_Then_L0_bs → (Ex → St → Option ((Str × List (Str × Str) × List Str) × Int)) → Option ((Str × List (Str × Str) × List Str) × Int) := fun x y k => ref3_Then_L0_G N x.1 x.2.2.2.2.1 x.2.2.2.2.2.1 y.1.1 y.1.2.1 y.1.2.2.1 y.2.1.1 y.2.1.2.1 y.2.1.2.2.1 y.2.2.1.1 x.2.2.2.2.2.2.1 k
abbrev ref3_Then_L2_fs : List (Nat × Sl) := [(4, .box 1004 0), (5, .box 1005 0), (6, .box 1006 0), (12, .box 1012 0), (14, .box 1014 0), (56, .v (.sl (.pr .str (.sl .str)))), (57, .v (.int .i64)), (58, .v (.int .i64)), (63, .v (.sl (.pr .str .str))), (64, .v (.int .i64)), (65, .v (.int .i64))]
abbrev ref3_Then_L2_bs : List (Nat × Sb) := [(1004, .cells [.v .str, .v (.sl (.pr .str .str)), .v (.sl .str)]), (1005, .cells [.v .str, .v (.sl (.pr .str .str)), .v (.sl .str)]), (1006, .cells [.v .str, .nilS, .nilS]), (1012, .cells [.v .str, .row 900002, .row 900003]), (1014, .cells [.v .str, .v (.sl .str)]), (900002, .row 53 (.pr .str .str) false), (900003, .row 9 .str false)]
def ref3_Then_L2_hd (x0 : List (Str × List Str)) (c57 : Int) (s58 : Int) (c1005_1_5 : List (Str × Str)) (c64 : Int) (c1004_0_1 : Str) (c1004_1_2 : List (Str × Str)) (c1004_2_3 : List Str) (c1005_0_4 : Str) (c1005_1_8 : List (Str × Str)) (c1005_2_6 : List Str) (c1006_0_7 : Str) (c1012_0 : Str) (c1014_0 : Str) (c1014_1 : List Str) (w900003 : List Str) (s65 : Int) (w900002_9 : List (Str × Str)) : St := ⟨136, [(4, .box 1004 0), (5, .box 1005 0), (6, .box 1006 0), (12, .box 1012 0), (14, .box 1014 0), (56, .v (.sl (.pr .str (.sl .str))) x0), (57, .v (.int .i64) c57), (58, .v (.int .i64) s58), (63, .v (.sl (.pr .str .str)) c1005_1_5), (64, .v (.int .i64) c64), (65, .v (.int .i64) s65)], [(1004, .cells [.v .str c1004_0_1, .v (.sl (.pr .str .str)) c1004_1_2, .v (.sl .str) c1004_2_3]), (1005, .cells [.v .str c1005_0_4, .v (.sl (.pr .str .str)) c1005_1_8, .v (.sl .str) c1005_2_6]), (1006, .cells [.v .str c1006_0_7, .nilS, .nilS]), (1012, .cells [.v .str c1012_0, .row 900002, .row 900003]), (1014, .cells [.v .str c1014_0, .v (.sl .str) c1014_1]), (900002, .row 53 (.pr .str .str) false w900002_9), (900003, .row 9 .str false w900003)]⟩
def ref3_Then_L2_tl4 (x0 : List (Str × List Str)) (c57 : Int) (s58 : Int) (_c1005_1_5 : List (Str × Str)) (_c64 : Int) (c1004_0_1 : Str) (c1004_1_2 : List (Str × Str)) (c1004_2_3 : List Str) (c1005_0_4 : Str) (c1005_1_8 : List (Str × Str)) (c1005_2_6 : List Str) (c1006_0_7 : Str) (c1012_0 : Str) (c1014_0 : Str) (c1014_1 : List Str) (w900003 : List Str) (o2_w900002 : List (Str × Str)) : St := ⟨136, [(4, .box 1004 0), (5, .box 1005 0), (6, .box 1006 0), (12, .box 1012 0), (14, .box 1014 0), (56, .v (.sl (.pr .str (.sl .str))) x0), (57, .v (.int .i64) c57), (58, .v (.int .i64) s58)], [(1004, .cells [.v .str c1004_0_1, .v (.sl (.pr .str .str)) c1004_1_2, .v (.sl .str) c1004_2_3]), (1005, .cells [.v .str c1005_0_4, .v (.sl (.pr .str .str)) c1005_1_8, .v (.sl .str) c1005_2_6]), (1006, .cells [.v .str c1006_0_7, .nilS, .nilS]), (1012, .cells [.v .str c1012_0, .row 900002, .row 900003]), (1014, .cells [.v .str c1014_0, .v (.sl .str) c1014_1]), (900002, .row 53 (.pr .str .str) false o2_w900002), (900003, .row 9 .str false w900003)]⟩
def ref3_Then_L2_G (N : Nat) (x0 : List (Str × List Str)) (c57 : Int) (s58 : Int) (c1005_1_5 : List (Str × Str)) (c64 : Int) (c1004_0_1 : Str) (c1004_1_2 : List (Str × Str)) (c1004_2_3 : List Str) (c1005_0_4 : Str) (c1005_1_8 : List (Str × Str)) (c1005_2_6 : List Str) (c1006_0_7 : Str) (c1012_0 : Str) (c1014_0 : Str) (c1014_1 : List Str) (w900003 : List Str) (s65 : Int) (w900002_9 : List (Str × Str)) (k : Ex → St → Option ((Str × List (Str × Str) × List Str) × Int)) : Option ((Str × List (Str × Str) × List Str) × Int) :=
  ref3_Then_L2 N c1005_1_5 c64 c1014_0 (fun o2_w900002 => k (.exit 4) (ref3_Then_L2_tl4 x0 c57 s58 c1005_1_5 c64 c1004_0_1 c1004_1_2 c1004_2_3 c1005_0_4 c1005_1_8 c1005_2_6 c1006_0_7 c1012_0 c1014_0 c1014_1 w900003 o2_w900002)) N s65 w900002_9
abbrev ref3_Then_L2_F (N : Nat) : FV ref3_Then_L2_fs → HV ref3_Then_L2_bs → (Ex → St → Option ((Str × List (Str × Str) × List Str) × Int)) → Option ((Str × List (Str × Str) × List Str) × Int) := fun x y k => ref3_Then_L2_G N x.2.2.2.2.2.1 x.2.2.2.2.2.2.1 x.2.2.2.2.2.2.2.1 x.2.2.2.2.2.2.2.2.1 x.2.2.2.2.2.2.2.2.2.1 y.1.1 y.1.2.1 y.1.2.2.1 y.2.1.1 y.2.1.2.1 y.2.1.2.2.1 y.2.2.1.1 y.2.2.2.1.1 y.2.2.2.2.1.1 y.2.2.2.2.1.2.1 y.2.2.2.2.2.2.1 x.2.2.2.2.2.2.2.2.2.2.1 y.2.2.2.2.2.1 k
abbrev ref3_Then_L3_fs : List (Nat × Sl) := [(4, .box 1004 0), (5, .box 1005 0), (6, .box 1006 0), (12, .box 1012 0), (14, .box 1014 0), (56, .v (.sl (.pr .str (.sl .str)))), (57, .v (.int .i64)), (58, .v (.int .i64)), (82, .v (.sl (.pr .str .str))), (83, .v (.int .i64)), (84, .v (.int .i64))]
abbrev ref3_Then_L3_bs : List (Nat × Sb) := [(1004, .cells [.v .str, .v (.sl (.pr .str .str)), .v (.sl .str)]), (1005, .cells [.v .str, .v (.sl (.pr .str .str)), .v (.sl .str)]), (1006, .cells [.v .str, .nilS, .nilS]), (1012, .cells [.v .str, .row 900002, .row 900003]), (1014, .cells [.v .str, .v (.sl .str)]), (900002, .row 53 (.pr .str .str) false), (900003, .row 9 .str false)]
def ref3_Then_L3_hd (x0 : List (Str × List Str)) (c57 : Int) (s58 : Int) (c1004_1_2 : List (Str × Str)) (c83 : Int) (c1004_0_1 : Str) (c1004_1_10 : List (Str × Str)) (c1004_2_3 : List Str) (c1005_0_4 : Str) (c1005_1_5 : List (Str × Str)) (c1005_2_6 : List Str) (c1006_0_7 : Str) (c1012_0 : Str) (c1014_0_11 : Str) (c1014_1_12 : List Str) (w900003 : List Str) (s84 : Int) (w900002_13 : List (Str × Str)) : St := ⟨136, [(4, .box 1004 0), (5, .box 1005 0), (6, .box 1006 0), (12, .box 1012 0), (14, .box 1014 0), (56, .v (.sl (.pr .str (.sl .str))) x0), (57, .v (.int .i64) c57), (58, .v (.int .i64) s58), (82, .v (.sl (.pr .str .str)) c1004_1_2), (83, .v (.int .i64) c83), (84, .v (.int .i64) s84)], [(1004, .cells [.v .str c1004_0_1, .v (.sl (.pr .str .str)) c1004_1_10, .v (.sl .str) c1004_2_3]), (1005, .cells [.v .str c1005_0_4, .v (.sl (.pr .str .str)) c1005_1_5, .v (.sl .str) c1005_2_6]), (1006, .cells [.v .str c1006_0_7, .nilS, .nilS]), (1012, .cells [.v .str c1012_0, .row 900002, .row 900003]), (1014, .cells [.v .str c1014_0_11, .v (.sl .str) c1014_1_12]), (900002, .row 53 (.pr .str .str) false w900002_13), (900003, .row 9 .str false w900003)]⟩
def ref3_Then_L3_tl6 (x0 : List (Str × List Str)) (c57 : Int) (s58 : Int) (_c1004_1_2 : List (Str × Str)) (_c83 : Int) (c1004_0_1 : Str) (c1004_1_10 : List (Str × Str)) (c1004_2_3 : List Str) (c1005_0_4 : Str) (c1005_1_5 : List (Str × Str)) (c1005_2_6 : List Str) (c1006_0_7 : Str) (c1012_0 : Str) (c1014_0_11 : Str) (c1014_1_12 : List Str) (w900003 : List Str) (o3_w900002 : List (Str × Str)) : St := ⟨136, [(4, .box 1004 0), (5, .box 1005 0), (6, .box 1006 0), (12, .box 1012 0), (14, .box 1014 0), (56, .v (.sl (.pr .str (.sl .str))) x0), (57, .v (.int .i64) c57), (58, .v (.int .i64) s58)], [(1004, .cells [.v .str c1004_0_1, .v (.sl (.pr .str .str)) c1004_1_10, .v (.sl .str) c1004_2_3]), (1005, .cells [.v .str c1005_0_4, .v (.sl (.pr .str .str)) c1005_1_5, .v (.sl .str) c1005_2_6]), (1006, .cells [.v .str c1006_0_7, .nilS, .nilS]), (1012, .cells [.v .str c1012_0, .row 900002, .row 900003]), (1014, .cells [.v .str c1014_0_11, .v (.sl .str) c1014_1_12]), (900002, .row 53 (.pr .str .str) false o3_w900002), (900003, .row 9 .str false w900003)]⟩
def ref3_Then_L3_G (N : Nat) (x0 : List (Str × List Str)) (c57 : Int) (s58 : Int) (c1004_1_2 : List (Str × Str)) (c83 : Int) (c1004_0_1 : Str) (c1004_1_10 : List (Str × Str)) (c1004_2_3 : List Str) (c1005_0_4 : Str) (c1005_1_5 : List (Str × Str)) (c1005_2_6 : List Str) (c1006_0_7 : Str) (c1012_0 : Str) (c1014_0_11 : Str) (c1014_1_12 : List Str) (w900003 : List Str) (s84 : Int) (w900002_13 : List (Str × Str)) (k : Ex → St → Option ((Str × List (Str × Str) × List Str) × Int)) : Option ((Str × List (Str × Str) × List Str) × Int) :=
  ref3_Then_L3 N c1004_1_2 c83 c1005_0_4 c1005_1_5 c1005_2_6 c1014_0_11 (fun o3_w900002 => k (.exit 6) (ref3_Then_L3_tl6 x0 c57 s58 c1004_1_2 c83 c1004_0_1 c1004_1_10 c1004_2_3 c1005_0_4 c1005_1_5 c1005_2_6 c1006_0_7 c1012_0 c1014_0_11 c1014_1_12 w900003 o3_w900002)) N s84 w900002_13
abbrev ref3_Then_L3_F (N : Nat) : FV ref3_Then_L3_fs → HV ref3_Then_L3_bs → (Ex → St → Option ((Str × List (Str × Str) × List Str) × Int)) → Option ((Str × List (Str × Str) × List Str) × Int) := fun x y k => ref3_Then_L3_G N x.2.2.2.2.2.1 x.2.2.2.2.2.2.1 x.2.2.2.2.2.2.2.1 x.2.2.2.2.2.2.2.2.1 x.2.2.2.2.2.2.2.2.2.1 y.1.1 y.1.2.1 y.1.2.2.1 y.2.1.1 y.2.1.2.1 y.2.1.2.2.1 y.2.2.1.1 y.2.2.2.1.1 y.2.2.2.2.1.1 y.2.2.2.2.1.2.1 y.2.2.2.2.2.2.1 x.2.2.2.2.2.2.2.2.2.2.1 y.2.2.2.2.2.1 k
abbrev ref3_Then_L1_fs : List (Nat × Sl) := [(4, .box 1004 0), (5, .box 1005 0), (6, .box 1006 0), (12, .box 1012 0), (56, .v (.sl (.pr .str (.sl .str)))), (57, .v (.int .i64)), (58, .v (.int .i64))]
abbrev ref3_Then_L1_bs : List (Nat × Sb) := [(1004, .cells [.v .str, .v (.sl (.pr .str .str)), .v (.sl .str)]), (1005, .cells [.v .str, .v (.sl (.pr .str .str)), .v (.sl .str)]), (1006, .cells [.v .str, .nilS, .nilS]), (1012, .cells [.v .str, .row 900002, .row 900003]), (900002, .row 53 (.pr .str .str) false), (900003, .row 9 .str false)]
def ref3_Then_L1_hd (x0 : List (Str × List Str)) (c57 : Int) (c1004_0_1 : Str) (c1004_1_2 : List (Str × Str)) (c1004_2_3 : List Str) (c1005_0_4 : Str) (c1005_1_5 : List (Str × Str)) (c1005_2_6 : List Str) (c1006_0_7 : Str) (c1012_0 : Str) (s58 : Int) (w900002 : List (Str × Str)) (w900003 : List Str) : St := ⟨136, [(4, .box 1004 0), (5, .box 1005 0), (6, .box 1006 0), (12, .box 1012 0), (56, .v (.sl (.pr .str (.sl .str))) x0), (57, .v (.int .i64) c57), (58, .v (.int .i64) s58)], [(1004, .cells [.v .str c1004_0_1, .v (.sl (.pr .str .str)) c1004_1_2, .v (.sl .str) c1004_2_3]), (1005, .cells [.v .str c1005_0_4, .v (.sl (.pr .str .str)) c1005_1_5, .v (.sl .str) c1005_2_6]), (1006, .cells [.v .str c1006_0_7, .nilS, .nilS]), (1012, .cells [.v .str c1012_0, .row 900002, .row 900003]), (900002, .row 53 (.pr .str .str) false w900002), (900003, .row 9 .str false w900003)]⟩
def ref3_Then_L1_tl2 (_x0 : List (Str × List Str)) (_c57 : Int) (_c1004_0_1 : Str) (_c1004_1_2 : List (Str × Str)) (_c1004_2_3 : List Str) (_c1005_0_4 : Str) (_c1005_1_5 : List (Str × Str)) (_c1005_2_6 : List Str) (c1006_0_7 : Str) (c1012_0 : Str) (o1_w900002 : List (Str × Str)) (o1_w900003 : List Str) : St := ⟨136, [(6, .box 1006 0), (12, .box 1012 0)], [(1006, .cells [.v .str c1006_0_7, .nilS, .nilS]), (1012, .cells [.v .str c1012_0, .row 900002, .row 900003]), (900002, .row 53 (.pr .str .str) false o1_w900002), (900003, .row 9 .str false o1_w900003)]⟩
def ref3_Then_L1_G (N : Nat) (x0 : List (Str × List Str)) (c57 : Int) (c1004_0_1 : Str) (c1004_1_2 : List (Str × Str)) (c1004_2_3 : List Str) (c1005_0_4 : Str) (c1005_1_5 : List (Str × Str)) (c1005_2_6 : List Str) (c1006_0_7 : Str) (c1012_0 : Str) (s58 : Int) (w900002 : List (Str × Str)) (w900003 : List Str) (k : Ex → St → Option ((Str × List (Str × Str) × List Str) × Int)) : Option ((Str × List (Str × Str) × List Str) × Int) :=
  ref3_Then_L1 N x0 c57 c1004_1_2 c1004_2_3 c1005_0_4 c1005_1_5 c1005_2_6 (fun o1_w900002 o1_w900003 => k (.exit 2) (ref3_Then_L1_tl2 x0 c57 c1004_0_1 c1004_1_2 c1004_2_3 c1005_0_4 c1005_1_5 c1005_2_6 c1006_0_7 c1012_0 o1_w900002 o1_w900003)) N s58 w900002 w900003
abbrev ref3_Then_L1_F (N : Nat) : FV ref3_Then_L1_fs → HV ref3_Then_L1_bs → (Ex → St → Option ((Str × List (Str × Str) × List Str) × Int)) → Option ((Str × List (Str × Str) × List Str) × Int) := fun x y k => ref3_Then_L1_G N x.2.2.2.2.1 x.2.2.2.2.2.1 y.1.1 y.1.2.1 y.1.2.2.1 y.2.1.1 y.2.1.2.1 y.2.1.2.2.1 y.2.2.1.1 y.2.2.2.1.1 x.2.2.2.2.2.2.1 y.2.2.2.2.1 y.2.2.2.2.2.1 k
noncomputable def ref3_Then_LP (N : Nat) : Nat → Code → St → (Ex → St → Option ((Str × List (Str × Str) × List Str) × Int)) → Option ((Str × List (Str × Str) × List Str) × Int) := fun i c =>
  match i with
  | 0 => (LPc 136 ref3_Then_L0_fs ref3_Then_L0_bs (ref3_Then_L0_F N) (fun st k => iter (ref3_Then_h 0) (exec (ref3_Then_E N) N c 0) N st k))
  | 2 => (LPc 136 ref3_Then_L1_fs ref3_Then_L1_bs (ref3_Then_L1_F N) (fun st k => iter (ref3_Then_h 2) (exec (ref3_Then_E N) N c 2) N st k))
  | 4 => (LPc 136 ref3_Then_L2_fs ref3_Then_L2_bs (ref3_Then_L2_F N) (fun st k => iter (ref3_Then_h 4) (exec (ref3_Then_E N) N c 4) N st k))
  | 6 => (LPc 136 ref3_Then_L3_fs ref3_Then_L3_bs (ref3_Then_L3_F N) (fun st k => iter (ref3_Then_h 6) (exec (ref3_Then_E N) N c 6) N st k))
  | i => fun st k => iter (ref3_Then_h i) (exec (ref3_Then_E N) N c i) N st k
theorem ref3_Then_L3_step (N : Nat) (x0 : List (Str × List Str)) (c57 : Int) (s58 : Int) (c1004_1_2 : List (Str × Str)) (c83 : Int) (c1004_0_1 : Str) (c1004_1_10 : List (Str × Str)) (c1004_2_3 : List Str) (c1005_0_4 : Str) (c1005_1_5 : List (Str × Str)) (c1005_2_6 : List Str) (c1006_0_7 : Str) (c1012_0 : Str) (c1014_0_11 : Str) (c1014_1_12 : List Str) (w900003 : List Str) (KX : Nat → St → Option ((Str × List (Str × Str) × List Str) × Int)) (I : St → Option ((Str × List (Str × Str) × List Str) × Int)) (s84 : Int) (w900002_13 : List (Str × Str)) :
    execL (ref3_Then_LP N) (ref3_Then_E N) (cAt (bodyOf Tryz.f18) [true, true, true, true, true, false, true, false, false, true, true, false, false, true, true, false, true, false, false]) 6 (ref3_Then_L3_hd x0 c57 s58 c1004_1_2 c83 c1004_0_1 c1004_1_10 c1004_2_3 c1005_0_4 c1005_1_5 c1005_2_6 c1006_0_7 c1012_0 c1014_0_11 c1014_1_12 w900003 s84 w900002_13) (roundK (ref3_Then_h 6) I KX (resD (ref3_Then_E N) Tryz.f18 (ref3_Then_sg fun x _ => ref3_Then N x.1 x.2.1 x.2.2.1) ref3_Then_pk)) = ref3_Then_L3T N c1004_1_2 c83 c1005_0_4 c1005_1_5 c1005_2_6 c1014_0_11 (fun o3_w900002 => KX 6 (ref3_Then_L3_tl6 x0 c57 s58 c1004_1_2 c83 c1004_0_1 c1004_1_10 c1004_2_3 c1005_0_4 c1005_1_5 c1005_2_6 c1006_0_7 c1012_0 c1014_0_11 c1014_1_12 w900003 o3_w900002)) (fun s84 w900002_13 => I (ref3_Then_L3_hd x0 c57 s58 c1004_1_2 c83 c1004_0_1 c1004_1_10 c1004_2_3 c1005_0_4 c1005_1_5 c1005_2_6 c1006_0_7 c1012_0 c1014_0_11 c1014_1_12 w900003 s84 w900002_13)) s84 w900002_13 := by kernel_rfl
theorem ref3_Then_L3_ok (N : Nat) : ∀ x y k, (∀ st, k .ret st = (resD (ref3_Then_E N) Tryz.f18 (ref3_Then_sg fun x _ => ref3_Then N x.1 x.2.1 x.2.2.1) ref3_Then_pk) st) → iter (ref3_Then_h 6) (exec (ref3_Then_E N) N (cAt (bodyOf Tryz.f18) [true, true, true, true, true, false, true, false, false, true, true, false, false, true, true, false, true, false, false]) 6) N ⟨136, unF ref3_Then_L3_fs x, unH ref3_Then_L3_bs y⟩ k = ref3_Then_L3_F N x y k := fun x y k hk =>
  iter_link (S := (Int) × (List (Str × Str)) × Unit) (ref3_Then_h 6) _ (execL (ref3_Then_LP N) (ref3_Then_E N) (cAt (bodyOf Tryz.f18) [true, true, true, true, true, false, true, false, false, true, true, false, false, true, true, false, true, false, false]) 6) (resD (ref3_Then_E N) Tryz.f18 (ref3_Then_sg fun x _ => ref3_Then N x.1 x.2.1 x.2.2.1) ref3_Then_pk) (fun st k hk => execL_eq _ _ N _ (cAt (bodyOf Tryz.f18) [true, true, true, true, true, false, true, false, false, true, true, false, false, true, true, false, true, false, false]) 6 (show LoopsOk (ref3_Then_LP N) (ref3_Then_E N) N (resD (ref3_Then_E N) Tryz.f18 (ref3_Then_sg fun x _ => ref3_Then N x.1 x.2.1 x.2.2.1) ref3_Then_pk) [] from trivial) st k hk) (fun s => ref3_Then_L3_hd x.2.2.2.2.2.1 x.2.2.2.2.2.2.1 x.2.2.2.2.2.2.2.1 x.2.2.2.2.2.2.2.2.1 x.2.2.2.2.2.2.2.2.2.1 y.1.1 y.1.2.1 y.1.2.2.1 y.2.1.1 y.2.1.2.1 y.2.1.2.2.1 y.2.2.1.1 y.2.2.2.1.1 y.2.2.2.2.1.1 y.2.2.2.2.1.2.1 y.2.2.2.2.2.2.1 s.1 s.2.1) k hk
    (fun self s => ref3_Then_L3T N x.2.2.2.2.2.2.2.2.1 x.2.2.2.2.2.2.2.2.2.1 y.2.1.1 y.2.1.2.1 y.2.1.2.2.1 y.2.2.2.2.1.1 (fun o3_w900002 => k (.exit 6) (ref3_Then_L3_tl6 x.2.2.2.2.2.1 x.2.2.2.2.2.2.1 x.2.2.2.2.2.2.2.1 x.2.2.2.2.2.2.2.2.1 x.2.2.2.2.2.2.2.2.2.1 y.1.1 y.1.2.1 y.1.2.2.1 y.2.1.1 y.2.1.2.1 y.2.1.2.2.1 y.2.2.1.1 y.2.2.2.1.1 y.2.2.2.2.1.1 y.2.2.2.2.1.2.1 y.2.2.2.2.2.2.1 o3_w900002)) (fun s84 w900002_13 => self (s84, w900002_13, ())) s.1 s.2.1) (fun n s => ref3_Then_L3 N x.2.2.2.2.2.2.2.2.1 x.2.2.2.2.2.2.2.2.2.1 y.2.1.1 y.2.1.2.1 y.2.1.2.2.1 y.2.2.2.2.1.1 (fun o3_w900002 => k (.exit 6) (ref3_Then_L3_tl6 x.2.2.2.2.2.1 x.2.2.2.2.2.2.1 x.2.2.2.2.2.2.2.1 x.2.2.2.2.2.2.2.2.1 x.2.2.2.2.2.2.2.2.2.1 y.1.1 y.1.2.1 y.1.2.2.1 y.2.1.1 y.2.1.2.1 y.2.1.2.2.1 y.2.2.1.1 y.2.2.2.1.1 y.2.2.2.2.1.1 y.2.2.2.2.1.2.1 y.2.2.2.2.2.2.1 o3_w900002)) n s.1 s.2.1) (fun _ => rfl) (fun _ _ => rfl)
    (fun I s => ref3_Then_L3_step N x.2.2.2.2.2.1 x.2.2.2.2.2.2.1 x.2.2.2.2.2.2.2.1 x.2.2.2.2.2.2.2.2.1 x.2.2.2.2.2.2.2.2.2.1 y.1.1 y.1.2.1 y.1.2.2.1 y.2.1.1 y.2.1.2.1 y.2.1.2.2.1 y.2.2.1.1 y.2.2.2.1.1 y.2.2.2.2.1.1 y.2.2.2.2.1.2.1 y.2.2.2.2.2.2.1 (fun j => k (.exit j)) I s.1 s.2.1) N (x.2.2.2.2.2.2.2.2.2.2.1, y.2.2.2.2.2.1, ())
theorem ref3_Then_lp6 (N : Nat) : ∀ st k, (∀ st, k .ret st = (resD (ref3_Then_E N) Tryz.f18 (ref3_Then_sg fun x _ => ref3_Then N x.1 x.2.1 x.2.2.1) ref3_Then_pk) st) → ref3_Then_LP N 6 (cAt (bodyOf Tryz.f18) [true, true, true, true, true, false, true, false, false, true, true, false, false, true, true, false, true, false, false]) st k = iter (Env.hint (ref3_Then_E N) 6) (exec (ref3_Then_E N) N (cAt (bodyOf Tryz.f18) [true, true, true, true, true, false, true, false, false, true, true, false, false, true, true, false, true, false, false]) 6) N st k := fun st k hk => LPc_eq 136 ref3_Then_L3_fs ref3_Then_L3_bs _ _ (resD (ref3_Then_E N) Tryz.f18 (ref3_Then_sg fun x _ => ref3_Then N x.1 x.2.1 x.2.2.1) ref3_Then_pk) (ref3_Then_L3_ok N) _ st k hk (rfl)
theorem ref3_Then_L2_step (N : Nat) (x0 : List (Str × List Str)) (c57 : Int) (s58 : Int) (c1005_1_5 : List (Str × Str)) (c64 : Int) (c1004_0_1 : Str) (c1004_1_2 : List (Str × Str)) (c1004_2_3 : List Str) (c1005_0_4 : Str) (c1005_1_8 : List (Str × Str)) (c1005_2_6 : List Str) (c1006_0_7 : Str) (c1012_0 : Str) (c1014_0 : Str) (c1014_1 : List Str) (w900003 : List Str) (KX : Nat → St → Option ((Str × List (Str × Str) × List Str) × Int)) (I : St → Option ((Str × List (Str × Str) × List Str) × Int)) (s65 : Int) (w900002_9 : List (Str × Str)) :
    execL (ref3_Then_LP N) (ref3_Then_E N) (cAt (bodyOf Tryz.f18) [true, true, true, true, true, false, true, false, false, true, true, false, false, true, false, true, false, false]) 4 (ref3_Then_L2_hd x0 c57 s58 c1005_1_5 c64 c1004_0_1 c1004_1_2 c1004_2_3 c1005_0_4 c1005_1_8 c1005_2_6 c1006_0_7 c1012_0 c1014_0 c1014_1 w900003 s65 w900002_9) (roundK (ref3_Then_h 4) I KX (resD (ref3_Then_E N) Tryz.f18 (ref3_Then_sg fun x _ => ref3_Then N x.1 x.2.1 x.2.2.1) ref3_Then_pk)) = ref3_Then_L2T N c1005_1_5 c64 c1014_0 (fun o2_w900002 => KX 4 (ref3_Then_L2_tl4 x0 c57 s58 c1005_1_5 c64 c1004_0_1 c1004_1_2 c1004_2_3 c1005_0_4 c1005_1_8 c1005_2_6 c1006_0_7 c1012_0 c1014_0 c1014_1 w900003 o2_w900002)) (fun s65 w900002_9 => I (ref3_Then_L2_hd x0 c57 s58 c1005_1_5 c64 c1004_0_1 c1004_1_2 c1004_2_3 c1005_0_4 c1005_1_8 c1005_2_6 c1006_0_7 c1012_0 c1014_0 c1014_1 w900003 s65 w900002_9)) s65 w900002_9 := by kernel_rfl
theorem ref3_Then_L2_ok (N : Nat) : ∀ x y k, (∀ st, k .ret st = (resD (ref3_Then_E N) Tryz.f18 (ref3_Then_sg fun x _ => ref3_Then N x.1 x.2.1 x.2.2.1) ref3_Then_pk) st) → iter (ref3_Then_h 4) (exec (ref3_Then_E N) N (cAt (bodyOf Tryz.f18) [true, true, true, true, true, false, true, false, false, true, true, false, false, true, false, true, false, false]) 4) N ⟨136, unF ref3_Then_L2_fs x, unH ref3_Then_L2_bs y⟩ k = ref3_Then_L2_F N x y k := fun x y k hk =>
  iter_link (S := (Int) × (List (Str × Str)) × Unit) (ref3_Then_h 4) _ (execL (ref3_Then_LP N) (ref3_Then_E N) (cAt (bodyOf Tryz.f18) [true, true, true, true, true, false, true, false, false, true, true, false, false, true, false, true, false, false]) 4) (resD (ref3_Then_E N) Tryz.f18 (ref3_Then_sg fun x _ => ref3_Then N x.1 x.2.1 x.2.2.1) ref3_Then_pk) (fun st k hk => execL_eq _ _ N _ (cAt (bodyOf Tryz.f18) [true, true, true, true, true, false, true, false, false, true, true, false, false, true, false, true, false, false]) 4 (show LoopsOk (ref3_Then_LP N) (ref3_Then_E N) N (resD (ref3_Then_E N) Tryz.f18 (ref3_Then_sg fun x _ => ref3_Then N x.1 x.2.1 x.2.2.1) ref3_Then_pk) [] from trivial) st k hk) (fun s => ref3_Then_L2_hd x.2.2.2.2.2.1 x.2.2.2.2.2.2.1 x.2.2.2.2.2.2.2.1 x.2.2.2.2.2.2.2.2.1 x.2.2.2.2.2.2.2.2.2.1 y.1.1 y.1.2.1 y.1.2.2.1 y.2.1.1 y.2.1.2.1 y.2.1.2.2.1 y.2.2.1.1 y.2.2.2.1.1 y.2.2.2.2.1.1 y.2.2.2.2.1.2.1 y.2.2.2.2.2.2.1 s.1 s.2.1) k hk
    (fun self s => ref3_Then_L2T N x.2.2.2.2.2.2.2.2.1 x.2.2.2.2.2.2.2.2.2.1 y.2.2.2.2.1.1 (fun o2_w900002 => k (.exit 4) (ref3_Then_L2_tl4 x.2.2.2.2.2.1 x.2.2.2.2.2.2.1 x.2.2.2.2.2.2.2.1 x.2.2.2.2.2.2.2.2.1 x.2.2.2.2.2.2.2.2.2.1 y.1.1 y.1.2.1 y.1.2.2.1 y.2.1.1 y.2.1.2.1 y.2.1.2.2.1 y.2.2.1.1 y.2.2.2.1.1 y.2.2.2.2.1.1 y.2.2.2.2.1.2.1 y.2.2.2.2.2.2.1 o2_w900002)) (fun s65 w900002_9 => self (s65, w900002_9, ())) s.1 s.2.1) (fun n s => ref3_Then_L2 N x.2.2.2.2.2.2.2.2.1 x.2.2.2.2.2.2.2.2.2.1 y.2.2.2.2.1.1 (fun o2_w900002 => k (.exit 4) (ref3_Then_L2_tl4 x.2.2.2.2.2.1 x.2.2.2.2.2.2.1 x.2.2.2.2.2.2.2.1 x.2.2.2.2.2.2.2.2.1 x.2.2.2.2.2.2.2.2.2.1 y.1.1 y.1.2.1 y.1.2.2.1 y.2.1.1 y.2.1.2.1 y.2.1.2.2.1 y.2.2.1.1 y.2.2.2.1.1 y.2.2.2.2.1.1 y.2.2.2.2.1.2.1 y.2.2.2.2.2.2.1 o2_w900002)) n s.1 s.2.1) (fun _ => rfl) (fun _ _ => rfl)
    (fun I s => ref3_Then_L2_step N x.2.2.2.2.2.1 x.2.2.2.2.2.2.1 x.2.2.2.2.2.2.2.1 x.2.2.2.2.2.2.2.2.1 x.2.2.2.2.2.2.2.2.2.1 y.1.1 y.1.2.1 y.1.2.2.1 y.2.1.1 y.2.1.2.1 y.2.1.2.2.1 y.2.2.1.1 y.2.2.2.1.1 y.2.2.2.2.1.1 y.2.2.2.2.1.2.1 y.2.2.2.2.2.2.1 (fun j => k (.exit j)) I s.1 s.2.1) N (x.2.2.2.2.2.2.2.2.2.2.1, y.2.2.2.2.2.1, ())
theorem ref3_Then_lp4 (N : Nat) : ∀ st k, (∀ st, k .ret st = (resD (ref3_Then_E N) Tryz.f18 (ref3_Then_sg fun x _ => ref3_Then N x.1 x.2.1 x.2.2.1) ref3_Then_pk) st) → ref3_Then_LP N 4 (cAt (bodyOf Tryz.f18) [true, true, true, true, true, false, true, false, false, true, true, false, false, true, false, true, false, false]) st k = iter (Env.hint (ref3_Then_E N) 4) (exec (ref3_Then_E N) N (cAt (bodyOf Tryz.f18) [true, true, true, true, true, false, true, false, false, true, true, false, false, true, false, true, false, false]) 4) N st k := fun st k hk => LPc_eq 136 ref3_Then_L2_fs ref3_Then_L2_bs _ _ (resD (ref3_Then_E N) Tryz.f18 (ref3_Then_sg fun x _ => ref3_Then N x.1 x.2.1 x.2.2.1) ref3_Then_pk) (ref3_Then_L2_ok N) _ st k hk (rfl)
theorem ref3_Then_L1_step (N : Nat) (x0 : List (Str × List Str)) (c57 : Int) (c1004_0_1 : Str) (c1004_1_2 : List (Str × Str)) (c1004_2_3 : List Str) (c1005_0_4 : Str) (c1005_1_5 : List (Str × Str)) (c1005_2_6 : List Str) (c1006_0_7 : Str) (c1012_0 : Str) (KX : Nat → St → Option ((Str × List (Str × Str) × List Str) × Int)) (I : St → Option ((Str × List (Str × Str) × List Str) × Int)) (s58 : Int) (w900002 : List (Str × Str)) (w900003 : List Str) :
    execL (ref3_Then_LP N) (ref3_Then_E N) (cAt (bodyOf Tryz.f18) [true, true, true, true, true, false, true, false, false]) 2 (ref3_Then_L1_hd x0 c57 c1004_0_1 c1004_1_2 c1004_2_3 c1005_0_4 c1005_1_5 c1005_2_6 c1006_0_7 c1012_0 s58 w900002 w900003) (roundK (ref3_Then_h 2) I KX (resD (ref3_Then_E N) Tryz.f18 (ref3_Then_sg fun x _ => ref3_Then N x.1 x.2.1 x.2.2.1) ref3_Then_pk)) = ref3_Then_L1T N x0 c57 c1004_1_2 c1004_2_3 c1005_0_4 c1005_1_5 c1005_2_6 (fun o1_w900002 o1_w900003 => KX 2 (ref3_Then_L1_tl2 x0 c57 c1004_0_1 c1004_1_2 c1004_2_3 c1005_0_4 c1005_1_5 c1005_2_6 c1006_0_7 c1012_0 o1_w900002 o1_w900003)) (fun s58 w900002 w900003 => I (ref3_Then_L1_hd x0 c57 c1004_0_1 c1004_1_2 c1004_2_3 c1005_0_4 c1005_1_5 c1005_2_6 c1006_0_7 c1012_0 s58 w900002 w900003)) s58 w900002 w900003 := by kernel_rfl
theorem ref3_Then_L1_ok (N : Nat) : ∀ x y k, (∀ st, k .ret st = (resD (ref3_Then_E N) Tryz.f18 (ref3_Then_sg fun x _ => ref3_Then N x.1 x.2.1 x.2.2.1) ref3_Then_pk) st) → iter (ref3_Then_h 2) (exec (ref3_Then_E N) N (cAt (bodyOf Tryz.f18) [true, true, true, true, true, false, true, false, false]) 2) N ⟨136, unF ref3_Then_L1_fs x, unH ref3_Then_L1_bs y⟩ k = ref3_Then_L1_F N x y k := fun x y k hk =>
  iter_link (S := (Int) × (List (Str × Str)) × (List Str) × Unit) (ref3_Then_h 2) _ (execL (ref3_Then_LP N) (ref3_Then_E N) (cAt (bodyOf Tryz.f18) [true, true, true, true, true, false, true, false, false]) 2) (resD (ref3_Then_E N) Tryz.f18 (ref3_Then_sg fun x _ => ref3_Then N x.1 x.2.1 x.2.2.1) ref3_Then_pk) (fun st k hk => execL_eq _ _ N _ (cAt (bodyOf Tryz.f18) [true, true, true, true, true, false, true, false, false]) 2 (show LoopsOk (ref3_Then_LP N) (ref3_Then_E N) N (resD (ref3_Then_E N) Tryz.f18 (ref3_Then_sg fun x _ => ref3_Then N x.1 x.2.1 x.2.2.1) ref3_Then_pk) [(4, (cAt (bodyOf Tryz.f18) [true, true, true, true, true, false, true, false, false, true, true, false, false, true, false, true, false, false])), (6, (cAt (bodyOf Tryz.f18) [true, true, true, true, true, false, true, false, false, true, true, false, false, true, true, false, true, false, false]))] from ⟨ref3_Then_lp4 N, ref3_Then_lp6 N, trivial⟩) st k hk) (fun s => ref3_Then_L1_hd x.2.2.2.2.1 x.2.2.2.2.2.1 y.1.1 y.1.2.1 y.1.2.2.1 y.2.1.1 y.2.1.2.1 y.2.1.2.2.1 y.2.2.1.1 y.2.2.2.1.1 s.1 s.2.1 s.2.2.1) k hk
    (fun self s => ref3_Then_L1T N x.2.2.2.2.1 x.2.2.2.2.2.1 y.1.2.1 y.1.2.2.1 y.2.1.1 y.2.1.2.1 y.2.1.2.2.1 (fun o1_w900002 o1_w900003 => k (.exit 2) (ref3_Then_L1_tl2 x.2.2.2.2.1 x.2.2.2.2.2.1 y.1.1 y.1.2.1 y.1.2.2.1 y.2.1.1 y.2.1.2.1 y.2.1.2.2.1 y.2.2.1.1 y.2.2.2.1.1 o1_w900002 o1_w900003)) (fun s58 w900002 w900003 => self (s58, w900002, w900003, ())) s.1 s.2.1 s.2.2.1) (fun n s => ref3_Then_L1 N x.2.2.2.2.1 x.2.2.2.2.2.1 y.1.2.1 y.1.2.2.1 y.2.1.1 y.2.1.2.1 y.2.1.2.2.1 (fun o1_w900002 o1_w900003 => k (.exit 2) (ref3_Then_L1_tl2 x.2.2.2.2.1 x.2.2.2.2.2.1 y.1.1 y.1.2.1 y.1.2.2.1 y.2.1.1 y.2.1.2.1 y.2.1.2.2.1 y.2.2.1.1 y.2.2.2.1.1 o1_w900002 o1_w900003)) n s.1 s.2.1 s.2.2.1) (fun _ => rfl) (fun _ _ => rfl)
    (fun I s => ref3_Then_L1_step N x.2.2.2.2.1 x.2.2.2.2.2.1 y.1.1 y.1.2.1 y.1.2.2.1 y.2.1.1 y.2.1.2.1 y.2.1.2.2.1 y.2.2.1.1 y.2.2.2.1.1 (fun j => k (.exit j)) I s.1 s.2.1 s.2.2.1) N (x.2.2.2.2.2.2.1, y.2.2.2.2.1, y.2.2.2.2.2.1, ())
theorem ref3_Then_lp2 (N : Nat) : ∀ st k, (∀ st, k .ret st = (resD (ref3_Then_E N) Tryz.f18 (ref3_Then_sg fun x _ => ref3_Then N x.1 x.2.1 x.2.2.1) ref3_Then_pk) st) → ref3_Then_LP N 2 (cAt (bodyOf Tryz.f18) [true, true, true, true, true, false, true, false, false]) st k = iter (Env.hint (ref3_Then_E N) 2) (exec (ref3_Then_E N) N (cAt (bodyOf Tryz.f18) [true, true, true, true, true, false, true, false, false]) 2) N st k := fun st k hk => LPc_eq 136 ref3_Then_L1_fs ref3_Then_L1_bs _ _ (resD (ref3_Then_E N) Tryz.f18 (ref3_Then_sg fun x _ => ref3_Then N x.1 x.2.1 x.2.2.1) ref3_Then_pk) (ref3_Then_L1_ok N) _ st k hk (rfl)
theorem ref3_Then_L0_step (N : Nat) (x0 : List (Str × List Str)) (c36 : List Str) (c37 : Int) (c1004_0 : Str) (c1004_1 : List (Str × Str)) (c1004_2 : List Str) (c1005_0 : Str) (c1005_1 : List (Str × Str)) (c1005_2 : List Str) (c1006_0 : Str) (KX : Nat → St → Option ((Str × List (Str × Str) × List Str) × Int)) (I : St → Option ((Str × List (Str × Str) × List Str) × Int)) (s38 : Int) :
    execL (ref3_Then_LP N) (ref3_Then_E N) (cAt (bodyOf Tryz.f18) [true, true, true, false, true, false, false]) 0 (ref3_Then_L0_hd x0 c36 c37 c1004_0 c1004_1 c1004_2 c1005_0 c1005_1 c1005_2 c1006_0 s38) (roundK (ref3_Then_h 0) I KX (resD (ref3_Then_E N) Tryz.f18 (ref3_Then_sg fun x _ => ref3_Then N x.1 x.2.1 x.2.2.1) ref3_Then_pk)) = ref3_Then_L0T N c36 c37 c1005_0 c1005_1 c1005_2 (KX 0 (ref3_Then_L0_tl0 x0 c36 c37 c1004_0 c1004_1 c1004_2 c1005_0 c1005_1 c1005_2 c1006_0)) (fun s38 => I (ref3_Then_L0_hd x0 c36 c37 c1004_0 c1004_1 c1004_2 c1005_0 c1005_1 c1005_2 c1006_0 s38)) s38 := by kernel_rfl
theorem ref3_Then_L0_ok (N : Nat) : ∀ x y k, (∀ st, k .ret st = (resD (ref3_Then_E N) Tryz.f18 (ref3_Then_sg fun x _ => ref3_Then N x.1 x.2.1 x.2.2.1) ref3_Then_pk) st) → iter (ref3_Then_h 0) (exec (ref3_Then_E N) N (cAt (bodyOf Tryz.f18) [true, true, true, false, true, false, false]) 0) N ⟨136, unF ref3_Then_L0_fs x, unH ref3_Then_L0_bs y⟩ k = ref3_Then_L0_F N x y k := fun x y k hk =>
  iter_link (S := (Int) × Unit) (ref3_Then_h 0) _ (execL (ref3_Then_LP N) (ref3_Then_E N) (cAt (bodyOf Tryz.f18) [true, true, true, false, true, false, false]) 0) (resD (ref3_Then_E N) Tryz.f18 (ref3_Then_sg fun x _ => ref3_Then N x.1 x.2.1 x.2.2.1) ref3_Then_pk) (fun st k hk => execL_eq _ _ N _ (cAt (bodyOf Tryz.f18) [true, true, true, false, true, false, false]) 0 (show LoopsOk (ref3_Then_LP N) (ref3_Then_E N) N (resD (ref3_Then_E N) Tryz.f18 (ref3_Then_sg fun x _ => ref3_Then N x.1 x.2.1 x.2.2.1) ref3_Then_pk) [] from trivial) st k hk) (fun s => ref3_Then_L0_hd x.1 x.2.2.2.2.1 x.2.2.2.2.2.1 y.1.1 y.1.2.1 y.1.2.2.1 y.2.1.1 y.2.1.2.1 y.2.1.2.2.1 y.2.2.1.1 s.1) k hk
    (fun self s => ref3_Then_L0T N x.2.2.2.2.1 x.2.2.2.2.2.1 y.2.1.1 y.2.1.2.1 y.2.1.2.2.1 (k (.exit 0) (ref3_Then_L0_tl0 x.1 x.2.2.2.2.1 x.2.2.2.2.2.1 y.1.1 y.1.2.1 y.1.2.2.1 y.2.1.1 y.2.1.2.1 y.2.1.2.2.1 y.2.2.1.1)) (fun s38 => self (s38, ())) s.1) (fun n s => ref3_Then_L0 N x.2.2.2.2.1 x.2.2.2.2.2.1 y.2.1.1 y.2.1.2.1 y.2.1.2.2.1 (k (.exit 0) (ref3_Then_L0_tl0 x.1 x.2.2.2.2.1 x.2.2.2.2.2.1 y.1.1 y.1.2.1 y.1.2.2.1 y.2.1.1 y.2.1.2.1 y.2.1.2.2.1 y.2.2.1.1)) n s.1) (fun _ => rfl) (fun _ _ => rfl)
    (fun I s => ref3_Then_L0_step N x.1 x.2.2.2.2.1 x.2.2.2.2.2.1 y.1.1 y.1.2.1 y.1.2.2.1 y.2.1.1 y.2.1.2.1 y.2.1.2.2.1 y.2.2.1.1 (fun j => k (.exit j)) I s.1) N (x.2.2.2.2.2.2.1, ())
theorem ref3_Then_lp0 (N : Nat) : ∀ st k, (∀ st, k .ret st = (resD (ref3_Then_E N) Tryz.f18 (ref3_Then_sg fun x _ => ref3_Then N x.1 x.2.1 x.2.2.1) ref3_Then_pk) st) → ref3_Then_LP N 0 (cAt (bodyOf Tryz.f18) [true, true, true, false, true, false, false]) st k = iter (Env.hint (ref3_Then_E N) 0) (exec (ref3_Then_E N) N (cAt (bodyOf Tryz.f18) [true, true, true, false, true, false, false]) 0) N st k := fun st k hk => LPc_eq 136 ref3_Then_L0_fs ref3_Then_L0_bs _ _ (resD (ref3_Then_E N) Tryz.f18 (ref3_Then_sg fun x _ => ref3_Then N x.1 x.2.1 x.2.2.1) ref3_Then_pk) (ref3_Then_L0_ok N) _ st k hk (rfl)
theorem ref3_Then_core (N : Nat) (x : SV [.v (.sl (.pr .str (.sl .str))), .v (.pr .str (.pr (.sl (.pr .str .str)) (.sl .str))), .v (.pr .str (.pr (.sl (.pr .str .str)) (.sl .str)))]) (y : BV []) : runL (ref3_Then_E N) Tryz.f18 (ref3_Then_sg fun x _ => ref3_Then N x.1 x.2.1 x.2.2.1) ref3_Then_pk (ref3_Then_LP N) x y = ref3_Then N x.1 x.2.1 x.2.2.1 := by kernel_rfl
theorem ref3_Then_sound (N : Nat) : Sound Tryz.prog GW B0G 18 (ref3_Then_sg fun x _ => ref3_Then N x.1 x.2.1 x.2.2.1) :=
  runD_sound (mkE_ok ref3_Then_h (ref3_Then_fn N) _ _ (ref3_Then_fn_ok N)) Tryz.func18 rfl Tryz.call18 (ref3_Then_sg fun x _ => ref3_Then N x.1 x.2.1 x.2.2.1) ref3_Then_pk (fun _ _ => rfl) N (fun x y _ h => ((runL_eq (ref3_Then_E N) N Tryz.f18 (ref3_Then_sg fun x _ => ref3_Then N x.1 x.2.1 x.2.2.1) ref3_Then_pk (ref3_Then_LP N) (show LoopsOk (ref3_Then_LP N) (ref3_Then_E N) N (resD (ref3_Then_E N) Tryz.f18 (ref3_Then_sg fun x _ => ref3_Then N x.1 x.2.1 x.2.2.1) ref3_Then_pk) [(0, (cAt (bodyOf Tryz.f18) [true, true, true, false, true, false, false])), (2, (cAt (bodyOf Tryz.f18) [true, true, true, true, true, false, true, false, false])), (4, (cAt (bodyOf Tryz.f18) [true, true, true, true, true, false, true, false, false, true, true, false, false, true, false, true, false, false])), (6, (cAt (bodyOf Tryz.f18) [true, true, true, true, true, false, true, false, false, true, true, false, false, true, true, false, true, false, false]))] from ⟨ref3_Then_lp0 N, ref3_Then_lp2 N, ref3_Then_lp4 N, ref3_Then_lp6 N, trivial⟩) x y).trans (ref3_Then_core N x y)).trans h)
def law3_awake (N : Nat) : Option Bool :=
  bnd (config_ConfigText N [(([109] : Str), [([97] : Str), ([98] : Str)])] [(([109] : Str), ([98] : Str))]) fun t9 =>
  br (t9.2 == (0 : Int))
    (some (t9.1 == ([109, 61, 98] : Str)))
    (some false)
abbrev law3_awake_sg (f : SV [] → BV [] → Option (Bool)) : AF := { ps := [], bs := [], rs := [.v .bool], cs := [], R := Bool, out := fun z => ((z, ()), ()), f := f }
abbrev law3_awake_pk : SV [.v .bool] → BV [] → Bool := fun x _ => x.1
def law3_awake_fn (N : Nat) : FuncId → Option Tmp → Option AF := fun f _ =>
  match f with
    | 36 => some (config_ConfigText_sg fun x _ => config_ConfigText N x.1 x.2.1)
    | _ => none
theorem law3_awake_fn_ok (N : Nat) : ∀ f q F, law3_awake_fn N f q = some F → Sound Tryz.prog GW B0G f F := by
  intro f q F h
  unfold law3_awake_fn at h
  split at h
  · cases h; exact config_ConfigText_sound N
  · cases h
def law3_awake_h : Nat → Hint := fun i =>
  match i with
  | _ => ⟨[], [], [], [], [], []⟩
abbrev law3_awake_E (N : Nat) : Env := mkE law3_awake_h (law3_awake_fn N) (fun _ => false) (fun _ => false)
noncomputable def law3_awake_LP (N : Nat) : Nat → Code → St → (Ex → St → Option Bool) → Option Bool := fun i c =>
  match i with
  | i => fun st k => iter (law3_awake_h i) (exec (law3_awake_E N) N c i) N st k
theorem law3_awake_core (N : Nat) (x : SV []) (y : BV []) : runL (law3_awake_E N) Tryz.f11 (law3_awake_sg fun _ _ => law3_awake N) law3_awake_pk (law3_awake_LP N) x y = law3_awake N := by kernel_rfl
theorem law3_awake_sound (N : Nat) : Sound Tryz.prog GW B0G 11 (law3_awake_sg fun _ _ => law3_awake N) :=
  runD_sound (mkE_ok law3_awake_h (law3_awake_fn N) _ _ (law3_awake_fn_ok N)) Tryz.func11 rfl Tryz.call11 (law3_awake_sg fun _ _ => law3_awake N) law3_awake_pk (fun _ _ => rfl) N (fun x y _ h => ((runL_eq (law3_awake_E N) N Tryz.f11 (law3_awake_sg fun _ _ => law3_awake N) law3_awake_pk (law3_awake_LP N) (show LoopsOk (law3_awake_LP N) (law3_awake_E N) N (resD (law3_awake_E N) Tryz.f11 (law3_awake_sg fun _ _ => law3_awake N) law3_awake_pk) [] from trivial) x y).trans (law3_awake_core N x y)).trans h)
def law3_ConfigThroughMatchesSpec (N : Nat) (x0 : List (Str × List Str) × List (Str × List (Str × Str) × List (Str × Str)) × List (Str × List (Str × Str)) × List (Str × Str × List (Str × Str) × List (Str × Str)) × List (Str × List (Str × Str) × List Str)) (x1 : Str × List (Str × Str) × List Str) (x2 : Str × List (Str × Str) × List Str) (x3 : List (Str × Str)) : Option Bool :=
  bnd (config_Through N x0.1 x1 x3) fun t20 =>
  bnd (ref3_Through N x0.1 x1 x3) fun t28 =>
  bnd (config_CheckTransitions N x0.1 x0.2.2.2.2) fun t35 =>
  bnd (ref3_CheckTransitions N x0.1 x0.2.2.2.2) fun t40 =>
  br (t35 != t40)
    (some false)
    (br (t20.2 != t28.2)
      (some false)
      (bnd (ref3_SamePairs N t20.1 t28.1) fun t50 =>
      br (!t50)
        (some false)
        (bnd (config_Then N x0.1 x1 x2) fun t58 =>
        bnd (ref3_Then N x0.1 x1 x2) fun t66 =>
        br (t58.2 == t66.2)
          (br (t58.1.1 == t66.1.1)
            (bnd (slices_Equal_api_Pair N t58.1.2.1 t66.1.2.1) fun t84 =>
            br (t84)
              (bnd (slices_Equal_string_string N t58.1.2.2 t66.1.2.2) fun t91 =>
              br (t91)
                (bnd (law3_awake N) fun t94 =>
                some t94)
                (some false))
              (some false))
            (some false))
          (some false))))
abbrev law3_ConfigThroughMatchesSpec_sg (f : SV [.v (.pr (.sl (.pr .str (.sl .str))) (.pr (.sl (.pr .str (.pr (.sl (.pr .str .str)) (.sl (.pr .str .str))))) (.pr (.sl (.pr .str (.sl (.pr .str .str)))) (.pr (.sl (.pr .str (.pr .str (.pr (.sl (.pr .str .str)) (.sl (.pr .str .str)))))) (.sl (.pr .str (.pr (.sl (.pr .str .str)) (.sl .str)))))))), .v (.pr .str (.pr (.sl (.pr .str .str)) (.sl .str))), .v (.pr .str (.pr (.sl (.pr .str .str)) (.sl .str))), .v (.sl (.pr .str .str))] → BV [] → Option (Bool)) : AF := { ps := [.v (.pr (.sl (.pr .str (.sl .str))) (.pr (.sl (.pr .str (.pr (.sl (.pr .str .str)) (.sl (.pr .str .str))))) (.pr (.sl (.pr .str (.sl (.pr .str .str)))) (.pr (.sl (.pr .str (.pr .str (.pr (.sl (.pr .str .str)) (.sl (.pr .str .str)))))) (.sl (.pr .str (.pr (.sl (.pr .str .str)) (.sl .str)))))))), .v (.pr .str (.pr (.sl (.pr .str .str)) (.sl .str))), .v (.pr .str (.pr (.sl (.pr .str .str)) (.sl .str))), .v (.sl (.pr .str .str))], bs := [], rs := [.v .bool], cs := [], R := Bool, out := fun z => ((z, ()), ()), f := f }
abbrev law3_ConfigThroughMatchesSpec_pk : SV [.v .bool] → BV [] → Bool := fun x _ => x.1
def law3_ConfigThroughMatchesSpec_fn (N : Nat) : FuncId → Option Tmp → Option AF := fun f _ =>
  match f with
    | 11 => some (law3_awake_sg fun _ _ => law3_awake N)
    | 12 => some (config_Through_sg fun x _ => config_Through N x.1 x.2.1 x.2.2.1)
    | 13 => some (ref3_Through_sg fun x _ => ref3_Through N x.1 x.2.1 x.2.2.1)
    | 14 => some (config_CheckTransitions_sg fun x _ => config_CheckTransitions N x.1 x.2.1)
    | 15 => some (ref3_CheckTransitions_sg fun x _ => ref3_CheckTransitions N x.1 x.2.1)
    | 16 => some (ref3_SamePairs_sg fun x _ => ref3_SamePairs N x.1 x.2.1)
    | 17 => some (config_Then_sg fun x _ => config_Then N x.1 x.2.1 x.2.2.1)
    | 18 => some (ref3_Then_sg fun x _ => ref3_Then N x.1 x.2.1 x.2.2.1)
    | 19 => some (slices_Equal_api_Pair_sg fun x _ => slices_Equal_api_Pair N x.1 x.2.1)
    | 20 => some (slices_Equal_string_string_sg fun x _ => slices_Equal_string_string N x.1 x.2.1)
    | _ => none
theorem law3_ConfigThroughMatchesSpec_fn_ok (N : Nat) : ∀ f q F, law3_ConfigThroughMatchesSpec_fn N f q = some F → Sound Tryz.prog GW B0G f F := by
  intro f q F h
  unfold law3_ConfigThroughMatchesSpec_fn at h
  split at h
  · cases h; exact law3_awake_sound N
  · cases h; exact config_Through_sound N
  · cases h; exact ref3_Through_sound N
  · cases h; exact config_CheckTransitions_sound N
  · cases h; exact ref3_CheckTransitions_sound N
  · cases h; exact ref3_SamePairs_sound N
  · cases h; exact config_Then_sound N
  · cases h; exact ref3_Then_sound N
  · cases h; exact slices_Equal_api_Pair_sound N
  · cases h; exact slices_Equal_string_string_sound N
  · cases h
def law3_ConfigThroughMatchesSpec_h : Nat → Hint := fun i =>
  match i with
  | _ => ⟨[], [], [], [], [], []⟩
abbrev law3_ConfigThroughMatchesSpec_E (N : Nat) : Env := mkE law3_ConfigThroughMatchesSpec_h (law3_ConfigThroughMatchesSpec_fn N) (fun _ => false) (fun _ => false)
noncomputable def law3_ConfigThroughMatchesSpec_LP (N : Nat) : Nat → Code → St → (Ex → St → Option Bool) → Option Bool := fun i c =>
  match i with
  | i => fun st k => iter (law3_ConfigThroughMatchesSpec_h i) (exec (law3_ConfigThroughMatchesSpec_E N) N c i) N st k
theorem law3_ConfigThroughMatchesSpec_core (N : Nat) (x : SV [.v (.pr (.sl (.pr .str (.sl .str))) (.pr (.sl (.pr .str (.pr (.sl (.pr .str .str)) (.sl (.pr .str .str))))) (.pr (.sl (.pr .str (.sl (.pr .str .str)))) (.pr (.sl (.pr .str (.pr .str (.pr (.sl (.pr .str .str)) (.sl (.pr .str .str)))))) (.sl (.pr .str (.pr (.sl (.pr .str .str)) (.sl .str)))))))), .v (.pr .str (.pr (.sl (.pr .str .str)) (.sl .str))), .v (.pr .str (.pr (.sl (.pr .str .str)) (.sl .str))), .v (.sl (.pr .str .str))]) (y : BV []) : runL (law3_ConfigThroughMatchesSpec_E N) Tryz.f4 (law3_ConfigThroughMatchesSpec_sg fun x _ => law3_ConfigThroughMatchesSpec N x.1 x.2.1 x.2.2.1 x.2.2.2.1) law3_ConfigThroughMatchesSpec_pk (law3_ConfigThroughMatchesSpec_LP N) x y = law3_ConfigThroughMatchesSpec N x.1 x.2.1 x.2.2.1 x.2.2.2.1 := by kernel_rfl
theorem law3_ConfigThroughMatchesSpec_sound (N : Nat) : Sound Tryz.prog GW B0G 4 (law3_ConfigThroughMatchesSpec_sg fun x _ => law3_ConfigThroughMatchesSpec N x.1 x.2.1 x.2.2.1 x.2.2.2.1) :=
  runD_sound (mkE_ok law3_ConfigThroughMatchesSpec_h (law3_ConfigThroughMatchesSpec_fn N) _ _ (law3_ConfigThroughMatchesSpec_fn_ok N)) Tryz.func4 rfl Tryz.call4 (law3_ConfigThroughMatchesSpec_sg fun x _ => law3_ConfigThroughMatchesSpec N x.1 x.2.1 x.2.2.1 x.2.2.2.1) law3_ConfigThroughMatchesSpec_pk (fun _ _ => rfl) N (fun x y _ h => ((runL_eq (law3_ConfigThroughMatchesSpec_E N) N Tryz.f4 (law3_ConfigThroughMatchesSpec_sg fun x _ => law3_ConfigThroughMatchesSpec N x.1 x.2.1 x.2.2.1 x.2.2.2.1) law3_ConfigThroughMatchesSpec_pk (law3_ConfigThroughMatchesSpec_LP N) (show LoopsOk (law3_ConfigThroughMatchesSpec_LP N) (law3_ConfigThroughMatchesSpec_E N) N (resD (law3_ConfigThroughMatchesSpec_E N) Tryz.f4 (law3_ConfigThroughMatchesSpec_sg fun x _ => law3_ConfigThroughMatchesSpec N x.1 x.2.1 x.2.2.1 x.2.2.2.1) law3_ConfigThroughMatchesSpec_pk) [] from trivial) x y).trans (law3_ConfigThroughMatchesSpec_core N x y)).trans h)
end
end Go.Proofs.YtbekhaioddmliaaGreatDoor


/- What functions of the program compute, as plain functions (printed). -/
namespace Go.Proofs.YtbekhaioddmliaaGreatDoor
open Go Go.RowKit
set_option maxRecDepth 100000
set_option linter.unusedVariables false
noncomputable section
end
end Go.Proofs.YtbekhaioddmliaaGreatDoor


/- What functions of the program compute, as plain functions (printed). -/
namespace Go.Proofs.YtbekhaioddmliaaGreatDoor
open Go Go.RowKit
set_option maxRecDepth 100000
set_option linter.unusedVariables false
noncomputable section
end
end Go.Proofs.YtbekhaioddmliaaGreatDoor


/- What functions of the program compute, as plain functions (printed). -/
namespace Go.Proofs.YtbekhaioddmliaaGreatDoor
open Go Go.RowKit
set_option maxRecDepth 100000
set_option linter.unusedVariables false
noncomputable section
end
end Go.Proofs.YtbekhaioddmliaaGreatDoor


/- What functions of the program compute, as plain functions (printed). -/
namespace Go.Proofs.YtbekhaioddmliaaGreatDoor
open Go Go.RowKit
set_option maxRecDepth 100000
set_option linter.unusedVariables false
noncomputable section
end
end Go.Proofs.YtbekhaioddmliaaGreatDoor


/- A function that leaves all that its caller has as it is, and makes one thing anew. -/
namespace Go.Proofs.YtbekhaioddmliaaGreatDoor
set_option linter.unusedVariables false
set_option linter.unusedSimpArgs false
open Go Go.RowKit Go.Shelf
end Go.Proofs.YtbekhaioddmliaaGreatDoor


/-
  DERIVED: THE SHELF's CONTRACTS AT THIS DUMP, IN PLAIN WORDS (tools/lay-plain.mjs out of 'TryzShelfK.lean', which tools/lay-shelf.mjs wrote): THE SAME DECLARATIONS UNDER THE SAME NAMES: 'import', 'namespace', 'open', 'def', 'theorem' AND NOTHING ELSE: no command of the shelf's: FOR A HAND-IN. Each laying: the table of numbers ('.._ren') and one theorem, a field a fact of the dump's own or the kernel's comparison; each contract: ONE APPLICATION.
-/
namespace Go.Proofs
open Go.Shelf
end Go.Proofs


/- The keys of a map of the caller's, in order: maps.Keys and slices.Sorted, out of the kit's contracts. -/
namespace Go.Proofs.YtbekhaioddmliaaGreatDoor
set_option linter.unusedVariables false
set_option linter.unusedSimpArgs false
open Go Go.RowKit Go.Shelf Go.Maps Go.Sort
end Go.Proofs.YtbekhaioddmliaaGreatDoor



/- What functions of the program compute, as plain functions (printed). -/
namespace Go.Proofs.YtbekhaioddmliaaGreatDoor
open Go Go.RowKit
set_option maxRecDepth 100000
set_option linter.unusedVariables false
noncomputable section
end
end Go.Proofs.YtbekhaioddmliaaGreatDoor


/- What functions of the program compute, as plain functions (printed). -/
namespace Go.Proofs.YtbekhaioddmliaaGreatDoor
open Go Go.RowKit
set_option maxRecDepth 100000
set_option linter.unusedVariables false
noncomputable section
end
end Go.Proofs.YtbekhaioddmliaaGreatDoor


/- The arguments of a law, as the statement's reading hands them over, as data of the machine: any type. -/
namespace Go.Proofs.YtbekhaioddmliaaGreatDoor
set_option linter.unusedVariables false
set_option linter.unusedSimpArgs false
open Go Go.RowKit Go.ChangeShapes Go.WideShapes
/-- Nothing is longer than Go lets it be. -/
def FitG (RR : (i : RC) → i.den → Prop) : (t : Ty) → t.den → Prop
  | .u8, _ => True
  | .int k, x => (Lit.int k x).wf = true
  | .bool, _ => True
  | .str, x => x.length ≤ maxLen
  | .sl t, xs => xs.length ≤ maxLen ∧ ∀ x ∈ xs, FitG RR t x
  | .pr a b, x => FitG RR a x.1 ∧ FitG RR b x.2
  | .un, _ => True
  | .mp _, _ => True
  | .ptr _, _ => True
  | .np _, _ => True
  | .clo _ _, _ => True
  | .rc i, x => RR i x
def FitR (i : RC) (x : i.den) : Prop := ∀ RR : (i : RC) → i.den → Prop, (∀ j y, FitG RR j.body (j.un y) → RR j y) → RR i x
def Fit : (t : Ty) → t.den → Prop := FitG FitR
theorem FitG.mono {RR RR' : (i : RC) → i.den → Prop} (hR : ∀ i x, RR i x → RR' i x) : ∀ (t : Ty) (x : t.den), FitG RR t x → FitG RR' t x
  | .u8, _, h => h
  | .int _, _, h => h
  | .bool, _, h => h
  | .str, _, h => h
  | .sl t, _, h => ⟨h.1, fun x hx => FitG.mono hR t x (h.2 x hx)⟩
  | .pr a b, _, h => ⟨FitG.mono hR a _ h.1, FitG.mono hR b _ h.2⟩
  | .un, _, h => h
  | .mp _, _, h => h
  | .ptr _, _, h => h
  | .np _, _, h => h
  | .clo _ _, _, h => h
  | .rc i, x, h => hR i x h
theorem FitR.intro {i : RC} {x : i.den} (h : Fit i.body (i.un x)) : FitR i x :=
  fun RR hc => hc i x (FitG.mono (fun j y hy => hy RR hc) _ _ h)
theorem FitR.elim {i : RC} {x : i.den} (h : FitR i x) : Fit i.body (i.un x) :=
  h (fun j y => Fit j.body (j.un y)) fun _ _ hy => FitG.mono (fun _ _ h => FitR.intro h) _ _ hy
mutual
/-- A type of the program is this one, down to its parts. -/
inductive Deep (P : Program) (R : RC → Option TypeId) : Ty → TypeId → Prop where
  | u8 {T : TypeId} : P.underlying T = some (.int .u8) → Deep P R .u8 T
  | int {T : TypeId} {k : IntKind} : P.underlying T = some (.int k) → Deep P R (.int k) T
  | bool {T : TypeId} : P.underlying T = some .bool → Deep P R .bool T
  | str {T : TypeId} : P.underlying T = some .string → Deep P R .str T
  | sl {T e : TypeId} {t : Ty} : P.underlying T = some (.slice e) → P.cellsOf e = t.sz → Deep P R t e → Deep P R (.sl t) T
  | st {T : TypeId} {t : Ty} {fs : Array Field} : P.underlying T = some (.struct fs) → P.cellsOf T = t.sz → t.isAgg = true → DeepF P R t fs.toList 0 → Deep P R t T
  | rc {T : TypeId} {i : RC} : R i = some T → Deep P R (.rc i) T
/-- The same, of fields from a place on. -/
inductive DeepF (P : Program) (R : RC → Option TypeId) : Ty → List Field → Nat → Prop where
  | nil {o : Nat} : DeepF P R .un [] o
  | one {t : Ty} {f : Field} {o : Nat} : f.offset = o → P.cellsOf f.type = t.sz → Deep P R t f.type → DeepF P R t [f] o
  | single {t : Ty} {f : Field} {o : Nat} : f.offset = o → P.cellsOf f.type = t.sz → Deep P R t f.type → DeepF P R (.pr t .un) [f] o
  | cons {a b : Ty} {f : Field} {fs : List Field} {o : Nat} : f.offset = o → P.cellsOf f.type = a.sz → Deep P R a f.type → DeepF P R b fs (o + a.sz) → DeepF P R (.pr a b) (f :: fs) o
end
def RcOk (P : Program) (R : RC → Option TypeId) : Prop := ∀ i T, R i = some T → ∃ fs, P.underlying T = some (.struct fs) ∧ P.cellsOf T = i.sz ∧ DeepF P R i.body fs.toList 0
abbrev M00 : Nat → Nat → Prop := fun _ _ => False
section
variable {H : Type} {enc : TypeId × Value → H} {P : Program} {w : World} {spare : Nat → Bool} {held : Bool} {R : RC → Option TypeId}
theorem choose_list {α : Type} {p : Nat → α → Prop} : ∀ n, (∀ i, i < n → ∃ x, p i x) → ∃ l : List α, l.length = n ∧ ∀ i (h : i < l.length), p i l[i]
  | 0, _ => ⟨[], rfl, fun i h => absurd h (Nat.not_lt_zero _)⟩
  | n + 1, h => by
    obtain ⟨l, hl, hp⟩ := choose_list n fun i hi => h i (Nat.lt_succ_of_lt hi)
    obtain ⟨x, hx⟩ := h n (Nat.lt_succ_self _)
    refine ⟨l ++ [x], by simp [hl], fun i hi => ?_⟩
    rcases Nat.lt_or_ge i l.length with h' | h'
    · rw [List.getElem_append_left h']; exact hp i h'
    · have : i = l.length := by simp at hi; omega
      subst this
      simp [hl, hx]
theorem pl_of_cells {a : Addr} {n : Nat} {cs : List Value} (h : w.cells? 0 a n = some cs) : Pl M00 w a cs := by
  intro j u hu
  refine ⟨?_, id⟩
  unfold World.cells? at h
  rw [if_pos (Nat.zero_le _)] at h
  have hl := mapM_some_length h
  have hj : j < n := by
    rcases Nat.lt_or_ge j cs.length with h' | h'
    · rw [hl, List.length_range] at h'; exact h'
    · rw [List.getElem?_eq_none h'] at hu; cases hu
  have := mapM_some_get h j j (by rw [List.getElem?_range hj])
  rw [this]; exact hu
/-- What fields read as. -/
theorem fields_rep {fuel : Nat} {cs : List Value}
    (ih : ∀ (t : Ty) (T : TypeId) (cs : List Value) (x : DataW H × List MemPlace), Deep P R t T → DataW.trod enc P w 0 spare held fuel T cs = some x → ∃ d : t.den, RepC M00 w t d cs ∧ Fit t d) :
    ∀ (fs : List Field) (t : Ty) (o : Nat) (xs : List (DataW H × List MemPlace)), DeepF P R t fs o →
      (fs.mapM fun f => DataW.trod enc P w 0 spare held fuel f.type ((cs.drop f.offset).take (P.cellsOf f.type))) = some xs → ∃ d : t.den, RepC M00 w t d ((cs.drop o).take t.sz) ∧ Fit t d := by
  intro fs
  induction fs with
  | nil =>
    intro t o xs hd _
    cases hd
    exact ⟨(), List.take_zero, trivial⟩
  | cons f fs hfs =>
    intro t o xs hd hm
    have hhead : ∃ y, DataW.trod enc P w 0 spare held fuel f.type ((cs.drop f.offset).take (P.cellsOf f.type)) = some y := by
      have := mapM_some_get hm 0 f rfl
      cases hx : xs[0]? with
      | none =>
        have hl := mapM_some_length hm
        rw [List.getElem?_eq_none_iff] at hx
        simp at hl; omega
      | some y => exact ⟨y, this.trans hx⟩
    have htail : ∃ ys, (fs.mapM fun f => DataW.trod enc P w 0 spare held fuel f.type ((cs.drop f.offset).take (P.cellsOf f.type))) = some ys := by
      rw [List.mapM_cons] at hm
      obtain ⟨y, hy⟩ := hhead
      rw [hy] at hm
      cases hys : (fs.mapM fun f => DataW.trod enc P w 0 spare held fuel f.type ((cs.drop f.offset).take (P.cellsOf f.type))) with
      | none => rw [hys] at hm; cases hm
      | some ys => exact ⟨ys, rfl⟩
    obtain ⟨y, hy⟩ := hhead
    obtain ⟨ys, hys⟩ := htail
    cases hd with
    | one ho hc h1 =>
      rw [ho, hc] at hy
      exact ih _ _ _ _ h1 hy
    | single ho hc h1 =>
      rw [ho, hc] at hy
      obtain ⟨d, hd1, hd2⟩ := ih _ _ _ _ h1 hy
      exact ⟨(d, ()), ⟨_, [], (List.append_nil _).symm, hd1, rfl⟩, hd2, trivial⟩
    | @cons a b _ _ _ ho hc h1 h2 =>
      rw [ho, hc] at hy
      obtain ⟨d, hd1, hd2⟩ := ih _ _ _ _ h1 hy
      obtain ⟨e, he1, he2⟩ := hfs _ _ _ h2 hys
      refine ⟨(d, e), ⟨_, _, ?_, hd1, he1⟩, hd2, he2⟩
      show (cs.drop o).take (a.sz + b.sz) = _
      rw [List.take_add, List.drop_drop]
theorem trod_rep (hR : RcOk P R) : ∀ (fuel : Nat) (t : Ty) (T : TypeId) (cs : List Value) (x : DataW H × List MemPlace), Deep P R t T → DataW.trod enc P w 0 spare held fuel T cs = some x →
    ∃ d : t.den, RepC M00 w t d cs ∧ Fit t d := by
  intro fuel
  induction fuel with
  | zero => intro t T cs x _ h; cases h
  | succ fuel ih =>
    intro t T cs x hd h
    have hstruct : ∀ (t : Ty) (fs : Array Field), P.underlying T = some (.struct fs) → P.cellsOf T = t.sz → DeepF P R t fs.toList 0 → ∃ d : t.den, RepC M00 w t d cs ∧ Fit t d := fun t fs hu hc hf => by
      unfold DataW.trod at h
      simp only [hu] at h
      split at h
      · rename_i hl
        cases hm : (fs.toList.mapM fun f => DataW.trod enc P w 0 spare held fuel f.type ((cs.drop f.offset).take (P.cellsOf f.type))) with
        | none => rw [hm] at h; cases h
        | some xs =>
          obtain ⟨d, h1, h2⟩ := fields_rep ih fs.toList t 0 xs hf hm
          rw [List.drop_zero, List.take_of_length_le (by omega)] at h1
          exact ⟨d, h1, h2⟩
      · cases h
    cases hd with
    | u8 hu =>
      have hx : ∃ n, cs = [.int .u8 n] ∧ (Lit.int .u8 n).wf = true := by
        unfold DataW.trod at h
        split at h <;> simp_all
      obtain ⟨n, rfl, hn⟩ := hx
      refine ⟨UInt8.ofNat n.toNat, ?_, trivial⟩
      show [Value.int .u8 n] = [Value.int .u8 (UInt8.ofNat n.toNat).toNat]
      simp [Lit.wf, IntKind.min, IntKind.max, IntKind.signed, IntKind.bits] at hn
      have : ((UInt8.ofNat n.toNat).toNat : Int) = n := by simp; omega
      rw [this]
    | @int _ k hu =>
      have hx : ∃ n, cs = [.int k n] ∧ (Lit.int k n).wf = true := by
        unfold DataW.trod at h
        split at h <;> simp_all
      obtain ⟨n, rfl, hn⟩ := hx
      exact ⟨n, rfl, hn⟩
    | bool hu =>
      have hx : ∃ b, cs = [.bool b] := by
        unfold DataW.trod at h
        split at h <;> simp_all
      obtain ⟨b, rfl⟩ := hx
      exact ⟨b, rfl, trivial⟩
    | str hu =>
      have hx : ∃ s : ByteArray, cs = [.string s] ∧ s.size ≤ maxLen := by
        unfold DataW.trod at h
        split at h <;> simp_all
      obtain ⟨s, rfl, hn⟩ := hx
      refine ⟨s.data.toList, ?_, ?_⟩
      · show [Value.string s] = [Value.string ⟨s.data.toList.toArray⟩]
        simp
      · show s.data.toList.length ≤ maxLen
        simpa using hn
    | @sl _ e t hu hc he =>
      have hx : cs = [.slice none 0 0] ∨ ∃ a len cap, cs = [.slice (some a) len cap] ∧ len ≤ cap ∧ cap ≤ maxLen ∧
          ∀ i, i < len → ∃ y, (w.cells? 0 (a.add (i * P.cellsOf e)) (P.cellsOf e)).bind (DataW.trod enc P w 0 spare held fuel e) = some y := by
        unfold DataW.trod at h
        split at h
        all_goals try (simp_all; done)
        · rename_i hu2
          rw [hu] at hu2
          cases hu2
          simp only at h
          split at h
          · rename_i hb
            right
            refine ⟨_, _, _, rfl, hb.2.1, hb.2.2, fun i hi => ?_⟩
            cases hm : ((List.range _).mapM fun i => (w.cells? 0 (Addr.add _ (i * P.cellsOf e)) (P.cellsOf e)).bind (DataW.trod enc P w 0 spare held fuel e)) with
            | none => rw [hm] at h; cases h
            | some ys =>
              have h1 := mapM_some_get hm i i (by rw [List.getElem?_range hi])
              have hl := mapM_some_length hm
              rw [List.length_range] at hl
              exact ⟨ys[i]'(by omega), h1.trans (List.getElem?_eq_getElem (by omega))⟩
          · cases h
      rcases hx with rfl | ⟨a, len, cap, rfl, h1, h2, h3⟩
      · exact ⟨[], ⟨none, 0, rfl, Nat.le_refl _, Nat.zero_le _, fun i h => absurd h (Nat.not_lt_zero _)⟩, Nat.zero_le _, fun x h => by cases h⟩
      · have hall : ∀ i, i < len → ∃ d : t.den, (∃ es, RepC M00 w t d es ∧ Pl M00 w (a.add (i * t.sz)) es) ∧ Fit t d := fun i hi => by
          obtain ⟨y, hy⟩ := h3 i hi
          rw [hc] at hy
          cases hcs : w.cells? 0 (a.add (i * t.sz)) t.sz with
          | none => rw [hcs] at hy; cases hy
          | some es =>
            rw [hcs] at hy
            obtain ⟨d, hd1, hd2⟩ := ih _ _ _ _ he hy
            exact ⟨d, ⟨es, hd1, pl_of_cells hcs⟩, hd2⟩
        obtain ⟨l, hl, hp⟩ := choose_list len hall
        refine ⟨l, ⟨some a, cap, ?_, by omega, h2, fun i hi => ?_⟩, ?_, fun x hx => ?_⟩
        · rw [hl]
        · obtain ⟨⟨es, e1, e2⟩, _⟩ := hp i hi
          exact ⟨a, es, rfl, e1, e2⟩
        · show l.length ≤ maxLen; omega
        · obtain ⟨i, hi, rfl⟩ := List.getElem_of_mem hx
          exact (hp i hi).2
    | st hu hc ha hf => exact hstruct t _ hu hc hf
    | rc hr =>
      obtain ⟨fs, hu, hc, hf⟩ := hR _ _ hr
      rename_i i
      obtain ⟨d, h1, h2⟩ := hstruct i.body fs hu (by rw [hc, RC.sz_body]) hf
      refine ⟨i.mk d, RepC.rc.2 (by rw [RC.un_mk]; exact h1), FitR.intro (by rw [RC.un_mk]; exact h2)⟩
/-- An argument. -/
theorem arg_open (hR : RcOk P R) {r : Reach} {base : Nat} {t : Ty} {T : TypeId} {v : Value} {d : DataW H} {p : List MemPlace} (hd : Deep P R t T) (hv : Value.okWide P w r base T v) (h : DataW.Trod enc P w 0 spare held T v d p) :
    ∃ x : t.den, RepV M00 w t x v ∧ Fit t x := by
  obtain ⟨fuel, hf⟩ := h
  obtain ⟨x, h1, h2⟩ := trod_rep hR fuel t T _ _ hd hf
  refine ⟨x, ⟨_, h1, ?_⟩, h2⟩
  have hagg : ∀ fs, P.underlying T = some (.struct fs) → t.isAgg = true → v = mkV t v.cells.toList := fun fs hu ha => by
    obtain ⟨cs, rfl, _⟩ := okWide_struct hu hv
    rw [mkV_agg ha]
    simp [Value.cells]
  have hone : ∀ c : Value, v = c → c.cells = #[c] → t.isAgg = false → v = mkV t v.cells.toList := fun c e hc ha => by
    subst e
    rw [hc, mkV_plain ha]
  cases hd with
  | u8 hu => obtain ⟨n, rfl⟩ := okWide_int hu hv; exact hone _ rfl rfl rfl
  | int hu => obtain ⟨n, rfl⟩ := okWide_int hu hv; exact hone _ rfl rfl rfl
  | bool hu => obtain ⟨n, rfl⟩ := okWide_bool hu hv; exact hone _ rfl rfl rfl
  | str hu => obtain ⟨n, rfl⟩ := okWide_string hu hv; exact hone _ rfl rfl rfl
  | sl hu _ _ => obtain ⟨a, l, c, rfl⟩ := okWide_slice hu hv; exact hone _ rfl rfl rfl
  | st hu _ ha _ => exact hagg _ hu ha
  | rc hr => obtain ⟨fs, hu, _⟩ := hR _ _ hr; exact hagg _ hu rfl
end
/-- A law is called. -/
theorem law_run {P : Program} {f : FuncId} {ps : List Sl} {F : SV ps → BV [] → Option Bool} {out : Bool → SV [.v .bool] × BV []} (hout : ∀ z, (out z).1 = (z, ())) (hs : Sound P GW B0G f ⟨ps, [], [.v .bool], [], Bool, out, F⟩)
    {W : World} {vs : List Value} {x : SV ps} (hg : GW W) (ha : All2 (RepD0 M00 W g0) (lays id ps x) vs) (hf : F x () = some true) : Calls P f vs.toArray W fun e W' => e = .returned (.bool true) ∧ Ext W W' := by
  refine (hs.2 M00 W g0 vs x () true hg (GW_size hg) { args := ha, res := fun r blk h => (by cases h), dom := fun r gx h => (by cases h), inj := fun _ _ _ _ _ h => (by cases h), low := fun _ _ _ h => (by cases h), chg := fun _ _ _ _ h => (by cases h), mlt := fun b o h => h.elim, row := fun _ _ _ h => (by cases h) } hf).mono fun e W' hp => ?_
  obtain ⟨vs', g', he, hE, _, hF, _⟩ := hp
  refine ⟨?_, hE.ext fun b hb => ?_⟩
  · have := hF.args
    rw [hout] at this
    match vs', this with
    | [v], ⟨h1, _⟩ =>
      have h2 := RepV.plain (t := .bool) rfl h1
      have h3 : [v] = [.bool true] := h2
      injection h3 with h3
      rw [he, h3]
      rfl
  · obtain ⟨r, x, h, _⟩ := hb
    cases h
end Go.Proofs.YtbekhaioddmliaaGreatDoor

