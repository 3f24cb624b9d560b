/- What functions of the program compute, as plain functions (printed). -/
import Derived.Test.YtahjncefiegflaaGreatDoorQScF3
import Derived.Test.YtahjncefiegflaaGreatDoorQBmSi
import Derived.ProofKit
import Derived.OpenShut
import Derived.ShutString
import Derived.DataReads
import Derived.ChangeShapes
import Derived.WideShapes
import Derived.Test.YtahjncefiegflaaGreatDoorRows
namespace Go.Proofs.YtahjncefiegflaaGreatDoor
open Go Go.RowKit
set_option maxRecDepth 100000
set_option linter.unusedVariables false
noncomputable section
def script_add_L0T (N : Nat) (c37 : List (Str × GValue)) (c38 : Int) (c1003_0 : Int) (c1003_1 : Str) (c1003_2 : Int) (c1003_3 : List Str) (c1003_4 : List (Str × GValue)) (k1 : (List (Str × GValue)) → Option (GValue × Int)) (self : Int → (List (Str × GValue)) → Option (GValue × Int)) (s39 : Int) (w900001 : List (Str × GValue)) : Option (GValue × Int) :=
  br (decide (s39 < c38))
    (bnd (geti c37 s39) fun t41 =>
    bnd (script_plainSum N (GValue.mk t41.2.kind t41.2.text t41.2.number t41.2.list t41.2.cases) (GValue.mk c1003_0 c1003_1 c1003_2 c1003_3 c1003_4)) fun t50 =>
    br (decide ((w900001.length + [(t41.1, GValue.mk t50.kind t50.text t50.number t50.list t50.cases)].length) * (24 * Ty.sz (.pr .str (.rc .value))) ≤ 140737488355328))
      (self (IntKind.i64.wrap (s39 + (1 : Int))) (w900001 ++ [(t41.1, GValue.mk t50.kind t50.text t50.number t50.list t50.cases)]))
      none)
    (k1 w900001)
def script_add_L0 (N : Nat) (c37 : List (Str × GValue)) (c38 : Int) (c1003_0 : Int) (c1003_1 : Str) (c1003_2 : Int) (c1003_3 : List Str) (c1003_4 : List (Str × GValue)) (k1 : (List (Str × GValue)) → Option (GValue × Int)) : Nat → Int → (List (Str × GValue)) → Option (GValue × Int)
  | 0, _, _ => none
  | n + 1, s39, w900001 => script_add_L0T N c37 c38 c1003_0 c1003_1 c1003_2 c1003_3 c1003_4 k1 (script_add_L0 N c37 c38 c1003_0 c1003_1 c1003_2 c1003_3 c1003_4 k1 n) s39 w900001
def script_add_L1T (N : Nat) (c61 : List (Str × GValue)) (c62 : Int) (c1002_0 : Int) (c1002_1 : Str) (c1002_2 : Int) (c1002_3 : List Str) (c1002_4 : List (Str × GValue)) (k3 : (List (Str × GValue)) → Option (GValue × Int)) (self : Int → (List (Str × GValue)) → Option (GValue × Int)) (s63 : Int) (w900002 : List (Str × GValue)) : Option (GValue × Int) :=
  br (decide (s63 < c62))
    (bnd (geti c61 s63) fun t65 =>
    bnd (script_plainSum N (GValue.mk c1002_0 c1002_1 c1002_2 c1002_3 c1002_4) (GValue.mk t65.2.kind t65.2.text t65.2.number t65.2.list t65.2.cases)) fun t74 =>
    br (decide ((w900002.length + [(t65.1, GValue.mk t74.kind t74.text t74.number t74.list t74.cases)].length) * (24 * Ty.sz (.pr .str (.rc .value))) ≤ 140737488355328))
      (self (IntKind.i64.wrap (s63 + (1 : Int))) (w900002 ++ [(t65.1, GValue.mk t74.kind t74.text t74.number t74.list t74.cases)]))
      none)
    (k3 w900002)
def script_add_L1 (N : Nat) (c61 : List (Str × GValue)) (c62 : Int) (c1002_0 : Int) (c1002_1 : Str) (c1002_2 : Int) (c1002_3 : List Str) (c1002_4 : List (Str × GValue)) (k3 : (List (Str × GValue)) → Option (GValue × Int)) : Nat → Int → (List (Str × GValue)) → Option (GValue × Int)
  | 0, _, _ => none
  | n + 1, s63, w900002 => script_add_L1T N c61 c62 c1002_0 c1002_1 c1002_2 c1002_3 c1002_4 k3 (script_add_L1 N c61 c62 c1002_0 c1002_1 c1002_2 c1002_3 c1002_4 k3 n) s63 w900002
def script_add (N : Nat) (x0 : GValue) (x1 : GValue) : Option (GValue × Int) :=
  bnd (script_kindOf N (GValue.mk x0.kind x0.text x0.number x0.list x0.cases)) fun t13 =>
  bnd (script_kindOf N (GValue.mk x1.kind x1.text x1.number x1.list x1.cases)) fun t15 =>
  br (t13 != t15)
    (some (GValue.mk (0 : Int) ([] : Str) (0 : Int) ([] : List Str) ([] : List (Str × GValue)), (6 : Int)))
    (br (x0.kind == (4 : Int))
      (br (x1.kind == (4 : Int))
        (some (GValue.mk (0 : Int) ([] : Str) (0 : Int) ([] : List Str) ([] : List (Str × GValue)), (6 : Int)))
        (br (x0.kind == (4 : Int))
          (script_add_L0 N x0.cases (x0.cases.length : Int) x1.kind x1.text x1.number x1.list x1.cases (fun o0_w900001 =>
              bnd (script_CheckValue N (script_checkCases N N) (GValue.mk (4 : Int) ([] : Str) (0 : Int) ([] : List Str) o0_w900001)) fun t81 =>
              br (t81 != (0 : Int))
                (some (GValue.mk (0 : Int) ([] : Str) (0 : Int) ([] : List Str) ([] : List (Str × GValue)), t81))
                (some (GValue.mk (4 : Int) ([] : Str) (0 : Int) ([] : List Str) o0_w900001, (0 : Int)))) N (0 : Int) ([] : List (Str × GValue)))
          (br (x1.kind == (4 : Int))
            (script_add_L1 N x1.cases (x1.cases.length : Int) x0.kind x0.text x0.number x0.list x0.cases (fun o1_w900002 =>
                bnd (script_CheckValue N (script_checkCases N N) (GValue.mk (4 : Int) ([] : Str) (0 : Int) ([] : List Str) o1_w900002)) fun t81_7 =>
                br (t81_7 != (0 : Int))
                  (some (GValue.mk (0 : Int) ([] : Str) (0 : Int) ([] : List Str) ([] : List (Str × GValue)), t81_7))
                  (some (GValue.mk (4 : Int) ([] : Str) (0 : Int) ([] : List Str) o1_w900002, (0 : Int)))) N (0 : Int) ([] : List (Str × GValue)))
            (bnd (script_plainSum N (GValue.mk x0.kind x0.text x0.number x0.list x0.cases) (GValue.mk x1.kind x1.text x1.number x1.list x1.cases)) fun t31 =>
            bnd (script_CheckValue N (script_checkCases N N) (GValue.mk t31.kind t31.text t31.number t31.list t31.cases)) fun t81_8 =>
            br (t81_8 != (0 : Int))
              (some (GValue.mk (0 : Int) ([] : Str) (0 : Int) ([] : List Str) ([] : List (Str × GValue)), t81_8))
              (some (GValue.mk t31.kind t31.text t31.number t31.list t31.cases, (0 : Int)))))))
      (br (x0.kind == (4 : Int))
        (script_add_L0 N x0.cases (x0.cases.length : Int) x1.kind x1.text x1.number x1.list x1.cases (fun o0_w900001 =>
            bnd (script_CheckValue N (script_checkCases N N) (GValue.mk (4 : Int) ([] : Str) (0 : Int) ([] : List Str) o0_w900001)) fun t81_9 =>
            br (t81_9 != (0 : Int))
              (some (GValue.mk (0 : Int) ([] : Str) (0 : Int) ([] : List Str) ([] : List (Str × GValue)), t81_9))
              (some (GValue.mk (4 : Int) ([] : Str) (0 : Int) ([] : List Str) o0_w900001, (0 : Int)))) N (0 : Int) ([] : List (Str × GValue)))
        (br (x1.kind == (4 : Int))
          (script_add_L1 N x1.cases (x1.cases.length : Int) x0.kind x0.text x0.number x0.list x0.cases (fun o1_w900002 =>
              bnd (script_CheckValue N (script_checkCases N N) (GValue.mk (4 : Int) ([] : Str) (0 : Int) ([] : List Str) o1_w900002)) fun t81_10 =>
              br (t81_10 != (0 : Int))
                (some (GValue.mk (0 : Int) ([] : Str) (0 : Int) ([] : List Str) ([] : List (Str × GValue)), t81_10))
                (some (GValue.mk (4 : Int) ([] : Str) (0 : Int) ([] : List Str) o1_w900002, (0 : Int)))) N (0 : Int) ([] : List (Str × GValue)))
          (bnd (script_plainSum N (GValue.mk x0.kind x0.text x0.number x0.list x0.cases) (GValue.mk x1.kind x1.text x1.number x1.list x1.cases)) fun t31_11 =>
          bnd (script_CheckValue N (script_checkCases N N) (GValue.mk t31_11.kind t31_11.text t31_11.number t31_11.list t31_11.cases)) fun t81_12 =>
          br (t81_12 != (0 : Int))
            (some (GValue.mk (0 : Int) ([] : Str) (0 : Int) ([] : List Str) ([] : List (Str × GValue)), t81_12))
            (some (GValue.mk t31_11.kind t31_11.text t31_11.number t31_11.list t31_11.cases, (0 : Int)))))))
abbrev script_add_sg (f : SV [.v (.rc .value), .v (.rc .value)] → BV [] → Option (GValue × Int)) : AF := { ps := [.v (.rc .value), .v (.rc .value)], bs := [], rs := [.v (.rc .value), .v (.int .i64)], cs := [], R := GValue × Int, out := fun z => ((z.1, z.2, ()), ()), f := f }
abbrev script_add_pk : SV [.v (.rc .value), .v (.int .i64)] → BV [] → (GValue × Int) := fun x _ => (x.1, x.2.1)
def script_add_fn (N : Nat) : FuncId → Option Tmp → Option AF := fun f _ =>
  match f with
    | 14 => some (script_CheckValue_sg fun x _ => script_CheckValue N (script_checkCases N N) x.1)
    | 78 => some (script_kindOf_sg fun x _ => script_kindOf N x.1)
    | 79 => some (script_plainSum_sg fun x _ => script_plainSum N x.1 x.2.1)
    | _ => none
theorem script_add_fn_ok (N : Nat) : ∀ f q F, script_add_fn N f q = some F → Sound Tryz.prog GW B0G f F := by
  intro f q F h
  unfold script_add_fn at h
  split at h
  · cases h; exact script_CheckValue_sound N (script_checkCases N N) (script_checkCases_sound N N)
  · cases h; exact script_kindOf_sound N
  · cases h; exact script_plainSum_sound N
  · cases h
def script_add_h : Nat → Hint := fun i =>
  match i with
  | 1 => ⟨[], [3, 4, 6, 37, 38, 39], [1003, 1004, 1006, 900001], [4, 6], [1004, 1006, 900001], [(1006, 4, 900001, 75, (.pr .str (.rc .value)))]⟩
  | 3 => ⟨[], [2, 4, 6, 61, 62, 63], [1002, 1004, 1006, 900002], [4, 6], [1004, 1006, 900002], [(1006, 4, 900002, 75, (.pr .str (.rc .value)))]⟩
  | 100009 => ⟨[1003, 1006, 1008, 900001], [], [], [], [], []⟩
  | 100015 => ⟨[1002, 1006, 1010, 900002], [], [], [], [], []⟩
  | _ => ⟨[], [], [], [], [], []⟩
abbrev script_add_E (N : Nat) : Env := mkE script_add_h (script_add_fn N) (fun _ => false) (fun _ => false)
abbrev script_add_L0_fs : List (Nat × Sl) := [(3, .box 1003 0), (4, .box 1004 0), (6, .box 1006 0), (37, .v (.sl (.pr .str (.rc .value)))), (38, .v (.int .i64)), (39, .v (.int .i64))]
abbrev script_add_L0_bs : List (Nat × Sb) := [(1003, .cells [.v (.int .i64), .v .str, .v (.int .i64), .v (.sl .str), .v (.sl (.pr .str (.rc .value)))]), (1004, .cells [.v (.int .i64), .v .str, .v (.int .i64), .nilS, .nilS]), (1006, .cells [.v (.int .i64), .v .str, .v (.int .i64), .nilS, .row 900001]), (900001, .row 75 (.pr .str (.rc .value)) false)]
def script_add_L0_hd (c37 : List (Str × GValue)) (c38 : Int) (c1003_0 : Int) (c1003_1 : Str) (c1003_2 : Int) (c1003_3 : List Str) (c1003_4 : List (Str × GValue)) (c1004_0 : Int) (c1004_1 : Str) (c1004_2 : Int) (c1006_0 : Int) (c1006_1 : Str) (c1006_2 : Int) (s39 : Int) (w900001 : List (Str × GValue)) : St := ⟨87, [(3, .box 1003 0), (4, .box 1004 0), (6, .box 1006 0), (37, .v (.sl (.pr .str (.rc .value))) c37), (38, .v (.int .i64) c38), (39, .v (.int .i64) s39)], [(1003, .cells [.v (.int .i64) c1003_0, .v .str c1003_1, .v (.int .i64) c1003_2, .v (.sl .str) c1003_3, .v (.sl (.pr .str (.rc .value))) c1003_4]), (1004, .cells [.v (.int .i64) c1004_0, .v .str c1004_1, .v (.int .i64) c1004_2, .nilS, .nilS]), (1006, .cells [.v (.int .i64) c1006_0, .v .str c1006_1, .v (.int .i64) c1006_2, .nilS, .row 900001]), (900001, .row 75 (.pr .str (.rc .value)) false w900001)]⟩
def script_add_L0_tl1 (_c37 : List (Str × GValue)) (_c38 : Int) (_c1003_0 : Int) (_c1003_1 : Str) (_c1003_2 : Int) (_c1003_3 : List Str) (_c1003_4 : List (Str × GValue)) (c1004_0 : Int) (c1004_1 : Str) (c1004_2 : Int) (c1006_0 : Int) (c1006_1 : Str) (c1006_2 : Int) (o0_w900001 : List (Str × GValue)) : St := ⟨87, [(4, .box 1004 0), (6, .box 1006 0)], [(1004, .cells [.v (.int .i64) c1004_0, .v .str c1004_1, .v (.int .i64) c1004_2, .nilS, .nilS]), (1006, .cells [.v (.int .i64) c1006_0, .v .str c1006_1, .v (.int .i64) c1006_2, .nilS, .row 900001]), (900001, .row 75 (.pr .str (.rc .value)) false o0_w900001)]⟩
def script_add_L0_G (N : Nat) (c37 : List (Str × GValue)) (c38 : Int) (c1003_0 : Int) (c1003_1 : Str) (c1003_2 : Int) (c1003_3 : List Str) (c1003_4 : List (Str × GValue)) (c1004_0 : Int) (c1004_1 : Str) (c1004_2 : Int) (c1006_0 : Int) (c1006_1 : Str) (c1006_2 : Int) (s39 : Int) (w900001 : List (Str × GValue)) (k : Ex → St → Option (GValue × Int)) : Option (GValue × Int) :=
  script_add_L0 N c37 c38 c1003_0 c1003_1 c1003_2 c1003_3 c1003_4 (fun o0_w900001 => k (.exit 1) (script_add_L0_tl1 c37 c38 c1003_0 c1003_1 c1003_2 c1003_3 c1003_4 c1004_0 c1004_1 c1004_2 c1006_0 c1006_1 c1006_2 o0_w900001)) N s39 w900001
abbrev script_add_L0_F (N : Nat) : FV script_add_L0_fs → HV script_add_L0_bs → (Ex → St → Option (GValue × Int)) → Option (GValue × Int) := fun x y k => script_add_L0_G N x.2.2.2.1 x.2.2.2.2.1 y.1.1 y.1.2.1 y.1.2.2.1 y.1.2.2.2.1 y.1.2.2.2.2.1 y.2.1.1 y.2.1.2.1 y.2.1.2.2.1 y.2.2.1.1 y.2.2.1.2.1 y.2.2.1.2.2.1 x.2.2.2.2.2.1 y.2.2.2.1 k
abbrev script_add_L1_fs : List (Nat × Sl) := [(2, .box 1002 0), (4, .box 1004 0), (6, .box 1006 0), (61, .v (.sl (.pr .str (.rc .value)))), (62, .v (.int .i64)), (63, .v (.int .i64))]
abbrev script_add_L1_bs : List (Nat × Sb) := [(1002, .cells [.v (.int .i64), .v .str, .v (.int .i64), .v (.sl .str), .v (.sl (.pr .str (.rc .value)))]), (1004, .cells [.v (.int .i64), .v .str, .v (.int .i64), .nilS, .nilS]), (1006, .cells [.v (.int .i64), .v .str, .v (.int .i64), .nilS, .row 900002]), (900002, .row 75 (.pr .str (.rc .value)) false)]
def script_add_L1_hd (c61 : List (Str × GValue)) (c62 : Int) (c1002_0 : Int) (c1002_1 : Str) (c1002_2 : Int) (c1002_3 : List Str) (c1002_4 : List (Str × GValue)) (c1004_0_1 : Int) (c1004_1_2 : Str) (c1004_2_3 : Int) (c1006_0_4 : Int) (c1006_1_5 : Str) (c1006_2_6 : Int) (s63 : Int) (w900002 : List (Str × GValue)) : St := ⟨87, [(2, .box 1002 0), (4, .box 1004 0), (6, .box 1006 0), (61, .v (.sl (.pr .str (.rc .value))) c61), (62, .v (.int .i64) c62), (63, .v (.int .i64) s63)], [(1002, .cells [.v (.int .i64) c1002_0, .v .str c1002_1, .v (.int .i64) c1002_2, .v (.sl .str) c1002_3, .v (.sl (.pr .str (.rc .value))) c1002_4]), (1004, .cells [.v (.int .i64) c1004_0_1, .v .str c1004_1_2, .v (.int .i64) c1004_2_3, .nilS, .nilS]), (1006, .cells [.v (.int .i64) c1006_0_4, .v .str c1006_1_5, .v (.int .i64) c1006_2_6, .nilS, .row 900002]), (900002, .row 75 (.pr .str (.rc .value)) false w900002)]⟩
def script_add_L1_tl3 (_c61 : List (Str × GValue)) (_c62 : Int) (_c1002_0 : Int) (_c1002_1 : Str) (_c1002_2 : Int) (_c1002_3 : List Str) (_c1002_4 : List (Str × GValue)) (c1004_0_1 : Int) (c1004_1_2 : Str) (c1004_2_3 : Int) (c1006_0_4 : Int) (c1006_1_5 : Str) (c1006_2_6 : Int) (o1_w900002 : List (Str × GValue)) : St := ⟨87, [(4, .box 1004 0), (6, .box 1006 0)], [(1004, .cells [.v (.int .i64) c1004_0_1, .v .str c1004_1_2, .v (.int .i64) c1004_2_3, .nilS, .nilS]), (1006, .cells [.v (.int .i64) c1006_0_4, .v .str c1006_1_5, .v (.int .i64) c1006_2_6, .nilS, .row 900002]), (900002, .row 75 (.pr .str (.rc .value)) false o1_w900002)]⟩
def script_add_L1_G (N : Nat) (c61 : List (Str × GValue)) (c62 : Int) (c1002_0 : Int) (c1002_1 : Str) (c1002_2 : Int) (c1002_3 : List Str) (c1002_4 : List (Str × GValue)) (c1004_0_1 : Int) (c1004_1_2 : Str) (c1004_2_3 : Int) (c1006_0_4 : Int) (c1006_1_5 : Str) (c1006_2_6 : Int) (s63 : Int) (w900002 : List (Str × GValue)) (k : Ex → St → Option (GValue × Int)) : Option (GValue × Int) :=
  script_add_L1 N c61 c62 c1002_0 c1002_1 c1002_2 c1002_3 c1002_4 (fun o1_w900002 => k (.exit 3) (script_add_L1_tl3 c61 c62 c1002_0 c1002_1 c1002_2 c1002_3 c1002_4 c1004_0_1 c1004_1_2 c1004_2_3 c1006_0_4 c1006_1_5 c1006_2_6 o1_w900002)) N s63 w900002
abbrev script_add_L1_F (N : Nat) : FV script_add_L1_fs → HV script_add_L1_bs → (Ex → St → Option (GValue × Int)) → Option (GValue × Int) := fun x y k => script_add_L1_G N x.2.2.2.1 x.2.2.2.2.1 y.1.1 y.1.2.1 y.1.2.2.1 y.1.2.2.2.1 y.1.2.2.2.2.1 y.2.1.1 y.2.1.2.1 y.2.1.2.2.1 y.2.2.1.1 y.2.2.1.2.1 y.2.2.1.2.2.1 x.2.2.2.2.2.1 y.2.2.2.1 k
noncomputable def script_add_LP (N : Nat) : Nat → Code → St → (Ex → St → Option (GValue × Int)) → Option (GValue × Int) := fun i c =>
  match i with
  | 1 => (LPc 87 script_add_L0_fs script_add_L0_bs (script_add_L0_F N) (fun st k => iter (script_add_h 1) (exec (script_add_E N) N c 1) N st k))
  | 3 => (LPc 87 script_add_L1_fs script_add_L1_bs (script_add_L1_F N) (fun st k => iter (script_add_h 3) (exec (script_add_E N) N c 3) N st k))
  | i => fun st k => iter (script_add_h i) (exec (script_add_E N) N c i) N st k
theorem script_add_L1_step (N : Nat) (c61 : List (Str × GValue)) (c62 : Int) (c1002_0 : Int) (c1002_1 : Str) (c1002_2 : Int) (c1002_3 : List Str) (c1002_4 : List (Str × GValue)) (c1004_0_1 : Int) (c1004_1_2 : Str) (c1004_2_3 : Int) (c1006_0_4 : Int) (c1006_1_5 : Str) (c1006_2_6 : Int) (KX : Nat → St → Option (GValue × Int)) (I : St → Option (GValue × Int)) (s63 : Int) (w900002 : List (Str × GValue)) :
    execL (script_add_LP N) (script_add_E N) (cAt (bodyOf Tryz.f35) [true, true, true, false, false, true, true, true, false, true, false, false]) 3 (script_add_L1_hd c61 c62 c1002_0 c1002_1 c1002_2 c1002_3 c1002_4 c1004_0_1 c1004_1_2 c1004_2_3 c1006_0_4 c1006_1_5 c1006_2_6 s63 w900002) (roundK (script_add_h 3) I KX (resD (script_add_E N) Tryz.f35 (script_add_sg fun x _ => script_add N x.1 x.2.1) script_add_pk)) = script_add_L1T N c61 c62 c1002_0 c1002_1 c1002_2 c1002_3 c1002_4 (fun o1_w900002 => KX 3 (script_add_L1_tl3 c61 c62 c1002_0 c1002_1 c1002_2 c1002_3 c1002_4 c1004_0_1 c1004_1_2 c1004_2_3 c1006_0_4 c1006_1_5 c1006_2_6 o1_w900002)) (fun s63 w900002 => I (script_add_L1_hd c61 c62 c1002_0 c1002_1 c1002_2 c1002_3 c1002_4 c1004_0_1 c1004_1_2 c1004_2_3 c1006_0_4 c1006_1_5 c1006_2_6 s63 w900002)) s63 w900002 := by kernel_rfl
theorem script_add_L1_ok (N : Nat) : ∀ x y k, (∀ st, k .ret st = (resD (script_add_E N) Tryz.f35 (script_add_sg fun x _ => script_add N x.1 x.2.1) script_add_pk) st) → iter (script_add_h 3) (exec (script_add_E N) N (cAt (bodyOf Tryz.f35) [true, true, true, false, false, true, true, true, false, true, false, false]) 3) N ⟨87, unF script_add_L1_fs x, unH script_add_L1_bs y⟩ k = script_add_L1_F N x y k := fun x y k hk =>
  iter_link (S := (Int) × (List (Str × GValue)) × Unit) (script_add_h 3) _ (execL (script_add_LP N) (script_add_E N) (cAt (bodyOf Tryz.f35) [true, true, true, false, false, true, true, true, false, true, false, false]) 3) (resD (script_add_E N) Tryz.f35 (script_add_sg fun x _ => script_add N x.1 x.2.1) script_add_pk) (fun st k hk => execL_eq _ _ N _ (cAt (bodyOf Tryz.f35) [true, true, true, false, false, true, true, true, false, true, false, false]) 3 (show LoopsOk (script_add_LP N) (script_add_E N) N (resD (script_add_E N) Tryz.f35 (script_add_sg fun x _ => script_add N x.1 x.2.1) script_add_pk) [] from trivial) st k hk) (fun s => script_add_L1_hd x.2.2.2.1 x.2.2.2.2.1 y.1.1 y.1.2.1 y.1.2.2.1 y.1.2.2.2.1 y.1.2.2.2.2.1 y.2.1.1 y.2.1.2.1 y.2.1.2.2.1 y.2.2.1.1 y.2.2.1.2.1 y.2.2.1.2.2.1 s.1 s.2.1) k hk
    (fun self s => script_add_L1T N x.2.2.2.1 x.2.2.2.2.1 y.1.1 y.1.2.1 y.1.2.2.1 y.1.2.2.2.1 y.1.2.2.2.2.1 (fun o1_w900002 => k (.exit 3) (script_add_L1_tl3 x.2.2.2.1 x.2.2.2.2.1 y.1.1 y.1.2.1 y.1.2.2.1 y.1.2.2.2.1 y.1.2.2.2.2.1 y.2.1.1 y.2.1.2.1 y.2.1.2.2.1 y.2.2.1.1 y.2.2.1.2.1 y.2.2.1.2.2.1 o1_w900002)) (fun s63 w900002 => self (s63, w900002, ())) s.1 s.2.1) (fun n s => script_add_L1 N x.2.2.2.1 x.2.2.2.2.1 y.1.1 y.1.2.1 y.1.2.2.1 y.1.2.2.2.1 y.1.2.2.2.2.1 (fun o1_w900002 => k (.exit 3) (script_add_L1_tl3 x.2.2.2.1 x.2.2.2.2.1 y.1.1 y.1.2.1 y.1.2.2.1 y.1.2.2.2.1 y.1.2.2.2.2.1 y.2.1.1 y.2.1.2.1 y.2.1.2.2.1 y.2.2.1.1 y.2.2.1.2.1 y.2.2.1.2.2.1 o1_w900002)) n s.1 s.2.1) (fun _ => rfl) (fun _ _ => rfl)
    (fun I s => script_add_L1_step N x.2.2.2.1 x.2.2.2.2.1 y.1.1 y.1.2.1 y.1.2.2.1 y.1.2.2.2.1 y.1.2.2.2.2.1 y.2.1.1 y.2.1.2.1 y.2.1.2.2.1 y.2.2.1.1 y.2.2.1.2.1 y.2.2.1.2.2.1 (fun j => k (.exit j)) I s.1 s.2.1) N (x.2.2.2.2.2.1, y.2.2.2.1, ())
theorem script_add_lp3 (N : Nat) : ∀ st k, (∀ st, k .ret st = (resD (script_add_E N) Tryz.f35 (script_add_sg fun x _ => script_add N x.1 x.2.1) script_add_pk) st) → script_add_LP N 3 (cAt (bodyOf Tryz.f35) [true, true, true, false, false, true, true, true, false, true, false, false]) st k = iter (Env.hint (script_add_E N) 3) (exec (script_add_E N) N (cAt (bodyOf Tryz.f35) [true, true, true, false, false, true, true, true, false, true, false, false]) 3) N st k := fun st k hk => LPc_eq 87 script_add_L1_fs script_add_L1_bs _ _ (resD (script_add_E N) Tryz.f35 (script_add_sg fun x _ => script_add N x.1 x.2.1) script_add_pk) (script_add_L1_ok N) _ st k hk (rfl)
theorem script_add_L0_step (N : Nat) (c37 : List (Str × GValue)) (c38 : Int) (c1003_0 : Int) (c1003_1 : Str) (c1003_2 : Int) (c1003_3 : List Str) (c1003_4 : List (Str × GValue)) (c1004_0 : Int) (c1004_1 : Str) (c1004_2 : Int) (c1006_0 : Int) (c1006_1 : Str) (c1006_2 : Int) (KX : Nat → St → Option (GValue × Int)) (I : St → Option (GValue × Int)) (s39 : Int) (w900001 : List (Str × GValue)) :
    execL (script_add_LP N) (script_add_E N) (cAt (bodyOf Tryz.f35) [true, true, true, false, false, true, false, true, false, false]) 1 (script_add_L0_hd c37 c38 c1003_0 c1003_1 c1003_2 c1003_3 c1003_4 c1004_0 c1004_1 c1004_2 c1006_0 c1006_1 c1006_2 s39 w900001) (roundK (script_add_h 1) I KX (resD (script_add_E N) Tryz.f35 (script_add_sg fun x _ => script_add N x.1 x.2.1) script_add_pk)) = script_add_L0T N c37 c38 c1003_0 c1003_1 c1003_2 c1003_3 c1003_4 (fun o0_w900001 => KX 1 (script_add_L0_tl1 c37 c38 c1003_0 c1003_1 c1003_2 c1003_3 c1003_4 c1004_0 c1004_1 c1004_2 c1006_0 c1006_1 c1006_2 o0_w900001)) (fun s39 w900001 => I (script_add_L0_hd c37 c38 c1003_0 c1003_1 c1003_2 c1003_3 c1003_4 c1004_0 c1004_1 c1004_2 c1006_0 c1006_1 c1006_2 s39 w900001)) s39 w900001 := by kernel_rfl
theorem script_add_L0_ok (N : Nat) : ∀ x y k, (∀ st, k .ret st = (resD (script_add_E N) Tryz.f35 (script_add_sg fun x _ => script_add N x.1 x.2.1) script_add_pk) st) → iter (script_add_h 1) (exec (script_add_E N) N (cAt (bodyOf Tryz.f35) [true, true, true, false, false, true, false, true, false, false]) 1) N ⟨87, unF script_add_L0_fs x, unH script_add_L0_bs y⟩ k = script_add_L0_F N x y k := fun x y k hk =>
  iter_link (S := (Int) × (List (Str × GValue)) × Unit) (script_add_h 1) _ (execL (script_add_LP N) (script_add_E N) (cAt (bodyOf Tryz.f35) [true, true, true, false, false, true, false, true, false, false]) 1) (resD (script_add_E N) Tryz.f35 (script_add_sg fun x _ => script_add N x.1 x.2.1) script_add_pk) (fun st k hk => execL_eq _ _ N _ (cAt (bodyOf Tryz.f35) [true, true, true, false, false, true, false, true, false, false]) 1 (show LoopsOk (script_add_LP N) (script_add_E N) N (resD (script_add_E N) Tryz.f35 (script_add_sg fun x _ => script_add N x.1 x.2.1) script_add_pk) [] from trivial) st k hk) (fun s => script_add_L0_hd x.2.2.2.1 x.2.2.2.2.1 y.1.1 y.1.2.1 y.1.2.2.1 y.1.2.2.2.1 y.1.2.2.2.2.1 y.2.1.1 y.2.1.2.1 y.2.1.2.2.1 y.2.2.1.1 y.2.2.1.2.1 y.2.2.1.2.2.1 s.1 s.2.1) k hk
    (fun self s => script_add_L0T N x.2.2.2.1 x.2.2.2.2.1 y.1.1 y.1.2.1 y.1.2.2.1 y.1.2.2.2.1 y.1.2.2.2.2.1 (fun o0_w900001 => k (.exit 1) (script_add_L0_tl1 x.2.2.2.1 x.2.2.2.2.1 y.1.1 y.1.2.1 y.1.2.2.1 y.1.2.2.2.1 y.1.2.2.2.2.1 y.2.1.1 y.2.1.2.1 y.2.1.2.2.1 y.2.2.1.1 y.2.2.1.2.1 y.2.2.1.2.2.1 o0_w900001)) (fun s39 w900001 => self (s39, w900001, ())) s.1 s.2.1) (fun n s => script_add_L0 N x.2.2.2.1 x.2.2.2.2.1 y.1.1 y.1.2.1 y.1.2.2.1 y.1.2.2.2.1 y.1.2.2.2.2.1 (fun o0_w900001 => k (.exit 1) (script_add_L0_tl1 x.2.2.2.1 x.2.2.2.2.1 y.1.1 y.1.2.1 y.1.2.2.1 y.1.2.2.2.1 y.1.2.2.2.2.1 y.2.1.1 y.2.1.2.1 y.2.1.2.2.1 y.2.2.1.1 y.2.2.1.2.1 y.2.2.1.2.2.1 o0_w900001)) n s.1 s.2.1) (fun _ => rfl) (fun _ _ => rfl)
    (fun I s => script_add_L0_step N x.2.2.2.1 x.2.2.2.2.1 y.1.1 y.1.2.1 y.1.2.2.1 y.1.2.2.2.1 y.1.2.2.2.2.1 y.2.1.1 y.2.1.2.1 y.2.1.2.2.1 y.2.2.1.1 y.2.2.1.2.1 y.2.2.1.2.2.1 (fun j => k (.exit j)) I s.1 s.2.1) N (x.2.2.2.2.2.1, y.2.2.2.1, ())
theorem script_add_lp1 (N : Nat) : ∀ st k, (∀ st, k .ret st = (resD (script_add_E N) Tryz.f35 (script_add_sg fun x _ => script_add N x.1 x.2.1) script_add_pk) st) → script_add_LP N 1 (cAt (bodyOf Tryz.f35) [true, true, true, false, false, true, false, true, false, false]) st k = iter (Env.hint (script_add_E N) 1) (exec (script_add_E N) N (cAt (bodyOf Tryz.f35) [true, true, true, false, false, true, false, true, false, false]) 1) N st k := fun st k hk => LPc_eq 87 script_add_L0_fs script_add_L0_bs _ _ (resD (script_add_E N) Tryz.f35 (script_add_sg fun x _ => script_add N x.1 x.2.1) script_add_pk) (script_add_L0_ok N) _ st k hk (rfl)
theorem script_add_core (N : Nat) (x : SV [.v (.rc .value), .v (.rc .value)]) (y : BV []) : runL (script_add_E N) Tryz.f35 (script_add_sg fun x _ => script_add N x.1 x.2.1) script_add_pk (script_add_LP N) x y = script_add N x.1 x.2.1 := by kernel_rfl
theorem script_add_sound (N : Nat) : Sound Tryz.prog GW B0G 35 (script_add_sg fun x _ => script_add N x.1 x.2.1) :=
  runD_sound (mkE_ok script_add_h (script_add_fn N) _ _ (script_add_fn_ok N)) Tryz.func35 rfl Tryz.call35 (script_add_sg fun x _ => script_add N x.1 x.2.1) script_add_pk (fun _ _ => rfl) N (fun x y _ h => ((runL_eq (script_add_E N) N Tryz.f35 (script_add_sg fun x _ => script_add N x.1 x.2.1) script_add_pk (script_add_LP N) (show LoopsOk (script_add_LP N) (script_add_E N) N (resD (script_add_E N) Tryz.f35 (script_add_sg fun x _ => script_add N x.1 x.2.1) script_add_pk) [(1, (cAt (bodyOf Tryz.f35) [true, true, true, false, false, true, false, true, false, false])), (3, (cAt (bodyOf Tryz.f35) [true, true, true, false, false, true, true, true, false, true, false, false]))] from ⟨script_add_lp1 N, script_add_lp3 N, trivial⟩) x y).trans (script_add_core N x y)).trans h)
def script_Add (N : Nat) (x0 : GValue) (x1 : GValue) : Option (GValue × Int) :=
  bnd (script_checkTwo N (GValue.mk x0.kind x0.text x0.number x0.list x0.cases) (GValue.mk x1.kind x1.text x1.number x1.list x1.cases)) fun t9 =>
  br (t9 != (0 : Int))
    (some (GValue.mk (0 : Int) ([] : Str) (0 : Int) ([] : List Str) ([] : List (Str × GValue)), t9))
    (bnd (script_add N (GValue.mk x0.kind x0.text x0.number x0.list x0.cases) (GValue.mk x1.kind x1.text x1.number x1.list x1.cases)) fun t16 =>
    some (GValue.mk t16.1.kind t16.1.text t16.1.number t16.1.list t16.1.cases, t16.2))
abbrev script_Add_sg (f : SV [.v (.rc .value), .v (.rc .value)] → BV [] → Option (GValue × Int)) : AF := { ps := [.v (.rc .value), .v (.rc .value)], bs := [], rs := [.v (.rc .value), .v (.int .i64)], cs := [], R := GValue × Int, out := fun z => ((z.1, z.2, ()), ()), f := f }
abbrev script_Add_pk : SV [.v (.rc .value), .v (.int .i64)] → BV [] → (GValue × Int) := fun x _ => (x.1, x.2.1)
def script_Add_fn (N : Nat) : FuncId → Option Tmp → Option AF := fun f _ =>
  match f with
    | 34 => some (script_checkTwo_sg fun x _ => script_checkTwo N x.1 x.2.1)
    | 35 => some (script_add_sg fun x _ => script_add N x.1 x.2.1)
    | _ => none
theorem script_Add_fn_ok (N : Nat) : ∀ f q F, script_Add_fn N f q = some F → Sound Tryz.prog GW B0G f F := by
  intro f q F h
  unfold script_Add_fn at h
  split at h
  · cases h; exact script_checkTwo_sound N
  · cases h; exact script_add_sound N
  · cases h
def script_Add_h : Nat → Hint := fun i =>
  match i with
  | _ => ⟨[], [], [], [], [], []⟩
abbrev script_Add_E (N : Nat) : Env := mkE script_Add_h (script_Add_fn N) (fun _ => false) (fun _ => false)
noncomputable def script_Add_LP (N : Nat) : Nat → Code → St → (Ex → St → Option (GValue × Int)) → Option (GValue × Int) := fun i c =>
  match i with
  | i => fun st k => iter (script_Add_h i) (exec (script_Add_E N) N c i) N st k
theorem script_Add_core (N : Nat) (x : SV [.v (.rc .value), .v (.rc .value)]) (y : BV []) : runL (script_Add_E N) Tryz.f10 (script_Add_sg fun x _ => script_Add N x.1 x.2.1) script_Add_pk (script_Add_LP N) x y = script_Add N x.1 x.2.1 := by kernel_rfl
theorem script_Add_sound (N : Nat) : Sound Tryz.prog GW B0G 10 (script_Add_sg fun x _ => script_Add N x.1 x.2.1) :=
  runD_sound (mkE_ok script_Add_h (script_Add_fn N) _ _ (script_Add_fn_ok N)) Tryz.func10 rfl Tryz.call10 (script_Add_sg fun x _ => script_Add N x.1 x.2.1) script_Add_pk (fun _ _ => rfl) N (fun x y _ h => ((runL_eq (script_Add_E N) N Tryz.f10 (script_Add_sg fun x _ => script_Add N x.1 x.2.1) script_Add_pk (script_Add_LP N) (show LoopsOk (script_Add_LP N) (script_Add_E N) N (resD (script_Add_E N) Tryz.f10 (script_Add_sg fun x _ => script_Add N x.1 x.2.1) script_Add_pk) [] from trivial) x y).trans (script_Add_core N x y)).trans h)
def slices_Equal_string_string_L0T (_N : Nat) (x0 : List Str) (x1 : List Str) (c12 : Int) (k0 : Option Bool) (self : Int → Option Bool) (s13 : Int) : Option Bool :=
  br (decide (s13 < c12))
    (bnd (geti x0 s13) fun t18 =>
    bnd (geti x1 s13) fun t22 =>
    br (!(t18 == t22))
      (some false)
      (self (IntKind.i64.wrap (s13 + (1 : Int)))))
    (k0)
def slices_Equal_string_string_L0 (N : Nat) (x0 : List Str) (x1 : List Str) (c12 : Int) (k0 : Option Bool) : Nat → Int → Option Bool
  | 0, _ => none
  | n + 1, s13 => slices_Equal_string_string_L0T N x0 x1 c12 k0 (slices_Equal_string_string_L0 N x0 x1 c12 k0 n) s13
def slices_Equal_string_string (N : Nat) (x0 : List Str) (x1 : List Str) : Option Bool :=
  br ((x0.length : Int) != (x1.length : Int))
    (some false)
    (slices_Equal_string_string_L0 N x0 x1 (x0.length : Int) (some true) N (0 : Int))
abbrev slices_Equal_string_string_sg (f : SV [.v (.sl .str), .v (.sl .str)] → BV [] → Option (Bool)) : AF := { ps := [.v (.sl .str), .v (.sl .str)], bs := [], rs := [.v .bool], cs := [], R := Bool, out := fun z => ((z, ()), ()), f := f }
abbrev slices_Equal_string_string_pk : SV [.v .bool] → BV [] → Bool := fun x _ => x.1
def slices_Equal_string_string_fn (_N : Nat) : FuncId → Option Tmp → Option AF := fun f _ =>
  match f with
    | _ => none
theorem slices_Equal_string_string_fn_ok (N : Nat) : ∀ f q F, slices_Equal_string_string_fn N f q = some F → Sound Tryz.prog GW B0G f F := by
  intro f q F h
  unfold slices_Equal_string_string_fn at h
  split at h
  · cases h
def slices_Equal_string_string_h : Nat → Hint := fun i =>
  match i with
  | 0 => ⟨[], [0, 1, 12, 13], [], [], [], []⟩
  | _ => ⟨[], [], [], [], [], []⟩
abbrev slices_Equal_string_string_E (N : Nat) : Env := mkE slices_Equal_string_string_h (slices_Equal_string_string_fn N) (fun _ => false) (fun _ => false)
abbrev slices_Equal_string_string_L0_fs : List (Nat × Sl) := [(0, .v (.sl .str)), (1, .v (.sl .str)), (12, .v (.int .i64)), (13, .v (.int .i64))]
abbrev slices_Equal_string_string_L0_bs : List (Nat × Sb) := []
def slices_Equal_string_string_L0_hd (x0 : List Str) (x1 : List Str) (c12 : Int) (s13 : Int) : St := ⟨26, [(0, .v (.sl .str) x0), (1, .v (.sl .str) x1), (12, .v (.int .i64) c12), (13, .v (.int .i64) s13)], []⟩
def slices_Equal_string_string_L0_tl0 (_x0 : List Str) (_x1 : List Str) (_c12 : Int) : St := ⟨26, [], []⟩
def slices_Equal_string_string_L0_G (N : Nat) (x0 : List Str) (x1 : List Str) (c12 : Int) (s13 : Int) (k : Ex → St → Option Bool) : Option Bool :=
  slices_Equal_string_string_L0 N x0 x1 c12 (k (.exit 0) (slices_Equal_string_string_L0_tl0 x0 x1 c12)) N s13
abbrev slices_Equal_string_string_L0_F (N : Nat) : FV slices_Equal_string_string_L0_fs → HV slices_Equal_string_string_L0_bs → (Ex → St → Option Bool) → Option Bool := fun x _ k => slices_Equal_string_string_L0_G N x.1 x.2.1 x.2.2.1 x.2.2.2.1 k
noncomputable def slices_Equal_string_string_LP (N : Nat) : Nat → Code → St → (Ex → St → Option Bool) → Option Bool := fun i c =>
  match i with
  | 0 => (LPc 26 slices_Equal_string_string_L0_fs slices_Equal_string_string_L0_bs (slices_Equal_string_string_L0_F N) (fun st k => iter (slices_Equal_string_string_h 0) (exec (slices_Equal_string_string_E N) N c 0) N st k))
  | i => fun st k => iter (slices_Equal_string_string_h i) (exec (slices_Equal_string_string_E N) N c i) N st k
theorem slices_Equal_string_string_L0_step (N : Nat) (x0 : List Str) (x1 : List Str) (c12 : Int) (KX : Nat → St → Option Bool) (I : St → Option Bool) (s13 : Int) :
    execL (slices_Equal_string_string_LP N) (slices_Equal_string_string_E N) (cAt (bodyOf Tryz.f37) [true, true, false, true, false, false]) 0 (slices_Equal_string_string_L0_hd x0 x1 c12 s13) (roundK (slices_Equal_string_string_h 0) I KX (resD (slices_Equal_string_string_E N) Tryz.f37 (slices_Equal_string_string_sg fun x _ => slices_Equal_string_string N x.1 x.2.1) slices_Equal_string_string_pk)) = slices_Equal_string_string_L0T N x0 x1 c12 (KX 0 (slices_Equal_string_string_L0_tl0 x0 x1 c12)) (fun s13 => I (slices_Equal_string_string_L0_hd x0 x1 c12 s13)) s13 := by kernel_rfl
theorem slices_Equal_string_string_L0_ok (N : Nat) : ∀ x y k, (∀ st, k .ret st = (resD (slices_Equal_string_string_E N) Tryz.f37 (slices_Equal_string_string_sg fun x _ => slices_Equal_string_string N x.1 x.2.1) slices_Equal_string_string_pk) st) → iter (slices_Equal_string_string_h 0) (exec (slices_Equal_string_string_E N) N (cAt (bodyOf Tryz.f37) [true, true, false, true, false, false]) 0) N ⟨26, unF slices_Equal_string_string_L0_fs x, unH slices_Equal_string_string_L0_bs y⟩ k = slices_Equal_string_string_L0_F N x y k := fun x _ k hk =>
  iter_link (S := (Int) × Unit) (slices_Equal_string_string_h 0) _ (execL (slices_Equal_string_string_LP N) (slices_Equal_string_string_E N) (cAt (bodyOf Tryz.f37) [true, true, false, true, false, false]) 0) (resD (slices_Equal_string_string_E N) Tryz.f37 (slices_Equal_string_string_sg fun x _ => slices_Equal_string_string N x.1 x.2.1) slices_Equal_string_string_pk) (fun st k hk => execL_eq _ _ N _ (cAt (bodyOf Tryz.f37) [true, true, false, true, false, false]) 0 (show LoopsOk (slices_Equal_string_string_LP N) (slices_Equal_string_string_E N) N (resD (slices_Equal_string_string_E N) Tryz.f37 (slices_Equal_string_string_sg fun x _ => slices_Equal_string_string N x.1 x.2.1) slices_Equal_string_string_pk) [] from trivial) st k hk) (fun s => slices_Equal_string_string_L0_hd x.1 x.2.1 x.2.2.1 s.1) k hk
    (fun self s => slices_Equal_string_string_L0T N x.1 x.2.1 x.2.2.1 (k (.exit 0) (slices_Equal_string_string_L0_tl0 x.1 x.2.1 x.2.2.1)) (fun s13 => self (s13, ())) s.1) (fun n s => slices_Equal_string_string_L0 N x.1 x.2.1 x.2.2.1 (k (.exit 0) (slices_Equal_string_string_L0_tl0 x.1 x.2.1 x.2.2.1)) n s.1) (fun _ => rfl) (fun _ _ => rfl)
    (fun I s => slices_Equal_string_string_L0_step N x.1 x.2.1 x.2.2.1 (fun j => k (.exit j)) I s.1) N (x.2.2.2.1, ())
theorem slices_Equal_string_string_lp0 (N : Nat) : ∀ st k, (∀ st, k .ret st = (resD (slices_Equal_string_string_E N) Tryz.f37 (slices_Equal_string_string_sg fun x _ => slices_Equal_string_string N x.1 x.2.1) slices_Equal_string_string_pk) st) → slices_Equal_string_string_LP N 0 (cAt (bodyOf Tryz.f37) [true, true, false, true, false, false]) st k = iter (Env.hint (slices_Equal_string_string_E N) 0) (exec (slices_Equal_string_string_E N) N (cAt (bodyOf Tryz.f37) [true, true, false, true, false, false]) 0) N st k := fun st k hk => LPc_eq 26 slices_Equal_string_string_L0_fs slices_Equal_string_string_L0_bs _ _ (resD (slices_Equal_string_string_E N) Tryz.f37 (slices_Equal_string_string_sg fun x _ => slices_Equal_string_string N x.1 x.2.1) slices_Equal_string_string_pk) (slices_Equal_string_string_L0_ok N) _ st k hk (rfl)
theorem slices_Equal_string_string_core (N : Nat) (x : SV [.v (.sl .str), .v (.sl .str)]) (y : BV []) : runL (slices_Equal_string_string_E N) Tryz.f37 (slices_Equal_string_string_sg fun x _ => slices_Equal_string_string N x.1 x.2.1) slices_Equal_string_string_pk (slices_Equal_string_string_LP N) x y = slices_Equal_string_string N x.1 x.2.1 := by kernel_rfl
theorem slices_Equal_string_string_sound (N : Nat) : Sound Tryz.prog GW B0G 37 (slices_Equal_string_string_sg fun x _ => slices_Equal_string_string N x.1 x.2.1) :=
  runD_sound (mkE_ok slices_Equal_string_string_h (slices_Equal_string_string_fn N) _ _ (slices_Equal_string_string_fn_ok N)) Tryz.func37 rfl Tryz.call37 (slices_Equal_string_string_sg fun x _ => slices_Equal_string_string N x.1 x.2.1) slices_Equal_string_string_pk (fun _ _ => rfl) N (fun x y _ h => ((runL_eq (slices_Equal_string_string_E N) N Tryz.f37 (slices_Equal_string_string_sg fun x _ => slices_Equal_string_string N x.1 x.2.1) slices_Equal_string_string_pk (slices_Equal_string_string_LP N) (show LoopsOk (slices_Equal_string_string_LP N) (slices_Equal_string_string_E N) N (resD (slices_Equal_string_string_E N) Tryz.f37 (slices_Equal_string_string_sg fun x _ => slices_Equal_string_string N x.1 x.2.1) slices_Equal_string_string_pk) [(0, (cAt (bodyOf Tryz.f37) [true, true, false, true, false, false]))] from ⟨slices_Equal_string_string_lp0 N, trivial⟩) x y).trans (slices_Equal_string_string_core N x y)).trans h)
abbrev ref2_SameValue_sg (f : SV [.v (.rc .value), .v (.rc .value)] → BV [] → Option (Bool)) : AF := { ps := [.v (.rc .value), .v (.rc .value)], bs := [], rs := [.v .bool], cs := [], R := Bool, out := fun z => ((z, ()), ()), f := f }
def ref2_SameValue_b_L0T (_N : Nat) (r_ref2_SameValue : GValue → GValue → Option (Bool)) (c44 : Int) (c1002_4 : List (Str × GValue)) (c1003_4 : List (Str × GValue)) (k0 : Option Bool) (self : Int → Option Bool) (s45 : Int) : Option Bool :=
  br (decide (s45 < c44))
    (bnd (geti c1002_4 s45) fun t51 =>
    bnd (geti c1003_4 s45) fun t57 =>
    br (!(t51.1 == t57.1))
      (some false)
      (bnd (geti c1002_4 s45) fun t65 =>
      bnd (geti c1003_4 s45) fun t71 =>
      bnd (r_ref2_SameValue t65.2 t71.2) fun t74 =>
      br (!t74)
        (some false)
        (self (IntKind.i64.wrap (s45 + (1 : Int))))))
    (k0)
def ref2_SameValue_b_L0 (N : Nat) (r_ref2_SameValue : GValue → GValue → Option (Bool)) (c44 : Int) (c1002_4 : List (Str × GValue)) (c1003_4 : List (Str × GValue)) (k0 : Option Bool) : Nat → Int → Option Bool
  | 0, _ => none
  | n + 1, s45 => ref2_SameValue_b_L0T N r_ref2_SameValue c44 c1002_4 c1003_4 k0 (ref2_SameValue_b_L0 N r_ref2_SameValue c44 c1002_4 c1003_4 k0 n) s45
def ref2_SameValue_b (N : Nat) (r_ref2_SameValue : GValue → GValue → Option (Bool)) (x0 : GValue) (x1 : GValue) : Option Bool :=
  br (x0.kind != x1.kind)
    (some false)
    (br (!(x0.text == x1.text))
      (some false)
      (br (x0.number != x1.number)
        (some false)
        (bnd (slices_Equal_string_string N x0.list x1.list) fun t30 =>
        br (!t30)
          (some false)
          (br ((x0.cases.length : Int) != (x1.cases.length : Int))
            (some false)
            (ref2_SameValue_b_L0 N r_ref2_SameValue (x0.cases.length : Int) x0.cases x1.cases (some true) N (0 : Int))))))
abbrev ref2_SameValue_b_sg (f : SV [.v (.rc .value), .v (.rc .value)] → BV [] → Option (Bool)) : AF := { ps := [.v (.rc .value), .v (.rc .value)], bs := [], rs := [.v .bool], cs := [], R := Bool, out := fun z => ((z, ()), ()), f := f }
abbrev ref2_SameValue_b_pk : SV [.v .bool] → BV [] → Bool := fun x _ => x.1
def ref2_SameValue_b_fn (N : Nat) (r_ref2_SameValue : GValue → GValue → Option (Bool)) : FuncId → Option Tmp → Option AF := fun f _ =>
  match f with
    | 12 => some (ref2_SameValue_sg fun x _ => r_ref2_SameValue x.1 x.2.1)
    | 37 => some (slices_Equal_string_string_sg fun x _ => slices_Equal_string_string N x.1 x.2.1)
    | _ => none
theorem ref2_SameValue_b_fn_ok (N : Nat) (r_ref2_SameValue : GValue → GValue → Option (Bool)) (h_ref2_SameValue : Sound Tryz.prog GW B0G 12 (ref2_SameValue_sg fun x y => r_ref2_SameValue x.1 x.2.1)) : ∀ f q F, ref2_SameValue_b_fn N r_ref2_SameValue f q = some F → Sound Tryz.prog GW B0G f F := by
  intro f q F h
  unfold ref2_SameValue_b_fn at h
  split at h
  · cases h; exact h_ref2_SameValue
  · cases h; exact slices_Equal_string_string_sound N
  · cases h
def ref2_SameValue_b_h : Nat → Hint := fun i =>
  match i with
  | 0 => ⟨[], [2, 3, 44, 45], [1002, 1003], [], [], []⟩
  | _ => ⟨[], [], [], [], [], []⟩
abbrev ref2_SameValue_b_E (N : Nat) (r_ref2_SameValue : GValue → GValue → Option (Bool)) : Env := mkE ref2_SameValue_b_h (ref2_SameValue_b_fn N r_ref2_SameValue) (fun _ => false) (fun _ => false)
abbrev ref2_SameValue_b_L0_fs : List (Nat × Sl) := [(2, .box 1002 0), (3, .box 1003 0), (44, .v (.int .i64)), (45, .v (.int .i64))]
abbrev ref2_SameValue_b_L0_bs : List (Nat × Sb) := [(1002, .cells [.v (.int .i64), .v .str, .v (.int .i64), .v (.sl .str), .v (.sl (.pr .str (.rc .value)))]), (1003, .cells [.v (.int .i64), .v .str, .v (.int .i64), .v (.sl .str), .v (.sl (.pr .str (.rc .value)))])]
def ref2_SameValue_b_L0_hd (c44 : Int) (c1002_0 : Int) (c1002_1 : Str) (c1002_2 : Int) (c1002_3 : List Str) (c1002_4 : List (Str × GValue)) (c1003_0 : Int) (c1003_1 : Str) (c1003_2 : Int) (c1003_3 : List Str) (c1003_4 : List (Str × GValue)) (s45 : Int) : St := ⟨78, [(2, .box 1002 0), (3, .box 1003 0), (44, .v (.int .i64) c44), (45, .v (.int .i64) s45)], [(1002, .cells [.v (.int .i64) c1002_0, .v .str c1002_1, .v (.int .i64) c1002_2, .v (.sl .str) c1002_3, .v (.sl (.pr .str (.rc .value))) c1002_4]), (1003, .cells [.v (.int .i64) c1003_0, .v .str c1003_1, .v (.int .i64) c1003_2, .v (.sl .str) c1003_3, .v (.sl (.pr .str (.rc .value))) c1003_4])]⟩
def ref2_SameValue_b_L0_tl0 (_c44 : Int) (_c1002_0 : Int) (_c1002_1 : Str) (_c1002_2 : Int) (_c1002_3 : List Str) (_c1002_4 : List (Str × GValue)) (_c1003_0 : Int) (_c1003_1 : Str) (_c1003_2 : Int) (_c1003_3 : List Str) (_c1003_4 : List (Str × GValue)) : St := ⟨78, [], []⟩
def ref2_SameValue_b_L0_G (N : Nat) (r_ref2_SameValue : GValue → GValue → Option (Bool)) (c44 : Int) (c1002_0 : Int) (c1002_1 : Str) (c1002_2 : Int) (c1002_3 : List Str) (c1002_4 : List (Str × GValue)) (c1003_0 : Int) (c1003_1 : Str) (c1003_2 : Int) (c1003_3 : List Str) (c1003_4 : List (Str × GValue)) (s45 : Int) (k : Ex → St → Option Bool) : Option Bool :=
  ref2_SameValue_b_L0 N r_ref2_SameValue c44 c1002_4 c1003_4 (k (.exit 0) (ref2_SameValue_b_L0_tl0 c44 c1002_0 c1002_1 c1002_2 c1002_3 c1002_4 c1003_0 c1003_1 c1003_2 c1003_3 c1003_4)) N s45
abbrev ref2_SameValue_b_L0_F (N : Nat) (r_ref2_SameValue : GValue → GValue → Option (Bool)) : FV ref2_SameValue_b_L0_fs → HV ref2_SameValue_b_L0_bs → (Ex → St → Option Bool) → Option Bool := fun x y k => ref2_SameValue_b_L0_G N r_ref2_SameValue x.2.2.1 y.1.1 y.1.2.1 y.1.2.2.1 y.1.2.2.2.1 y.1.2.2.2.2.1 y.2.1.1 y.2.1.2.1 y.2.1.2.2.1 y.2.1.2.2.2.1 y.2.1.2.2.2.2.1 x.2.2.2.1 k
noncomputable def ref2_SameValue_b_LP (N : Nat) (r_ref2_SameValue : GValue → GValue → Option (Bool)) : Nat → Code → St → (Ex → St → Option Bool) → Option Bool := fun i c =>
  match i with
  | 0 => (LPc 78 ref2_SameValue_b_L0_fs ref2_SameValue_b_L0_bs (ref2_SameValue_b_L0_F N r_ref2_SameValue) (fun st k => iter (ref2_SameValue_b_h 0) (exec (ref2_SameValue_b_E N r_ref2_SameValue) N c 0) N st k))
  | i => fun st k => iter (ref2_SameValue_b_h i) (exec (ref2_SameValue_b_E N r_ref2_SameValue) N c i) N st k
theorem ref2_SameValue_b_L0_step (N : Nat) (r_ref2_SameValue : GValue → GValue → Option (Bool)) (c44 : Int) (c1002_0 : Int) (c1002_1 : Str) (c1002_2 : Int) (c1002_3 : List Str) (c1002_4 : List (Str × GValue)) (c1003_0 : Int) (c1003_1 : Str) (c1003_2 : Int) (c1003_3 : List Str) (c1003_4 : List (Str × GValue)) (KX : Nat → St → Option Bool) (I : St → Option Bool) (s45 : Int) :
    execL (ref2_SameValue_b_LP N r_ref2_SameValue) (ref2_SameValue_b_E N r_ref2_SameValue) (cAt (bodyOf Tryz.f12) [true, true, false, true, false, false]) 0 (ref2_SameValue_b_L0_hd c44 c1002_0 c1002_1 c1002_2 c1002_3 c1002_4 c1003_0 c1003_1 c1003_2 c1003_3 c1003_4 s45) (roundK (ref2_SameValue_b_h 0) I KX (resD (ref2_SameValue_b_E N r_ref2_SameValue) Tryz.f12 (ref2_SameValue_b_sg fun x _ => ref2_SameValue_b N r_ref2_SameValue x.1 x.2.1) ref2_SameValue_b_pk)) = ref2_SameValue_b_L0T N r_ref2_SameValue c44 c1002_4 c1003_4 (KX 0 (ref2_SameValue_b_L0_tl0 c44 c1002_0 c1002_1 c1002_2 c1002_3 c1002_4 c1003_0 c1003_1 c1003_2 c1003_3 c1003_4)) (fun s45 => I (ref2_SameValue_b_L0_hd c44 c1002_0 c1002_1 c1002_2 c1002_3 c1002_4 c1003_0 c1003_1 c1003_2 c1003_3 c1003_4 s45)) s45 := by kernel_rfl
theorem ref2_SameValue_b_L0_ok (N : Nat) (r_ref2_SameValue : GValue → GValue → Option (Bool)) : ∀ x y k, (∀ st, k .ret st = (resD (ref2_SameValue_b_E N r_ref2_SameValue) Tryz.f12 (ref2_SameValue_b_sg fun x _ => ref2_SameValue_b N r_ref2_SameValue x.1 x.2.1) ref2_SameValue_b_pk) st) → iter (ref2_SameValue_b_h 0) (exec (ref2_SameValue_b_E N r_ref2_SameValue) N (cAt (bodyOf Tryz.f12) [true, true, false, true, false, false]) 0) N ⟨78, unF ref2_SameValue_b_L0_fs x, unH ref2_SameValue_b_L0_bs y⟩ k = ref2_SameValue_b_L0_F N r_ref2_SameValue x y k := fun x y k hk =>
  iter_link (S := (Int) × Unit) (ref2_SameValue_b_h 0) _ (execL (ref2_SameValue_b_LP N r_ref2_SameValue) (ref2_SameValue_b_E N r_ref2_SameValue) (cAt (bodyOf Tryz.f12) [true, true, false, true, false, false]) 0) (resD (ref2_SameValue_b_E N r_ref2_SameValue) Tryz.f12 (ref2_SameValue_b_sg fun x _ => ref2_SameValue_b N r_ref2_SameValue x.1 x.2.1) ref2_SameValue_b_pk) (fun st k hk => execL_eq _ _ N _ (cAt (bodyOf Tryz.f12) [true, true, false, true, false, false]) 0 (show LoopsOk (ref2_SameValue_b_LP N r_ref2_SameValue) (ref2_SameValue_b_E N r_ref2_SameValue) N (resD (ref2_SameValue_b_E N r_ref2_SameValue) Tryz.f12 (ref2_SameValue_b_sg fun x _ => ref2_SameValue_b N r_ref2_SameValue x.1 x.2.1) ref2_SameValue_b_pk) [] from trivial) st k hk) (fun s => ref2_SameValue_b_L0_hd x.2.2.1 y.1.1 y.1.2.1 y.1.2.2.1 y.1.2.2.2.1 y.1.2.2.2.2.1 y.2.1.1 y.2.1.2.1 y.2.1.2.2.1 y.2.1.2.2.2.1 y.2.1.2.2.2.2.1 s.1) k hk
    (fun self s => ref2_SameValue_b_L0T N r_ref2_SameValue x.2.2.1 y.1.2.2.2.2.1 y.2.1.2.2.2.2.1 (k (.exit 0) (ref2_SameValue_b_L0_tl0 x.2.2.1 y.1.1 y.1.2.1 y.1.2.2.1 y.1.2.2.2.1 y.1.2.2.2.2.1 y.2.1.1 y.2.1.2.1 y.2.1.2.2.1 y.2.1.2.2.2.1 y.2.1.2.2.2.2.1)) (fun s45 => self (s45, ())) s.1) (fun n s => ref2_SameValue_b_L0 N r_ref2_SameValue x.2.2.1 y.1.2.2.2.2.1 y.2.1.2.2.2.2.1 (k (.exit 0) (ref2_SameValue_b_L0_tl0 x.2.2.1 y.1.1 y.1.2.1 y.1.2.2.1 y.1.2.2.2.1 y.1.2.2.2.2.1 y.2.1.1 y.2.1.2.1 y.2.1.2.2.1 y.2.1.2.2.2.1 y.2.1.2.2.2.2.1)) n s.1) (fun _ => rfl) (fun _ _ => rfl)
    (fun I s => ref2_SameValue_b_L0_step N r_ref2_SameValue x.2.2.1 y.1.1 y.1.2.1 y.1.2.2.1 y.1.2.2.2.1 y.1.2.2.2.2.1 y.2.1.1 y.2.1.2.1 y.2.1.2.2.1 y.2.1.2.2.2.1 y.2.1.2.2.2.2.1 (fun j => k (.exit j)) I s.1) N (x.2.2.2.1, ())
theorem ref2_SameValue_b_lp0 (N : Nat) (r_ref2_SameValue : GValue → GValue → Option (Bool)) : ∀ st k, (∀ st, k .ret st = (resD (ref2_SameValue_b_E N r_ref2_SameValue) Tryz.f12 (ref2_SameValue_b_sg fun x _ => ref2_SameValue_b N r_ref2_SameValue x.1 x.2.1) ref2_SameValue_b_pk) st) → ref2_SameValue_b_LP N r_ref2_SameValue 0 (cAt (bodyOf Tryz.f12) [true, true, false, true, false, false]) st k = iter (Env.hint (ref2_SameValue_b_E N r_ref2_SameValue) 0) (exec (ref2_SameValue_b_E N r_ref2_SameValue) N (cAt (bodyOf Tryz.f12) [true, true, false, true, false, false]) 0) N st k := fun st k hk => LPc_eq 78 ref2_SameValue_b_L0_fs ref2_SameValue_b_L0_bs _ _ (resD (ref2_SameValue_b_E N r_ref2_SameValue) Tryz.f12 (ref2_SameValue_b_sg fun x _ => ref2_SameValue_b N r_ref2_SameValue x.1 x.2.1) ref2_SameValue_b_pk) (ref2_SameValue_b_L0_ok N r_ref2_SameValue) _ st k hk (rfl)
theorem ref2_SameValue_b_core (N : Nat) (r_ref2_SameValue : GValue → GValue → Option (Bool)) (x : SV [.v (.rc .value), .v (.rc .value)]) (y : BV []) : runL (ref2_SameValue_b_E N r_ref2_SameValue) Tryz.f12 (ref2_SameValue_b_sg fun x _ => ref2_SameValue_b N r_ref2_SameValue x.1 x.2.1) ref2_SameValue_b_pk (ref2_SameValue_b_LP N r_ref2_SameValue) x y = ref2_SameValue_b N r_ref2_SameValue x.1 x.2.1 := by kernel_rfl
theorem ref2_SameValue_b_sound (N : Nat) (r_ref2_SameValue : GValue → GValue → Option (Bool)) (h_ref2_SameValue : Sound Tryz.prog GW B0G 12 (ref2_SameValue_sg fun x y => r_ref2_SameValue x.1 x.2.1)) : Sound Tryz.prog GW B0G 12 (ref2_SameValue_b_sg fun x _ => ref2_SameValue_b N r_ref2_SameValue x.1 x.2.1) :=
  runD_sound (mkE_ok ref2_SameValue_b_h (ref2_SameValue_b_fn N r_ref2_SameValue) _ _ (ref2_SameValue_b_fn_ok N r_ref2_SameValue h_ref2_SameValue)) Tryz.func12 rfl Tryz.call12 (ref2_SameValue_b_sg fun x _ => ref2_SameValue_b N r_ref2_SameValue x.1 x.2.1) ref2_SameValue_b_pk (fun _ _ => rfl) N (fun x y _ h => ((runL_eq (ref2_SameValue_b_E N r_ref2_SameValue) N Tryz.f12 (ref2_SameValue_b_sg fun x _ => ref2_SameValue_b N r_ref2_SameValue x.1 x.2.1) ref2_SameValue_b_pk (ref2_SameValue_b_LP N r_ref2_SameValue) (show LoopsOk (ref2_SameValue_b_LP N r_ref2_SameValue) (ref2_SameValue_b_E N r_ref2_SameValue) N (resD (ref2_SameValue_b_E N r_ref2_SameValue) Tryz.f12 (ref2_SameValue_b_sg fun x _ => ref2_SameValue_b N r_ref2_SameValue x.1 x.2.1) ref2_SameValue_b_pk) [(0, (cAt (bodyOf Tryz.f12) [true, true, false, true, false, false]))] from ⟨ref2_SameValue_b_lp0 N r_ref2_SameValue, trivial⟩) x y).trans (ref2_SameValue_b_core N r_ref2_SameValue x y)).trans h)
def ref2_SameValue (N : Nat) : Nat → GValue → GValue → Option (Bool)
  | 0 => fun _ _ => none
  | d + 1 => ref2_SameValue_b N (ref2_SameValue N d)
theorem ref2_SameValue_sound (N : Nat) : ∀ d, Sound Tryz.prog GW B0G 12 (ref2_SameValue_sg fun x y => ref2_SameValue N d x.1 x.2.1)
  | 0 => Sound.never Tryz.call12 (fun _ _ => rfl)
  | d + 1 => ref2_SameValue_b_sound N (ref2_SameValue N d) (ref2_SameValue_sound N d)
def law2_ScriptAddGoesOn (N : Nat) (x0 : GValue) (x1 : GValue) (x2 : GValue) : Option Bool :=
  bnd (script_Add N (GValue.mk x0.kind x0.text x0.number x0.list x0.cases) (GValue.mk x1.kind x1.text x1.number x1.list x1.cases)) fun t16 =>
  bnd (script_Add N (GValue.mk x1.kind x1.text x1.number x1.list x1.cases) (GValue.mk x2.kind x2.text x2.number x2.list x2.cases)) fun t22 =>
  br (t16.2 != (0 : Int))
    (bnd (law2_awake) fun t31 =>
    some t31)
    (br (t22.2 != (0 : Int))
      (bnd (law2_awake) fun t31_1 =>
      some t31_1)
      (bnd (script_Add N (GValue.mk t16.1.kind t16.1.text t16.1.number t16.1.list t16.1.cases) (GValue.mk x2.kind x2.text x2.number x2.list x2.cases)) fun t35 =>
      bnd (script_Add N (GValue.mk x0.kind x0.text x0.number x0.list x0.cases) (GValue.mk t22.1.kind t22.1.text t22.1.number t22.1.list t22.1.cases)) fun t41 =>
      br (t35.2 != (0 : Int))
        (bnd (law2_awake) fun t56 =>
        some t56)
        (br (t41.2 != (0 : Int))
          (bnd (law2_awake) fun t56_2 =>
          some t56_2)
          (bnd (ref2_SameValue N N (GValue.mk t35.1.kind t35.1.text t35.1.number t35.1.list t35.1.cases) (GValue.mk t41.1.kind t41.1.text t41.1.number t41.1.list t41.1.cases)) fun t53 =>
          br (t53)
            (bnd (law2_awake) fun t56_3 =>
            some t56_3)
            (some false)))))
abbrev law2_ScriptAddGoesOn_sg (f : SV [.v (.rc .value), .v (.rc .value), .v (.rc .value)] → BV [] → Option (Bool)) : AF := { ps := [.v (.rc .value), .v (.rc .value), .v (.rc .value)], bs := [], rs := [.v .bool], cs := [], R := Bool, out := fun z => ((z, ()), ()), f := f }
abbrev law2_ScriptAddGoesOn_pk : SV [.v .bool] → BV [] → Bool := fun x _ => x.1
def law2_ScriptAddGoesOn_fn (N : Nat) : FuncId → Option Tmp → Option AF := fun f _ =>
  match f with
    | 10 => some (script_Add_sg fun x _ => script_Add N x.1 x.2.1)
    | 11 => some (law2_awake_sg fun _ _ => law2_awake)
    | 12 => some (ref2_SameValue_sg fun x _ => ref2_SameValue N N x.1 x.2.1)
    | _ => none
theorem law2_ScriptAddGoesOn_fn_ok (N : Nat) : ∀ f q F, law2_ScriptAddGoesOn_fn N f q = some F → Sound Tryz.prog GW B0G f F := by
  intro f q F h
  unfold law2_ScriptAddGoesOn_fn at h
  split at h
  · cases h; exact script_Add_sound N
  · cases h; exact law2_awake_sound
  · cases h; exact ref2_SameValue_sound N N
  · cases h
def law2_ScriptAddGoesOn_h : Nat → Hint := fun i =>
  match i with
  | _ => ⟨[], [], [], [], [], []⟩
abbrev law2_ScriptAddGoesOn_E (N : Nat) : Env := mkE law2_ScriptAddGoesOn_h (law2_ScriptAddGoesOn_fn N) (fun _ => false) (fun _ => false)
noncomputable def law2_ScriptAddGoesOn_LP (N : Nat) : Nat → Code → St → (Ex → St → Option Bool) → Option Bool := fun i c =>
  match i with
  | i => fun st k => iter (law2_ScriptAddGoesOn_h i) (exec (law2_ScriptAddGoesOn_E N) N c i) N st k
theorem law2_ScriptAddGoesOn_core (N : Nat) (x : SV [.v (.rc .value), .v (.rc .value), .v (.rc .value)]) (y : BV []) : runL (law2_ScriptAddGoesOn_E N) Tryz.f3 (law2_ScriptAddGoesOn_sg fun x _ => law2_ScriptAddGoesOn N x.1 x.2.1 x.2.2.1) law2_ScriptAddGoesOn_pk (law2_ScriptAddGoesOn_LP N) x y = law2_ScriptAddGoesOn N x.1 x.2.1 x.2.2.1 := by kernel_rfl
theorem law2_ScriptAddGoesOn_sound (N : Nat) : Sound Tryz.prog GW B0G 3 (law2_ScriptAddGoesOn_sg fun x _ => law2_ScriptAddGoesOn N x.1 x.2.1 x.2.2.1) :=
  runD_sound (mkE_ok law2_ScriptAddGoesOn_h (law2_ScriptAddGoesOn_fn N) _ _ (law2_ScriptAddGoesOn_fn_ok N)) Tryz.func3 rfl Tryz.call3 (law2_ScriptAddGoesOn_sg fun x _ => law2_ScriptAddGoesOn N x.1 x.2.1 x.2.2.1) law2_ScriptAddGoesOn_pk (fun _ _ => rfl) N (fun x y _ h => ((runL_eq (law2_ScriptAddGoesOn_E N) N Tryz.f3 (law2_ScriptAddGoesOn_sg fun x _ => law2_ScriptAddGoesOn N x.1 x.2.1 x.2.2.1) law2_ScriptAddGoesOn_pk (law2_ScriptAddGoesOn_LP N) (show LoopsOk (law2_ScriptAddGoesOn_LP N) (law2_ScriptAddGoesOn_E N) N (resD (law2_ScriptAddGoesOn_E N) Tryz.f3 (law2_ScriptAddGoesOn_sg fun x _ => law2_ScriptAddGoesOn N x.1 x.2.1 x.2.2.1) law2_ScriptAddGoesOn_pk) [] from trivial) x y).trans (law2_ScriptAddGoesOn_core N x y)).trans h)
end
end Go.Proofs.YtahjncefiegflaaGreatDoor


/- What functions of the program compute, as plain functions (printed). -/
namespace Go.Proofs.YtahjncefiegflaaGreatDoor
open Go Go.RowKit
set_option maxRecDepth 100000
set_option linter.unusedVariables false
noncomputable section
end
end Go.Proofs.YtahjncefiegflaaGreatDoor


/- What functions of the program compute, as plain functions (printed). -/
namespace Go.Proofs.YtahjncefiegflaaGreatDoor
open Go Go.RowKit
set_option maxRecDepth 100000
set_option linter.unusedVariables false
noncomputable section
def slices_Clone_string_string (_N : Nat) (x0 : List Str) : Option (List Str) :=
  br ((x0).isEmpty)
    (both
      (some ([] : List Str))
      (br (decide ((([] : List Str).length + x0.length) * (24 * Ty.sz .str) ≤ 140737488355328))
        (some (([] : List Str) ++ x0))
        none))
    (br (decide ((([] : List Str).length + x0.length) * (24 * Ty.sz .str) ≤ 140737488355328))
      (some (([] : List Str) ++ x0))
      none)
abbrev slices_Clone_string_string_sg (f : SV [.v (.sl .str)] → BV [] → Option (List Str)) : AF := { ps := [.v (.sl .str)], bs := [], rs := [.row 0], cs := [.row 9 .str true], R := List Str, out := fun z => (((), ()), (z, ())), f := f }
abbrev slices_Clone_string_string_pk : SV [.row 0] → BV [.row 9 .str true] → (List Str) := fun _ y => y.1
def slices_Clone_string_string_fn (_N : Nat) : FuncId → Option Tmp → Option AF := fun f _ =>
  match f with
    | _ => none
theorem slices_Clone_string_string_fn_ok (N : Nat) : ∀ f q F, slices_Clone_string_string_fn N f q = some F → Sound Tryz.prog GW B0G f F := by
  intro f q F h
  unfold slices_Clone_string_string_fn at h
  split at h
  · cases h
def slices_Clone_string_string_h : Nat → Hint := fun i =>
  match i with
  | _ => ⟨[], [], [], [], [], []⟩
abbrev slices_Clone_string_string_E (N : Nat) : Env := mkE slices_Clone_string_string_h (slices_Clone_string_string_fn N) (fun i => match i with | 2 => true | 5 => true | _ => false) (fun _ => false)
noncomputable def slices_Clone_string_string_LP (N : Nat) : Nat → Code → St → (Ex → St → Option (List Str)) → Option (List Str) := fun i c =>
  match i with
  | i => fun st k => iter (slices_Clone_string_string_h i) (exec (slices_Clone_string_string_E N) N c i) N st k
theorem slices_Clone_string_string_core (N : Nat) (x : SV [.v (.sl .str)]) (y : BV []) : runL (slices_Clone_string_string_E N) Tryz.f100 (slices_Clone_string_string_sg fun x _ => slices_Clone_string_string N x.1) slices_Clone_string_string_pk (slices_Clone_string_string_LP N) x y = slices_Clone_string_string N x.1 := by kernel_rfl
theorem slices_Clone_string_string_sound (N : Nat) : Sound Tryz.prog GW B0G 100 (slices_Clone_string_string_sg fun x _ => slices_Clone_string_string N x.1) :=
  runD_sound (mkE_ok slices_Clone_string_string_h (slices_Clone_string_string_fn N) _ _ (slices_Clone_string_string_fn_ok N)) Tryz.func100 rfl Tryz.call100 (slices_Clone_string_string_sg fun x _ => slices_Clone_string_string N x.1) slices_Clone_string_string_pk (fun _ _ => rfl) N (fun x y _ h => ((runL_eq (slices_Clone_string_string_E N) N Tryz.f100 (slices_Clone_string_string_sg fun x _ => slices_Clone_string_string N x.1) slices_Clone_string_string_pk (slices_Clone_string_string_LP N) (show LoopsOk (slices_Clone_string_string_LP N) (slices_Clone_string_string_E N) N (resD (slices_Clone_string_string_E N) Tryz.f100 (slices_Clone_string_string_sg fun x _ => slices_Clone_string_string N x.1) slices_Clone_string_string_pk) [] from trivial) x y).trans (slices_Clone_string_string_core N x y)).trans h)
end
end Go.Proofs.YtahjncefiegflaaGreatDoor


/- What functions of the program compute, as plain functions (printed). -/
namespace Go.Proofs.YtahjncefiegflaaGreatDoor
open Go Go.RowKit
set_option maxRecDepth 100000
set_option linter.unusedVariables false
noncomputable section
end
end Go.Proofs.YtahjncefiegflaaGreatDoor


/- The arguments of a law, as the statement's reading hands them over, as data of the machine: any type. -/
namespace Go.Proofs.YtahjncefiegflaaGreatDoor
set_option linter.unusedVariables false
set_option linter.unusedSimpArgs false
open Go Go.RowKit Go.ChangeShapes Go.WideShapes
/-- Nothing is longer than Go lets it be. -/
def FitG (RR : (i : RC) → i.den → Prop) : (t : Ty) → t.den → Prop
  | .u8, _ => True
  | .int k, x => (Lit.int k x).wf = true
  | .bool, _ => True
  | .str, x => x.length ≤ maxLen
  | .sl t, xs => xs.length ≤ maxLen ∧ ∀ x ∈ xs, FitG RR t x
  | .pr a b, x => FitG RR a x.1 ∧ FitG RR b x.2
  | .un, _ => True
  | .mp _, _ => True
  | .ptr _, _ => True
  | .np _, _ => True
  | .clo _ _, _ => True
  | .rc i, x => RR i x
def FitR (i : RC) (x : i.den) : Prop := ∀ RR : (i : RC) → i.den → Prop, (∀ j y, FitG RR j.body (j.un y) → RR j y) → RR i x
def Fit : (t : Ty) → t.den → Prop := FitG FitR
theorem FitG.mono {RR RR' : (i : RC) → i.den → Prop} (hR : ∀ i x, RR i x → RR' i x) : ∀ (t : Ty) (x : t.den), FitG RR t x → FitG RR' t x
  | .u8, _, h => h
  | .int _, _, h => h
  | .bool, _, h => h
  | .str, _, h => h
  | .sl t, _, h => ⟨h.1, fun x hx => FitG.mono hR t x (h.2 x hx)⟩
  | .pr a b, _, h => ⟨FitG.mono hR a _ h.1, FitG.mono hR b _ h.2⟩
  | .un, _, h => h
  | .mp _, _, h => h
  | .ptr _, _, h => h
  | .np _, _, h => h
  | .clo _ _, _, h => h
  | .rc i, x, h => hR i x h
theorem FitR.intro {i : RC} {x : i.den} (h : Fit i.body (i.un x)) : FitR i x :=
  fun RR hc => hc i x (FitG.mono (fun j y hy => hy RR hc) _ _ h)
theorem FitR.elim {i : RC} {x : i.den} (h : FitR i x) : Fit i.body (i.un x) :=
  h (fun j y => Fit j.body (j.un y)) fun _ _ hy => FitG.mono (fun _ _ h => FitR.intro h) _ _ hy
mutual
/-- A type of the program is this one, down to its parts. -/
inductive Deep (P : Program) (R : RC → Option TypeId) : Ty → TypeId → Prop where
  | u8 {T : TypeId} : P.underlying T = some (.int .u8) → Deep P R .u8 T
  | int {T : TypeId} {k : IntKind} : P.underlying T = some (.int k) → Deep P R (.int k) T
  | bool {T : TypeId} : P.underlying T = some .bool → Deep P R .bool T
  | str {T : TypeId} : P.underlying T = some .string → Deep P R .str T
  | sl {T e : TypeId} {t : Ty} : P.underlying T = some (.slice e) → P.cellsOf e = t.sz → Deep P R t e → Deep P R (.sl t) T
  | st {T : TypeId} {t : Ty} {fs : Array Field} : P.underlying T = some (.struct fs) → P.cellsOf T = t.sz → t.isAgg = true → DeepF P R t fs.toList 0 → Deep P R t T
  | rc {T : TypeId} {i : RC} : R i = some T → Deep P R (.rc i) T
/-- The same, of fields from a place on. -/
inductive DeepF (P : Program) (R : RC → Option TypeId) : Ty → List Field → Nat → Prop where
  | nil {o : Nat} : DeepF P R .un [] o
  | one {t : Ty} {f : Field} {o : Nat} : f.offset = o → P.cellsOf f.type = t.sz → Deep P R t f.type → DeepF P R t [f] o
  | single {t : Ty} {f : Field} {o : Nat} : f.offset = o → P.cellsOf f.type = t.sz → Deep P R t f.type → DeepF P R (.pr t .un) [f] o
  | cons {a b : Ty} {f : Field} {fs : List Field} {o : Nat} : f.offset = o → P.cellsOf f.type = a.sz → Deep P R a f.type → DeepF P R b fs (o + a.sz) → DeepF P R (.pr a b) (f :: fs) o
end
def RcOk (P : Program) (R : RC → Option TypeId) : Prop := ∀ i T, R i = some T → ∃ fs, P.underlying T = some (.struct fs) ∧ P.cellsOf T = i.sz ∧ DeepF P R i.body fs.toList 0
abbrev M00 : Nat → Nat → Prop := fun _ _ => False
section
variable {H : Type} {enc : TypeId × Value → H} {P : Program} {w : World} {spare : Nat → Bool} {held : Bool} {R : RC → Option TypeId}
theorem choose_list {α : Type} {p : Nat → α → Prop} : ∀ n, (∀ i, i < n → ∃ x, p i x) → ∃ l : List α, l.length = n ∧ ∀ i (h : i < l.length), p i l[i]
  | 0, _ => ⟨[], rfl, fun i h => absurd h (Nat.not_lt_zero _)⟩
  | n + 1, h => by
    obtain ⟨l, hl, hp⟩ := choose_list n fun i hi => h i (Nat.lt_succ_of_lt hi)
    obtain ⟨x, hx⟩ := h n (Nat.lt_succ_self _)
    refine ⟨l ++ [x], by simp [hl], fun i hi => ?_⟩
    rcases Nat.lt_or_ge i l.length with h' | h'
    · rw [List.getElem_append_left h']; exact hp i h'
    · have : i = l.length := by simp at hi; omega
      subst this
      simp [hl, hx]
theorem pl_of_cells {a : Addr} {n : Nat} {cs : List Value} (h : w.cells? 0 a n = some cs) : Pl M00 w a cs := by
  intro j u hu
  refine ⟨?_, id⟩
  unfold World.cells? at h
  rw [if_pos (Nat.zero_le _)] at h
  have hl := mapM_some_length h
  have hj : j < n := by
    rcases Nat.lt_or_ge j cs.length with h' | h'
    · rw [hl, List.length_range] at h'; exact h'
    · rw [List.getElem?_eq_none h'] at hu; cases hu
  have := mapM_some_get h j j (by rw [List.getElem?_range hj])
  rw [this]; exact hu
/-- What fields read as. -/
theorem fields_rep {fuel : Nat} {cs : List Value}
    (ih : ∀ (t : Ty) (T : TypeId) (cs : List Value) (x : DataW H × List MemPlace), Deep P R t T → DataW.trod enc P w 0 spare held fuel T cs = some x → ∃ d : t.den, RepC M00 w t d cs ∧ Fit t d) :
    ∀ (fs : List Field) (t : Ty) (o : Nat) (xs : List (DataW H × List MemPlace)), DeepF P R t fs o →
      (fs.mapM fun f => DataW.trod enc P w 0 spare held fuel f.type ((cs.drop f.offset).take (P.cellsOf f.type))) = some xs → ∃ d : t.den, RepC M00 w t d ((cs.drop o).take t.sz) ∧ Fit t d := by
  intro fs
  induction fs with
  | nil =>
    intro t o xs hd _
    cases hd
    exact ⟨(), List.take_zero, trivial⟩
  | cons f fs hfs =>
    intro t o xs hd hm
    have hhead : ∃ y, DataW.trod enc P w 0 spare held fuel f.type ((cs.drop f.offset).take (P.cellsOf f.type)) = some y := by
      have := mapM_some_get hm 0 f rfl
      cases hx : xs[0]? with
      | none =>
        have hl := mapM_some_length hm
        rw [List.getElem?_eq_none_iff] at hx
        simp at hl; omega
      | some y => exact ⟨y, this.trans hx⟩
    have htail : ∃ ys, (fs.mapM fun f => DataW.trod enc P w 0 spare held fuel f.type ((cs.drop f.offset).take (P.cellsOf f.type))) = some ys := by
      rw [List.mapM_cons] at hm
      obtain ⟨y, hy⟩ := hhead
      rw [hy] at hm
      cases hys : (fs.mapM fun f => DataW.trod enc P w 0 spare held fuel f.type ((cs.drop f.offset).take (P.cellsOf f.type))) with
      | none => rw [hys] at hm; cases hm
      | some ys => exact ⟨ys, rfl⟩
    obtain ⟨y, hy⟩ := hhead
    obtain ⟨ys, hys⟩ := htail
    cases hd with
    | one ho hc h1 =>
      rw [ho, hc] at hy
      exact ih _ _ _ _ h1 hy
    | single ho hc h1 =>
      rw [ho, hc] at hy
      obtain ⟨d, hd1, hd2⟩ := ih _ _ _ _ h1 hy
      exact ⟨(d, ()), ⟨_, [], (List.append_nil _).symm, hd1, rfl⟩, hd2, trivial⟩
    | @cons a b _ _ _ ho hc h1 h2 =>
      rw [ho, hc] at hy
      obtain ⟨d, hd1, hd2⟩ := ih _ _ _ _ h1 hy
      obtain ⟨e, he1, he2⟩ := hfs _ _ _ h2 hys
      refine ⟨(d, e), ⟨_, _, ?_, hd1, he1⟩, hd2, he2⟩
      show (cs.drop o).take (a.sz + b.sz) = _
      rw [List.take_add, List.drop_drop]
theorem trod_rep (hR : RcOk P R) : ∀ (fuel : Nat) (t : Ty) (T : TypeId) (cs : List Value) (x : DataW H × List MemPlace), Deep P R t T → DataW.trod enc P w 0 spare held fuel T cs = some x →
    ∃ d : t.den, RepC M00 w t d cs ∧ Fit t d := by
  intro fuel
  induction fuel with
  | zero => intro t T cs x _ h; cases h
  | succ fuel ih =>
    intro t T cs x hd h
    have hstruct : ∀ (t : Ty) (fs : Array Field), P.underlying T = some (.struct fs) → P.cellsOf T = t.sz → DeepF P R t fs.toList 0 → ∃ d : t.den, RepC M00 w t d cs ∧ Fit t d := fun t fs hu hc hf => by
      unfold DataW.trod at h
      simp only [hu] at h
      split at h
      · rename_i hl
        cases hm : (fs.toList.mapM fun f => DataW.trod enc P w 0 spare held fuel f.type ((cs.drop f.offset).take (P.cellsOf f.type))) with
        | none => rw [hm] at h; cases h
        | some xs =>
          obtain ⟨d, h1, h2⟩ := fields_rep ih fs.toList t 0 xs hf hm
          rw [List.drop_zero, List.take_of_length_le (by omega)] at h1
          exact ⟨d, h1, h2⟩
      · cases h
    cases hd with
    | u8 hu =>
      have hx : ∃ n, cs = [.int .u8 n] ∧ (Lit.int .u8 n).wf = true := by
        unfold DataW.trod at h
        split at h <;> simp_all
      obtain ⟨n, rfl, hn⟩ := hx
      refine ⟨UInt8.ofNat n.toNat, ?_, trivial⟩
      show [Value.int .u8 n] = [Value.int .u8 (UInt8.ofNat n.toNat).toNat]
      simp [Lit.wf, IntKind.min, IntKind.max, IntKind.signed, IntKind.bits] at hn
      have : ((UInt8.ofNat n.toNat).toNat : Int) = n := by simp; omega
      rw [this]
    | @int _ k hu =>
      have hx : ∃ n, cs = [.int k n] ∧ (Lit.int k n).wf = true := by
        unfold DataW.trod at h
        split at h <;> simp_all
      obtain ⟨n, rfl, hn⟩ := hx
      exact ⟨n, rfl, hn⟩
    | bool hu =>
      have hx : ∃ b, cs = [.bool b] := by
        unfold DataW.trod at h
        split at h <;> simp_all
      obtain ⟨b, rfl⟩ := hx
      exact ⟨b, rfl, trivial⟩
    | str hu =>
      have hx : ∃ s : ByteArray, cs = [.string s] ∧ s.size ≤ maxLen := by
        unfold DataW.trod at h
        split at h <;> simp_all
      obtain ⟨s, rfl, hn⟩ := hx
      refine ⟨s.data.toList, ?_, ?_⟩
      · show [Value.string s] = [Value.string ⟨s.data.toList.toArray⟩]
        simp
      · show s.data.toList.length ≤ maxLen
        simpa using hn
    | @sl _ e t hu hc he =>
      have hx : cs = [.slice none 0 0] ∨ ∃ a len cap, cs = [.slice (some a) len cap] ∧ len ≤ cap ∧ cap ≤ maxLen ∧
          ∀ i, i < len → ∃ y, (w.cells? 0 (a.add (i * P.cellsOf e)) (P.cellsOf e)).bind (DataW.trod enc P w 0 spare held fuel e) = some y := by
        unfold DataW.trod at h
        split at h
        all_goals try (simp_all; done)
        · rename_i hu2
          rw [hu] at hu2
          cases hu2
          simp only at h
          split at h
          · rename_i hb
            right
            refine ⟨_, _, _, rfl, hb.2.1, hb.2.2, fun i hi => ?_⟩
            cases hm : ((List.range _).mapM fun i => (w.cells? 0 (Addr.add _ (i * P.cellsOf e)) (P.cellsOf e)).bind (DataW.trod enc P w 0 spare held fuel e)) with
            | none => rw [hm] at h; cases h
            | some ys =>
              have h1 := mapM_some_get hm i i (by rw [List.getElem?_range hi])
              have hl := mapM_some_length hm
              rw [List.length_range] at hl
              exact ⟨ys[i]'(by omega), h1.trans (List.getElem?_eq_getElem (by omega))⟩
          · cases h
      rcases hx with rfl | ⟨a, len, cap, rfl, h1, h2, h3⟩
      · exact ⟨[], ⟨none, 0, rfl, Nat.le_refl _, Nat.zero_le _, fun i h => absurd h (Nat.not_lt_zero _)⟩, Nat.zero_le _, fun x h => by cases h⟩
      · have hall : ∀ i, i < len → ∃ d : t.den, (∃ es, RepC M00 w t d es ∧ Pl M00 w (a.add (i * t.sz)) es) ∧ Fit t d := fun i hi => by
          obtain ⟨y, hy⟩ := h3 i hi
          rw [hc] at hy
          cases hcs : w.cells? 0 (a.add (i * t.sz)) t.sz with
          | none => rw [hcs] at hy; cases hy
          | some es =>
            rw [hcs] at hy
            obtain ⟨d, hd1, hd2⟩ := ih _ _ _ _ he hy
            exact ⟨d, ⟨es, hd1, pl_of_cells hcs⟩, hd2⟩
        obtain ⟨l, hl, hp⟩ := choose_list len hall
        refine ⟨l, ⟨some a, cap, ?_, by omega, h2, fun i hi => ?_⟩, ?_, fun x hx => ?_⟩
        · rw [hl]
        · obtain ⟨⟨es, e1, e2⟩, _⟩ := hp i hi
          exact ⟨a, es, rfl, e1, e2⟩
        · show l.length ≤ maxLen; omega
        · obtain ⟨i, hi, rfl⟩ := List.getElem_of_mem hx
          exact (hp i hi).2
    | st hu hc ha hf => exact hstruct t _ hu hc hf
    | rc hr =>
      obtain ⟨fs, hu, hc, hf⟩ := hR _ _ hr
      rename_i i
      obtain ⟨d, h1, h2⟩ := hstruct i.body fs hu (by rw [hc, RC.sz_body]) hf
      refine ⟨i.mk d, RepC.rc.2 (by rw [RC.un_mk]; exact h1), FitR.intro (by rw [RC.un_mk]; exact h2)⟩
/-- An argument. -/
theorem arg_open (hR : RcOk P R) {r : Reach} {base : Nat} {t : Ty} {T : TypeId} {v : Value} {d : DataW H} {p : List MemPlace} (hd : Deep P R t T) (hv : Value.okWide P w r base T v) (h : DataW.Trod enc P w 0 spare held T v d p) :
    ∃ x : t.den, RepV M00 w t x v ∧ Fit t x := by
  obtain ⟨fuel, hf⟩ := h
  obtain ⟨x, h1, h2⟩ := trod_rep hR fuel t T _ _ hd hf
  refine ⟨x, ⟨_, h1, ?_⟩, h2⟩
  have hagg : ∀ fs, P.underlying T = some (.struct fs) → t.isAgg = true → v = mkV t v.cells.toList := fun fs hu ha => by
    obtain ⟨cs, rfl, _⟩ := okWide_struct hu hv
    rw [mkV_agg ha]
    simp [Value.cells]
  have hone : ∀ c : Value, v = c → c.cells = #[c] → t.isAgg = false → v = mkV t v.cells.toList := fun c e hc ha => by
    subst e
    rw [hc, mkV_plain ha]
  cases hd with
  | u8 hu => obtain ⟨n, rfl⟩ := okWide_int hu hv; exact hone _ rfl rfl rfl
  | int hu => obtain ⟨n, rfl⟩ := okWide_int hu hv; exact hone _ rfl rfl rfl
  | bool hu => obtain ⟨n, rfl⟩ := okWide_bool hu hv; exact hone _ rfl rfl rfl
  | str hu => obtain ⟨n, rfl⟩ := okWide_string hu hv; exact hone _ rfl rfl rfl
  | sl hu _ _ => obtain ⟨a, l, c, rfl⟩ := okWide_slice hu hv; exact hone _ rfl rfl rfl
  | st hu _ ha _ => exact hagg _ hu ha
  | rc hr => obtain ⟨fs, hu, _⟩ := hR _ _ hr; exact hagg _ hu rfl
end
/-- A law is called. -/
theorem law_run {P : Program} {f : FuncId} {ps : List Sl} {F : SV ps → BV [] → Option Bool} {out : Bool → SV [.v .bool] × BV []} (hout : ∀ z, (out z).1 = (z, ())) (hs : Sound P GW B0G f ⟨ps, [], [.v .bool], [], Bool, out, F⟩)
    {W : World} {vs : List Value} {x : SV ps} (hg : GW W) (ha : All2 (RepD0 M00 W g0) (lays id ps x) vs) (hf : F x () = some true) : Calls P f vs.toArray W fun e W' => e = .returned (.bool true) ∧ Ext W W' := by
  refine (hs.2 M00 W g0 vs x () true hg (GW_size hg) { args := ha, res := fun r blk h => (by cases h), dom := fun r gx h => (by cases h), inj := fun _ _ _ _ _ h => (by cases h), low := fun _ _ _ h => (by cases h), chg := fun _ _ _ _ h => (by cases h), mlt := fun b o h => h.elim, row := fun _ _ _ h => (by cases h) } hf).mono fun e W' hp => ?_
  obtain ⟨vs', g', he, hE, _, hF, _⟩ := hp
  refine ⟨?_, hE.ext fun b hb => ?_⟩
  · have := hF.args
    rw [hout] at this
    match vs', this with
    | [v], ⟨h1, _⟩ =>
      have h2 := RepV.plain (t := .bool) rfl h1
      have h3 : [v] = [.bool true] := h2
      injection h3 with h3
      rw [he, h3]
      rfl
  · obtain ⟨r, x, h, _⟩ := hb
    cases h
end Go.Proofs.YtahjncefiegflaaGreatDoor


/- The arguments of a law, with how much they hold together ('bulk'). -/
namespace Go.Proofs.YtahjncefiegflaaGreatDoor
set_option linter.unusedVariables false
set_option linter.unusedSimpArgs false
open Go Go.RowKit Go.ChangeShapes Go.WideShapes
section
variable {H : Type} {enc : TypeId × Value → H} {P : Program} {w : World} {spare : Nat → Bool} {held : Bool} {R : RC → Option TypeId} {rb : (i : RC) → i.den → Nat}
end
end Go.Proofs.YtahjncefiegflaaGreatDoor

