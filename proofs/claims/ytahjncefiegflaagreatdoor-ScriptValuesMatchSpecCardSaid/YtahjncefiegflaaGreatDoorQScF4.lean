/- What functions of the program compute, as plain functions (printed). -/
import Derived.Test.YtahjncefiegflaaGreatDoorQScF3
namespace Go.Proofs.YtahjncefiegflaaGreatDoor
open Go Go.RowKit
set_option maxRecDepth 100000
set_option linter.unusedVariables false
noncomputable section
def script_add_L0T (N : Nat) (c37 : List (Str × GValue)) (c38 : Int) (c1003_0 : Int) (c1003_1 : Str) (c1003_2 : Int) (c1003_3 : List Str) (c1003_4 : List (Str × GValue)) (k1 : (List (Str × GValue)) → Option (GValue × Int)) (self : Int → (List (Str × GValue)) → Option (GValue × Int)) (s39 : Int) (w900001 : List (Str × GValue)) : Option (GValue × Int) :=
  br (decide (s39 < c38))
    (bnd (geti c37 s39) fun t41 =>
    bnd (script_plainSum N (GValue.mk t41.2.kind t41.2.text t41.2.number t41.2.list t41.2.cases) (GValue.mk c1003_0 c1003_1 c1003_2 c1003_3 c1003_4)) fun t50 =>
    br (decide ((w900001.length + [(t41.1, GValue.mk t50.kind t50.text t50.number t50.list t50.cases)].length) * (24 * Ty.sz (.pr .str (.rc .value))) ≤ 140737488355328))
      (self (IntKind.i64.wrap (s39 + (1 : Int))) (w900001 ++ [(t41.1, GValue.mk t50.kind t50.text t50.number t50.list t50.cases)]))
      none)
    (k1 w900001)
def script_add_L0 (N : Nat) (c37 : List (Str × GValue)) (c38 : Int) (c1003_0 : Int) (c1003_1 : Str) (c1003_2 : Int) (c1003_3 : List Str) (c1003_4 : List (Str × GValue)) (k1 : (List (Str × GValue)) → Option (GValue × Int)) : Nat → Int → (List (Str × GValue)) → Option (GValue × Int)
  | 0, _, _ => none
  | n + 1, s39, w900001 => script_add_L0T N c37 c38 c1003_0 c1003_1 c1003_2 c1003_3 c1003_4 k1 (script_add_L0 N c37 c38 c1003_0 c1003_1 c1003_2 c1003_3 c1003_4 k1 n) s39 w900001
def script_add_L1T (N : Nat) (c61 : List (Str × GValue)) (c62 : Int) (c1002_0 : Int) (c1002_1 : Str) (c1002_2 : Int) (c1002_3 : List Str) (c1002_4 : List (Str × GValue)) (k3 : (List (Str × GValue)) → Option (GValue × Int)) (self : Int → (List (Str × GValue)) → Option (GValue × Int)) (s63 : Int) (w900002 : List (Str × GValue)) : Option (GValue × Int) :=
  br (decide (s63 < c62))
    (bnd (geti c61 s63) fun t65 =>
    bnd (script_plainSum N (GValue.mk c1002_0 c1002_1 c1002_2 c1002_3 c1002_4) (GValue.mk t65.2.kind t65.2.text t65.2.number t65.2.list t65.2.cases)) fun t74 =>
    br (decide ((w900002.length + [(t65.1, GValue.mk t74.kind t74.text t74.number t74.list t74.cases)].length) * (24 * Ty.sz (.pr .str (.rc .value))) ≤ 140737488355328))
      (self (IntKind.i64.wrap (s63 + (1 : Int))) (w900002 ++ [(t65.1, GValue.mk t74.kind t74.text t74.number t74.list t74.cases)]))
      none)
    (k3 w900002)
def script_add_L1 (N : Nat) (c61 : List (Str × GValue)) (c62 : Int) (c1002_0 : Int) (c1002_1 : Str) (c1002_2 : Int) (c1002_3 : List Str) (c1002_4 : List (Str × GValue)) (k3 : (List (Str × GValue)) → Option (GValue × Int)) : Nat → Int → (List (Str × GValue)) → Option (GValue × Int)
  | 0, _, _ => none
  | n + 1, s63, w900002 => script_add_L1T N c61 c62 c1002_0 c1002_1 c1002_2 c1002_3 c1002_4 k3 (script_add_L1 N c61 c62 c1002_0 c1002_1 c1002_2 c1002_3 c1002_4 k3 n) s63 w900002
def script_add (N : Nat) (x0 : GValue) (x1 : GValue) : Option (GValue × Int) :=
  bnd (script_kindOf N (GValue.mk x0.kind x0.text x0.number x0.list x0.cases)) fun t13 =>
  bnd (script_kindOf N (GValue.mk x1.kind x1.text x1.number x1.list x1.cases)) fun t15 =>
  br (t13 != t15)
    (some (GValue.mk (0 : Int) ([] : Str) (0 : Int) ([] : List Str) ([] : List (Str × GValue)), (6 : Int)))
    (br (x0.kind == (4 : Int))
      (br (x1.kind == (4 : Int))
        (some (GValue.mk (0 : Int) ([] : Str) (0 : Int) ([] : List Str) ([] : List (Str × GValue)), (6 : Int)))
        (br (x0.kind == (4 : Int))
          (script_add_L0 N x0.cases (x0.cases.length : Int) x1.kind x1.text x1.number x1.list x1.cases (fun o0_w900001 =>
              bnd (script_CheckValue N (script_checkCases N N) (GValue.mk (4 : Int) ([] : Str) (0 : Int) ([] : List Str) o0_w900001)) fun t81 =>
              br (t81 != (0 : Int))
                (some (GValue.mk (0 : Int) ([] : Str) (0 : Int) ([] : List Str) ([] : List (Str × GValue)), t81))
                (some (GValue.mk (4 : Int) ([] : Str) (0 : Int) ([] : List Str) o0_w900001, (0 : Int)))) N (0 : Int) ([] : List (Str × GValue)))
          (br (x1.kind == (4 : Int))
            (script_add_L1 N x1.cases (x1.cases.length : Int) x0.kind x0.text x0.number x0.list x0.cases (fun o1_w900002 =>
                bnd (script_CheckValue N (script_checkCases N N) (GValue.mk (4 : Int) ([] : Str) (0 : Int) ([] : List Str) o1_w900002)) fun t81_7 =>
                br (t81_7 != (0 : Int))
                  (some (GValue.mk (0 : Int) ([] : Str) (0 : Int) ([] : List Str) ([] : List (Str × GValue)), t81_7))
                  (some (GValue.mk (4 : Int) ([] : Str) (0 : Int) ([] : List Str) o1_w900002, (0 : Int)))) N (0 : Int) ([] : List (Str × GValue)))
            (bnd (script_plainSum N (GValue.mk x0.kind x0.text x0.number x0.list x0.cases) (GValue.mk x1.kind x1.text x1.number x1.list x1.cases)) fun t31 =>
            bnd (script_CheckValue N (script_checkCases N N) (GValue.mk t31.kind t31.text t31.number t31.list t31.cases)) fun t81_8 =>
            br (t81_8 != (0 : Int))
              (some (GValue.mk (0 : Int) ([] : Str) (0 : Int) ([] : List Str) ([] : List (Str × GValue)), t81_8))
              (some (GValue.mk t31.kind t31.text t31.number t31.list t31.cases, (0 : Int)))))))
      (br (x0.kind == (4 : Int))
        (script_add_L0 N x0.cases (x0.cases.length : Int) x1.kind x1.text x1.number x1.list x1.cases (fun o0_w900001 =>
            bnd (script_CheckValue N (script_checkCases N N) (GValue.mk (4 : Int) ([] : Str) (0 : Int) ([] : List Str) o0_w900001)) fun t81_9 =>
            br (t81_9 != (0 : Int))
              (some (GValue.mk (0 : Int) ([] : Str) (0 : Int) ([] : List Str) ([] : List (Str × GValue)), t81_9))
              (some (GValue.mk (4 : Int) ([] : Str) (0 : Int) ([] : List Str) o0_w900001, (0 : Int)))) N (0 : Int) ([] : List (Str × GValue)))
        (br (x1.kind == (4 : Int))
          (script_add_L1 N x1.cases (x1.cases.length : Int) x0.kind x0.text x0.number x0.list x0.cases (fun o1_w900002 =>
              bnd (script_CheckValue N (script_checkCases N N) (GValue.mk (4 : Int) ([] : Str) (0 : Int) ([] : List Str) o1_w900002)) fun t81_10 =>
              br (t81_10 != (0 : Int))
                (some (GValue.mk (0 : Int) ([] : Str) (0 : Int) ([] : List Str) ([] : List (Str × GValue)), t81_10))
                (some (GValue.mk (4 : Int) ([] : Str) (0 : Int) ([] : List Str) o1_w900002, (0 : Int)))) N (0 : Int) ([] : List (Str × GValue)))
          (bnd (script_plainSum N (GValue.mk x0.kind x0.text x0.number x0.list x0.cases) (GValue.mk x1.kind x1.text x1.number x1.list x1.cases)) fun t31_11 =>
          bnd (script_CheckValue N (script_checkCases N N) (GValue.mk t31_11.kind t31_11.text t31_11.number t31_11.list t31_11.cases)) fun t81_12 =>
          br (t81_12 != (0 : Int))
            (some (GValue.mk (0 : Int) ([] : Str) (0 : Int) ([] : List Str) ([] : List (Str × GValue)), t81_12))
            (some (GValue.mk t31_11.kind t31_11.text t31_11.number t31_11.list t31_11.cases, (0 : Int)))))))
abbrev script_add_sg (f : SV [.v (.rc .value), .v (.rc .value)] → BV [] → Option (GValue × Int)) : AF := { ps := [.v (.rc .value), .v (.rc .value)], bs := [], rs := [.v (.rc .value), .v (.int .i64)], cs := [], R := GValue × Int, out := fun z => ((z.1, z.2, ()), ()), f := f }
abbrev script_add_pk : SV [.v (.rc .value), .v (.int .i64)] → BV [] → (GValue × Int) := fun x _ => (x.1, x.2.1)
def script_add_fn (N : Nat) : FuncId → Option Tmp → Option AF := fun f _ =>
  match f with
    | 14 => some (script_CheckValue_sg fun x _ => script_CheckValue N (script_checkCases N N) x.1)
    | 78 => some (script_kindOf_sg fun x _ => script_kindOf N x.1)
    | 79 => some (script_plainSum_sg fun x _ => script_plainSum N x.1 x.2.1)
    | _ => none
theorem script_add_fn_ok (N : Nat) : ∀ f q F, script_add_fn N f q = some F → Sound Tryz.prog GW B0G f F := by
  intro f q F h
  unfold script_add_fn at h
  split at h
  · cases h; exact script_CheckValue_sound N (script_checkCases N N) (script_checkCases_sound N N)
  · cases h; exact script_kindOf_sound N
  · cases h; exact script_plainSum_sound N
  · cases h
def script_add_h : Nat → Hint := fun i =>
  match i with
  | 1 => ⟨[], [3, 4, 6, 37, 38, 39], [1003, 1004, 1006, 900001], [4, 6], [1004, 1006, 900001], [(1006, 4, 900001, 75, (.pr .str (.rc .value)))]⟩
  | 3 => ⟨[], [2, 4, 6, 61, 62, 63], [1002, 1004, 1006, 900002], [4, 6], [1004, 1006, 900002], [(1006, 4, 900002, 75, (.pr .str (.rc .value)))]⟩
  | 100009 => ⟨[1003, 1006, 1008, 900001], [], [], [], [], []⟩
  | 100015 => ⟨[1002, 1006, 1010, 900002], [], [], [], [], []⟩
  | _ => ⟨[], [], [], [], [], []⟩
abbrev script_add_E (N : Nat) : Env := mkE script_add_h (script_add_fn N) (fun _ => false) (fun _ => false)
abbrev script_add_L0_fs : List (Nat × Sl) := [(3, .box 1003 0), (4, .box 1004 0), (6, .box 1006 0), (37, .v (.sl (.pr .str (.rc .value)))), (38, .v (.int .i64)), (39, .v (.int .i64))]
abbrev script_add_L0_bs : List (Nat × Sb) := [(1003, .cells [.v (.int .i64), .v .str, .v (.int .i64), .v (.sl .str), .v (.sl (.pr .str (.rc .value)))]), (1004, .cells [.v (.int .i64), .v .str, .v (.int .i64), .nilS, .nilS]), (1006, .cells [.v (.int .i64), .v .str, .v (.int .i64), .nilS, .row 900001]), (900001, .row 75 (.pr .str (.rc .value)) false)]
def script_add_L0_hd (c37 : List (Str × GValue)) (c38 : Int) (c1003_0 : Int) (c1003_1 : Str) (c1003_2 : Int) (c1003_3 : List Str) (c1003_4 : List (Str × GValue)) (c1004_0 : Int) (c1004_1 : Str) (c1004_2 : Int) (c1006_0 : Int) (c1006_1 : Str) (c1006_2 : Int) (s39 : Int) (w900001 : List (Str × GValue)) : St := ⟨87, [(3, .box 1003 0), (4, .box 1004 0), (6, .box 1006 0), (37, .v (.sl (.pr .str (.rc .value))) c37), (38, .v (.int .i64) c38), (39, .v (.int .i64) s39)], [(1003, .cells [.v (.int .i64) c1003_0, .v .str c1003_1, .v (.int .i64) c1003_2, .v (.sl .str) c1003_3, .v (.sl (.pr .str (.rc .value))) c1003_4]), (1004, .cells [.v (.int .i64) c1004_0, .v .str c1004_1, .v (.int .i64) c1004_2, .nilS, .nilS]), (1006, .cells [.v (.int .i64) c1006_0, .v .str c1006_1, .v (.int .i64) c1006_2, .nilS, .row 900001]), (900001, .row 75 (.pr .str (.rc .value)) false w900001)]⟩
def script_add_L0_tl1 (_c37 : List (Str × GValue)) (_c38 : Int) (_c1003_0 : Int) (_c1003_1 : Str) (_c1003_2 : Int) (_c1003_3 : List Str) (_c1003_4 : List (Str × GValue)) (c1004_0 : Int) (c1004_1 : Str) (c1004_2 : Int) (c1006_0 : Int) (c1006_1 : Str) (c1006_2 : Int) (o0_w900001 : List (Str × GValue)) : St := ⟨87, [(4, .box 1004 0), (6, .box 1006 0)], [(1004, .cells [.v (.int .i64) c1004_0, .v .str c1004_1, .v (.int .i64) c1004_2, .nilS, .nilS]), (1006, .cells [.v (.int .i64) c1006_0, .v .str c1006_1, .v (.int .i64) c1006_2, .nilS, .row 900001]), (900001, .row 75 (.pr .str (.rc .value)) false o0_w900001)]⟩
def script_add_L0_G (N : Nat) (c37 : List (Str × GValue)) (c38 : Int) (c1003_0 : Int) (c1003_1 : Str) (c1003_2 : Int) (c1003_3 : List Str) (c1003_4 : List (Str × GValue)) (c1004_0 : Int) (c1004_1 : Str) (c1004_2 : Int) (c1006_0 : Int) (c1006_1 : Str) (c1006_2 : Int) (s39 : Int) (w900001 : List (Str × GValue)) (k : Ex → St → Option (GValue × Int)) : Option (GValue × Int) :=
  script_add_L0 N c37 c38 c1003_0 c1003_1 c1003_2 c1003_3 c1003_4 (fun o0_w900001 => k (.exit 1) (script_add_L0_tl1 c37 c38 c1003_0 c1003_1 c1003_2 c1003_3 c1003_4 c1004_0 c1004_1 c1004_2 c1006_0 c1006_1 c1006_2 o0_w900001)) N s39 w900001
abbrev script_add_L0_F (N : Nat) : FV script_add_L0_fs → HV script_add_L0_bs → (Ex → St → Option (GValue × Int)) → Option (GValue × Int) := fun x y k => script_add_L0_G N x.2.2.2.1 x.2.2.2.2.1 y.1.1 y.1.2.1 y.1.2.2.1 y.1.2.2.2.1 y.1.2.2.2.2.1 y.2.1.1 y.2.1.2.1 y.2.1.2.2.1 y.2.2.1.1 y.2.2.1.2.1 y.2.2.1.2.2.1 x.2.2.2.2.2.1 y.2.2.2.1 k
abbrev script_add_L1_fs : List (Nat × Sl) := [(2, .box 1002 0), (4, .box 1004 0), (6, .box 1006 0), (61, .v (.sl (.pr .str (.rc .value)))), (62, .v (.int .i64)), (63, .v (.int .i64))]
abbrev script_add_L1_bs : List (Nat × Sb) := [(1002, .cells [.v (.int .i64), .v .str, .v (.int .i64), .v (.sl .str), .v (.sl (.pr .str (.rc .value)))]), (1004, .cells [.v (.int .i64), .v .str, .v (.int .i64), .nilS, .nilS]), (1006, .cells [.v (.int .i64), .v .str, .v (.int .i64), .nilS, .row 900002]), (900002, .row 75 (.pr .str (.rc .value)) false)]
def script_add_L1_hd (c61 : List (Str × GValue)) (c62 : Int) (c1002_0 : Int) (c1002_1 : Str) (c1002_2 : Int) (c1002_3 : List Str) (c1002_4 : List (Str × GValue)) (c1004_0_1 : Int) (c1004_1_2 : Str) (c1004_2_3 : Int) (c1006_0_4 : Int) (c1006_1_5 : Str) (c1006_2_6 : Int) (s63 : Int) (w900002 : List (Str × GValue)) : St := ⟨87, [(2, .box 1002 0), (4, .box 1004 0), (6, .box 1006 0), (61, .v (.sl (.pr .str (.rc .value))) c61), (62, .v (.int .i64) c62), (63, .v (.int .i64) s63)], [(1002, .cells [.v (.int .i64) c1002_0, .v .str c1002_1, .v (.int .i64) c1002_2, .v (.sl .str) c1002_3, .v (.sl (.pr .str (.rc .value))) c1002_4]), (1004, .cells [.v (.int .i64) c1004_0_1, .v .str c1004_1_2, .v (.int .i64) c1004_2_3, .nilS, .nilS]), (1006, .cells [.v (.int .i64) c1006_0_4, .v .str c1006_1_5, .v (.int .i64) c1006_2_6, .nilS, .row 900002]), (900002, .row 75 (.pr .str (.rc .value)) false w900002)]⟩
def script_add_L1_tl3 (_c61 : List (Str × GValue)) (_c62 : Int) (_c1002_0 : Int) (_c1002_1 : Str) (_c1002_2 : Int) (_c1002_3 : List Str) (_c1002_4 : List (Str × GValue)) (c1004_0_1 : Int) (c1004_1_2 : Str) (c1004_2_3 : Int) (c1006_0_4 : Int) (c1006_1_5 : Str) (c1006_2_6 : Int) (o1_w900002 : List (Str × GValue)) : St := ⟨87, [(4, .box 1004 0), (6, .box 1006 0)], [(1004, .cells [.v (.int .i64) c1004_0_1, .v .str c1004_1_2, .v (.int .i64) c1004_2_3, .nilS, .nilS]), (1006, .cells [.v (.int .i64) c1006_0_4, .v .str c1006_1_5, .v (.int .i64) c1006_2_6, .nilS, .row 900002]), (900002, .row 75 (.pr .str (.rc .value)) false o1_w900002)]⟩
def script_add_L1_G (N : Nat) (c61 : List (Str × GValue)) (c62 : Int) (c1002_0 : Int) (c1002_1 : Str) (c1002_2 : Int) (c1002_3 : List Str) (c1002_4 : List (Str × GValue)) (c1004_0_1 : Int) (c1004_1_2 : Str) (c1004_2_3 : Int) (c1006_0_4 : Int) (c1006_1_5 : Str) (c1006_2_6 : Int) (s63 : Int) (w900002 : List (Str × GValue)) (k : Ex → St → Option (GValue × Int)) : Option (GValue × Int) :=
  script_add_L1 N c61 c62 c1002_0 c1002_1 c1002_2 c1002_3 c1002_4 (fun o1_w900002 => k (.exit 3) (script_add_L1_tl3 c61 c62 c1002_0 c1002_1 c1002_2 c1002_3 c1002_4 c1004_0_1 c1004_1_2 c1004_2_3 c1006_0_4 c1006_1_5 c1006_2_6 o1_w900002)) N s63 w900002
abbrev script_add_L1_F (N : Nat) : FV script_add_L1_fs → HV script_add_L1_bs → (Ex → St → Option (GValue × Int)) → Option (GValue × Int) := fun x y k => script_add_L1_G N x.2.2.2.1 x.2.2.2.2.1 y.1.1 y.1.2.1 y.1.2.2.1 y.1.2.2.2.1 y.1.2.2.2.2.1 y.2.1.1 y.2.1.2.1 y.2.1.2.2.1 y.2.2.1.1 y.2.2.1.2.1 y.2.2.1.2.2.1 x.2.2.2.2.2.1 y.2.2.2.1 k
noncomputable def script_add_LP (N : Nat) : Nat → Code → St → (Ex → St → Option (GValue × Int)) → Option (GValue × Int) := fun i c =>
  match i with
  | 1 => (LPc 87 script_add_L0_fs script_add_L0_bs (script_add_L0_F N) (fun st k => iter (script_add_h 1) (exec (script_add_E N) N c 1) N st k))
  | 3 => (LPc 87 script_add_L1_fs script_add_L1_bs (script_add_L1_F N) (fun st k => iter (script_add_h 3) (exec (script_add_E N) N c 3) N st k))
  | i => fun st k => iter (script_add_h i) (exec (script_add_E N) N c i) N st k
theorem script_add_L1_step (N : Nat) (c61 : List (Str × GValue)) (c62 : Int) (c1002_0 : Int) (c1002_1 : Str) (c1002_2 : Int) (c1002_3 : List Str) (c1002_4 : List (Str × GValue)) (c1004_0_1 : Int) (c1004_1_2 : Str) (c1004_2_3 : Int) (c1006_0_4 : Int) (c1006_1_5 : Str) (c1006_2_6 : Int) (KX : Nat → St → Option (GValue × Int)) (I : St → Option (GValue × Int)) (s63 : Int) (w900002 : List (Str × GValue)) :
    execL (script_add_LP N) (script_add_E N) (cAt (bodyOf Tryz.f35) [true, true, true, false, false, true, true, true, false, true, false, false]) 3 (script_add_L1_hd c61 c62 c1002_0 c1002_1 c1002_2 c1002_3 c1002_4 c1004_0_1 c1004_1_2 c1004_2_3 c1006_0_4 c1006_1_5 c1006_2_6 s63 w900002) (roundK (script_add_h 3) I KX (resD (script_add_E N) Tryz.f35 (script_add_sg fun x _ => script_add N x.1 x.2.1) script_add_pk)) = script_add_L1T N c61 c62 c1002_0 c1002_1 c1002_2 c1002_3 c1002_4 (fun o1_w900002 => KX 3 (script_add_L1_tl3 c61 c62 c1002_0 c1002_1 c1002_2 c1002_3 c1002_4 c1004_0_1 c1004_1_2 c1004_2_3 c1006_0_4 c1006_1_5 c1006_2_6 o1_w900002)) (fun s63 w900002 => I (script_add_L1_hd c61 c62 c1002_0 c1002_1 c1002_2 c1002_3 c1002_4 c1004_0_1 c1004_1_2 c1004_2_3 c1006_0_4 c1006_1_5 c1006_2_6 s63 w900002)) s63 w900002 := by kernel_rfl
theorem script_add_L1_ok (N : Nat) : ∀ x y k, (∀ st, k .ret st = (resD (script_add_E N) Tryz.f35 (script_add_sg fun x _ => script_add N x.1 x.2.1) script_add_pk) st) → iter (script_add_h 3) (exec (script_add_E N) N (cAt (bodyOf Tryz.f35) [true, true, true, false, false, true, true, true, false, true, false, false]) 3) N ⟨87, unF script_add_L1_fs x, unH script_add_L1_bs y⟩ k = script_add_L1_F N x y k := fun x y k hk =>
  iter_link (S := (Int) × (List (Str × GValue)) × Unit) (script_add_h 3) _ (execL (script_add_LP N) (script_add_E N) (cAt (bodyOf Tryz.f35) [true, true, true, false, false, true, true, true, false, true, false, false]) 3) (resD (script_add_E N) Tryz.f35 (script_add_sg fun x _ => script_add N x.1 x.2.1) script_add_pk) (fun st k hk => execL_eq _ _ N _ (cAt (bodyOf Tryz.f35) [true, true, true, false, false, true, true, true, false, true, false, false]) 3 (show LoopsOk (script_add_LP N) (script_add_E N) N (resD (script_add_E N) Tryz.f35 (script_add_sg fun x _ => script_add N x.1 x.2.1) script_add_pk) [] from trivial) st k hk) (fun s => script_add_L1_hd x.2.2.2.1 x.2.2.2.2.1 y.1.1 y.1.2.1 y.1.2.2.1 y.1.2.2.2.1 y.1.2.2.2.2.1 y.2.1.1 y.2.1.2.1 y.2.1.2.2.1 y.2.2.1.1 y.2.2.1.2.1 y.2.2.1.2.2.1 s.1 s.2.1) k hk
    (fun self s => script_add_L1T N x.2.2.2.1 x.2.2.2.2.1 y.1.1 y.1.2.1 y.1.2.2.1 y.1.2.2.2.1 y.1.2.2.2.2.1 (fun o1_w900002 => k (.exit 3) (script_add_L1_tl3 x.2.2.2.1 x.2.2.2.2.1 y.1.1 y.1.2.1 y.1.2.2.1 y.1.2.2.2.1 y.1.2.2.2.2.1 y.2.1.1 y.2.1.2.1 y.2.1.2.2.1 y.2.2.1.1 y.2.2.1.2.1 y.2.2.1.2.2.1 o1_w900002)) (fun s63 w900002 => self (s63, w900002, ())) s.1 s.2.1) (fun n s => script_add_L1 N x.2.2.2.1 x.2.2.2.2.1 y.1.1 y.1.2.1 y.1.2.2.1 y.1.2.2.2.1 y.1.2.2.2.2.1 (fun o1_w900002 => k (.exit 3) (script_add_L1_tl3 x.2.2.2.1 x.2.2.2.2.1 y.1.1 y.1.2.1 y.1.2.2.1 y.1.2.2.2.1 y.1.2.2.2.2.1 y.2.1.1 y.2.1.2.1 y.2.1.2.2.1 y.2.2.1.1 y.2.2.1.2.1 y.2.2.1.2.2.1 o1_w900002)) n s.1 s.2.1) (fun _ => rfl) (fun _ _ => rfl)
    (fun I s => script_add_L1_step N x.2.2.2.1 x.2.2.2.2.1 y.1.1 y.1.2.1 y.1.2.2.1 y.1.2.2.2.1 y.1.2.2.2.2.1 y.2.1.1 y.2.1.2.1 y.2.1.2.2.1 y.2.2.1.1 y.2.2.1.2.1 y.2.2.1.2.2.1 (fun j => k (.exit j)) I s.1 s.2.1) N (x.2.2.2.2.2.1, y.2.2.2.1, ())
theorem script_add_lp3 (N : Nat) : ∀ st k, (∀ st, k .ret st = (resD (script_add_E N) Tryz.f35 (script_add_sg fun x _ => script_add N x.1 x.2.1) script_add_pk) st) → script_add_LP N 3 (cAt (bodyOf Tryz.f35) [true, true, true, false, false, true, true, true, false, true, false, false]) st k = iter (Env.hint (script_add_E N) 3) (exec (script_add_E N) N (cAt (bodyOf Tryz.f35) [true, true, true, false, false, true, true, true, false, true, false, false]) 3) N st k := fun st k hk => LPc_eq 87 script_add_L1_fs script_add_L1_bs _ _ (resD (script_add_E N) Tryz.f35 (script_add_sg fun x _ => script_add N x.1 x.2.1) script_add_pk) (script_add_L1_ok N) _ st k hk (rfl)
theorem script_add_L0_step (N : Nat) (c37 : List (Str × GValue)) (c38 : Int) (c1003_0 : Int) (c1003_1 : Str) (c1003_2 : Int) (c1003_3 : List Str) (c1003_4 : List (Str × GValue)) (c1004_0 : Int) (c1004_1 : Str) (c1004_2 : Int) (c1006_0 : Int) (c1006_1 : Str) (c1006_2 : Int) (KX : Nat → St → Option (GValue × Int)) (I : St → Option (GValue × Int)) (s39 : Int) (w900001 : List (Str × GValue)) :
    execL (script_add_LP N) (script_add_E N) (cAt (bodyOf Tryz.f35) [true, true, true, false, false, true, false, true, false, false]) 1 (script_add_L0_hd c37 c38 c1003_0 c1003_1 c1003_2 c1003_3 c1003_4 c1004_0 c1004_1 c1004_2 c1006_0 c1006_1 c1006_2 s39 w900001) (roundK (script_add_h 1) I KX (resD (script_add_E N) Tryz.f35 (script_add_sg fun x _ => script_add N x.1 x.2.1) script_add_pk)) = script_add_L0T N c37 c38 c1003_0 c1003_1 c1003_2 c1003_3 c1003_4 (fun o0_w900001 => KX 1 (script_add_L0_tl1 c37 c38 c1003_0 c1003_1 c1003_2 c1003_3 c1003_4 c1004_0 c1004_1 c1004_2 c1006_0 c1006_1 c1006_2 o0_w900001)) (fun s39 w900001 => I (script_add_L0_hd c37 c38 c1003_0 c1003_1 c1003_2 c1003_3 c1003_4 c1004_0 c1004_1 c1004_2 c1006_0 c1006_1 c1006_2 s39 w900001)) s39 w900001 := by kernel_rfl
theorem script_add_L0_ok (N : Nat) : ∀ x y k, (∀ st, k .ret st = (resD (script_add_E N) Tryz.f35 (script_add_sg fun x _ => script_add N x.1 x.2.1) script_add_pk) st) → iter (script_add_h 1) (exec (script_add_E N) N (cAt (bodyOf Tryz.f35) [true, true, true, false, false, true, false, true, false, false]) 1) N ⟨87, unF script_add_L0_fs x, unH script_add_L0_bs y⟩ k = script_add_L0_F N x y k := fun x y k hk =>
  iter_link (S := (Int) × (List (Str × GValue)) × Unit) (script_add_h 1) _ (execL (script_add_LP N) (script_add_E N) (cAt (bodyOf Tryz.f35) [true, true, true, false, false, true, false, true, false, false]) 1) (resD (script_add_E N) Tryz.f35 (script_add_sg fun x _ => script_add N x.1 x.2.1) script_add_pk) (fun st k hk => execL_eq _ _ N _ (cAt (bodyOf Tryz.f35) [true, true, true, false, false, true, false, true, false, false]) 1 (show LoopsOk (script_add_LP N) (script_add_E N) N (resD (script_add_E N) Tryz.f35 (script_add_sg fun x _ => script_add N x.1 x.2.1) script_add_pk) [] from trivial) st k hk) (fun s => script_add_L0_hd x.2.2.2.1 x.2.2.2.2.1 y.1.1 y.1.2.1 y.1.2.2.1 y.1.2.2.2.1 y.1.2.2.2.2.1 y.2.1.1 y.2.1.2.1 y.2.1.2.2.1 y.2.2.1.1 y.2.2.1.2.1 y.2.2.1.2.2.1 s.1 s.2.1) k hk
    (fun self s => script_add_L0T N x.2.2.2.1 x.2.2.2.2.1 y.1.1 y.1.2.1 y.1.2.2.1 y.1.2.2.2.1 y.1.2.2.2.2.1 (fun o0_w900001 => k (.exit 1) (script_add_L0_tl1 x.2.2.2.1 x.2.2.2.2.1 y.1.1 y.1.2.1 y.1.2.2.1 y.1.2.2.2.1 y.1.2.2.2.2.1 y.2.1.1 y.2.1.2.1 y.2.1.2.2.1 y.2.2.1.1 y.2.2.1.2.1 y.2.2.1.2.2.1 o0_w900001)) (fun s39 w900001 => self (s39, w900001, ())) s.1 s.2.1) (fun n s => script_add_L0 N x.2.2.2.1 x.2.2.2.2.1 y.1.1 y.1.2.1 y.1.2.2.1 y.1.2.2.2.1 y.1.2.2.2.2.1 (fun o0_w900001 => k (.exit 1) (script_add_L0_tl1 x.2.2.2.1 x.2.2.2.2.1 y.1.1 y.1.2.1 y.1.2.2.1 y.1.2.2.2.1 y.1.2.2.2.2.1 y.2.1.1 y.2.1.2.1 y.2.1.2.2.1 y.2.2.1.1 y.2.2.1.2.1 y.2.2.1.2.2.1 o0_w900001)) n s.1 s.2.1) (fun _ => rfl) (fun _ _ => rfl)
    (fun I s => script_add_L0_step N x.2.2.2.1 x.2.2.2.2.1 y.1.1 y.1.2.1 y.1.2.2.1 y.1.2.2.2.1 y.1.2.2.2.2.1 y.2.1.1 y.2.1.2.1 y.2.1.2.2.1 y.2.2.1.1 y.2.2.1.2.1 y.2.2.1.2.2.1 (fun j => k (.exit j)) I s.1 s.2.1) N (x.2.2.2.2.2.1, y.2.2.2.1, ())
theorem script_add_lp1 (N : Nat) : ∀ st k, (∀ st, k .ret st = (resD (script_add_E N) Tryz.f35 (script_add_sg fun x _ => script_add N x.1 x.2.1) script_add_pk) st) → script_add_LP N 1 (cAt (bodyOf Tryz.f35) [true, true, true, false, false, true, false, true, false, false]) st k = iter (Env.hint (script_add_E N) 1) (exec (script_add_E N) N (cAt (bodyOf Tryz.f35) [true, true, true, false, false, true, false, true, false, false]) 1) N st k := fun st k hk => LPc_eq 87 script_add_L0_fs script_add_L0_bs _ _ (resD (script_add_E N) Tryz.f35 (script_add_sg fun x _ => script_add N x.1 x.2.1) script_add_pk) (script_add_L0_ok N) _ st k hk (rfl)
theorem script_add_core (N : Nat) (x : SV [.v (.rc .value), .v (.rc .value)]) (y : BV []) : runL (script_add_E N) Tryz.f35 (script_add_sg fun x _ => script_add N x.1 x.2.1) script_add_pk (script_add_LP N) x y = script_add N x.1 x.2.1 := by kernel_rfl
theorem script_add_sound (N : Nat) : Sound Tryz.prog GW B0G 35 (script_add_sg fun x _ => script_add N x.1 x.2.1) :=
  runD_sound (mkE_ok script_add_h (script_add_fn N) _ _ (script_add_fn_ok N)) Tryz.func35 rfl Tryz.call35 (script_add_sg fun x _ => script_add N x.1 x.2.1) script_add_pk (fun _ _ => rfl) N (fun x y _ h => ((runL_eq (script_add_E N) N Tryz.f35 (script_add_sg fun x _ => script_add N x.1 x.2.1) script_add_pk (script_add_LP N) (show LoopsOk (script_add_LP N) (script_add_E N) N (resD (script_add_E N) Tryz.f35 (script_add_sg fun x _ => script_add N x.1 x.2.1) script_add_pk) [(1, (cAt (bodyOf Tryz.f35) [true, true, true, false, false, true, false, true, false, false])), (3, (cAt (bodyOf Tryz.f35) [true, true, true, false, false, true, true, true, false, true, false, false]))] from ⟨script_add_lp1 N, script_add_lp3 N, trivial⟩) x y).trans (script_add_core N x y)).trans h)
def script_Add (N : Nat) (x0 : GValue) (x1 : GValue) : Option (GValue × Int) :=
  bnd (script_checkTwo N (GValue.mk x0.kind x0.text x0.number x0.list x0.cases) (GValue.mk x1.kind x1.text x1.number x1.list x1.cases)) fun t9 =>
  br (t9 != (0 : Int))
    (some (GValue.mk (0 : Int) ([] : Str) (0 : Int) ([] : List Str) ([] : List (Str × GValue)), t9))
    (bnd (script_add N (GValue.mk x0.kind x0.text x0.number x0.list x0.cases) (GValue.mk x1.kind x1.text x1.number x1.list x1.cases)) fun t16 =>
    some (GValue.mk t16.1.kind t16.1.text t16.1.number t16.1.list t16.1.cases, t16.2))
abbrev script_Add_sg (f : SV [.v (.rc .value), .v (.rc .value)] → BV [] → Option (GValue × Int)) : AF := { ps := [.v (.rc .value), .v (.rc .value)], bs := [], rs := [.v (.rc .value), .v (.int .i64)], cs := [], R := GValue × Int, out := fun z => ((z.1, z.2, ()), ()), f := f }
abbrev script_Add_pk : SV [.v (.rc .value), .v (.int .i64)] → BV [] → (GValue × Int) := fun x _ => (x.1, x.2.1)
def script_Add_fn (N : Nat) : FuncId → Option Tmp → Option AF := fun f _ =>
  match f with
    | 34 => some (script_checkTwo_sg fun x _ => script_checkTwo N x.1 x.2.1)
    | 35 => some (script_add_sg fun x _ => script_add N x.1 x.2.1)
    | _ => none
theorem script_Add_fn_ok (N : Nat) : ∀ f q F, script_Add_fn N f q = some F → Sound Tryz.prog GW B0G f F := by
  intro f q F h
  unfold script_Add_fn at h
  split at h
  · cases h; exact script_checkTwo_sound N
  · cases h; exact script_add_sound N
  · cases h
def script_Add_h : Nat → Hint := fun i =>
  match i with
  | _ => ⟨[], [], [], [], [], []⟩
abbrev script_Add_E (N : Nat) : Env := mkE script_Add_h (script_Add_fn N) (fun _ => false) (fun _ => false)
noncomputable def script_Add_LP (N : Nat) : Nat → Code → St → (Ex → St → Option (GValue × Int)) → Option (GValue × Int) := fun i c =>
  match i with
  | i => fun st k => iter (script_Add_h i) (exec (script_Add_E N) N c i) N st k
theorem script_Add_core (N : Nat) (x : SV [.v (.rc .value), .v (.rc .value)]) (y : BV []) : runL (script_Add_E N) Tryz.f10 (script_Add_sg fun x _ => script_Add N x.1 x.2.1) script_Add_pk (script_Add_LP N) x y = script_Add N x.1 x.2.1 := by kernel_rfl
theorem script_Add_sound (N : Nat) : Sound Tryz.prog GW B0G 10 (script_Add_sg fun x _ => script_Add N x.1 x.2.1) :=
  runD_sound (mkE_ok script_Add_h (script_Add_fn N) _ _ (script_Add_fn_ok N)) Tryz.func10 rfl Tryz.call10 (script_Add_sg fun x _ => script_Add N x.1 x.2.1) script_Add_pk (fun _ _ => rfl) N (fun x y _ h => ((runL_eq (script_Add_E N) N Tryz.f10 (script_Add_sg fun x _ => script_Add N x.1 x.2.1) script_Add_pk (script_Add_LP N) (show LoopsOk (script_Add_LP N) (script_Add_E N) N (resD (script_Add_E N) Tryz.f10 (script_Add_sg fun x _ => script_Add N x.1 x.2.1) script_Add_pk) [] from trivial) x y).trans (script_Add_core N x y)).trans h)
def slices_Equal_string_string_L0T (_N : Nat) (x0 : List Str) (x1 : List Str) (c12 : Int) (k0 : Option Bool) (self : Int → Option Bool) (s13 : Int) : Option Bool :=
  br (decide (s13 < c12))
    (bnd (geti x0 s13) fun t18 =>
    bnd (geti x1 s13) fun t22 =>
    br (!(t18 == t22))
      (some false)
      (self (IntKind.i64.wrap (s13 + (1 : Int)))))
    (k0)
def slices_Equal_string_string_L0 (N : Nat) (x0 : List Str) (x1 : List Str) (c12 : Int) (k0 : Option Bool) : Nat → Int → Option Bool
  | 0, _ => none
  | n + 1, s13 => slices_Equal_string_string_L0T N x0 x1 c12 k0 (slices_Equal_string_string_L0 N x0 x1 c12 k0 n) s13
def slices_Equal_string_string (N : Nat) (x0 : List Str) (x1 : List Str) : Option Bool :=
  br ((x0.length : Int) != (x1.length : Int))
    (some false)
    (slices_Equal_string_string_L0 N x0 x1 (x0.length : Int) (some true) N (0 : Int))
abbrev slices_Equal_string_string_sg (f : SV [.v (.sl .str), .v (.sl .str)] → BV [] → Option (Bool)) : AF := { ps := [.v (.sl .str), .v (.sl .str)], bs := [], rs := [.v .bool], cs := [], R := Bool, out := fun z => ((z, ()), ()), f := f }
abbrev slices_Equal_string_string_pk : SV [.v .bool] → BV [] → Bool := fun x _ => x.1
def slices_Equal_string_string_fn (_N : Nat) : FuncId → Option Tmp → Option AF := fun f _ =>
  match f with
    | _ => none
theorem slices_Equal_string_string_fn_ok (N : Nat) : ∀ f q F, slices_Equal_string_string_fn N f q = some F → Sound Tryz.prog GW B0G f F := by
  intro f q F h
  unfold slices_Equal_string_string_fn at h
  split at h
  · cases h
def slices_Equal_string_string_h : Nat → Hint := fun i =>
  match i with
  | 0 => ⟨[], [0, 1, 12, 13], [], [], [], []⟩
  | _ => ⟨[], [], [], [], [], []⟩
abbrev slices_Equal_string_string_E (N : Nat) : Env := mkE slices_Equal_string_string_h (slices_Equal_string_string_fn N) (fun _ => false) (fun _ => false)
abbrev slices_Equal_string_string_L0_fs : List (Nat × Sl) := [(0, .v (.sl .str)), (1, .v (.sl .str)), (12, .v (.int .i64)), (13, .v (.int .i64))]
abbrev slices_Equal_string_string_L0_bs : List (Nat × Sb) := []
def slices_Equal_string_string_L0_hd (x0 : List Str) (x1 : List Str) (c12 : Int) (s13 : Int) : St := ⟨26, [(0, .v (.sl .str) x0), (1, .v (.sl .str) x1), (12, .v (.int .i64) c12), (13, .v (.int .i64) s13)], []⟩
def slices_Equal_string_string_L0_tl0 (_x0 : List Str) (_x1 : List Str) (_c12 : Int) : St := ⟨26, [], []⟩
def slices_Equal_string_string_L0_G (N : Nat) (x0 : List Str) (x1 : List Str) (c12 : Int) (s13 : Int) (k : Ex → St → Option Bool) : Option Bool :=
  slices_Equal_string_string_L0 N x0 x1 c12 (k (.exit 0) (slices_Equal_string_string_L0_tl0 x0 x1 c12)) N s13
abbrev slices_Equal_string_string_L0_F (N : Nat) : FV slices_Equal_string_string_L0_fs → HV slices_Equal_string_string_L0_bs → (Ex → St → Option Bool) → Option Bool := fun x _ k => slices_Equal_string_string_L0_G N x.1 x.2.1 x.2.2.1 x.2.2.2.1 k
noncomputable def slices_Equal_string_string_LP (N : Nat) : Nat → Code → St → (Ex → St → Option Bool) → Option Bool := fun i c =>
  match i with
  | 0 => (LPc 26 slices_Equal_string_string_L0_fs slices_Equal_string_string_L0_bs (slices_Equal_string_string_L0_F N) (fun st k => iter (slices_Equal_string_string_h 0) (exec (slices_Equal_string_string_E N) N c 0) N st k))
  | i => fun st k => iter (slices_Equal_string_string_h i) (exec (slices_Equal_string_string_E N) N c i) N st k
theorem slices_Equal_string_string_L0_step (N : Nat) (x0 : List Str) (x1 : List Str) (c12 : Int) (KX : Nat → St → Option Bool) (I : St → Option Bool) (s13 : Int) :
    execL (slices_Equal_string_string_LP N) (slices_Equal_string_string_E N) (cAt (bodyOf Tryz.f37) [true, true, false, true, false, false]) 0 (slices_Equal_string_string_L0_hd x0 x1 c12 s13) (roundK (slices_Equal_string_string_h 0) I KX (resD (slices_Equal_string_string_E N) Tryz.f37 (slices_Equal_string_string_sg fun x _ => slices_Equal_string_string N x.1 x.2.1) slices_Equal_string_string_pk)) = slices_Equal_string_string_L0T N x0 x1 c12 (KX 0 (slices_Equal_string_string_L0_tl0 x0 x1 c12)) (fun s13 => I (slices_Equal_string_string_L0_hd x0 x1 c12 s13)) s13 := by kernel_rfl
theorem slices_Equal_string_string_L0_ok (N : Nat) : ∀ x y k, (∀ st, k .ret st = (resD (slices_Equal_string_string_E N) Tryz.f37 (slices_Equal_string_string_sg fun x _ => slices_Equal_string_string N x.1 x.2.1) slices_Equal_string_string_pk) st) → iter (slices_Equal_string_string_h 0) (exec (slices_Equal_string_string_E N) N (cAt (bodyOf Tryz.f37) [true, true, false, true, false, false]) 0) N ⟨26, unF slices_Equal_string_string_L0_fs x, unH slices_Equal_string_string_L0_bs y⟩ k = slices_Equal_string_string_L0_F N x y k := fun x _ k hk =>
  iter_link (S := (Int) × Unit) (slices_Equal_string_string_h 0) _ (execL (slices_Equal_string_string_LP N) (slices_Equal_string_string_E N) (cAt (bodyOf Tryz.f37) [true, true, false, true, false, false]) 0) (resD (slices_Equal_string_string_E N) Tryz.f37 (slices_Equal_string_string_sg fun x _ => slices_Equal_string_string N x.1 x.2.1) slices_Equal_string_string_pk) (fun st k hk => execL_eq _ _ N _ (cAt (bodyOf Tryz.f37) [true, true, false, true, false, false]) 0 (show LoopsOk (slices_Equal_string_string_LP N) (slices_Equal_string_string_E N) N (resD (slices_Equal_string_string_E N) Tryz.f37 (slices_Equal_string_string_sg fun x _ => slices_Equal_string_string N x.1 x.2.1) slices_Equal_string_string_pk) [] from trivial) st k hk) (fun s => slices_Equal_string_string_L0_hd x.1 x.2.1 x.2.2.1 s.1) k hk
    (fun self s => slices_Equal_string_string_L0T N x.1 x.2.1 x.2.2.1 (k (.exit 0) (slices_Equal_string_string_L0_tl0 x.1 x.2.1 x.2.2.1)) (fun s13 => self (s13, ())) s.1) (fun n s => slices_Equal_string_string_L0 N x.1 x.2.1 x.2.2.1 (k (.exit 0) (slices_Equal_string_string_L0_tl0 x.1 x.2.1 x.2.2.1)) n s.1) (fun _ => rfl) (fun _ _ => rfl)
    (fun I s => slices_Equal_string_string_L0_step N x.1 x.2.1 x.2.2.1 (fun j => k (.exit j)) I s.1) N (x.2.2.2.1, ())
theorem slices_Equal_string_string_lp0 (N : Nat) : ∀ st k, (∀ st, k .ret st = (resD (slices_Equal_string_string_E N) Tryz.f37 (slices_Equal_string_string_sg fun x _ => slices_Equal_string_string N x.1 x.2.1) slices_Equal_string_string_pk) st) → slices_Equal_string_string_LP N 0 (cAt (bodyOf Tryz.f37) [true, true, false, true, false, false]) st k = iter (Env.hint (slices_Equal_string_string_E N) 0) (exec (slices_Equal_string_string_E N) N (cAt (bodyOf Tryz.f37) [true, true, false, true, false, false]) 0) N st k := fun st k hk => LPc_eq 26 slices_Equal_string_string_L0_fs slices_Equal_string_string_L0_bs _ _ (resD (slices_Equal_string_string_E N) Tryz.f37 (slices_Equal_string_string_sg fun x _ => slices_Equal_string_string N x.1 x.2.1) slices_Equal_string_string_pk) (slices_Equal_string_string_L0_ok N) _ st k hk (rfl)
theorem slices_Equal_string_string_core (N : Nat) (x : SV [.v (.sl .str), .v (.sl .str)]) (y : BV []) : runL (slices_Equal_string_string_E N) Tryz.f37 (slices_Equal_string_string_sg fun x _ => slices_Equal_string_string N x.1 x.2.1) slices_Equal_string_string_pk (slices_Equal_string_string_LP N) x y = slices_Equal_string_string N x.1 x.2.1 := by kernel_rfl
theorem slices_Equal_string_string_sound (N : Nat) : Sound Tryz.prog GW B0G 37 (slices_Equal_string_string_sg fun x _ => slices_Equal_string_string N x.1 x.2.1) :=
  runD_sound (mkE_ok slices_Equal_string_string_h (slices_Equal_string_string_fn N) _ _ (slices_Equal_string_string_fn_ok N)) Tryz.func37 rfl Tryz.call37 (slices_Equal_string_string_sg fun x _ => slices_Equal_string_string N x.1 x.2.1) slices_Equal_string_string_pk (fun _ _ => rfl) N (fun x y _ h => ((runL_eq (slices_Equal_string_string_E N) N Tryz.f37 (slices_Equal_string_string_sg fun x _ => slices_Equal_string_string N x.1 x.2.1) slices_Equal_string_string_pk (slices_Equal_string_string_LP N) (show LoopsOk (slices_Equal_string_string_LP N) (slices_Equal_string_string_E N) N (resD (slices_Equal_string_string_E N) Tryz.f37 (slices_Equal_string_string_sg fun x _ => slices_Equal_string_string N x.1 x.2.1) slices_Equal_string_string_pk) [(0, (cAt (bodyOf Tryz.f37) [true, true, false, true, false, false]))] from ⟨slices_Equal_string_string_lp0 N, trivial⟩) x y).trans (slices_Equal_string_string_core N x y)).trans h)
abbrev ref2_SameValue_sg (f : SV [.v (.rc .value), .v (.rc .value)] → BV [] → Option (Bool)) : AF := { ps := [.v (.rc .value), .v (.rc .value)], bs := [], rs := [.v .bool], cs := [], R := Bool, out := fun z => ((z, ()), ()), f := f }
def ref2_SameValue_b_L0T (_N : Nat) (r_ref2_SameValue : GValue → GValue → Option (Bool)) (c44 : Int) (c1002_4 : List (Str × GValue)) (c1003_4 : List (Str × GValue)) (k0 : Option Bool) (self : Int → Option Bool) (s45 : Int) : Option Bool :=
  br (decide (s45 < c44))
    (bnd (geti c1002_4 s45) fun t51 =>
    bnd (geti c1003_4 s45) fun t57 =>
    br (!(t51.1 == t57.1))
      (some false)
      (bnd (geti c1002_4 s45) fun t65 =>
      bnd (geti c1003_4 s45) fun t71 =>
      bnd (r_ref2_SameValue t65.2 t71.2) fun t74 =>
      br (!t74)
        (some false)
        (self (IntKind.i64.wrap (s45 + (1 : Int))))))
    (k0)
def ref2_SameValue_b_L0 (N : Nat) (r_ref2_SameValue : GValue → GValue → Option (Bool)) (c44 : Int) (c1002_4 : List (Str × GValue)) (c1003_4 : List (Str × GValue)) (k0 : Option Bool) : Nat → Int → Option Bool
  | 0, _ => none
  | n + 1, s45 => ref2_SameValue_b_L0T N r_ref2_SameValue c44 c1002_4 c1003_4 k0 (ref2_SameValue_b_L0 N r_ref2_SameValue c44 c1002_4 c1003_4 k0 n) s45
def ref2_SameValue_b (N : Nat) (r_ref2_SameValue : GValue → GValue → Option (Bool)) (x0 : GValue) (x1 : GValue) : Option Bool :=
  br (x0.kind != x1.kind)
    (some false)
    (br (!(x0.text == x1.text))
      (some false)
      (br (x0.number != x1.number)
        (some false)
        (bnd (slices_Equal_string_string N x0.list x1.list) fun t30 =>
        br (!t30)
          (some false)
          (br ((x0.cases.length : Int) != (x1.cases.length : Int))
            (some false)
            (ref2_SameValue_b_L0 N r_ref2_SameValue (x0.cases.length : Int) x0.cases x1.cases (some true) N (0 : Int))))))
abbrev ref2_SameValue_b_sg (f : SV [.v (.rc .value), .v (.rc .value)] → BV [] → Option (Bool)) : AF := { ps := [.v (.rc .value), .v (.rc .value)], bs := [], rs := [.v .bool], cs := [], R := Bool, out := fun z => ((z, ()), ()), f := f }
abbrev ref2_SameValue_b_pk : SV [.v .bool] → BV [] → Bool := fun x _ => x.1
def ref2_SameValue_b_fn (N : Nat) (r_ref2_SameValue : GValue → GValue → Option (Bool)) : FuncId → Option Tmp → Option AF := fun f _ =>
  match f with
    | 12 => some (ref2_SameValue_sg fun x _ => r_ref2_SameValue x.1 x.2.1)
    | 37 => some (slices_Equal_string_string_sg fun x _ => slices_Equal_string_string N x.1 x.2.1)
    | _ => none
theorem ref2_SameValue_b_fn_ok (N : Nat) (r_ref2_SameValue : GValue → GValue → Option (Bool)) (h_ref2_SameValue : Sound Tryz.prog GW B0G 12 (ref2_SameValue_sg fun x y => r_ref2_SameValue x.1 x.2.1)) : ∀ f q F, ref2_SameValue_b_fn N r_ref2_SameValue f q = some F → Sound Tryz.prog GW B0G f F := by
  intro f q F h
  unfold ref2_SameValue_b_fn at h
  split at h
  · cases h; exact h_ref2_SameValue
  · cases h; exact slices_Equal_string_string_sound N
  · cases h
def ref2_SameValue_b_h : Nat → Hint := fun i =>
  match i with
  | 0 => ⟨[], [2, 3, 44, 45], [1002, 1003], [], [], []⟩
  | _ => ⟨[], [], [], [], [], []⟩
abbrev ref2_SameValue_b_E (N : Nat) (r_ref2_SameValue : GValue → GValue → Option (Bool)) : Env := mkE ref2_SameValue_b_h (ref2_SameValue_b_fn N r_ref2_SameValue) (fun _ => false) (fun _ => false)
abbrev ref2_SameValue_b_L0_fs : List (Nat × Sl) := [(2, .box 1002 0), (3, .box 1003 0), (44, .v (.int .i64)), (45, .v (.int .i64))]
abbrev ref2_SameValue_b_L0_bs : List (Nat × Sb) := [(1002, .cells [.v (.int .i64), .v .str, .v (.int .i64), .v (.sl .str), .v (.sl (.pr .str (.rc .value)))]), (1003, .cells [.v (.int .i64), .v .str, .v (.int .i64), .v (.sl .str), .v (.sl (.pr .str (.rc .value)))])]
def ref2_SameValue_b_L0_hd (c44 : Int) (c1002_0 : Int) (c1002_1 : Str) (c1002_2 : Int) (c1002_3 : List Str) (c1002_4 : List (Str × GValue)) (c1003_0 : Int) (c1003_1 : Str) (c1003_2 : Int) (c1003_3 : List Str) (c1003_4 : List (Str × GValue)) (s45 : Int) : St := ⟨78, [(2, .box 1002 0), (3, .box 1003 0), (44, .v (.int .i64) c44), (45, .v (.int .i64) s45)], [(1002, .cells [.v (.int .i64) c1002_0, .v .str c1002_1, .v (.int .i64) c1002_2, .v (.sl .str) c1002_3, .v (.sl (.pr .str (.rc .value))) c1002_4]), (1003, .cells [.v (.int .i64) c1003_0, .v .str c1003_1, .v (.int .i64) c1003_2, .v (.sl .str) c1003_3, .v (.sl (.pr .str (.rc .value))) c1003_4])]⟩
def ref2_SameValue_b_L0_tl0 (_c44 : Int) (_c1002_0 : Int) (_c1002_1 : Str) (_c1002_2 : Int) (_c1002_3 : List Str) (_c1002_4 : List (Str × GValue)) (_c1003_0 : Int) (_c1003_1 : Str) (_c1003_2 : Int) (_c1003_3 : List Str) (_c1003_4 : List (Str × GValue)) : St := ⟨78, [], []⟩
def ref2_SameValue_b_L0_G (N : Nat) (r_ref2_SameValue : GValue → GValue → Option (Bool)) (c44 : Int) (c1002_0 : Int) (c1002_1 : Str) (c1002_2 : Int) (c1002_3 : List Str) (c1002_4 : List (Str × GValue)) (c1003_0 : Int) (c1003_1 : Str) (c1003_2 : Int) (c1003_3 : List Str) (c1003_4 : List (Str × GValue)) (s45 : Int) (k : Ex → St → Option Bool) : Option Bool :=
  ref2_SameValue_b_L0 N r_ref2_SameValue c44 c1002_4 c1003_4 (k (.exit 0) (ref2_SameValue_b_L0_tl0 c44 c1002_0 c1002_1 c1002_2 c1002_3 c1002_4 c1003_0 c1003_1 c1003_2 c1003_3 c1003_4)) N s45
abbrev ref2_SameValue_b_L0_F (N : Nat) (r_ref2_SameValue : GValue → GValue → Option (Bool)) : FV ref2_SameValue_b_L0_fs → HV ref2_SameValue_b_L0_bs → (Ex → St → Option Bool) → Option Bool := fun x y k => ref2_SameValue_b_L0_G N r_ref2_SameValue x.2.2.1 y.1.1 y.1.2.1 y.1.2.2.1 y.1.2.2.2.1 y.1.2.2.2.2.1 y.2.1.1 y.2.1.2.1 y.2.1.2.2.1 y.2.1.2.2.2.1 y.2.1.2.2.2.2.1 x.2.2.2.1 k
noncomputable def ref2_SameValue_b_LP (N : Nat) (r_ref2_SameValue : GValue → GValue → Option (Bool)) : Nat → Code → St → (Ex → St → Option Bool) → Option Bool := fun i c =>
  match i with
  | 0 => (LPc 78 ref2_SameValue_b_L0_fs ref2_SameValue_b_L0_bs (ref2_SameValue_b_L0_F N r_ref2_SameValue) (fun st k => iter (ref2_SameValue_b_h 0) (exec (ref2_SameValue_b_E N r_ref2_SameValue) N c 0) N st k))
  | i => fun st k => iter (ref2_SameValue_b_h i) (exec (ref2_SameValue_b_E N r_ref2_SameValue) N c i) N st k
theorem ref2_SameValue_b_L0_step (N : Nat) (r_ref2_SameValue : GValue → GValue → Option (Bool)) (c44 : Int) (c1002_0 : Int) (c1002_1 : Str) (c1002_2 : Int) (c1002_3 : List Str) (c1002_4 : List (Str × GValue)) (c1003_0 : Int) (c1003_1 : Str) (c1003_2 : Int) (c1003_3 : List Str) (c1003_4 : List (Str × GValue)) (KX : Nat → St → Option Bool) (I : St → Option Bool) (s45 : Int) :
    execL (ref2_SameValue_b_LP N r_ref2_SameValue) (ref2_SameValue_b_E N r_ref2_SameValue) (cAt (bodyOf Tryz.f12) [true, true, false, true, false, false]) 0 (ref2_SameValue_b_L0_hd c44 c1002_0 c1002_1 c1002_2 c1002_3 c1002_4 c1003_0 c1003_1 c1003_2 c1003_3 c1003_4 s45) (roundK (ref2_SameValue_b_h 0) I KX (resD (ref2_SameValue_b_E N r_ref2_SameValue) Tryz.f12 (ref2_SameValue_b_sg fun x _ => ref2_SameValue_b N r_ref2_SameValue x.1 x.2.1) ref2_SameValue_b_pk)) = ref2_SameValue_b_L0T N r_ref2_SameValue c44 c1002_4 c1003_4 (KX 0 (ref2_SameValue_b_L0_tl0 c44 c1002_0 c1002_1 c1002_2 c1002_3 c1002_4 c1003_0 c1003_1 c1003_2 c1003_3 c1003_4)) (fun s45 => I (ref2_SameValue_b_L0_hd c44 c1002_0 c1002_1 c1002_2 c1002_3 c1002_4 c1003_0 c1003_1 c1003_2 c1003_3 c1003_4 s45)) s45 := by kernel_rfl
theorem ref2_SameValue_b_L0_ok (N : Nat) (r_ref2_SameValue : GValue → GValue → Option (Bool)) : ∀ x y k, (∀ st, k .ret st = (resD (ref2_SameValue_b_E N r_ref2_SameValue) Tryz.f12 (ref2_SameValue_b_sg fun x _ => ref2_SameValue_b N r_ref2_SameValue x.1 x.2.1) ref2_SameValue_b_pk) st) → iter (ref2_SameValue_b_h 0) (exec (ref2_SameValue_b_E N r_ref2_SameValue) N (cAt (bodyOf Tryz.f12) [true, true, false, true, false, false]) 0) N ⟨78, unF ref2_SameValue_b_L0_fs x, unH ref2_SameValue_b_L0_bs y⟩ k = ref2_SameValue_b_L0_F N r_ref2_SameValue x y k := fun x y k hk =>
  iter_link (S := (Int) × Unit) (ref2_SameValue_b_h 0) _ (execL (ref2_SameValue_b_LP N r_ref2_SameValue) (ref2_SameValue_b_E N r_ref2_SameValue) (cAt (bodyOf Tryz.f12) [true, true, false, true, false, false]) 0) (resD (ref2_SameValue_b_E N r_ref2_SameValue) Tryz.f12 (ref2_SameValue_b_sg fun x _ => ref2_SameValue_b N r_ref2_SameValue x.1 x.2.1) ref2_SameValue_b_pk) (fun st k hk => execL_eq _ _ N _ (cAt (bodyOf Tryz.f12) [true, true, false, true, false, false]) 0 (show LoopsOk (ref2_SameValue_b_LP N r_ref2_SameValue) (ref2_SameValue_b_E N r_ref2_SameValue) N (resD (ref2_SameValue_b_E N r_ref2_SameValue) Tryz.f12 (ref2_SameValue_b_sg fun x _ => ref2_SameValue_b N r_ref2_SameValue x.1 x.2.1) ref2_SameValue_b_pk) [] from trivial) st k hk) (fun s => ref2_SameValue_b_L0_hd x.2.2.1 y.1.1 y.1.2.1 y.1.2.2.1 y.1.2.2.2.1 y.1.2.2.2.2.1 y.2.1.1 y.2.1.2.1 y.2.1.2.2.1 y.2.1.2.2.2.1 y.2.1.2.2.2.2.1 s.1) k hk
    (fun self s => ref2_SameValue_b_L0T N r_ref2_SameValue x.2.2.1 y.1.2.2.2.2.1 y.2.1.2.2.2.2.1 (k (.exit 0) (ref2_SameValue_b_L0_tl0 x.2.2.1 y.1.1 y.1.2.1 y.1.2.2.1 y.1.2.2.2.1 y.1.2.2.2.2.1 y.2.1.1 y.2.1.2.1 y.2.1.2.2.1 y.2.1.2.2.2.1 y.2.1.2.2.2.2.1)) (fun s45 => self (s45, ())) s.1) (fun n s => ref2_SameValue_b_L0 N r_ref2_SameValue x.2.2.1 y.1.2.2.2.2.1 y.2.1.2.2.2.2.1 (k (.exit 0) (ref2_SameValue_b_L0_tl0 x.2.2.1 y.1.1 y.1.2.1 y.1.2.2.1 y.1.2.2.2.1 y.1.2.2.2.2.1 y.2.1.1 y.2.1.2.1 y.2.1.2.2.1 y.2.1.2.2.2.1 y.2.1.2.2.2.2.1)) n s.1) (fun _ => rfl) (fun _ _ => rfl)
    (fun I s => ref2_SameValue_b_L0_step N r_ref2_SameValue x.2.2.1 y.1.1 y.1.2.1 y.1.2.2.1 y.1.2.2.2.1 y.1.2.2.2.2.1 y.2.1.1 y.2.1.2.1 y.2.1.2.2.1 y.2.1.2.2.2.1 y.2.1.2.2.2.2.1 (fun j => k (.exit j)) I s.1) N (x.2.2.2.1, ())
theorem ref2_SameValue_b_lp0 (N : Nat) (r_ref2_SameValue : GValue → GValue → Option (Bool)) : ∀ st k, (∀ st, k .ret st = (resD (ref2_SameValue_b_E N r_ref2_SameValue) Tryz.f12 (ref2_SameValue_b_sg fun x _ => ref2_SameValue_b N r_ref2_SameValue x.1 x.2.1) ref2_SameValue_b_pk) st) → ref2_SameValue_b_LP N r_ref2_SameValue 0 (cAt (bodyOf Tryz.f12) [true, true, false, true, false, false]) st k = iter (Env.hint (ref2_SameValue_b_E N r_ref2_SameValue) 0) (exec (ref2_SameValue_b_E N r_ref2_SameValue) N (cAt (bodyOf Tryz.f12) [true, true, false, true, false, false]) 0) N st k := fun st k hk => LPc_eq 78 ref2_SameValue_b_L0_fs ref2_SameValue_b_L0_bs _ _ (resD (ref2_SameValue_b_E N r_ref2_SameValue) Tryz.f12 (ref2_SameValue_b_sg fun x _ => ref2_SameValue_b N r_ref2_SameValue x.1 x.2.1) ref2_SameValue_b_pk) (ref2_SameValue_b_L0_ok N r_ref2_SameValue) _ st k hk (rfl)
theorem ref2_SameValue_b_core (N : Nat) (r_ref2_SameValue : GValue → GValue → Option (Bool)) (x : SV [.v (.rc .value), .v (.rc .value)]) (y : BV []) : runL (ref2_SameValue_b_E N r_ref2_SameValue) Tryz.f12 (ref2_SameValue_b_sg fun x _ => ref2_SameValue_b N r_ref2_SameValue x.1 x.2.1) ref2_SameValue_b_pk (ref2_SameValue_b_LP N r_ref2_SameValue) x y = ref2_SameValue_b N r_ref2_SameValue x.1 x.2.1 := by kernel_rfl
theorem ref2_SameValue_b_sound (N : Nat) (r_ref2_SameValue : GValue → GValue → Option (Bool)) (h_ref2_SameValue : Sound Tryz.prog GW B0G 12 (ref2_SameValue_sg fun x y => r_ref2_SameValue x.1 x.2.1)) : Sound Tryz.prog GW B0G 12 (ref2_SameValue_b_sg fun x _ => ref2_SameValue_b N r_ref2_SameValue x.1 x.2.1) :=
  runD_sound (mkE_ok ref2_SameValue_b_h (ref2_SameValue_b_fn N r_ref2_SameValue) _ _ (ref2_SameValue_b_fn_ok N r_ref2_SameValue h_ref2_SameValue)) Tryz.func12 rfl Tryz.call12 (ref2_SameValue_b_sg fun x _ => ref2_SameValue_b N r_ref2_SameValue x.1 x.2.1) ref2_SameValue_b_pk (fun _ _ => rfl) N (fun x y _ h => ((runL_eq (ref2_SameValue_b_E N r_ref2_SameValue) N Tryz.f12 (ref2_SameValue_b_sg fun x _ => ref2_SameValue_b N r_ref2_SameValue x.1 x.2.1) ref2_SameValue_b_pk (ref2_SameValue_b_LP N r_ref2_SameValue) (show LoopsOk (ref2_SameValue_b_LP N r_ref2_SameValue) (ref2_SameValue_b_E N r_ref2_SameValue) N (resD (ref2_SameValue_b_E N r_ref2_SameValue) Tryz.f12 (ref2_SameValue_b_sg fun x _ => ref2_SameValue_b N r_ref2_SameValue x.1 x.2.1) ref2_SameValue_b_pk) [(0, (cAt (bodyOf Tryz.f12) [true, true, false, true, false, false]))] from ⟨ref2_SameValue_b_lp0 N r_ref2_SameValue, trivial⟩) x y).trans (ref2_SameValue_b_core N r_ref2_SameValue x y)).trans h)
def ref2_SameValue (N : Nat) : Nat → GValue → GValue → Option (Bool)
  | 0 => fun _ _ => none
  | d + 1 => ref2_SameValue_b N (ref2_SameValue N d)
theorem ref2_SameValue_sound (N : Nat) : ∀ d, Sound Tryz.prog GW B0G 12 (ref2_SameValue_sg fun x y => ref2_SameValue N d x.1 x.2.1)
  | 0 => Sound.never Tryz.call12 (fun _ _ => rfl)
  | d + 1 => ref2_SameValue_b_sound N (ref2_SameValue N d) (ref2_SameValue_sound N d)
def ref2_isPlain (_N : Nat) (x0 : GValue) : Option Bool :=
  br (x0.text == ([] : Str))
    (br (x0.number == (0 : Int))
      (br ((x0.list.length : Int) == (0 : Int))
        (br ((x0.cases.length : Int) == (0 : Int))
          (some true)
          (some (x0.kind == (4 : Int))))
        (br (x0.kind == (3 : Int))
          (br ((x0.cases.length : Int) == (0 : Int))
            (some true)
            (some (x0.kind == (4 : Int))))
          (some false)))
      (br (x0.kind == (2 : Int))
        (br ((x0.list.length : Int) == (0 : Int))
          (br ((x0.cases.length : Int) == (0 : Int))
            (some true)
            (some (x0.kind == (4 : Int))))
          (br (x0.kind == (3 : Int))
            (br ((x0.cases.length : Int) == (0 : Int))
              (some true)
              (some (x0.kind == (4 : Int))))
            (some false)))
        (some false)))
    (br (x0.kind == (1 : Int))
      (br (x0.number == (0 : Int))
        (br ((x0.list.length : Int) == (0 : Int))
          (br ((x0.cases.length : Int) == (0 : Int))
            (some true)
            (some (x0.kind == (4 : Int))))
          (br (x0.kind == (3 : Int))
            (br ((x0.cases.length : Int) == (0 : Int))
              (some true)
              (some (x0.kind == (4 : Int))))
            (some false)))
        (br (x0.kind == (2 : Int))
          (br ((x0.list.length : Int) == (0 : Int))
            (br ((x0.cases.length : Int) == (0 : Int))
              (some true)
              (some (x0.kind == (4 : Int))))
            (br (x0.kind == (3 : Int))
              (br ((x0.cases.length : Int) == (0 : Int))
                (some true)
                (some (x0.kind == (4 : Int))))
              (some false)))
          (some false)))
      (some false))
abbrev ref2_isPlain_sg (f : SV [.v (.rc .value)] → BV [] → Option (Bool)) : AF := { ps := [.v (.rc .value)], bs := [], rs := [.v .bool], cs := [], R := Bool, out := fun z => ((z, ()), ()), f := f }
abbrev ref2_isPlain_pk : SV [.v .bool] → BV [] → Bool := fun x _ => x.1
def ref2_isPlain_fn (_N : Nat) : FuncId → Option Tmp → Option AF := fun f _ =>
  match f with
    | _ => none
theorem ref2_isPlain_fn_ok (N : Nat) : ∀ f q F, ref2_isPlain_fn N f q = some F → Sound Tryz.prog GW B0G f F := by
  intro f q F h
  unfold ref2_isPlain_fn at h
  split at h
  · cases h
def ref2_isPlain_h : Nat → Hint := fun i =>
  match i with
  | _ => ⟨[], [], [], [], [], []⟩
abbrev ref2_isPlain_E (N : Nat) : Env := mkE ref2_isPlain_h (ref2_isPlain_fn N) (fun _ => false) (fun _ => false)
noncomputable def ref2_isPlain_LP (N : Nat) : Nat → Code → St → (Ex → St → Option Bool) → Option Bool := fun i c =>
  match i with
  | i => fun st k => iter (ref2_isPlain_h i) (exec (ref2_isPlain_E N) N c i) N st k
theorem ref2_isPlain_core (N : Nat) (x : SV [.v (.rc .value)]) (y : BV []) : runL (ref2_isPlain_E N) Tryz.f45 (ref2_isPlain_sg fun x _ => ref2_isPlain N x.1) ref2_isPlain_pk (ref2_isPlain_LP N) x y = ref2_isPlain N x.1 := by kernel_rfl
theorem ref2_isPlain_sound (N : Nat) : Sound Tryz.prog GW B0G 45 (ref2_isPlain_sg fun x _ => ref2_isPlain N x.1) :=
  runD_sound (mkE_ok ref2_isPlain_h (ref2_isPlain_fn N) _ _ (ref2_isPlain_fn_ok N)) Tryz.func45 rfl Tryz.call45 (ref2_isPlain_sg fun x _ => ref2_isPlain N x.1) ref2_isPlain_pk (fun _ _ => rfl) N (fun x y _ h => ((runL_eq (ref2_isPlain_E N) N Tryz.f45 (ref2_isPlain_sg fun x _ => ref2_isPlain N x.1) ref2_isPlain_pk (ref2_isPlain_LP N) (show LoopsOk (ref2_isPlain_LP N) (ref2_isPlain_E N) N (resD (ref2_isPlain_E N) Tryz.f45 (ref2_isPlain_sg fun x _ => ref2_isPlain N x.1) ref2_isPlain_pk) [] from trivial) x y).trans (ref2_isPlain_core N x y)).trans h)
def ref2_isText_L0T (_N : Nat) (x0 : Str) (c5 : Int) (k0 : Option Bool) (self : Int → Option Bool) (s6 : Int) : Option Bool :=
  br (decide (s6 < c5))
    (bnd (geti x0 s6) fun t11 =>
    br (t11 != (10 : UInt8))
      (bnd (geti x0 s6) fun t16 =>
      br (decide (t16 < (32 : UInt8)))
        (some false)
        (bnd (geti x0 s6) fun t21 =>
        br (decide (t21 > (126 : UInt8)))
          (some false)
          (self (IntKind.i64.wrap (s6 + (1 : Int))))))
      (self (IntKind.i64.wrap (s6 + (1 : Int)))))
    (k0)
def ref2_isText_L0 (N : Nat) (x0 : Str) (c5 : Int) (k0 : Option Bool) : Nat → Int → Option Bool
  | 0, _ => none
  | n + 1, s6 => ref2_isText_L0T N x0 c5 k0 (ref2_isText_L0 N x0 c5 k0 n) s6
def ref2_isText (N : Nat) (x0 : Str) : Option Bool :=
  ref2_isText_L0 N x0 (x0.length : Int) (some true) N (0 : Int)
abbrev ref2_isText_sg (f : SV [.v .str] → BV [] → Option (Bool)) : AF := { ps := [.v .str], bs := [], rs := [.v .bool], cs := [], R := Bool, out := fun z => ((z, ()), ()), f := f }
abbrev ref2_isText_pk : SV [.v .bool] → BV [] → Bool := fun x _ => x.1
def ref2_isText_fn (_N : Nat) : FuncId → Option Tmp → Option AF := fun f _ =>
  match f with
    | _ => none
theorem ref2_isText_fn_ok (N : Nat) : ∀ f q F, ref2_isText_fn N f q = some F → Sound Tryz.prog GW B0G f F := by
  intro f q F h
  unfold ref2_isText_fn at h
  split at h
  · cases h
def ref2_isText_h : Nat → Hint := fun i =>
  match i with
  | 0 => ⟨[], [0, 5, 6], [], [], [], []⟩
  | _ => ⟨[], [], [], [], [], []⟩
abbrev ref2_isText_E (N : Nat) : Env := mkE ref2_isText_h (ref2_isText_fn N) (fun _ => false) (fun _ => false)
abbrev ref2_isText_L0_fs : List (Nat × Sl) := [(0, .v .str), (5, .v (.int .i64)), (6, .v (.int .i64))]
abbrev ref2_isText_L0_bs : List (Nat × Sb) := []
def ref2_isText_L0_hd (x0 : Str) (c5 : Int) (s6 : Int) : St := ⟨26, [(0, .v .str x0), (5, .v (.int .i64) c5), (6, .v (.int .i64) s6)], []⟩
def ref2_isText_L0_tl0 (_x0 : Str) (_c5 : Int) : St := ⟨26, [], []⟩
def ref2_isText_L0_G (N : Nat) (x0 : Str) (c5 : Int) (s6 : Int) (k : Ex → St → Option Bool) : Option Bool :=
  ref2_isText_L0 N x0 c5 (k (.exit 0) (ref2_isText_L0_tl0 x0 c5)) N s6
abbrev ref2_isText_L0_F (N : Nat) : FV ref2_isText_L0_fs → HV ref2_isText_L0_bs → (Ex → St → Option Bool) → Option Bool := fun x _ k => ref2_isText_L0_G N x.1 x.2.1 x.2.2.1 k
noncomputable def ref2_isText_LP (N : Nat) : Nat → Code → St → (Ex → St → Option Bool) → Option Bool := fun i c =>
  match i with
  | 0 => (LPc 26 ref2_isText_L0_fs ref2_isText_L0_bs (ref2_isText_L0_F N) (fun st k => iter (ref2_isText_h 0) (exec (ref2_isText_E N) N c 0) N st k))
  | i => fun st k => iter (ref2_isText_h i) (exec (ref2_isText_E N) N c i) N st k
theorem ref2_isText_L0_step (N : Nat) (x0 : Str) (c5 : Int) (KX : Nat → St → Option Bool) (I : St → Option Bool) (s6 : Int) :
    execL (ref2_isText_LP N) (ref2_isText_E N) (cAt (bodyOf Tryz.f46) [true, false, true, false, false]) 0 (ref2_isText_L0_hd x0 c5 s6) (roundK (ref2_isText_h 0) I KX (resD (ref2_isText_E N) Tryz.f46 (ref2_isText_sg fun x _ => ref2_isText N x.1) ref2_isText_pk)) = ref2_isText_L0T N x0 c5 (KX 0 (ref2_isText_L0_tl0 x0 c5)) (fun s6 => I (ref2_isText_L0_hd x0 c5 s6)) s6 := by kernel_rfl
theorem ref2_isText_L0_ok (N : Nat) : ∀ x y k, (∀ st, k .ret st = (resD (ref2_isText_E N) Tryz.f46 (ref2_isText_sg fun x _ => ref2_isText N x.1) ref2_isText_pk) st) → iter (ref2_isText_h 0) (exec (ref2_isText_E N) N (cAt (bodyOf Tryz.f46) [true, false, true, false, false]) 0) N ⟨26, unF ref2_isText_L0_fs x, unH ref2_isText_L0_bs y⟩ k = ref2_isText_L0_F N x y k := fun x _ k hk =>
  iter_link (S := (Int) × Unit) (ref2_isText_h 0) _ (execL (ref2_isText_LP N) (ref2_isText_E N) (cAt (bodyOf Tryz.f46) [true, false, true, false, false]) 0) (resD (ref2_isText_E N) Tryz.f46 (ref2_isText_sg fun x _ => ref2_isText N x.1) ref2_isText_pk) (fun st k hk => execL_eq _ _ N _ (cAt (bodyOf Tryz.f46) [true, false, true, false, false]) 0 (show LoopsOk (ref2_isText_LP N) (ref2_isText_E N) N (resD (ref2_isText_E N) Tryz.f46 (ref2_isText_sg fun x _ => ref2_isText N x.1) ref2_isText_pk) [] from trivial) st k hk) (fun s => ref2_isText_L0_hd x.1 x.2.1 s.1) k hk
    (fun self s => ref2_isText_L0T N x.1 x.2.1 (k (.exit 0) (ref2_isText_L0_tl0 x.1 x.2.1)) (fun s6 => self (s6, ())) s.1) (fun n s => ref2_isText_L0 N x.1 x.2.1 (k (.exit 0) (ref2_isText_L0_tl0 x.1 x.2.1)) n s.1) (fun _ => rfl) (fun _ _ => rfl)
    (fun I s => ref2_isText_L0_step N x.1 x.2.1 (fun j => k (.exit j)) I s.1) N (x.2.2.1, ())
theorem ref2_isText_lp0 (N : Nat) : ∀ st k, (∀ st, k .ret st = (resD (ref2_isText_E N) Tryz.f46 (ref2_isText_sg fun x _ => ref2_isText N x.1) ref2_isText_pk) st) → ref2_isText_LP N 0 (cAt (bodyOf Tryz.f46) [true, false, true, false, false]) st k = iter (Env.hint (ref2_isText_E N) 0) (exec (ref2_isText_E N) N (cAt (bodyOf Tryz.f46) [true, false, true, false, false]) 0) N st k := fun st k hk => LPc_eq 26 ref2_isText_L0_fs ref2_isText_L0_bs _ _ (resD (ref2_isText_E N) Tryz.f46 (ref2_isText_sg fun x _ => ref2_isText N x.1) ref2_isText_pk) (ref2_isText_L0_ok N) _ st k hk (rfl)
theorem ref2_isText_core (N : Nat) (x : SV [.v .str]) (y : BV []) : runL (ref2_isText_E N) Tryz.f46 (ref2_isText_sg fun x _ => ref2_isText N x.1) ref2_isText_pk (ref2_isText_LP N) x y = ref2_isText N x.1 := by kernel_rfl
theorem ref2_isText_sound (N : Nat) : Sound Tryz.prog GW B0G 46 (ref2_isText_sg fun x _ => ref2_isText N x.1) :=
  runD_sound (mkE_ok ref2_isText_h (ref2_isText_fn N) _ _ (ref2_isText_fn_ok N)) Tryz.func46 rfl Tryz.call46 (ref2_isText_sg fun x _ => ref2_isText N x.1) ref2_isText_pk (fun _ _ => rfl) N (fun x y _ h => ((runL_eq (ref2_isText_E N) N Tryz.f46 (ref2_isText_sg fun x _ => ref2_isText N x.1) ref2_isText_pk (ref2_isText_LP N) (show LoopsOk (ref2_isText_LP N) (ref2_isText_E N) N (resD (ref2_isText_E N) Tryz.f46 (ref2_isText_sg fun x _ => ref2_isText N x.1) ref2_isText_pk) [(0, (cAt (bodyOf Tryz.f46) [true, false, true, false, false]))] from ⟨ref2_isText_lp0 N, trivial⟩) x y).trans (ref2_isText_core N x y)).trans h)
def ref2_checkText (N : Nat) (x0 : Str) : Option Int :=
  br (decide ((x0.length : Int) > (1000 : Int)))
    (some (2 : Int))
    (bnd (ref2_isText N x0) fun t7 =>
    br (!t7)
      (some (3 : Int))
      (some (0 : Int)))
abbrev ref2_checkText_sg (f : SV [.v .str] → BV [] → Option (Int)) : AF := { ps := [.v .str], bs := [], rs := [.v (.int .i64)], cs := [], R := Int, out := fun z => ((z, ()), ()), f := f }
abbrev ref2_checkText_pk : SV [.v (.int .i64)] → BV [] → Int := fun x _ => x.1
def ref2_checkText_fn (N : Nat) : FuncId → Option Tmp → Option AF := fun f _ =>
  match f with
    | 46 => some (ref2_isText_sg fun x _ => ref2_isText N x.1)
    | _ => none
theorem ref2_checkText_fn_ok (N : Nat) : ∀ f q F, ref2_checkText_fn N f q = some F → Sound Tryz.prog GW B0G f F := by
  intro f q F h
  unfold ref2_checkText_fn at h
  split at h
  · cases h; exact ref2_isText_sound N
  · cases h
def ref2_checkText_h : Nat → Hint := fun i =>
  match i with
  | _ => ⟨[], [], [], [], [], []⟩
abbrev ref2_checkText_E (N : Nat) : Env := mkE ref2_checkText_h (ref2_checkText_fn N) (fun _ => false) (fun _ => false)
noncomputable def ref2_checkText_LP (N : Nat) : Nat → Code → St → (Ex → St → Option Int) → Option Int := fun i c =>
  match i with
  | i => fun st k => iter (ref2_checkText_h i) (exec (ref2_checkText_E N) N c i) N st k
theorem ref2_checkText_core (N : Nat) (x : SV [.v .str]) (y : BV []) : runL (ref2_checkText_E N) Tryz.f91 (ref2_checkText_sg fun x _ => ref2_checkText N x.1) ref2_checkText_pk (ref2_checkText_LP N) x y = ref2_checkText N x.1 := by kernel_rfl
theorem ref2_checkText_sound (N : Nat) : Sound Tryz.prog GW B0G 91 (ref2_checkText_sg fun x _ => ref2_checkText N x.1) :=
  runD_sound (mkE_ok ref2_checkText_h (ref2_checkText_fn N) _ _ (ref2_checkText_fn_ok N)) Tryz.func91 rfl Tryz.call91 (ref2_checkText_sg fun x _ => ref2_checkText N x.1) ref2_checkText_pk (fun _ _ => rfl) N (fun x y _ h => ((runL_eq (ref2_checkText_E N) N Tryz.f91 (ref2_checkText_sg fun x _ => ref2_checkText N x.1) ref2_checkText_pk (ref2_checkText_LP N) (show LoopsOk (ref2_checkText_LP N) (ref2_checkText_E N) N (resD (ref2_checkText_E N) Tryz.f91 (ref2_checkText_sg fun x _ => ref2_checkText N x.1) ref2_checkText_pk) [] from trivial) x y).trans (ref2_checkText_core N x y)).trans h)
abbrev ref2_checkCases_sg (f : SV [.v (.sl (.pr .str (.rc .value)))] → BV [] → Option (Int)) : AF := { ps := [.v (.sl (.pr .str (.rc .value)))], bs := [], rs := [.v (.int .i64)], cs := [], R := Int, out := fun z => ((z, ()), ()), f := f }
def ref2_CheckValue_L0T (_N : Nat) (r_ref2_checkCases : (List (Str × GValue)) → Option (Int)) (c35 : List Str) (c36 : Int) (k0 : Option Int) (self : Int → Option Int) (s37 : Int) : Option Int :=
  br (decide (s37 < c36))
    (bnd (geti c35 s37) fun t39 =>
    br (decide ((t39.length : Int) > (1000 : Int)))
      (some (2 : Int))
      (self (IntKind.i64.wrap (s37 + (1 : Int)))))
    (k0)
def ref2_CheckValue_L0 (N : Nat) (r_ref2_checkCases : (List (Str × GValue)) → Option (Int)) (c35 : List Str) (c36 : Int) (k0 : Option Int) : Nat → Int → Option Int
  | 0, _ => none
  | n + 1, s37 => ref2_CheckValue_L0T N r_ref2_checkCases c35 c36 k0 (ref2_CheckValue_L0 N r_ref2_checkCases c35 c36 k0 n) s37
def ref2_CheckValue_L1T (N : Nat) (r_ref2_checkCases : (List (Str × GValue)) → Option (Int)) (c50 : List Str) (c51 : Int) (k2 : Option Int) (self : Int → Option Int) (s52 : Int) : Option Int :=
  br (decide (s52 < c51))
    (bnd (geti c50 s52) fun t54 =>
    bnd (ref2_isText N t54) fun t57 =>
    br (!t57)
      (some (3 : Int))
      (self (IntKind.i64.wrap (s52 + (1 : Int)))))
    (k2)
def ref2_CheckValue_L1 (N : Nat) (r_ref2_checkCases : (List (Str × GValue)) → Option (Int)) (c50 : List Str) (c51 : Int) (k2 : Option Int) : Nat → Int → Option Int
  | 0, _ => none
  | n + 1, s52 => ref2_CheckValue_L1T N r_ref2_checkCases c50 c51 k2 (ref2_CheckValue_L1 N r_ref2_checkCases c50 c51 k2 n) s52
def ref2_CheckValue (N : Nat) (r_ref2_checkCases : (List (Str × GValue)) → Option (Int)) (x0 : GValue) : Option Int :=
  br (decide (x0.kind < (1 : Int)))
    (some (4 : Int))
    (br (decide (x0.kind > (4 : Int)))
      (some (4 : Int))
      (bnd (ref2_isPlain N (GValue.mk x0.kind x0.text x0.number x0.list x0.cases)) fun t16 =>
      br (!t16)
        (some (3 : Int))
        (br (decide ((x0.text.length : Int) > (1000 : Int)))
          (some (2 : Int))
          (br (decide ((x0.list.length : Int) > (1000 : Int)))
            (some (2 : Int))
            (br (decide ((x0.cases.length : Int) > (50 : Int)))
              (some (2 : Int))
              (ref2_CheckValue_L0 N r_ref2_checkCases x0.list (x0.list.length : Int) (bnd (ref2_isText N x0.text) fun t47 =>
                  br (!t47)
                    (some (3 : Int))
                    (ref2_CheckValue_L1 N r_ref2_checkCases x0.list (x0.list.length : Int) (bnd (ref2_within N x0.number (0 : Int) (999999999 : Int)) fun t62 =>
                        br (!t62)
                          (some (1 : Int))
                          (br (x0.kind == (4 : Int))
                            (bnd (r_ref2_checkCases x0.cases) fun t69 =>
                            some t69)
                            (some (0 : Int)))) N (0 : Int))) N (0 : Int)))))))
abbrev ref2_CheckValue_sg (f : SV [.v (.rc .value)] → BV [] → Option (Int)) : AF := { ps := [.v (.rc .value)], bs := [], rs := [.v (.int .i64)], cs := [], R := Int, out := fun z => ((z, ()), ()), f := f }
abbrev ref2_CheckValue_pk : SV [.v (.int .i64)] → BV [] → Int := fun x _ => x.1
def ref2_CheckValue_fn (N : Nat) (r_ref2_checkCases : (List (Str × GValue)) → Option (Int)) : FuncId → Option Tmp → Option AF := fun f _ =>
  match f with
    | 45 => some (ref2_isPlain_sg fun x _ => ref2_isPlain N x.1)
    | 46 => some (ref2_isText_sg fun x _ => ref2_isText N x.1)
    | 47 => some (ref2_within_sg fun x _ => ref2_within N x.1 x.2.1 x.2.2.1)
    | 48 => some (ref2_checkCases_sg fun x _ => r_ref2_checkCases x.1)
    | _ => none
theorem ref2_CheckValue_fn_ok (N : Nat) (r_ref2_checkCases : (List (Str × GValue)) → Option (Int)) (h_ref2_checkCases : Sound Tryz.prog GW B0G 48 (ref2_checkCases_sg fun x y => r_ref2_checkCases x.1)) : ∀ f q F, ref2_CheckValue_fn N r_ref2_checkCases f q = some F → Sound Tryz.prog GW B0G f F := by
  intro f q F h
  unfold ref2_CheckValue_fn at h
  split at h
  · cases h; exact ref2_isPlain_sound N
  · cases h; exact ref2_isText_sound N
  · cases h; exact ref2_within_sound N
  · cases h; exact h_ref2_checkCases
  · cases h
def ref2_CheckValue_h : Nat → Hint := fun i =>
  match i with
  | 0 => ⟨[], [1, 35, 36, 37], [1001], [1], [1001], []⟩
  | 2 => ⟨[], [1, 50, 51, 52], [1001], [1], [1001], []⟩
  | _ => ⟨[], [], [], [], [], []⟩
abbrev ref2_CheckValue_E (N : Nat) (r_ref2_checkCases : (List (Str × GValue)) → Option (Int)) : Env := mkE ref2_CheckValue_h (ref2_CheckValue_fn N r_ref2_checkCases) (fun _ => false) (fun _ => false)
abbrev ref2_CheckValue_L0_fs : List (Nat × Sl) := [(1, .box 1001 0), (35, .v (.sl .str)), (36, .v (.int .i64)), (37, .v (.int .i64))]
abbrev ref2_CheckValue_L0_bs : List (Nat × Sb) := [(1001, .cells [.v (.int .i64), .v .str, .v (.int .i64), .v (.sl .str), .v (.sl (.pr .str (.rc .value)))])]
def ref2_CheckValue_L0_hd (c35 : List Str) (c36 : Int) (c1001_0 : Int) (c1001_1 : Str) (c1001_2 : Int) (c1001_3 : List Str) (c1001_4 : List (Str × GValue)) (s37 : Int) : St := ⟨70, [(1, .box 1001 0), (35, .v (.sl .str) c35), (36, .v (.int .i64) c36), (37, .v (.int .i64) s37)], [(1001, .cells [.v (.int .i64) c1001_0, .v .str c1001_1, .v (.int .i64) c1001_2, .v (.sl .str) c1001_3, .v (.sl (.pr .str (.rc .value))) c1001_4])]⟩
def ref2_CheckValue_L0_tl0 (_c35 : List Str) (_c36 : Int) (c1001_0 : Int) (c1001_1 : Str) (c1001_2 : Int) (c1001_3 : List Str) (c1001_4 : List (Str × GValue)) : St := ⟨70, [(1, .box 1001 0)], [(1001, .cells [.v (.int .i64) c1001_0, .v .str c1001_1, .v (.int .i64) c1001_2, .v (.sl .str) c1001_3, .v (.sl (.pr .str (.rc .value))) c1001_4])]⟩
def ref2_CheckValue_L0_G (N : Nat) (r_ref2_checkCases : (List (Str × GValue)) → Option (Int)) (c35 : List Str) (c36 : Int) (c1001_0 : Int) (c1001_1 : Str) (c1001_2 : Int) (c1001_3 : List Str) (c1001_4 : List (Str × GValue)) (s37 : Int) (k : Ex → St → Option Int) : Option Int :=
  ref2_CheckValue_L0 N r_ref2_checkCases c35 c36 (k (.exit 0) (ref2_CheckValue_L0_tl0 c35 c36 c1001_0 c1001_1 c1001_2 c1001_3 c1001_4)) N s37
abbrev ref2_CheckValue_L0_F (N : Nat) (r_ref2_checkCases : (List (Str × GValue)) → Option (Int)) : FV ref2_CheckValue_L0_fs → HV ref2_CheckValue_L0_bs → (Ex → St → Option Int) → Option Int := fun x y k => ref2_CheckValue_L0_G N r_ref2_checkCases x.2.1 x.2.2.1 y.1.1 y.1.2.1 y.1.2.2.1 y.1.2.2.2.1 y.1.2.2.2.2.1 x.2.2.2.1 k
abbrev ref2_CheckValue_L1_fs : List (Nat × Sl) := [(1, .box 1001 0), (50, .v (.sl .str)), (51, .v (.int .i64)), (52, .v (.int .i64))]
abbrev ref2_CheckValue_L1_bs : List (Nat × Sb) := [(1001, .cells [.v (.int .i64), .v .str, .v (.int .i64), .v (.sl .str), .v (.sl (.pr .str (.rc .value)))])]
def ref2_CheckValue_L1_hd (c50 : List Str) (c51 : Int) (c1001_0_1 : Int) (c1001_1_2 : Str) (c1001_2_3 : Int) (c1001_3_4 : List Str) (c1001_4_5 : List (Str × GValue)) (s52 : Int) : St := ⟨70, [(1, .box 1001 0), (50, .v (.sl .str) c50), (51, .v (.int .i64) c51), (52, .v (.int .i64) s52)], [(1001, .cells [.v (.int .i64) c1001_0_1, .v .str c1001_1_2, .v (.int .i64) c1001_2_3, .v (.sl .str) c1001_3_4, .v (.sl (.pr .str (.rc .value))) c1001_4_5])]⟩
def ref2_CheckValue_L1_tl2 (_c50 : List Str) (_c51 : Int) (c1001_0_1 : Int) (c1001_1_2 : Str) (c1001_2_3 : Int) (c1001_3_4 : List Str) (c1001_4_5 : List (Str × GValue)) : St := ⟨70, [(1, .box 1001 0)], [(1001, .cells [.v (.int .i64) c1001_0_1, .v .str c1001_1_2, .v (.int .i64) c1001_2_3, .v (.sl .str) c1001_3_4, .v (.sl (.pr .str (.rc .value))) c1001_4_5])]⟩
def ref2_CheckValue_L1_G (N : Nat) (r_ref2_checkCases : (List (Str × GValue)) → Option (Int)) (c50 : List Str) (c51 : Int) (c1001_0_1 : Int) (c1001_1_2 : Str) (c1001_2_3 : Int) (c1001_3_4 : List Str) (c1001_4_5 : List (Str × GValue)) (s52 : Int) (k : Ex → St → Option Int) : Option Int :=
  ref2_CheckValue_L1 N r_ref2_checkCases c50 c51 (k (.exit 2) (ref2_CheckValue_L1_tl2 c50 c51 c1001_0_1 c1001_1_2 c1001_2_3 c1001_3_4 c1001_4_5)) N s52
abbrev ref2_CheckValue_L1_F (N : Nat) (r_ref2_checkCases : (List (Str × GValue)) → Option (Int)) : FV ref2_CheckValue_L1_fs → HV ref2_CheckValue_L1_bs → (Ex → St → Option Int) → Option Int := fun x y k => ref2_CheckValue_L1_G N r_ref2_checkCases x.2.1 x.2.2.1 y.1.1 y.1.2.1 y.1.2.2.1 y.1.2.2.2.1 y.1.2.2.2.2.1 x.2.2.2.1 k
noncomputable def ref2_CheckValue_LP (N : Nat) (r_ref2_checkCases : (List (Str × GValue)) → Option (Int)) : Nat → Code → St → (Ex → St → Option Int) → Option Int := fun i c =>
  match i with
  | 0 => (LPc 70 ref2_CheckValue_L0_fs ref2_CheckValue_L0_bs (ref2_CheckValue_L0_F N r_ref2_checkCases) (fun st k => iter (ref2_CheckValue_h 0) (exec (ref2_CheckValue_E N r_ref2_checkCases) N c 0) N st k))
  | 2 => (LPc 70 ref2_CheckValue_L1_fs ref2_CheckValue_L1_bs (ref2_CheckValue_L1_F N r_ref2_checkCases) (fun st k => iter (ref2_CheckValue_h 2) (exec (ref2_CheckValue_E N r_ref2_checkCases) N c 2) N st k))
  | i => fun st k => iter (ref2_CheckValue_h i) (exec (ref2_CheckValue_E N r_ref2_checkCases) N c i) N st k
theorem ref2_CheckValue_L1_step (N : Nat) (r_ref2_checkCases : (List (Str × GValue)) → Option (Int)) (c50 : List Str) (c51 : Int) (c1001_0_1 : Int) (c1001_1_2 : Str) (c1001_2_3 : Int) (c1001_3_4 : List Str) (c1001_4_5 : List (Str × GValue)) (KX : Nat → St → Option Int) (I : St → Option Int) (s52 : Int) :
    execL (ref2_CheckValue_LP N r_ref2_checkCases) (ref2_CheckValue_E N r_ref2_checkCases) (cAt (bodyOf Tryz.f15) [true, true, true, true, true, true, false, true, false, false]) 2 (ref2_CheckValue_L1_hd c50 c51 c1001_0_1 c1001_1_2 c1001_2_3 c1001_3_4 c1001_4_5 s52) (roundK (ref2_CheckValue_h 2) I KX (resD (ref2_CheckValue_E N r_ref2_checkCases) Tryz.f15 (ref2_CheckValue_sg fun x _ => ref2_CheckValue N r_ref2_checkCases x.1) ref2_CheckValue_pk)) = ref2_CheckValue_L1T N r_ref2_checkCases c50 c51 (KX 2 (ref2_CheckValue_L1_tl2 c50 c51 c1001_0_1 c1001_1_2 c1001_2_3 c1001_3_4 c1001_4_5)) (fun s52 => I (ref2_CheckValue_L1_hd c50 c51 c1001_0_1 c1001_1_2 c1001_2_3 c1001_3_4 c1001_4_5 s52)) s52 := by kernel_rfl
theorem ref2_CheckValue_L1_ok (N : Nat) (r_ref2_checkCases : (List (Str × GValue)) → Option (Int)) : ∀ x y k, (∀ st, k .ret st = (resD (ref2_CheckValue_E N r_ref2_checkCases) Tryz.f15 (ref2_CheckValue_sg fun x _ => ref2_CheckValue N r_ref2_checkCases x.1) ref2_CheckValue_pk) st) → iter (ref2_CheckValue_h 2) (exec (ref2_CheckValue_E N r_ref2_checkCases) N (cAt (bodyOf Tryz.f15) [true, true, true, true, true, true, false, true, false, false]) 2) N ⟨70, unF ref2_CheckValue_L1_fs x, unH ref2_CheckValue_L1_bs y⟩ k = ref2_CheckValue_L1_F N r_ref2_checkCases x y k := fun x y k hk =>
  iter_link (S := (Int) × Unit) (ref2_CheckValue_h 2) _ (execL (ref2_CheckValue_LP N r_ref2_checkCases) (ref2_CheckValue_E N r_ref2_checkCases) (cAt (bodyOf Tryz.f15) [true, true, true, true, true, true, false, true, false, false]) 2) (resD (ref2_CheckValue_E N r_ref2_checkCases) Tryz.f15 (ref2_CheckValue_sg fun x _ => ref2_CheckValue N r_ref2_checkCases x.1) ref2_CheckValue_pk) (fun st k hk => execL_eq _ _ N _ (cAt (bodyOf Tryz.f15) [true, true, true, true, true, true, false, true, false, false]) 2 (show LoopsOk (ref2_CheckValue_LP N r_ref2_checkCases) (ref2_CheckValue_E N r_ref2_checkCases) N (resD (ref2_CheckValue_E N r_ref2_checkCases) Tryz.f15 (ref2_CheckValue_sg fun x _ => ref2_CheckValue N r_ref2_checkCases x.1) ref2_CheckValue_pk) [] from trivial) st k hk) (fun s => ref2_CheckValue_L1_hd x.2.1 x.2.2.1 y.1.1 y.1.2.1 y.1.2.2.1 y.1.2.2.2.1 y.1.2.2.2.2.1 s.1) k hk
    (fun self s => ref2_CheckValue_L1T N r_ref2_checkCases x.2.1 x.2.2.1 (k (.exit 2) (ref2_CheckValue_L1_tl2 x.2.1 x.2.2.1 y.1.1 y.1.2.1 y.1.2.2.1 y.1.2.2.2.1 y.1.2.2.2.2.1)) (fun s52 => self (s52, ())) s.1) (fun n s => ref2_CheckValue_L1 N r_ref2_checkCases x.2.1 x.2.2.1 (k (.exit 2) (ref2_CheckValue_L1_tl2 x.2.1 x.2.2.1 y.1.1 y.1.2.1 y.1.2.2.1 y.1.2.2.2.1 y.1.2.2.2.2.1)) n s.1) (fun _ => rfl) (fun _ _ => rfl)
    (fun I s => ref2_CheckValue_L1_step N r_ref2_checkCases x.2.1 x.2.2.1 y.1.1 y.1.2.1 y.1.2.2.1 y.1.2.2.2.1 y.1.2.2.2.2.1 (fun j => k (.exit j)) I s.1) N (x.2.2.2.1, ())
theorem ref2_CheckValue_lp2 (N : Nat) (r_ref2_checkCases : (List (Str × GValue)) → Option (Int)) : ∀ st k, (∀ st, k .ret st = (resD (ref2_CheckValue_E N r_ref2_checkCases) Tryz.f15 (ref2_CheckValue_sg fun x _ => ref2_CheckValue N r_ref2_checkCases x.1) ref2_CheckValue_pk) st) → ref2_CheckValue_LP N r_ref2_checkCases 2 (cAt (bodyOf Tryz.f15) [true, true, true, true, true, true, false, true, false, false]) st k = iter (Env.hint (ref2_CheckValue_E N r_ref2_checkCases) 2) (exec (ref2_CheckValue_E N r_ref2_checkCases) N (cAt (bodyOf Tryz.f15) [true, true, true, true, true, true, false, true, false, false]) 2) N st k := fun st k hk => LPc_eq 70 ref2_CheckValue_L1_fs ref2_CheckValue_L1_bs _ _ (resD (ref2_CheckValue_E N r_ref2_checkCases) Tryz.f15 (ref2_CheckValue_sg fun x _ => ref2_CheckValue N r_ref2_checkCases x.1) ref2_CheckValue_pk) (ref2_CheckValue_L1_ok N r_ref2_checkCases) _ st k hk (rfl)
theorem ref2_CheckValue_L0_step (N : Nat) (r_ref2_checkCases : (List (Str × GValue)) → Option (Int)) (c35 : List Str) (c36 : Int) (c1001_0 : Int) (c1001_1 : Str) (c1001_2 : Int) (c1001_3 : List Str) (c1001_4 : List (Str × GValue)) (KX : Nat → St → Option Int) (I : St → Option Int) (s37 : Int) :
    execL (ref2_CheckValue_LP N r_ref2_checkCases) (ref2_CheckValue_E N r_ref2_checkCases) (cAt (bodyOf Tryz.f15) [true, true, true, true, false, true, false, false]) 0 (ref2_CheckValue_L0_hd c35 c36 c1001_0 c1001_1 c1001_2 c1001_3 c1001_4 s37) (roundK (ref2_CheckValue_h 0) I KX (resD (ref2_CheckValue_E N r_ref2_checkCases) Tryz.f15 (ref2_CheckValue_sg fun x _ => ref2_CheckValue N r_ref2_checkCases x.1) ref2_CheckValue_pk)) = ref2_CheckValue_L0T N r_ref2_checkCases c35 c36 (KX 0 (ref2_CheckValue_L0_tl0 c35 c36 c1001_0 c1001_1 c1001_2 c1001_3 c1001_4)) (fun s37 => I (ref2_CheckValue_L0_hd c35 c36 c1001_0 c1001_1 c1001_2 c1001_3 c1001_4 s37)) s37 := by kernel_rfl
theorem ref2_CheckValue_L0_ok (N : Nat) (r_ref2_checkCases : (List (Str × GValue)) → Option (Int)) : ∀ x y k, (∀ st, k .ret st = (resD (ref2_CheckValue_E N r_ref2_checkCases) Tryz.f15 (ref2_CheckValue_sg fun x _ => ref2_CheckValue N r_ref2_checkCases x.1) ref2_CheckValue_pk) st) → iter (ref2_CheckValue_h 0) (exec (ref2_CheckValue_E N r_ref2_checkCases) N (cAt (bodyOf Tryz.f15) [true, true, true, true, false, true, false, false]) 0) N ⟨70, unF ref2_CheckValue_L0_fs x, unH ref2_CheckValue_L0_bs y⟩ k = ref2_CheckValue_L0_F N r_ref2_checkCases x y k := fun x y k hk =>
  iter_link (S := (Int) × Unit) (ref2_CheckValue_h 0) _ (execL (ref2_CheckValue_LP N r_ref2_checkCases) (ref2_CheckValue_E N r_ref2_checkCases) (cAt (bodyOf Tryz.f15) [true, true, true, true, false, true, false, false]) 0) (resD (ref2_CheckValue_E N r_ref2_checkCases) Tryz.f15 (ref2_CheckValue_sg fun x _ => ref2_CheckValue N r_ref2_checkCases x.1) ref2_CheckValue_pk) (fun st k hk => execL_eq _ _ N _ (cAt (bodyOf Tryz.f15) [true, true, true, true, false, true, false, false]) 0 (show LoopsOk (ref2_CheckValue_LP N r_ref2_checkCases) (ref2_CheckValue_E N r_ref2_checkCases) N (resD (ref2_CheckValue_E N r_ref2_checkCases) Tryz.f15 (ref2_CheckValue_sg fun x _ => ref2_CheckValue N r_ref2_checkCases x.1) ref2_CheckValue_pk) [] from trivial) st k hk) (fun s => ref2_CheckValue_L0_hd x.2.1 x.2.2.1 y.1.1 y.1.2.1 y.1.2.2.1 y.1.2.2.2.1 y.1.2.2.2.2.1 s.1) k hk
    (fun self s => ref2_CheckValue_L0T N r_ref2_checkCases x.2.1 x.2.2.1 (k (.exit 0) (ref2_CheckValue_L0_tl0 x.2.1 x.2.2.1 y.1.1 y.1.2.1 y.1.2.2.1 y.1.2.2.2.1 y.1.2.2.2.2.1)) (fun s37 => self (s37, ())) s.1) (fun n s => ref2_CheckValue_L0 N r_ref2_checkCases x.2.1 x.2.2.1 (k (.exit 0) (ref2_CheckValue_L0_tl0 x.2.1 x.2.2.1 y.1.1 y.1.2.1 y.1.2.2.1 y.1.2.2.2.1 y.1.2.2.2.2.1)) n s.1) (fun _ => rfl) (fun _ _ => rfl)
    (fun I s => ref2_CheckValue_L0_step N r_ref2_checkCases x.2.1 x.2.2.1 y.1.1 y.1.2.1 y.1.2.2.1 y.1.2.2.2.1 y.1.2.2.2.2.1 (fun j => k (.exit j)) I s.1) N (x.2.2.2.1, ())
theorem ref2_CheckValue_lp0 (N : Nat) (r_ref2_checkCases : (List (Str × GValue)) → Option (Int)) : ∀ st k, (∀ st, k .ret st = (resD (ref2_CheckValue_E N r_ref2_checkCases) Tryz.f15 (ref2_CheckValue_sg fun x _ => ref2_CheckValue N r_ref2_checkCases x.1) ref2_CheckValue_pk) st) → ref2_CheckValue_LP N r_ref2_checkCases 0 (cAt (bodyOf Tryz.f15) [true, true, true, true, false, true, false, false]) st k = iter (Env.hint (ref2_CheckValue_E N r_ref2_checkCases) 0) (exec (ref2_CheckValue_E N r_ref2_checkCases) N (cAt (bodyOf Tryz.f15) [true, true, true, true, false, true, false, false]) 0) N st k := fun st k hk => LPc_eq 70 ref2_CheckValue_L0_fs ref2_CheckValue_L0_bs _ _ (resD (ref2_CheckValue_E N r_ref2_checkCases) Tryz.f15 (ref2_CheckValue_sg fun x _ => ref2_CheckValue N r_ref2_checkCases x.1) ref2_CheckValue_pk) (ref2_CheckValue_L0_ok N r_ref2_checkCases) _ st k hk (rfl)
theorem ref2_CheckValue_core (N : Nat) (r_ref2_checkCases : (List (Str × GValue)) → Option (Int)) (x : SV [.v (.rc .value)]) (y : BV []) : runL (ref2_CheckValue_E N r_ref2_checkCases) Tryz.f15 (ref2_CheckValue_sg fun x _ => ref2_CheckValue N r_ref2_checkCases x.1) ref2_CheckValue_pk (ref2_CheckValue_LP N r_ref2_checkCases) x y = ref2_CheckValue N r_ref2_checkCases x.1 := by kernel_rfl
theorem ref2_CheckValue_sound (N : Nat) (r_ref2_checkCases : (List (Str × GValue)) → Option (Int)) (h_ref2_checkCases : Sound Tryz.prog GW B0G 48 (ref2_checkCases_sg fun x y => r_ref2_checkCases x.1)) : Sound Tryz.prog GW B0G 15 (ref2_CheckValue_sg fun x _ => ref2_CheckValue N r_ref2_checkCases x.1) :=
  runD_sound (mkE_ok ref2_CheckValue_h (ref2_CheckValue_fn N r_ref2_checkCases) _ _ (ref2_CheckValue_fn_ok N r_ref2_checkCases h_ref2_checkCases)) Tryz.func15 rfl Tryz.call15 (ref2_CheckValue_sg fun x _ => ref2_CheckValue N r_ref2_checkCases x.1) ref2_CheckValue_pk (fun _ _ => rfl) N (fun x y _ h => ((runL_eq (ref2_CheckValue_E N r_ref2_checkCases) N Tryz.f15 (ref2_CheckValue_sg fun x _ => ref2_CheckValue N r_ref2_checkCases x.1) ref2_CheckValue_pk (ref2_CheckValue_LP N r_ref2_checkCases) (show LoopsOk (ref2_CheckValue_LP N r_ref2_checkCases) (ref2_CheckValue_E N r_ref2_checkCases) N (resD (ref2_CheckValue_E N r_ref2_checkCases) Tryz.f15 (ref2_CheckValue_sg fun x _ => ref2_CheckValue N r_ref2_checkCases x.1) ref2_CheckValue_pk) [(0, (cAt (bodyOf Tryz.f15) [true, true, true, true, false, true, false, false])), (2, (cAt (bodyOf Tryz.f15) [true, true, true, true, true, true, false, true, false, false]))] from ⟨ref2_CheckValue_lp0 N r_ref2_checkCases, ref2_CheckValue_lp2 N r_ref2_checkCases, trivial⟩) x y).trans (ref2_CheckValue_core N r_ref2_checkCases x y)).trans h)
end
end Go.Proofs.YtahjncefiegflaaGreatDoor

