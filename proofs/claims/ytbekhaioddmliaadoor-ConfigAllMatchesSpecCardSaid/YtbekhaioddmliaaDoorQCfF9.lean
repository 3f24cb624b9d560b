/- What functions of the program compute, as plain functions (printed). -/
import Derived.Test.YtbekhaioddmliaaDoorQCfF8
namespace Go.Proofs.YtbekhaioddmliaaDoor
open Go Go.RowKit
set_option maxRecDepth 100000
set_option linter.unusedVariables false
noncomputable section
def ref3_all_L2T (N : Nat) (x0 : List (Str × List Str)) (t24 : Str) (t43 : List (Str × Str)) (c1011_1 : List Str) (c47 : Int) (k4 : (List (List (Str × Str))) → Option (List (List (Str × Str)) × Bool)) (self : Int → (List (List (Str × Str))) → Option (List (List (Str × Str)) × Bool)) (s48 : Int) (w1013_2 : List (List (Str × Str))) : Option (List (List (Str × Str)) × Bool) :=
  br (decide (s48 < c47))
    (bnd (geti c1011_1 s48) fun t50 =>
    bnd (ref3_with N x0 t43 t24 t50) fun t57 =>
    br (decide ((w1013_2.length + [t57].length) * (24 * Ty.sz (.sl (.pr .str .str))) ≤ 140737488355328))
      (self (IntKind.i64.wrap (s48 + (1 : Int))) (w1013_2 ++ [t57]))
      none)
    (k4 w1013_2)
def ref3_all_L2 (N : Nat) (x0 : List (Str × List Str)) (t24 : Str) (t43 : List (Str × Str)) (c1011_1 : List Str) (c47 : Int) (k4 : (List (List (Str × Str))) → Option (List (List (Str × Str)) × Bool)) : Nat → Int → (List (List (Str × Str))) → Option (List (List (Str × Str)) × Bool)
  | 0, _, _ => none
  | n + 1, s48, w1013_2 => ref3_all_L2T N x0 t24 t43 c1011_1 c47 k4 (ref3_all_L2 N x0 t24 t43 c1011_1 c47 k4 n) s48 w1013_2
def ref3_all_L1T (N : Nat) (x0 : List (Str × List Str)) (t24 : Str) (s8 : List (List (Str × Str))) (c40 : Int) (c1011_1 : List Str) (k2 : (List (List (Str × Str))) → Option (List (List (Str × Str)) × Bool)) (self : Int → (List (List (Str × Str))) → Option (List (List (Str × Str)) × Bool)) (s41 : Int) (w1013 : List (List (Str × Str))) : Option (List (List (Str × Str)) × Bool) :=
  br (decide (s41 < c40))
    (bnd (geti s8 s41) fun t43 =>
    ref3_all_L2 N x0 t24 t43 c1011_1 (c1011_1.length : Int) (fun o2_w1013 =>
        self (IntKind.i64.wrap (s41 + (1 : Int))) o2_w1013) N (0 : Int) w1013)
    (k2 w1013)
def ref3_all_L1 (N : Nat) (x0 : List (Str × List Str)) (t24 : Str) (s8 : List (List (Str × Str))) (c40 : Int) (c1011_1 : List Str) (k2 : (List (List (Str × Str))) → Option (List (List (Str × Str)) × Bool)) : Nat → Int → (List (List (Str × Str))) → Option (List (List (Str × Str)) × Bool)
  | 0, _, _ => none
  | n + 1, s41, w1013 => ref3_all_L1T N x0 t24 s8 c40 c1011_1 k2 (ref3_all_L1 N x0 t24 s8 c40 c1011_1 k2 n) s41 w1013
def ref3_all_L0T (N : Nat) (x0 : List (Str × List Str)) (x2 : List Str) (c21 : Int) (k0 : (List (List (Str × Str))) → Option (List (List (Str × Str)) × Bool)) (self : (List (List (Str × Str))) → Int → Option (List (List (Str × Str)) × Bool)) (s8 : List (List (Str × Str))) (s22 : Int) : Option (List (List (Str × Str)) × Bool) :=
  br (decide (s22 < c21))
    (bnd (geti x2 s22) fun t24 =>
    bnd (ref3_settingOf N x0 t24) fun t29 =>
    br (decide ((IntKind.i64.wrap ((s8.length : Int) * (t29.1.2.length : Int))) > (1000 : Int)))
      (some (([] : List (List (Str × Str))), false))
      (ref3_all_L1 N x0 t24 s8 (s8.length : Int) t29.1.2 (fun o1_w1013 =>
          self o1_w1013 (IntKind.i64.wrap (s22 + (1 : Int)))) N (0 : Int) ([] : List (List (Str × Str)))))
    (k0 s8)
def ref3_all_L0 (N : Nat) (x0 : List (Str × List Str)) (x2 : List Str) (c21 : Int) (k0 : (List (List (Str × Str))) → Option (List (List (Str × Str)) × Bool)) : Nat → (List (List (Str × Str))) → Int → Option (List (List (Str × Str)) × Bool)
  | 0, _, _ => none
  | n + 1, s8, s22 => ref3_all_L0T N x0 x2 c21 k0 (ref3_all_L0 N x0 x2 c21 k0 n) s8 s22
def ref3_all (N : Nat) (x0 : List (Str × List Str)) (x1 : List (Str × Str)) (x2 : List Str) : Option (List (List (Str × Str)) × Bool) :=
  ref3_all_L0 N x0 x2 (x2.length : Int) (fun o0_8 =>
      some (o0_8, true)) N [x1] (0 : Int)
abbrev ref3_all_sg (f : SV [.v (.sl (.pr .str (.sl .str))), .v (.sl (.pr .str .str)), .v (.sl .str)] → BV [] → Option (List (List (Str × Str)) × Bool)) : AF := { ps := [.v (.sl (.pr .str (.sl .str))), .v (.sl (.pr .str .str)), .v (.sl .str)], bs := [], rs := [.v (.sl (.sl (.pr .str .str))), .v .bool], cs := [], R := List (List (Str × Str)) × Bool, out := fun z => ((z.1, z.2, ()), ()), f := f }
abbrev ref3_all_pk : SV [.v (.sl (.sl (.pr .str .str))), .v .bool] → BV [] → (List (List (Str × Str)) × Bool) := fun x _ => (x.1, x.2.1)
def ref3_all_fn (N : Nat) : FuncId → Option Tmp → Option AF := fun f _ =>
  match f with
    | 51 => some (ref3_settingOf_sg fun x _ => ref3_settingOf N x.1 x.2.1)
    | 76 => some (ref3_with_sg fun x _ => ref3_with N x.1 x.2.1 x.2.2.1 x.2.2.2.1)
    | _ => none
theorem ref3_all_fn_ok (N : Nat) : ∀ f q F, ref3_all_fn N f q = some F → Sound Tryd.prog GW B0G f F := by
  intro f q F h
  unfold ref3_all_fn at h
  split at h
  · cases h; exact ref3_settingOf_sound N
  · cases h; exact ref3_with_sound N
  · cases h
def ref3_all_h : Nat → Hint := fun i =>
  match i with
  | 0 => ⟨[8], [0, 8, 20, 21, 22], [], [8], []⟩
  | 2 => ⟨[], [0, 10, 11, 13, 20, 21, 22, 39, 40, 41], [1011, 1013], [0, 13, 20, 21, 22], [1013]⟩
  | 4 => ⟨[], [0, 10, 11, 13, 15, 20, 21, 22, 39, 40, 41, 46, 47, 48], [1011, 1013], [0, 10, 11, 13, 20, 21, 22, 39, 40, 41], [1011, 1013]⟩
  | _ => ⟨[], [], [], [], []⟩
abbrev ref3_all_E (N : Nat) : Env := mkE ref3_all_h (ref3_all_fn N) (fun _ => false) (fun _ => false)
abbrev ref3_all_L2_fs : List (Nat × Sl) := [(0, .v (.sl (.pr .str (.sl .str)))), (10, .v .str), (11, .box 1011 0), (13, .row 1013), (15, .v (.sl (.pr .str .str))), (20, .v (.sl .str)), (21, .v (.int .i64)), (22, .v (.int .i64)), (39, .v (.sl (.sl (.pr .str .str)))), (40, .v (.int .i64)), (41, .v (.int .i64)), (46, .v (.sl .str)), (47, .v (.int .i64)), (48, .v (.int .i64))]
abbrev ref3_all_L2_bs : List (Nat × Sb) := [(1011, .cells [.v .str, .v (.sl .str)]), (1013, .row 23 (.sl (.pr .str .str)) false)]
def ref3_all_L2_hd (x0 : List (Str × List Str)) (t24 : Str) (t43 : List (Str × Str)) (x2 : List Str) (c21 : Int) (s22 : Int) (s8 : List (List (Str × Str))) (c40 : Int) (s41 : Int) (c1011_1 : List Str) (c47 : Int) (c1011_0 : Str) (c1011_1_1 : List Str) (s48 : Int) (w1013_2 : List (List (Str × Str))) : St := ⟨65, [(0, .v (.sl (.pr .str (.sl .str))) x0), (10, .v .str t24), (11, .box 1011 0), (13, .row 1013), (15, .v (.sl (.pr .str .str)) t43), (20, .v (.sl .str) x2), (21, .v (.int .i64) c21), (22, .v (.int .i64) s22), (39, .v (.sl (.sl (.pr .str .str))) s8), (40, .v (.int .i64) c40), (41, .v (.int .i64) s41), (46, .v (.sl .str) c1011_1), (47, .v (.int .i64) c47), (48, .v (.int .i64) s48)], [(1011, .cells [.v .str c1011_0, .v (.sl .str) c1011_1_1]), (1013, .row 23 (.sl (.pr .str .str)) false w1013_2)]⟩
def ref3_all_L2_tl4 (x0 : List (Str × List Str)) (t24 : Str) (_t43 : List (Str × Str)) (x2 : List Str) (c21 : Int) (s22 : Int) (s8 : List (List (Str × Str))) (c40 : Int) (s41 : Int) (_c1011_1 : List Str) (_c47 : Int) (c1011_0 : Str) (c1011_1_1 : List Str) (o2_w1013 : List (List (Str × Str))) : St := ⟨65, [(0, .v (.sl (.pr .str (.sl .str))) x0), (10, .v .str t24), (11, .box 1011 0), (13, .row 1013), (20, .v (.sl .str) x2), (21, .v (.int .i64) c21), (22, .v (.int .i64) s22), (39, .v (.sl (.sl (.pr .str .str))) s8), (40, .v (.int .i64) c40), (41, .v (.int .i64) s41)], [(1011, .cells [.v .str c1011_0, .v (.sl .str) c1011_1_1]), (1013, .row 23 (.sl (.pr .str .str)) false o2_w1013)]⟩
def ref3_all_L2_G (N : Nat) (x0 : List (Str × List Str)) (t24 : Str) (t43 : List (Str × Str)) (x2 : List Str) (c21 : Int) (s22 : Int) (s8 : List (List (Str × Str))) (c40 : Int) (s41 : Int) (c1011_1 : List Str) (c47 : Int) (c1011_0 : Str) (c1011_1_1 : List Str) (s48 : Int) (w1013_2 : List (List (Str × Str))) (k : Ex → St → Option (List (List (Str × Str)) × Bool)) : Option (List (List (Str × Str)) × Bool) :=
  ref3_all_L2 N x0 t24 t43 c1011_1 c47 (fun o2_w1013 => k (.exit 4) (ref3_all_L2_tl4 x0 t24 t43 x2 c21 s22 s8 c40 s41 c1011_1 c47 c1011_0 c1011_1_1 o2_w1013)) N s48 w1013_2
abbrev ref3_all_L2_F (N : Nat) : FV ref3_all_L2_fs → HV ref3_all_L2_bs → (Ex → St → Option (List (List (Str × Str)) × Bool)) → Option (List (List (Str × Str)) × Bool) := fun x y k => ref3_all_L2_G N x.1 x.2.1 x.2.2.2.2.1 x.2.2.2.2.2.1 x.2.2.2.2.2.2.1 x.2.2.2.2.2.2.2.1 x.2.2.2.2.2.2.2.2.1 x.2.2.2.2.2.2.2.2.2.1 x.2.2.2.2.2.2.2.2.2.2.1 x.2.2.2.2.2.2.2.2.2.2.2.1 x.2.2.2.2.2.2.2.2.2.2.2.2.1 y.1.1 y.1.2.1 x.2.2.2.2.2.2.2.2.2.2.2.2.2.1 y.2.1 k
abbrev ref3_all_L1_fs : List (Nat × Sl) := [(0, .v (.sl (.pr .str (.sl .str)))), (10, .v .str), (11, .box 1011 0), (13, .row 1013), (20, .v (.sl .str)), (21, .v (.int .i64)), (22, .v (.int .i64)), (39, .v (.sl (.sl (.pr .str .str)))), (40, .v (.int .i64)), (41, .v (.int .i64))]
abbrev ref3_all_L1_bs : List (Nat × Sb) := [(1011, .cells [.v .str, .v (.sl .str)]), (1013, .row 23 (.sl (.pr .str .str)) false)]
def ref3_all_L1_hd (x0 : List (Str × List Str)) (t24 : Str) (x2 : List Str) (c21 : Int) (s22 : Int) (s8 : List (List (Str × Str))) (c40 : Int) (c1011_0 : Str) (c1011_1 : List Str) (s41 : Int) (w1013 : List (List (Str × Str))) : St := ⟨65, [(0, .v (.sl (.pr .str (.sl .str))) x0), (10, .v .str t24), (11, .box 1011 0), (13, .row 1013), (20, .v (.sl .str) x2), (21, .v (.int .i64) c21), (22, .v (.int .i64) s22), (39, .v (.sl (.sl (.pr .str .str))) s8), (40, .v (.int .i64) c40), (41, .v (.int .i64) s41)], [(1011, .cells [.v .str c1011_0, .v (.sl .str) c1011_1]), (1013, .row 23 (.sl (.pr .str .str)) false w1013)]⟩
def ref3_all_L1_tl2 (x0 : List (Str × List Str)) (_t24 : Str) (x2 : List Str) (c21 : Int) (s22 : Int) (_s8 : List (List (Str × Str))) (_c40 : Int) (_c1011_0 : Str) (_c1011_1 : List Str) (o1_w1013 : List (List (Str × Str))) : St := ⟨65, [(0, .v (.sl (.pr .str (.sl .str))) x0), (13, .row 1013), (20, .v (.sl .str) x2), (21, .v (.int .i64) c21), (22, .v (.int .i64) s22)], [(1013, .row 23 (.sl (.pr .str .str)) false o1_w1013)]⟩
def ref3_all_L1_G (N : Nat) (x0 : List (Str × List Str)) (t24 : Str) (x2 : List Str) (c21 : Int) (s22 : Int) (s8 : List (List (Str × Str))) (c40 : Int) (c1011_0 : Str) (c1011_1 : List Str) (s41 : Int) (w1013 : List (List (Str × Str))) (k : Ex → St → Option (List (List (Str × Str)) × Bool)) : Option (List (List (Str × Str)) × Bool) :=
  ref3_all_L1 N x0 t24 s8 c40 c1011_1 (fun o1_w1013 => k (.exit 2) (ref3_all_L1_tl2 x0 t24 x2 c21 s22 s8 c40 c1011_0 c1011_1 o1_w1013)) N s41 w1013
abbrev ref3_all_L1_F (N : Nat) : FV ref3_all_L1_fs → HV ref3_all_L1_bs → (Ex → St → Option (List (List (Str × Str)) × Bool)) → Option (List (List (Str × Str)) × Bool) := fun x y k => ref3_all_L1_G N x.1 x.2.1 x.2.2.2.2.1 x.2.2.2.2.2.1 x.2.2.2.2.2.2.1 x.2.2.2.2.2.2.2.1 x.2.2.2.2.2.2.2.2.1 y.1.1 y.1.2.1 x.2.2.2.2.2.2.2.2.2.1 y.2.1 k
abbrev ref3_all_L0_fs : List (Nat × Sl) := [(0, .v (.sl (.pr .str (.sl .str)))), (8, .v (.sl (.sl (.pr .str .str)))), (20, .v (.sl .str)), (21, .v (.int .i64)), (22, .v (.int .i64))]
abbrev ref3_all_L0_bs : List (Nat × Sb) := []
def ref3_all_L0_hd (x0 : List (Str × List Str)) (x2 : List Str) (c21 : Int) (s8 : List (List (Str × Str))) (s22 : Int) : St := ⟨65, [(0, .v (.sl (.pr .str (.sl .str))) x0), (8, .v (.sl (.sl (.pr .str .str))) s8), (20, .v (.sl .str) x2), (21, .v (.int .i64) c21), (22, .v (.int .i64) s22)], []⟩
def ref3_all_L0_tl0 (_x0 : List (Str × List Str)) (_x2 : List Str) (_c21 : Int) (o0_8 : List (List (Str × Str))) : St := ⟨65, [(8, .v (.sl (.sl (.pr .str .str))) o0_8)], []⟩
def ref3_all_L0_G (N : Nat) (x0 : List (Str × List Str)) (x2 : List Str) (c21 : Int) (s8 : List (List (Str × Str))) (s22 : Int) (k : Ex → St → Option (List (List (Str × Str)) × Bool)) : Option (List (List (Str × Str)) × Bool) :=
  ref3_all_L0 N x0 x2 c21 (fun o0_8 => k (.exit 0) (ref3_all_L0_tl0 x0 x2 c21 o0_8)) N s8 s22
abbrev ref3_all_L0_F (N : Nat) : FV ref3_all_L0_fs → HV ref3_all_L0_bs → (Ex → St → Option (List (List (Str × Str)) × Bool)) → Option (List (List (Str × Str)) × Bool) := fun x _ k => ref3_all_L0_G N x.1 x.2.2.1 x.2.2.2.1 x.2.1 x.2.2.2.2.1 k
noncomputable def ref3_all_LP (N : Nat) : Nat → Code → St → (Ex → St → Option (List (List (Str × Str)) × Bool)) → Option (List (List (Str × Str)) × Bool) := fun i c =>
  match i with
  | 0 => (LPc 65 ref3_all_L0_fs ref3_all_L0_bs (ref3_all_L0_F N) (fun st k => iter (ref3_all_h 0) (exec (ref3_all_E N) N c 0) N st k))
  | 2 => (LPc 65 ref3_all_L1_fs ref3_all_L1_bs (ref3_all_L1_F N) (fun st k => iter (ref3_all_h 2) (exec (ref3_all_E N) N c 2) N st k))
  | 4 => (LPc 65 ref3_all_L2_fs ref3_all_L2_bs (ref3_all_L2_F N) (fun st k => iter (ref3_all_h 4) (exec (ref3_all_E N) N c 4) N st k))
  | i => fun st k => iter (ref3_all_h i) (exec (ref3_all_E N) N c i) N st k
theorem ref3_all_L2_step (N : Nat) (x0 : List (Str × List Str)) (t24 : Str) (t43 : List (Str × Str)) (x2 : List Str) (c21 : Int) (s22 : Int) (s8 : List (List (Str × Str))) (c40 : Int) (s41 : Int) (c1011_1 : List Str) (c47 : Int) (c1011_0 : Str) (c1011_1_1 : List Str) (KX : Nat → St → Option (List (List (Str × Str)) × Bool)) (I : St → Option (List (List (Str × Str)) × Bool)) (s48 : Int) (w1013_2 : List (List (Str × Str))) :
    execL (ref3_all_LP N) (ref3_all_E N) (cAt (bodyOf Tryd.f83) [true, true, false, true, false, false, true, true, false, false, true, true, true, true, false, true, false, false, true, true, false, false, true, true, false, false]) 4 (ref3_all_L2_hd x0 t24 t43 x2 c21 s22 s8 c40 s41 c1011_1 c47 c1011_0 c1011_1_1 s48 w1013_2) (roundK (ref3_all_h 4) I KX (resD (ref3_all_E N) Tryd.f83 (ref3_all_sg fun x _ => ref3_all N x.1 x.2.1 x.2.2.1) ref3_all_pk)) = ref3_all_L2T N x0 t24 t43 c1011_1 c47 (fun o2_w1013 => KX 4 (ref3_all_L2_tl4 x0 t24 t43 x2 c21 s22 s8 c40 s41 c1011_1 c47 c1011_0 c1011_1_1 o2_w1013)) (fun s48 w1013_2 => I (ref3_all_L2_hd x0 t24 t43 x2 c21 s22 s8 c40 s41 c1011_1 c47 c1011_0 c1011_1_1 s48 w1013_2)) s48 w1013_2 := by kernel_rfl
theorem ref3_all_L2_ok (N : Nat) : ∀ x y k, (∀ st, k .ret st = (resD (ref3_all_E N) Tryd.f83 (ref3_all_sg fun x _ => ref3_all N x.1 x.2.1 x.2.2.1) ref3_all_pk) st) → iter (ref3_all_h 4) (exec (ref3_all_E N) N (cAt (bodyOf Tryd.f83) [true, true, false, true, false, false, true, true, false, false, true, true, true, true, false, true, false, false, true, true, false, false, true, true, false, false]) 4) N ⟨65, unF ref3_all_L2_fs x, unH ref3_all_L2_bs y⟩ k = ref3_all_L2_F N x y k := fun x y k hk =>
  iter_link (S := (Int) × (List (List (Str × Str))) × Unit) (ref3_all_h 4) _ (execL (ref3_all_LP N) (ref3_all_E N) (cAt (bodyOf Tryd.f83) [true, true, false, true, false, false, true, true, false, false, true, true, true, true, false, true, false, false, true, true, false, false, true, true, false, false]) 4) (resD (ref3_all_E N) Tryd.f83 (ref3_all_sg fun x _ => ref3_all N x.1 x.2.1 x.2.2.1) ref3_all_pk) (fun st k hk => execL_eq _ _ N _ (cAt (bodyOf Tryd.f83) [true, true, false, true, false, false, true, true, false, false, true, true, true, true, false, true, false, false, true, true, false, false, true, true, false, false]) 4 (show LoopsOk (ref3_all_LP N) (ref3_all_E N) N (resD (ref3_all_E N) Tryd.f83 (ref3_all_sg fun x _ => ref3_all N x.1 x.2.1 x.2.2.1) ref3_all_pk) [] from trivial) st k hk) (fun s => ref3_all_L2_hd x.1 x.2.1 x.2.2.2.2.1 x.2.2.2.2.2.1 x.2.2.2.2.2.2.1 x.2.2.2.2.2.2.2.1 x.2.2.2.2.2.2.2.2.1 x.2.2.2.2.2.2.2.2.2.1 x.2.2.2.2.2.2.2.2.2.2.1 x.2.2.2.2.2.2.2.2.2.2.2.1 x.2.2.2.2.2.2.2.2.2.2.2.2.1 y.1.1 y.1.2.1 s.1 s.2.1) k hk
    (fun self s => ref3_all_L2T N x.1 x.2.1 x.2.2.2.2.1 x.2.2.2.2.2.2.2.2.2.2.2.1 x.2.2.2.2.2.2.2.2.2.2.2.2.1 (fun o2_w1013 => k (.exit 4) (ref3_all_L2_tl4 x.1 x.2.1 x.2.2.2.2.1 x.2.2.2.2.2.1 x.2.2.2.2.2.2.1 x.2.2.2.2.2.2.2.1 x.2.2.2.2.2.2.2.2.1 x.2.2.2.2.2.2.2.2.2.1 x.2.2.2.2.2.2.2.2.2.2.1 x.2.2.2.2.2.2.2.2.2.2.2.1 x.2.2.2.2.2.2.2.2.2.2.2.2.1 y.1.1 y.1.2.1 o2_w1013)) (fun s48 w1013_2 => self (s48, w1013_2, ())) s.1 s.2.1) (fun n s => ref3_all_L2 N x.1 x.2.1 x.2.2.2.2.1 x.2.2.2.2.2.2.2.2.2.2.2.1 x.2.2.2.2.2.2.2.2.2.2.2.2.1 (fun o2_w1013 => k (.exit 4) (ref3_all_L2_tl4 x.1 x.2.1 x.2.2.2.2.1 x.2.2.2.2.2.1 x.2.2.2.2.2.2.1 x.2.2.2.2.2.2.2.1 x.2.2.2.2.2.2.2.2.1 x.2.2.2.2.2.2.2.2.2.1 x.2.2.2.2.2.2.2.2.2.2.1 x.2.2.2.2.2.2.2.2.2.2.2.1 x.2.2.2.2.2.2.2.2.2.2.2.2.1 y.1.1 y.1.2.1 o2_w1013)) n s.1 s.2.1) (fun _ => rfl) (fun _ _ => rfl)
    (fun I s => ref3_all_L2_step N x.1 x.2.1 x.2.2.2.2.1 x.2.2.2.2.2.1 x.2.2.2.2.2.2.1 x.2.2.2.2.2.2.2.1 x.2.2.2.2.2.2.2.2.1 x.2.2.2.2.2.2.2.2.2.1 x.2.2.2.2.2.2.2.2.2.2.1 x.2.2.2.2.2.2.2.2.2.2.2.1 x.2.2.2.2.2.2.2.2.2.2.2.2.1 y.1.1 y.1.2.1 (fun j => k (.exit j)) I s.1 s.2.1) N (x.2.2.2.2.2.2.2.2.2.2.2.2.2.1, y.2.1, ())
theorem ref3_all_lp4 (N : Nat) : ∀ st k, (∀ st, k .ret st = (resD (ref3_all_E N) Tryd.f83 (ref3_all_sg fun x _ => ref3_all N x.1 x.2.1 x.2.2.1) ref3_all_pk) st) → ref3_all_LP N 4 (cAt (bodyOf Tryd.f83) [true, true, false, true, false, false, true, true, false, false, true, true, true, true, false, true, false, false, true, true, false, false, true, true, false, false]) st k = iter (Env.hint (ref3_all_E N) 4) (exec (ref3_all_E N) N (cAt (bodyOf Tryd.f83) [true, true, false, true, false, false, true, true, false, false, true, true, true, true, false, true, false, false, true, true, false, false, true, true, false, false]) 4) N st k := fun st k hk => LPc_eq 65 ref3_all_L2_fs ref3_all_L2_bs _ _ (resD (ref3_all_E N) Tryd.f83 (ref3_all_sg fun x _ => ref3_all N x.1 x.2.1 x.2.2.1) ref3_all_pk) (ref3_all_L2_ok N) _ st k hk (rfl)
theorem ref3_all_L1_step (N : Nat) (x0 : List (Str × List Str)) (t24 : Str) (x2 : List Str) (c21 : Int) (s22 : Int) (s8 : List (List (Str × Str))) (c40 : Int) (c1011_0 : Str) (c1011_1 : List Str) (KX : Nat → St → Option (List (List (Str × Str)) × Bool)) (I : St → Option (List (List (Str × Str)) × Bool)) (s41 : Int) (w1013 : List (List (Str × Str))) :
    execL (ref3_all_LP N) (ref3_all_E N) (cAt (bodyOf Tryd.f83) [true, true, false, true, false, false, true, true, false, false, true, true, true, true, false, true, false, false]) 2 (ref3_all_L1_hd x0 t24 x2 c21 s22 s8 c40 c1011_0 c1011_1 s41 w1013) (roundK (ref3_all_h 2) I KX (resD (ref3_all_E N) Tryd.f83 (ref3_all_sg fun x _ => ref3_all N x.1 x.2.1 x.2.2.1) ref3_all_pk)) = ref3_all_L1T N x0 t24 s8 c40 c1011_1 (fun o1_w1013 => KX 2 (ref3_all_L1_tl2 x0 t24 x2 c21 s22 s8 c40 c1011_0 c1011_1 o1_w1013)) (fun s41 w1013 => I (ref3_all_L1_hd x0 t24 x2 c21 s22 s8 c40 c1011_0 c1011_1 s41 w1013)) s41 w1013 := by kernel_rfl
theorem ref3_all_L1_ok (N : Nat) : ∀ x y k, (∀ st, k .ret st = (resD (ref3_all_E N) Tryd.f83 (ref3_all_sg fun x _ => ref3_all N x.1 x.2.1 x.2.2.1) ref3_all_pk) st) → iter (ref3_all_h 2) (exec (ref3_all_E N) N (cAt (bodyOf Tryd.f83) [true, true, false, true, false, false, true, true, false, false, true, true, true, true, false, true, false, false]) 2) N ⟨65, unF ref3_all_L1_fs x, unH ref3_all_L1_bs y⟩ k = ref3_all_L1_F N x y k := fun x y k hk =>
  iter_link (S := (Int) × (List (List (Str × Str))) × Unit) (ref3_all_h 2) _ (execL (ref3_all_LP N) (ref3_all_E N) (cAt (bodyOf Tryd.f83) [true, true, false, true, false, false, true, true, false, false, true, true, true, true, false, true, false, false]) 2) (resD (ref3_all_E N) Tryd.f83 (ref3_all_sg fun x _ => ref3_all N x.1 x.2.1 x.2.2.1) ref3_all_pk) (fun st k hk => execL_eq _ _ N _ (cAt (bodyOf Tryd.f83) [true, true, false, true, false, false, true, true, false, false, true, true, true, true, false, true, false, false]) 2 (show LoopsOk (ref3_all_LP N) (ref3_all_E N) N (resD (ref3_all_E N) Tryd.f83 (ref3_all_sg fun x _ => ref3_all N x.1 x.2.1 x.2.2.1) ref3_all_pk) [(4, (cAt (bodyOf Tryd.f83) [true, true, false, true, false, false, true, true, false, false, true, true, true, true, false, true, false, false, true, true, false, false, true, true, false, false]))] from ⟨ref3_all_lp4 N, trivial⟩) st k hk) (fun s => ref3_all_L1_hd x.1 x.2.1 x.2.2.2.2.1 x.2.2.2.2.2.1 x.2.2.2.2.2.2.1 x.2.2.2.2.2.2.2.1 x.2.2.2.2.2.2.2.2.1 y.1.1 y.1.2.1 s.1 s.2.1) k hk
    (fun self s => ref3_all_L1T N x.1 x.2.1 x.2.2.2.2.2.2.2.1 x.2.2.2.2.2.2.2.2.1 y.1.2.1 (fun o1_w1013 => k (.exit 2) (ref3_all_L1_tl2 x.1 x.2.1 x.2.2.2.2.1 x.2.2.2.2.2.1 x.2.2.2.2.2.2.1 x.2.2.2.2.2.2.2.1 x.2.2.2.2.2.2.2.2.1 y.1.1 y.1.2.1 o1_w1013)) (fun s41 w1013 => self (s41, w1013, ())) s.1 s.2.1) (fun n s => ref3_all_L1 N x.1 x.2.1 x.2.2.2.2.2.2.2.1 x.2.2.2.2.2.2.2.2.1 y.1.2.1 (fun o1_w1013 => k (.exit 2) (ref3_all_L1_tl2 x.1 x.2.1 x.2.2.2.2.1 x.2.2.2.2.2.1 x.2.2.2.2.2.2.1 x.2.2.2.2.2.2.2.1 x.2.2.2.2.2.2.2.2.1 y.1.1 y.1.2.1 o1_w1013)) n s.1 s.2.1) (fun _ => rfl) (fun _ _ => rfl)
    (fun I s => ref3_all_L1_step N x.1 x.2.1 x.2.2.2.2.1 x.2.2.2.2.2.1 x.2.2.2.2.2.2.1 x.2.2.2.2.2.2.2.1 x.2.2.2.2.2.2.2.2.1 y.1.1 y.1.2.1 (fun j => k (.exit j)) I s.1 s.2.1) N (x.2.2.2.2.2.2.2.2.2.1, y.2.1, ())
theorem ref3_all_lp2 (N : Nat) : ∀ st k, (∀ st, k .ret st = (resD (ref3_all_E N) Tryd.f83 (ref3_all_sg fun x _ => ref3_all N x.1 x.2.1 x.2.2.1) ref3_all_pk) st) → ref3_all_LP N 2 (cAt (bodyOf Tryd.f83) [true, true, false, true, false, false, true, true, false, false, true, true, true, true, false, true, false, false]) st k = iter (Env.hint (ref3_all_E N) 2) (exec (ref3_all_E N) N (cAt (bodyOf Tryd.f83) [true, true, false, true, false, false, true, true, false, false, true, true, true, true, false, true, false, false]) 2) N st k := fun st k hk => LPc_eq 65 ref3_all_L1_fs ref3_all_L1_bs _ _ (resD (ref3_all_E N) Tryd.f83 (ref3_all_sg fun x _ => ref3_all N x.1 x.2.1 x.2.2.1) ref3_all_pk) (ref3_all_L1_ok N) _ st k hk (rfl)
theorem ref3_all_L0_step (N : Nat) (x0 : List (Str × List Str)) (x2 : List Str) (c21 : Int) (KX : Nat → St → Option (List (List (Str × Str)) × Bool)) (I : St → Option (List (List (Str × Str)) × Bool)) (s8 : List (List (Str × Str))) (s22 : Int) :
    execL (ref3_all_LP N) (ref3_all_E N) (cAt (bodyOf Tryd.f83) [true, true, false, true, false, false]) 0 (ref3_all_L0_hd x0 x2 c21 s8 s22) (roundK (ref3_all_h 0) I KX (resD (ref3_all_E N) Tryd.f83 (ref3_all_sg fun x _ => ref3_all N x.1 x.2.1 x.2.2.1) ref3_all_pk)) = ref3_all_L0T N x0 x2 c21 (fun o0_8 => KX 0 (ref3_all_L0_tl0 x0 x2 c21 o0_8)) (fun s8 s22 => I (ref3_all_L0_hd x0 x2 c21 s8 s22)) s8 s22 := by kernel_rfl
theorem ref3_all_L0_ok (N : Nat) : ∀ x y k, (∀ st, k .ret st = (resD (ref3_all_E N) Tryd.f83 (ref3_all_sg fun x _ => ref3_all N x.1 x.2.1 x.2.2.1) ref3_all_pk) st) → iter (ref3_all_h 0) (exec (ref3_all_E N) N (cAt (bodyOf Tryd.f83) [true, true, false, true, false, false]) 0) N ⟨65, unF ref3_all_L0_fs x, unH ref3_all_L0_bs y⟩ k = ref3_all_L0_F N x y k := fun x _ k hk =>
  iter_link (S := (List (List (Str × Str))) × (Int) × Unit) (ref3_all_h 0) _ (execL (ref3_all_LP N) (ref3_all_E N) (cAt (bodyOf Tryd.f83) [true, true, false, true, false, false]) 0) (resD (ref3_all_E N) Tryd.f83 (ref3_all_sg fun x _ => ref3_all N x.1 x.2.1 x.2.2.1) ref3_all_pk) (fun st k hk => execL_eq _ _ N _ (cAt (bodyOf Tryd.f83) [true, true, false, true, false, false]) 0 (show LoopsOk (ref3_all_LP N) (ref3_all_E N) N (resD (ref3_all_E N) Tryd.f83 (ref3_all_sg fun x _ => ref3_all N x.1 x.2.1 x.2.2.1) ref3_all_pk) [(2, (cAt (bodyOf Tryd.f83) [true, true, false, true, false, false, true, true, false, false, true, true, true, true, false, true, false, false])), (4, (cAt (bodyOf Tryd.f83) [true, true, false, true, false, false, true, true, false, false, true, true, true, true, false, true, false, false, true, true, false, false, true, true, false, false]))] from ⟨ref3_all_lp2 N, ref3_all_lp4 N, trivial⟩) st k hk) (fun s => ref3_all_L0_hd x.1 x.2.2.1 x.2.2.2.1 s.1 s.2.1) k hk
    (fun self s => ref3_all_L0T N x.1 x.2.2.1 x.2.2.2.1 (fun o0_8 => k (.exit 0) (ref3_all_L0_tl0 x.1 x.2.2.1 x.2.2.2.1 o0_8)) (fun s8 s22 => self (s8, s22, ())) s.1 s.2.1) (fun n s => ref3_all_L0 N x.1 x.2.2.1 x.2.2.2.1 (fun o0_8 => k (.exit 0) (ref3_all_L0_tl0 x.1 x.2.2.1 x.2.2.2.1 o0_8)) n s.1 s.2.1) (fun _ => rfl) (fun _ _ => rfl)
    (fun I s => ref3_all_L0_step N x.1 x.2.2.1 x.2.2.2.1 (fun j => k (.exit j)) I s.1 s.2.1) N (x.2.1, x.2.2.2.2.1, ())
theorem ref3_all_lp0 (N : Nat) : ∀ st k, (∀ st, k .ret st = (resD (ref3_all_E N) Tryd.f83 (ref3_all_sg fun x _ => ref3_all N x.1 x.2.1 x.2.2.1) ref3_all_pk) st) → ref3_all_LP N 0 (cAt (bodyOf Tryd.f83) [true, true, false, true, false, false]) st k = iter (Env.hint (ref3_all_E N) 0) (exec (ref3_all_E N) N (cAt (bodyOf Tryd.f83) [true, true, false, true, false, false]) 0) N st k := fun st k hk => LPc_eq 65 ref3_all_L0_fs ref3_all_L0_bs _ _ (resD (ref3_all_E N) Tryd.f83 (ref3_all_sg fun x _ => ref3_all N x.1 x.2.1 x.2.2.1) ref3_all_pk) (ref3_all_L0_ok N) _ st k hk (rfl)
theorem ref3_all_core (N : Nat) (x : SV [.v (.sl (.pr .str (.sl .str))), .v (.sl (.pr .str .str)), .v (.sl .str)]) (y : BV []) : runL (ref3_all_E N) Tryd.f83 (ref3_all_sg fun x _ => ref3_all N x.1 x.2.1 x.2.2.1) ref3_all_pk (ref3_all_LP N) x y = ref3_all N x.1 x.2.1 x.2.2.1 := by kernel_rfl
theorem ref3_all_sound (N : Nat) : Sound Tryd.prog GW B0G 83 (ref3_all_sg fun x _ => ref3_all N x.1 x.2.1 x.2.2.1) :=
  runD_sound (mkE_ok ref3_all_h (ref3_all_fn N) _ _ (ref3_all_fn_ok N)) Tryd.func83 rfl Tryd.call83 (ref3_all_sg fun x _ => ref3_all N x.1 x.2.1 x.2.2.1) ref3_all_pk (fun _ _ => rfl) N (fun x y _ h => ((runL_eq (ref3_all_E N) N Tryd.f83 (ref3_all_sg fun x _ => ref3_all N x.1 x.2.1 x.2.2.1) ref3_all_pk (ref3_all_LP N) (show LoopsOk (ref3_all_LP N) (ref3_all_E N) N (resD (ref3_all_E N) Tryd.f83 (ref3_all_sg fun x _ => ref3_all N x.1 x.2.1 x.2.2.1) ref3_all_pk) [(0, (cAt (bodyOf Tryd.f83) [true, true, false, true, false, false])), (2, (cAt (bodyOf Tryd.f83) [true, true, false, true, false, false, true, true, false, false, true, true, true, true, false, true, false, false])), (4, (cAt (bodyOf Tryd.f83) [true, true, false, true, false, false, true, true, false, false, true, true, true, true, false, true, false, false, true, true, false, false, true, true, false, false]))] from ⟨ref3_all_lp0 N, ref3_all_lp2 N, ref3_all_lp4 N, trivial⟩) x y).trans (ref3_all_core N x y)).trans h)
def ref3_All (N : Nat) (x0 : List (Str × List Str)) (x1 : List Str) : Option (List (List (Str × Str)) × Int) :=
  bnd (ref3_CheckSettings N x0) fun t11 =>
  br (t11 != (0 : Int))
    (some (([] : List (List (Str × Str))), t11))
    (bnd (ref3_checkNames N x0 x1) fun t17 =>
    br (t17 != (0 : Int))
      (some (([] : List (List (Str × Str))), t17))
      (bnd (ref3_all N x0 ([] : List (Str × Str)) x1) fun t24 =>
      br (!t24.2)
        (some (([] : List (List (Str × Str))), (2 : Int)))
        (some (t24.1, (0 : Int)))))
abbrev ref3_All_sg (f : SV [.v (.sl (.pr .str (.sl .str))), .v (.sl .str)] → BV [] → Option (List (List (Str × Str)) × Int)) : AF := { ps := [.v (.sl (.pr .str (.sl .str))), .v (.sl .str)], bs := [], rs := [.v (.sl (.sl (.pr .str .str))), .v (.int .i64)], cs := [], R := List (List (Str × Str)) × Int, out := fun z => ((z.1, z.2, ()), ()), f := f }
abbrev ref3_All_pk : SV [.v (.sl (.sl (.pr .str .str))), .v (.int .i64)] → BV [] → (List (List (Str × Str)) × Int) := fun x _ => (x.1, x.2.1)
def ref3_All_fn (N : Nat) : FuncId → Option Tmp → Option AF := fun f _ =>
  match f with
    | 17 => some (ref3_CheckSettings_sg fun x _ => ref3_CheckSettings N x.1)
    | 81 => some (ref3_checkNames_sg fun x _ => ref3_checkNames N x.1 x.2.1)
    | 83 => some (ref3_all_sg fun x _ => ref3_all N x.1 x.2.1 x.2.2.1)
    | _ => none
theorem ref3_All_fn_ok (N : Nat) : ∀ f q F, ref3_All_fn N f q = some F → Sound Tryd.prog GW B0G f F := by
  intro f q F h
  unfold ref3_All_fn at h
  split at h
  · cases h; exact ref3_CheckSettings_sound N
  · cases h; exact ref3_checkNames_sound N
  · cases h; exact ref3_all_sound N
  · cases h
def ref3_All_h : Nat → Hint := fun i =>
  match i with
  | _ => ⟨[], [], [], [], []⟩
abbrev ref3_All_E (N : Nat) : Env := mkE ref3_All_h (ref3_All_fn N) (fun _ => false) (fun _ => false)
noncomputable def ref3_All_LP (N : Nat) : Nat → Code → St → (Ex → St → Option (List (List (Str × Str)) × Int)) → Option (List (List (Str × Str)) × Int) := fun i c =>
  match i with
  | i => fun st k => iter (ref3_All_h i) (exec (ref3_All_E N) N c i) N st k
theorem ref3_All_core (N : Nat) (x : SV [.v (.sl (.pr .str (.sl .str))), .v (.sl .str)]) (y : BV []) : runL (ref3_All_E N) Tryd.f44 (ref3_All_sg fun x _ => ref3_All N x.1 x.2.1) ref3_All_pk (ref3_All_LP N) x y = ref3_All N x.1 x.2.1 := by kernel_rfl
theorem ref3_All_sound (N : Nat) : Sound Tryd.prog GW B0G 44 (ref3_All_sg fun x _ => ref3_All N x.1 x.2.1) :=
  runD_sound (mkE_ok ref3_All_h (ref3_All_fn N) _ _ (ref3_All_fn_ok N)) Tryd.func44 rfl Tryd.call44 (ref3_All_sg fun x _ => ref3_All N x.1 x.2.1) ref3_All_pk (fun _ _ => rfl) N (fun x y _ h => ((runL_eq (ref3_All_E N) N Tryd.f44 (ref3_All_sg fun x _ => ref3_All N x.1 x.2.1) ref3_All_pk (ref3_All_LP N) (show LoopsOk (ref3_All_LP N) (ref3_All_E N) N (resD (ref3_All_E N) Tryd.f44 (ref3_All_sg fun x _ => ref3_All N x.1 x.2.1) ref3_All_pk) [] from trivial) x y).trans (ref3_All_core N x y)).trans h)
def ref3_SamePairs_L0T (N : Nat) (x0 : List (List (Str × Str))) (x1 : List (List (Str × Str))) (c12 : Int) (k0 : Option Bool) (self : Int → Option Bool) (s13 : Int) : Option Bool :=
  br (decide (s13 < c12))
    (bnd (geti x0 s13) fun t18 =>
    bnd (geti x1 s13) fun t22 =>
    bnd (slices_Equal_api_Pair N t18 t22) fun t24 =>
    br (!t24)
      (some false)
      (self (IntKind.i64.wrap (s13 + (1 : Int)))))
    (k0)
def ref3_SamePairs_L0 (N : Nat) (x0 : List (List (Str × Str))) (x1 : List (List (Str × Str))) (c12 : Int) (k0 : Option Bool) : Nat → Int → Option Bool
  | 0, _ => none
  | n + 1, s13 => ref3_SamePairs_L0T N x0 x1 c12 k0 (ref3_SamePairs_L0 N x0 x1 c12 k0 n) s13
def ref3_SamePairs (N : Nat) (x0 : List (List (Str × Str))) (x1 : List (List (Str × Str))) : Option Bool :=
  br ((x0.length : Int) != (x1.length : Int))
    (some false)
    (ref3_SamePairs_L0 N x0 x1 (x0.length : Int) (some true) N (0 : Int))
abbrev ref3_SamePairs_sg (f : SV [.v (.sl (.sl (.pr .str .str))), .v (.sl (.sl (.pr .str .str)))] → BV [] → Option (Bool)) : AF := { ps := [.v (.sl (.sl (.pr .str .str))), .v (.sl (.sl (.pr .str .str)))], bs := [], rs := [.v .bool], cs := [], R := Bool, out := fun z => ((z, ()), ()), f := f }
abbrev ref3_SamePairs_pk : SV [.v .bool] → BV [] → Bool := fun x _ => x.1
def ref3_SamePairs_fn (N : Nat) : FuncId → Option Tmp → Option AF := fun f _ =>
  match f with
    | 37 => some (slices_Equal_api_Pair_sg fun x _ => slices_Equal_api_Pair N x.1 x.2.1)
    | _ => none
theorem ref3_SamePairs_fn_ok (N : Nat) : ∀ f q F, ref3_SamePairs_fn N f q = some F → Sound Tryd.prog GW B0G f F := by
  intro f q F h
  unfold ref3_SamePairs_fn at h
  split at h
  · cases h; exact slices_Equal_api_Pair_sound N
  · cases h
def ref3_SamePairs_h : Nat → Hint := fun i =>
  match i with
  | 0 => ⟨[], [0, 1, 12, 13], [], [], []⟩
  | _ => ⟨[], [], [], [], []⟩
abbrev ref3_SamePairs_E (N : Nat) : Env := mkE ref3_SamePairs_h (ref3_SamePairs_fn N) (fun _ => false) (fun _ => false)
abbrev ref3_SamePairs_L0_fs : List (Nat × Sl) := [(0, .v (.sl (.sl (.pr .str .str)))), (1, .v (.sl (.sl (.pr .str .str)))), (12, .v (.int .i64)), (13, .v (.int .i64))]
abbrev ref3_SamePairs_L0_bs : List (Nat × Sb) := []
def ref3_SamePairs_L0_hd (x0 : List (List (Str × Str))) (x1 : List (List (Str × Str))) (c12 : Int) (s13 : Int) : St := ⟨27, [(0, .v (.sl (.sl (.pr .str .str))) x0), (1, .v (.sl (.sl (.pr .str .str))) x1), (12, .v (.int .i64) c12), (13, .v (.int .i64) s13)], []⟩
def ref3_SamePairs_L0_tl0 (_x0 : List (List (Str × Str))) (_x1 : List (List (Str × Str))) (_c12 : Int) : St := ⟨27, [], []⟩
def ref3_SamePairs_L0_G (N : Nat) (x0 : List (List (Str × Str))) (x1 : List (List (Str × Str))) (c12 : Int) (s13 : Int) (k : Ex → St → Option Bool) : Option Bool :=
  ref3_SamePairs_L0 N x0 x1 c12 (k (.exit 0) (ref3_SamePairs_L0_tl0 x0 x1 c12)) N s13
abbrev ref3_SamePairs_L0_F (N : Nat) : FV ref3_SamePairs_L0_fs → HV ref3_SamePairs_L0_bs → (Ex → St → Option Bool) → Option Bool := fun x _ k => ref3_SamePairs_L0_G N x.1 x.2.1 x.2.2.1 x.2.2.2.1 k
noncomputable def ref3_SamePairs_LP (N : Nat) : Nat → Code → St → (Ex → St → Option Bool) → Option Bool := fun i c =>
  match i with
  | 0 => (LPc 27 ref3_SamePairs_L0_fs ref3_SamePairs_L0_bs (ref3_SamePairs_L0_F N) (fun st k => iter (ref3_SamePairs_h 0) (exec (ref3_SamePairs_E N) N c 0) N st k))
  | i => fun st k => iter (ref3_SamePairs_h i) (exec (ref3_SamePairs_E N) N c i) N st k
theorem ref3_SamePairs_L0_step (N : Nat) (x0 : List (List (Str × Str))) (x1 : List (List (Str × Str))) (c12 : Int) (KX : Nat → St → Option Bool) (I : St → Option Bool) (s13 : Int) :
    execL (ref3_SamePairs_LP N) (ref3_SamePairs_E N) (cAt (bodyOf Tryd.f45) [true, true, false, true, false, false]) 0 (ref3_SamePairs_L0_hd x0 x1 c12 s13) (roundK (ref3_SamePairs_h 0) I KX (resD (ref3_SamePairs_E N) Tryd.f45 (ref3_SamePairs_sg fun x _ => ref3_SamePairs N x.1 x.2.1) ref3_SamePairs_pk)) = ref3_SamePairs_L0T N x0 x1 c12 (KX 0 (ref3_SamePairs_L0_tl0 x0 x1 c12)) (fun s13 => I (ref3_SamePairs_L0_hd x0 x1 c12 s13)) s13 := by kernel_rfl
theorem ref3_SamePairs_L0_ok (N : Nat) : ∀ x y k, (∀ st, k .ret st = (resD (ref3_SamePairs_E N) Tryd.f45 (ref3_SamePairs_sg fun x _ => ref3_SamePairs N x.1 x.2.1) ref3_SamePairs_pk) st) → iter (ref3_SamePairs_h 0) (exec (ref3_SamePairs_E N) N (cAt (bodyOf Tryd.f45) [true, true, false, true, false, false]) 0) N ⟨27, unF ref3_SamePairs_L0_fs x, unH ref3_SamePairs_L0_bs y⟩ k = ref3_SamePairs_L0_F N x y k := fun x _ k hk =>
  iter_link (S := (Int) × Unit) (ref3_SamePairs_h 0) _ (execL (ref3_SamePairs_LP N) (ref3_SamePairs_E N) (cAt (bodyOf Tryd.f45) [true, true, false, true, false, false]) 0) (resD (ref3_SamePairs_E N) Tryd.f45 (ref3_SamePairs_sg fun x _ => ref3_SamePairs N x.1 x.2.1) ref3_SamePairs_pk) (fun st k hk => execL_eq _ _ N _ (cAt (bodyOf Tryd.f45) [true, true, false, true, false, false]) 0 (show LoopsOk (ref3_SamePairs_LP N) (ref3_SamePairs_E N) N (resD (ref3_SamePairs_E N) Tryd.f45 (ref3_SamePairs_sg fun x _ => ref3_SamePairs N x.1 x.2.1) ref3_SamePairs_pk) [] from trivial) st k hk) (fun s => ref3_SamePairs_L0_hd x.1 x.2.1 x.2.2.1 s.1) k hk
    (fun self s => ref3_SamePairs_L0T N x.1 x.2.1 x.2.2.1 (k (.exit 0) (ref3_SamePairs_L0_tl0 x.1 x.2.1 x.2.2.1)) (fun s13 => self (s13, ())) s.1) (fun n s => ref3_SamePairs_L0 N x.1 x.2.1 x.2.2.1 (k (.exit 0) (ref3_SamePairs_L0_tl0 x.1 x.2.1 x.2.2.1)) n s.1) (fun _ => rfl) (fun _ _ => rfl)
    (fun I s => ref3_SamePairs_L0_step N x.1 x.2.1 x.2.2.1 (fun j => k (.exit j)) I s.1) N (x.2.2.2.1, ())
theorem ref3_SamePairs_lp0 (N : Nat) : ∀ st k, (∀ st, k .ret st = (resD (ref3_SamePairs_E N) Tryd.f45 (ref3_SamePairs_sg fun x _ => ref3_SamePairs N x.1 x.2.1) ref3_SamePairs_pk) st) → ref3_SamePairs_LP N 0 (cAt (bodyOf Tryd.f45) [true, true, false, true, false, false]) st k = iter (Env.hint (ref3_SamePairs_E N) 0) (exec (ref3_SamePairs_E N) N (cAt (bodyOf Tryd.f45) [true, true, false, true, false, false]) 0) N st k := fun st k hk => LPc_eq 27 ref3_SamePairs_L0_fs ref3_SamePairs_L0_bs _ _ (resD (ref3_SamePairs_E N) Tryd.f45 (ref3_SamePairs_sg fun x _ => ref3_SamePairs N x.1 x.2.1) ref3_SamePairs_pk) (ref3_SamePairs_L0_ok N) _ st k hk (rfl)
theorem ref3_SamePairs_core (N : Nat) (x : SV [.v (.sl (.sl (.pr .str .str))), .v (.sl (.sl (.pr .str .str)))]) (y : BV []) : runL (ref3_SamePairs_E N) Tryd.f45 (ref3_SamePairs_sg fun x _ => ref3_SamePairs N x.1 x.2.1) ref3_SamePairs_pk (ref3_SamePairs_LP N) x y = ref3_SamePairs N x.1 x.2.1 := by kernel_rfl
theorem ref3_SamePairs_sound (N : Nat) : Sound Tryd.prog GW B0G 45 (ref3_SamePairs_sg fun x _ => ref3_SamePairs N x.1 x.2.1) :=
  runD_sound (mkE_ok ref3_SamePairs_h (ref3_SamePairs_fn N) _ _ (ref3_SamePairs_fn_ok N)) Tryd.func45 rfl Tryd.call45 (ref3_SamePairs_sg fun x _ => ref3_SamePairs N x.1 x.2.1) ref3_SamePairs_pk (fun _ _ => rfl) N (fun x y _ h => ((runL_eq (ref3_SamePairs_E N) N Tryd.f45 (ref3_SamePairs_sg fun x _ => ref3_SamePairs N x.1 x.2.1) ref3_SamePairs_pk (ref3_SamePairs_LP N) (show LoopsOk (ref3_SamePairs_LP N) (ref3_SamePairs_E N) N (resD (ref3_SamePairs_E N) Tryd.f45 (ref3_SamePairs_sg fun x _ => ref3_SamePairs N x.1 x.2.1) ref3_SamePairs_pk) [(0, (cAt (bodyOf Tryd.f45) [true, true, false, true, false, false]))] from ⟨ref3_SamePairs_lp0 N, trivial⟩) x y).trans (ref3_SamePairs_core N x y)).trans h)
def law3_ConfigAllMatchesSpec (N : Nat) (x0 : List (Str × List Str)) (x1 : List (Str × Str)) (x2 : List Str) : Option Bool :=
  bnd (config_Only N x0 x1 x2) fun t17 =>
  bnd (ref3_Only N x0 x1 x2) fun t24 =>
  br (t17.2 != t24.1)
    (some false)
    (bnd (slices_Equal_api_Pair N t17.1 t24.2) fun t33 =>
    br (!t33)
      (some false)
      (bnd (config_All N x0 x2) fun t39 =>
      bnd (ref3_All N x0 x2) fun t45 =>
      br (t39.2 == t45.2)
        (bnd (ref3_SamePairs N t39.1 t45.1) fun t54 =>
        br (t54)
          (bnd (law3_awake N) fun t57 =>
          some t57)
          (some false))
        (some false)))
abbrev law3_ConfigAllMatchesSpec_sg (f : SV [.v (.sl (.pr .str (.sl .str))), .v (.sl (.pr .str .str)), .v (.sl .str)] → BV [] → Option (Bool)) : AF := { ps := [.v (.sl (.pr .str (.sl .str))), .v (.sl (.pr .str .str)), .v (.sl .str)], bs := [], rs := [.v .bool], cs := [], R := Bool, out := fun z => ((z, ()), ()), f := f }
abbrev law3_ConfigAllMatchesSpec_pk : SV [.v .bool] → BV [] → Bool := fun x _ => x.1
def law3_ConfigAllMatchesSpec_fn (N : Nat) : FuncId → Option Tmp → Option AF := fun f _ =>
  match f with
    | 20 => some (law3_awake_sg fun _ _ => law3_awake N)
    | 37 => some (slices_Equal_api_Pair_sg fun x _ => slices_Equal_api_Pair N x.1 x.2.1)
    | 41 => some (config_Only_sg fun x _ => config_Only N x.1 x.2.1 x.2.2.1)
    | 42 => some (ref3_Only_sg fun x _ => ref3_Only N x.1 x.2.1 x.2.2.1)
    | 43 => some (config_All_sg fun x _ => config_All N x.1 x.2.1)
    | 44 => some (ref3_All_sg fun x _ => ref3_All N x.1 x.2.1)
    | 45 => some (ref3_SamePairs_sg fun x _ => ref3_SamePairs N x.1 x.2.1)
    | _ => none
theorem law3_ConfigAllMatchesSpec_fn_ok (N : Nat) : ∀ f q F, law3_ConfigAllMatchesSpec_fn N f q = some F → Sound Tryd.prog GW B0G f F := by
  intro f q F h
  unfold law3_ConfigAllMatchesSpec_fn at h
  split at h
  · cases h; exact law3_awake_sound N
  · cases h; exact slices_Equal_api_Pair_sound N
  · cases h; exact config_Only_sound N
  · cases h; exact ref3_Only_sound N
  · cases h; exact config_All_sound N
  · cases h; exact ref3_All_sound N
  · cases h; exact ref3_SamePairs_sound N
  · cases h
def law3_ConfigAllMatchesSpec_h : Nat → Hint := fun i =>
  match i with
  | _ => ⟨[], [], [], [], []⟩
abbrev law3_ConfigAllMatchesSpec_E (N : Nat) : Env := mkE law3_ConfigAllMatchesSpec_h (law3_ConfigAllMatchesSpec_fn N) (fun _ => false) (fun _ => false)
noncomputable def law3_ConfigAllMatchesSpec_LP (N : Nat) : Nat → Code → St → (Ex → St → Option Bool) → Option Bool := fun i c =>
  match i with
  | i => fun st k => iter (law3_ConfigAllMatchesSpec_h i) (exec (law3_ConfigAllMatchesSpec_E N) N c i) N st k
theorem law3_ConfigAllMatchesSpec_core (N : Nat) (x : SV [.v (.sl (.pr .str (.sl .str))), .v (.sl (.pr .str .str)), .v (.sl .str)]) (y : BV []) : runL (law3_ConfigAllMatchesSpec_E N) Tryd.f10 (law3_ConfigAllMatchesSpec_sg fun x _ => law3_ConfigAllMatchesSpec N x.1 x.2.1 x.2.2.1) law3_ConfigAllMatchesSpec_pk (law3_ConfigAllMatchesSpec_LP N) x y = law3_ConfigAllMatchesSpec N x.1 x.2.1 x.2.2.1 := by kernel_rfl
theorem law3_ConfigAllMatchesSpec_sound (N : Nat) : Sound Tryd.prog GW B0G 10 (law3_ConfigAllMatchesSpec_sg fun x _ => law3_ConfigAllMatchesSpec N x.1 x.2.1 x.2.2.1) :=
  runD_sound (mkE_ok law3_ConfigAllMatchesSpec_h (law3_ConfigAllMatchesSpec_fn N) _ _ (law3_ConfigAllMatchesSpec_fn_ok N)) Tryd.func10 rfl Tryd.call10 (law3_ConfigAllMatchesSpec_sg fun x _ => law3_ConfigAllMatchesSpec N x.1 x.2.1 x.2.2.1) law3_ConfigAllMatchesSpec_pk (fun _ _ => rfl) N (fun x y _ h => ((runL_eq (law3_ConfigAllMatchesSpec_E N) N Tryd.f10 (law3_ConfigAllMatchesSpec_sg fun x _ => law3_ConfigAllMatchesSpec N x.1 x.2.1 x.2.2.1) law3_ConfigAllMatchesSpec_pk (law3_ConfigAllMatchesSpec_LP N) (show LoopsOk (law3_ConfigAllMatchesSpec_LP N) (law3_ConfigAllMatchesSpec_E N) N (resD (law3_ConfigAllMatchesSpec_E N) Tryd.f10 (law3_ConfigAllMatchesSpec_sg fun x _ => law3_ConfigAllMatchesSpec N x.1 x.2.1 x.2.2.1) law3_ConfigAllMatchesSpec_pk) [] from trivial) x y).trans (law3_ConfigAllMatchesSpec_core N x y)).trans h)
end
end Go.Proofs.YtbekhaioddmliaaDoor
