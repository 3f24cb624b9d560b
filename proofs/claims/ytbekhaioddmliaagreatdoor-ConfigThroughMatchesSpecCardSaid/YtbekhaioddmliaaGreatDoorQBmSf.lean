/- What functions of the program compute, as plain functions (printed). -/
import Derived.Test.YtbekhaioddmliaaGreatDoorQZeF5
import Derived.Test.YtbekhaioddmliaaGreatDoorQZeT
import Derived.Shelf.SlGeneric
import Derived.Shelf.SortM.Plain
import Derived.Shelf.SortM.SortNone
import Derived.Ground.SlgmProg
import Derived.Test.YtbekhaioddmliaaGreatDoorProg
import Derived.Shelf.SlSortCmp.WholeK
import Derived.Shelf.SlSortCmp.NoneTotal
import Derived.Ground.SlsfProg
import Derived.Test.YtbekhaioddmliaaGreatDoorQSlc
namespace Go.Proofs.YtbekhaioddmliaaGreatDoor
open Go Go.RowKit
set_option maxRecDepth 100000
set_option linter.unusedVariables false
noncomputable section
def ref3_all_L2T (N : Nat) (x0 : List (Str × List Str)) (t24 : Str) (t43 : List (Str × Str)) (c1011_1 : List Str) (c47 : Int) (k4 : (List (List (Str × Str))) → Option (List (List (Str × Str)) × Bool)) (self : Int → (List (List (Str × Str))) → Option (List (List (Str × Str)) × Bool)) (s48 : Int) (w1013_2 : List (List (Str × Str))) : Option (List (List (Str × Str)) × Bool) :=
  br (decide (s48 < c47))
    (bnd (geti c1011_1 s48) fun t50 =>
    bnd (ref3_with N x0 t43 t24 t50) fun t57 =>
    br (decide ((w1013_2.length + [t57].length) * (24 * Ty.sz (.sl (.pr .str .str))) ≤ 140737488355328))
      (self (IntKind.i64.wrap (s48 + (1 : Int))) (w1013_2 ++ [t57]))
      none)
    (k4 w1013_2)
def ref3_all_L2 (N : Nat) (x0 : List (Str × List Str)) (t24 : Str) (t43 : List (Str × Str)) (c1011_1 : List Str) (c47 : Int) (k4 : (List (List (Str × Str))) → Option (List (List (Str × Str)) × Bool)) : Nat → Int → (List (List (Str × Str))) → Option (List (List (Str × Str)) × Bool)
  | 0, _, _ => none
  | n + 1, s48, w1013_2 => ref3_all_L2T N x0 t24 t43 c1011_1 c47 k4 (ref3_all_L2 N x0 t24 t43 c1011_1 c47 k4 n) s48 w1013_2
def ref3_all_L1T (N : Nat) (x0 : List (Str × List Str)) (t24 : Str) (s8 : List (List (Str × Str))) (c40 : Int) (c1011_1 : List Str) (k2 : (List (List (Str × Str))) → Option (List (List (Str × Str)) × Bool)) (self : Int → (List (List (Str × Str))) → Option (List (List (Str × Str)) × Bool)) (s41 : Int) (w1013 : List (List (Str × Str))) : Option (List (List (Str × Str)) × Bool) :=
  br (decide (s41 < c40))
    (bnd (geti s8 s41) fun t43 =>
    ref3_all_L2 N x0 t24 t43 c1011_1 (c1011_1.length : Int) (fun o2_w1013 =>
        self (IntKind.i64.wrap (s41 + (1 : Int))) o2_w1013) N (0 : Int) w1013)
    (k2 w1013)
def ref3_all_L1 (N : Nat) (x0 : List (Str × List Str)) (t24 : Str) (s8 : List (List (Str × Str))) (c40 : Int) (c1011_1 : List Str) (k2 : (List (List (Str × Str))) → Option (List (List (Str × Str)) × Bool)) : Nat → Int → (List (List (Str × Str))) → Option (List (List (Str × Str)) × Bool)
  | 0, _, _ => none
  | n + 1, s41, w1013 => ref3_all_L1T N x0 t24 s8 c40 c1011_1 k2 (ref3_all_L1 N x0 t24 s8 c40 c1011_1 k2 n) s41 w1013
def ref3_all_L0T (N : Nat) (x0 : List (Str × List Str)) (x2 : List Str) (c21 : Int) (k0 : (List (List (Str × Str))) → Option (List (List (Str × Str)) × Bool)) (self : (List (List (Str × Str))) → Int → Option (List (List (Str × Str)) × Bool)) (s8 : List (List (Str × Str))) (s22 : Int) : Option (List (List (Str × Str)) × Bool) :=
  br (decide (s22 < c21))
    (bnd (geti x2 s22) fun t24 =>
    bnd (ref3_settingOf N x0 t24) fun t29 =>
    br (decide ((IntKind.i64.wrap ((s8.length : Int) * (t29.1.2.length : Int))) > (1000 : Int)))
      (some (([] : List (List (Str × Str))), false))
      (ref3_all_L1 N x0 t24 s8 (s8.length : Int) t29.1.2 (fun o1_w1013 =>
          self o1_w1013 (IntKind.i64.wrap (s22 + (1 : Int)))) N (0 : Int) ([] : List (List (Str × Str)))))
    (k0 s8)
def ref3_all_L0 (N : Nat) (x0 : List (Str × List Str)) (x2 : List Str) (c21 : Int) (k0 : (List (List (Str × Str))) → Option (List (List (Str × Str)) × Bool)) : Nat → (List (List (Str × Str))) → Int → Option (List (List (Str × Str)) × Bool)
  | 0, _, _ => none
  | n + 1, s8, s22 => ref3_all_L0T N x0 x2 c21 k0 (ref3_all_L0 N x0 x2 c21 k0 n) s8 s22
def ref3_all (N : Nat) (x0 : List (Str × List Str)) (x1 : List (Str × Str)) (x2 : List Str) : Option (List (List (Str × Str)) × Bool) :=
  ref3_all_L0 N x0 x2 (x2.length : Int) (fun o0_8 =>
      some (o0_8, true)) N [x1] (0 : Int)
abbrev ref3_all_sg (f : SV [.v (.sl (.pr .str (.sl .str))), .v (.sl (.pr .str .str)), .v (.sl .str)] → BV [] → Option (List (List (Str × Str)) × Bool)) : AF := { ps := [.v (.sl (.pr .str (.sl .str))), .v (.sl (.pr .str .str)), .v (.sl .str)], bs := [], rs := [.v (.sl (.sl (.pr .str .str))), .v .bool], cs := [], R := List (List (Str × Str)) × Bool, out := fun z => ((z.1, z.2, ()), ()), f := f }
abbrev ref3_all_pk : SV [.v (.sl (.sl (.pr .str .str))), .v .bool] → BV [] → (List (List (Str × Str)) × Bool) := fun x _ => (x.1, x.2.1)
def ref3_all_fn (N : Nat) : FuncId → Option Tmp → Option AF := fun f _ =>
  match f with
    | 40 => some (ref3_with_sg fun x _ => ref3_with N x.1 x.2.1 x.2.2.1 x.2.2.2.1)
    | 100 => some (ref3_settingOf_sg fun x _ => ref3_settingOf N x.1 x.2.1)
    | _ => none
theorem ref3_all_fn_ok (N : Nat) : ∀ f q F, ref3_all_fn N f q = some F → Sound Tryz.prog GW B0G f F := by
  intro f q F h
  unfold ref3_all_fn at h
  split at h
  · cases h; exact ref3_with_sound N
  · cases h; exact ref3_settingOf_sound N
  · cases h
def ref3_all_h : Nat → Hint := fun i =>
  match i with
  | 0 => ⟨[8], [0, 8, 20, 21, 22], [], [8], [], []⟩
  | 2 => ⟨[], [0, 10, 11, 13, 20, 21, 22, 39, 40, 41], [1011, 1013], [0, 13, 20, 21, 22], [1013], []⟩
  | 4 => ⟨[], [0, 10, 11, 13, 15, 20, 21, 22, 39, 40, 41, 46, 47, 48], [1011, 1013], [0, 10, 11, 13, 20, 21, 22, 39, 40, 41], [1011, 1013], []⟩
  | _ => ⟨[], [], [], [], [], []⟩
abbrev ref3_all_E (N : Nat) : Env := mkE ref3_all_h (ref3_all_fn N) (fun _ => false) (fun _ => false)
abbrev ref3_all_L2_fs : List (Nat × Sl) := [(0, .v (.sl (.pr .str (.sl .str)))), (10, .v .str), (11, .box 1011 0), (13, .row 1013), (15, .v (.sl (.pr .str .str))), (20, .v (.sl .str)), (21, .v (.int .i64)), (22, .v (.int .i64)), (39, .v (.sl (.sl (.pr .str .str)))), (40, .v (.int .i64)), (41, .v (.int .i64)), (46, .v (.sl .str)), (47, .v (.int .i64)), (48, .v (.int .i64))]
abbrev ref3_all_L2_bs : List (Nat × Sb) := [(1011, .cells [.v .str, .v (.sl .str)]), (1013, .row 33 (.sl (.pr .str .str)) false)]
def ref3_all_L2_hd (x0 : List (Str × List Str)) (t24 : Str) (t43 : List (Str × Str)) (x2 : List Str) (c21 : Int) (s22 : Int) (s8 : List (List (Str × Str))) (c40 : Int) (s41 : Int) (c1011_1 : List Str) (c47 : Int) (c1011_0 : Str) (c1011_1_1 : List Str) (s48 : Int) (w1013_2 : List (List (Str × Str))) : St := ⟨65, [(0, .v (.sl (.pr .str (.sl .str))) x0), (10, .v .str t24), (11, .box 1011 0), (13, .row 1013), (15, .v (.sl (.pr .str .str)) t43), (20, .v (.sl .str) x2), (21, .v (.int .i64) c21), (22, .v (.int .i64) s22), (39, .v (.sl (.sl (.pr .str .str))) s8), (40, .v (.int .i64) c40), (41, .v (.int .i64) s41), (46, .v (.sl .str) c1011_1), (47, .v (.int .i64) c47), (48, .v (.int .i64) s48)], [(1011, .cells [.v .str c1011_0, .v (.sl .str) c1011_1_1]), (1013, .row 33 (.sl (.pr .str .str)) false w1013_2)]⟩
def ref3_all_L2_tl4 (x0 : List (Str × List Str)) (t24 : Str) (_t43 : List (Str × Str)) (x2 : List Str) (c21 : Int) (s22 : Int) (s8 : List (List (Str × Str))) (c40 : Int) (s41 : Int) (_c1011_1 : List Str) (_c47 : Int) (c1011_0 : Str) (c1011_1_1 : List Str) (o2_w1013 : List (List (Str × Str))) : St := ⟨65, [(0, .v (.sl (.pr .str (.sl .str))) x0), (10, .v .str t24), (11, .box 1011 0), (13, .row 1013), (20, .v (.sl .str) x2), (21, .v (.int .i64) c21), (22, .v (.int .i64) s22), (39, .v (.sl (.sl (.pr .str .str))) s8), (40, .v (.int .i64) c40), (41, .v (.int .i64) s41)], [(1011, .cells [.v .str c1011_0, .v (.sl .str) c1011_1_1]), (1013, .row 33 (.sl (.pr .str .str)) false o2_w1013)]⟩
def ref3_all_L2_G (N : Nat) (x0 : List (Str × List Str)) (t24 : Str) (t43 : List (Str × Str)) (x2 : List Str) (c21 : Int) (s22 : Int) (s8 : List (List (Str × Str))) (c40 : Int) (s41 : Int) (c1011_1 : List Str) (c47 : Int) (c1011_0 : Str) (c1011_1_1 : List Str) (s48 : Int) (w1013_2 : List (List (Str × Str))) (k : Ex → St → Option (List (List (Str × Str)) × Bool)) : Option (List (List (Str × Str)) × Bool) :=
  ref3_all_L2 N x0 t24 t43 c1011_1 c47 (fun o2_w1013 => k (.exit 4) (ref3_all_L2_tl4 x0 t24 t43 x2 c21 s22 s8 c40 s41 c1011_1 c47 c1011_0 c1011_1_1 o2_w1013)) N s48 w1013_2
abbrev ref3_all_L2_F (N : Nat) : FV ref3_all_L2_fs → HV ref3_all_L2_bs → (Ex → St → Option (List (List (Str × Str)) × Bool)) → Option (List (List (Str × Str)) × Bool) := fun x y k => ref3_all_L2_G N x.1 x.2.1 x.2.2.2.2.1 x.2.2.2.2.2.1 x.2.2.2.2.2.2.1 x.2.2.2.2.2.2.2.1 x.2.2.2.2.2.2.2.2.1 x.2.2.2.2.2.2.2.2.2.1 x.2.2.2.2.2.2.2.2.2.2.1 x.2.2.2.2.2.2.2.2.2.2.2.1 x.2.2.2.2.2.2.2.2.2.2.2.2.1 y.1.1 y.1.2.1 x.2.2.2.2.2.2.2.2.2.2.2.2.2.1 y.2.1 k
abbrev ref3_all_L1_fs : List (Nat × Sl) := [(0, .v (.sl (.pr .str (.sl .str)))), (10, .v .str), (11, .box 1011 0), (13, .row 1013), (20, .v (.sl .str)), (21, .v (.int .i64)), (22, .v (.int .i64)), (39, .v (.sl (.sl (.pr .str .str)))), (40, .v (.int .i64)), (41, .v (.int .i64))]
abbrev ref3_all_L1_bs : List (Nat × Sb) := [(1011, .cells [.v .str, .v (.sl .str)]), (1013, .row 33 (.sl (.pr .str .str)) false)]
def ref3_all_L1_hd (x0 : List (Str × List Str)) (t24 : Str) (x2 : List Str) (c21 : Int) (s22 : Int) (s8 : List (List (Str × Str))) (c40 : Int) (c1011_0 : Str) (c1011_1 : List Str) (s41 : Int) (w1013 : List (List (Str × Str))) : St := ⟨65, [(0, .v (.sl (.pr .str (.sl .str))) x0), (10, .v .str t24), (11, .box 1011 0), (13, .row 1013), (20, .v (.sl .str) x2), (21, .v (.int .i64) c21), (22, .v (.int .i64) s22), (39, .v (.sl (.sl (.pr .str .str))) s8), (40, .v (.int .i64) c40), (41, .v (.int .i64) s41)], [(1011, .cells [.v .str c1011_0, .v (.sl .str) c1011_1]), (1013, .row 33 (.sl (.pr .str .str)) false w1013)]⟩
def ref3_all_L1_tl2 (x0 : List (Str × List Str)) (_t24 : Str) (x2 : List Str) (c21 : Int) (s22 : Int) (_s8 : List (List (Str × Str))) (_c40 : Int) (_c1011_0 : Str) (_c1011_1 : List Str) (o1_w1013 : List (List (Str × Str))) : St := ⟨65, [(0, .v (.sl (.pr .str (.sl .str))) x0), (13, .row 1013), (20, .v (.sl .str) x2), (21, .v (.int .i64) c21), (22, .v (.int .i64) s22)], [(1013, .row 33 (.sl (.pr .str .str)) false o1_w1013)]⟩
def ref3_all_L1_G (N : Nat) (x0 : List (Str × List Str)) (t24 : Str) (x2 : List Str) (c21 : Int) (s22 : Int) (s8 : List (List (Str × Str))) (c40 : Int) (c1011_0 : Str) (c1011_1 : List Str) (s41 : Int) (w1013 : List (List (Str × Str))) (k : Ex → St → Option (List (List (Str × Str)) × Bool)) : Option (List (List (Str × Str)) × Bool) :=
  ref3_all_L1 N x0 t24 s8 c40 c1011_1 (fun o1_w1013 => k (.exit 2) (ref3_all_L1_tl2 x0 t24 x2 c21 s22 s8 c40 c1011_0 c1011_1 o1_w1013)) N s41 w1013
abbrev ref3_all_L1_F (N : Nat) : FV ref3_all_L1_fs → HV ref3_all_L1_bs → (Ex → St → Option (List (List (Str × Str)) × Bool)) → Option (List (List (Str × Str)) × Bool) := fun x y k => ref3_all_L1_G N x.1 x.2.1 x.2.2.2.2.1 x.2.2.2.2.2.1 x.2.2.2.2.2.2.1 x.2.2.2.2.2.2.2.1 x.2.2.2.2.2.2.2.2.1 y.1.1 y.1.2.1 x.2.2.2.2.2.2.2.2.2.1 y.2.1 k
abbrev ref3_all_L0_fs : List (Nat × Sl) := [(0, .v (.sl (.pr .str (.sl .str)))), (8, .v (.sl (.sl (.pr .str .str)))), (20, .v (.sl .str)), (21, .v (.int .i64)), (22, .v (.int .i64))]
abbrev ref3_all_L0_bs : List (Nat × Sb) := []
def ref3_all_L0_hd (x0 : List (Str × List Str)) (x2 : List Str) (c21 : Int) (s8 : List (List (Str × Str))) (s22 : Int) : St := ⟨65, [(0, .v (.sl (.pr .str (.sl .str))) x0), (8, .v (.sl (.sl (.pr .str .str))) s8), (20, .v (.sl .str) x2), (21, .v (.int .i64) c21), (22, .v (.int .i64) s22)], []⟩
def ref3_all_L0_tl0 (_x0 : List (Str × List Str)) (_x2 : List Str) (_c21 : Int) (o0_8 : List (List (Str × Str))) : St := ⟨65, [(8, .v (.sl (.sl (.pr .str .str))) o0_8)], []⟩
def ref3_all_L0_G (N : Nat) (x0 : List (Str × List Str)) (x2 : List Str) (c21 : Int) (s8 : List (List (Str × Str))) (s22 : Int) (k : Ex → St → Option (List (List (Str × Str)) × Bool)) : Option (List (List (Str × Str)) × Bool) :=
  ref3_all_L0 N x0 x2 c21 (fun o0_8 => k (.exit 0) (ref3_all_L0_tl0 x0 x2 c21 o0_8)) N s8 s22
abbrev ref3_all_L0_F (N : Nat) : FV ref3_all_L0_fs → HV ref3_all_L0_bs → (Ex → St → Option (List (List (Str × Str)) × Bool)) → Option (List (List (Str × Str)) × Bool) := fun x _ k => ref3_all_L0_G N x.1 x.2.2.1 x.2.2.2.1 x.2.1 x.2.2.2.2.1 k
noncomputable def ref3_all_LP (N : Nat) : Nat → Code → St → (Ex → St → Option (List (List (Str × Str)) × Bool)) → Option (List (List (Str × Str)) × Bool) := fun i c =>
  match i with
  | 0 => (LPc 65 ref3_all_L0_fs ref3_all_L0_bs (ref3_all_L0_F N) (fun st k => iter (ref3_all_h 0) (exec (ref3_all_E N) N c 0) N st k))
  | 2 => (LPc 65 ref3_all_L1_fs ref3_all_L1_bs (ref3_all_L1_F N) (fun st k => iter (ref3_all_h 2) (exec (ref3_all_E N) N c 2) N st k))
  | 4 => (LPc 65 ref3_all_L2_fs ref3_all_L2_bs (ref3_all_L2_F N) (fun st k => iter (ref3_all_h 4) (exec (ref3_all_E N) N c 4) N st k))
  | i => fun st k => iter (ref3_all_h i) (exec (ref3_all_E N) N c i) N st k
theorem ref3_all_L2_step (N : Nat) (x0 : List (Str × List Str)) (t24 : Str) (t43 : List (Str × Str)) (x2 : List Str) (c21 : Int) (s22 : Int) (s8 : List (List (Str × Str))) (c40 : Int) (s41 : Int) (c1011_1 : List Str) (c47 : Int) (c1011_0 : Str) (c1011_1_1 : List Str) (KX : Nat → St → Option (List (List (Str × Str)) × Bool)) (I : St → Option (List (List (Str × Str)) × Bool)) (s48 : Int) (w1013_2 : List (List (Str × Str))) :
    execL (ref3_all_LP N) (ref3_all_E N) (cAt (bodyOf Tryz.f41) [true, true, false, true, false, false, true, true, false, false, true, true, true, true, false, true, false, false, true, true, false, false, true, true, false, false]) 4 (ref3_all_L2_hd x0 t24 t43 x2 c21 s22 s8 c40 s41 c1011_1 c47 c1011_0 c1011_1_1 s48 w1013_2) (roundK (ref3_all_h 4) I KX (resD (ref3_all_E N) Tryz.f41 (ref3_all_sg fun x _ => ref3_all N x.1 x.2.1 x.2.2.1) ref3_all_pk)) = ref3_all_L2T N x0 t24 t43 c1011_1 c47 (fun o2_w1013 => KX 4 (ref3_all_L2_tl4 x0 t24 t43 x2 c21 s22 s8 c40 s41 c1011_1 c47 c1011_0 c1011_1_1 o2_w1013)) (fun s48 w1013_2 => I (ref3_all_L2_hd x0 t24 t43 x2 c21 s22 s8 c40 s41 c1011_1 c47 c1011_0 c1011_1_1 s48 w1013_2)) s48 w1013_2 := by kernel_rfl
theorem ref3_all_L2_ok (N : Nat) : ∀ x y k, (∀ st, k .ret st = (resD (ref3_all_E N) Tryz.f41 (ref3_all_sg fun x _ => ref3_all N x.1 x.2.1 x.2.2.1) ref3_all_pk) st) → iter (ref3_all_h 4) (exec (ref3_all_E N) N (cAt (bodyOf Tryz.f41) [true, true, false, true, false, false, true, true, false, false, true, true, true, true, false, true, false, false, true, true, false, false, true, true, false, false]) 4) N ⟨65, unF ref3_all_L2_fs x, unH ref3_all_L2_bs y⟩ k = ref3_all_L2_F N x y k := fun x y k hk =>
  iter_link (S := (Int) × (List (List (Str × Str))) × Unit) (ref3_all_h 4) _ (execL (ref3_all_LP N) (ref3_all_E N) (cAt (bodyOf Tryz.f41) [true, true, false, true, false, false, true, true, false, false, true, true, true, true, false, true, false, false, true, true, false, false, true, true, false, false]) 4) (resD (ref3_all_E N) Tryz.f41 (ref3_all_sg fun x _ => ref3_all N x.1 x.2.1 x.2.2.1) ref3_all_pk) (fun st k hk => execL_eq _ _ N _ (cAt (bodyOf Tryz.f41) [true, true, false, true, false, false, true, true, false, false, true, true, true, true, false, true, false, false, true, true, false, false, true, true, false, false]) 4 (show LoopsOk (ref3_all_LP N) (ref3_all_E N) N (resD (ref3_all_E N) Tryz.f41 (ref3_all_sg fun x _ => ref3_all N x.1 x.2.1 x.2.2.1) ref3_all_pk) [] from trivial) st k hk) (fun s => ref3_all_L2_hd x.1 x.2.1 x.2.2.2.2.1 x.2.2.2.2.2.1 x.2.2.2.2.2.2.1 x.2.2.2.2.2.2.2.1 x.2.2.2.2.2.2.2.2.1 x.2.2.2.2.2.2.2.2.2.1 x.2.2.2.2.2.2.2.2.2.2.1 x.2.2.2.2.2.2.2.2.2.2.2.1 x.2.2.2.2.2.2.2.2.2.2.2.2.1 y.1.1 y.1.2.1 s.1 s.2.1) k hk
    (fun self s => ref3_all_L2T N x.1 x.2.1 x.2.2.2.2.1 x.2.2.2.2.2.2.2.2.2.2.2.1 x.2.2.2.2.2.2.2.2.2.2.2.2.1 (fun o2_w1013 => k (.exit 4) (ref3_all_L2_tl4 x.1 x.2.1 x.2.2.2.2.1 x.2.2.2.2.2.1 x.2.2.2.2.2.2.1 x.2.2.2.2.2.2.2.1 x.2.2.2.2.2.2.2.2.1 x.2.2.2.2.2.2.2.2.2.1 x.2.2.2.2.2.2.2.2.2.2.1 x.2.2.2.2.2.2.2.2.2.2.2.1 x.2.2.2.2.2.2.2.2.2.2.2.2.1 y.1.1 y.1.2.1 o2_w1013)) (fun s48 w1013_2 => self (s48, w1013_2, ())) s.1 s.2.1) (fun n s => ref3_all_L2 N x.1 x.2.1 x.2.2.2.2.1 x.2.2.2.2.2.2.2.2.2.2.2.1 x.2.2.2.2.2.2.2.2.2.2.2.2.1 (fun o2_w1013 => k (.exit 4) (ref3_all_L2_tl4 x.1 x.2.1 x.2.2.2.2.1 x.2.2.2.2.2.1 x.2.2.2.2.2.2.1 x.2.2.2.2.2.2.2.1 x.2.2.2.2.2.2.2.2.1 x.2.2.2.2.2.2.2.2.2.1 x.2.2.2.2.2.2.2.2.2.2.1 x.2.2.2.2.2.2.2.2.2.2.2.1 x.2.2.2.2.2.2.2.2.2.2.2.2.1 y.1.1 y.1.2.1 o2_w1013)) n s.1 s.2.1) (fun _ => rfl) (fun _ _ => rfl)
    (fun I s => ref3_all_L2_step N x.1 x.2.1 x.2.2.2.2.1 x.2.2.2.2.2.1 x.2.2.2.2.2.2.1 x.2.2.2.2.2.2.2.1 x.2.2.2.2.2.2.2.2.1 x.2.2.2.2.2.2.2.2.2.1 x.2.2.2.2.2.2.2.2.2.2.1 x.2.2.2.2.2.2.2.2.2.2.2.1 x.2.2.2.2.2.2.2.2.2.2.2.2.1 y.1.1 y.1.2.1 (fun j => k (.exit j)) I s.1 s.2.1) N (x.2.2.2.2.2.2.2.2.2.2.2.2.2.1, y.2.1, ())
theorem ref3_all_lp4 (N : Nat) : ∀ st k, (∀ st, k .ret st = (resD (ref3_all_E N) Tryz.f41 (ref3_all_sg fun x _ => ref3_all N x.1 x.2.1 x.2.2.1) ref3_all_pk) st) → ref3_all_LP N 4 (cAt (bodyOf Tryz.f41) [true, true, false, true, false, false, true, true, false, false, true, true, true, true, false, true, false, false, true, true, false, false, true, true, false, false]) st k = iter (Env.hint (ref3_all_E N) 4) (exec (ref3_all_E N) N (cAt (bodyOf Tryz.f41) [true, true, false, true, false, false, true, true, false, false, true, true, true, true, false, true, false, false, true, true, false, false, true, true, false, false]) 4) N st k := fun st k hk => LPc_eq 65 ref3_all_L2_fs ref3_all_L2_bs _ _ (resD (ref3_all_E N) Tryz.f41 (ref3_all_sg fun x _ => ref3_all N x.1 x.2.1 x.2.2.1) ref3_all_pk) (ref3_all_L2_ok N) _ st k hk (rfl)
theorem ref3_all_L1_step (N : Nat) (x0 : List (Str × List Str)) (t24 : Str) (x2 : List Str) (c21 : Int) (s22 : Int) (s8 : List (List (Str × Str))) (c40 : Int) (c1011_0 : Str) (c1011_1 : List Str) (KX : Nat → St → Option (List (List (Str × Str)) × Bool)) (I : St → Option (List (List (Str × Str)) × Bool)) (s41 : Int) (w1013 : List (List (Str × Str))) :
    execL (ref3_all_LP N) (ref3_all_E N) (cAt (bodyOf Tryz.f41) [true, true, false, true, false, false, true, true, false, false, true, true, true, true, false, true, false, false]) 2 (ref3_all_L1_hd x0 t24 x2 c21 s22 s8 c40 c1011_0 c1011_1 s41 w1013) (roundK (ref3_all_h 2) I KX (resD (ref3_all_E N) Tryz.f41 (ref3_all_sg fun x _ => ref3_all N x.1 x.2.1 x.2.2.1) ref3_all_pk)) = ref3_all_L1T N x0 t24 s8 c40 c1011_1 (fun o1_w1013 => KX 2 (ref3_all_L1_tl2 x0 t24 x2 c21 s22 s8 c40 c1011_0 c1011_1 o1_w1013)) (fun s41 w1013 => I (ref3_all_L1_hd x0 t24 x2 c21 s22 s8 c40 c1011_0 c1011_1 s41 w1013)) s41 w1013 := by kernel_rfl
theorem ref3_all_L1_ok (N : Nat) : ∀ x y k, (∀ st, k .ret st = (resD (ref3_all_E N) Tryz.f41 (ref3_all_sg fun x _ => ref3_all N x.1 x.2.1 x.2.2.1) ref3_all_pk) st) → iter (ref3_all_h 2) (exec (ref3_all_E N) N (cAt (bodyOf Tryz.f41) [true, true, false, true, false, false, true, true, false, false, true, true, true, true, false, true, false, false]) 2) N ⟨65, unF ref3_all_L1_fs x, unH ref3_all_L1_bs y⟩ k = ref3_all_L1_F N x y k := fun x y k hk =>
  iter_link (S := (Int) × (List (List (Str × Str))) × Unit) (ref3_all_h 2) _ (execL (ref3_all_LP N) (ref3_all_E N) (cAt (bodyOf Tryz.f41) [true, true, false, true, false, false, true, true, false, false, true, true, true, true, false, true, false, false]) 2) (resD (ref3_all_E N) Tryz.f41 (ref3_all_sg fun x _ => ref3_all N x.1 x.2.1 x.2.2.1) ref3_all_pk) (fun st k hk => execL_eq _ _ N _ (cAt (bodyOf Tryz.f41) [true, true, false, true, false, false, true, true, false, false, true, true, true, true, false, true, false, false]) 2 (show LoopsOk (ref3_all_LP N) (ref3_all_E N) N (resD (ref3_all_E N) Tryz.f41 (ref3_all_sg fun x _ => ref3_all N x.1 x.2.1 x.2.2.1) ref3_all_pk) [(4, (cAt (bodyOf Tryz.f41) [true, true, false, true, false, false, true, true, false, false, true, true, true, true, false, true, false, false, true, true, false, false, true, true, false, false]))] from ⟨ref3_all_lp4 N, trivial⟩) st k hk) (fun s => ref3_all_L1_hd x.1 x.2.1 x.2.2.2.2.1 x.2.2.2.2.2.1 x.2.2.2.2.2.2.1 x.2.2.2.2.2.2.2.1 x.2.2.2.2.2.2.2.2.1 y.1.1 y.1.2.1 s.1 s.2.1) k hk
    (fun self s => ref3_all_L1T N x.1 x.2.1 x.2.2.2.2.2.2.2.1 x.2.2.2.2.2.2.2.2.1 y.1.2.1 (fun o1_w1013 => k (.exit 2) (ref3_all_L1_tl2 x.1 x.2.1 x.2.2.2.2.1 x.2.2.2.2.2.1 x.2.2.2.2.2.2.1 x.2.2.2.2.2.2.2.1 x.2.2.2.2.2.2.2.2.1 y.1.1 y.1.2.1 o1_w1013)) (fun s41 w1013 => self (s41, w1013, ())) s.1 s.2.1) (fun n s => ref3_all_L1 N x.1 x.2.1 x.2.2.2.2.2.2.2.1 x.2.2.2.2.2.2.2.2.1 y.1.2.1 (fun o1_w1013 => k (.exit 2) (ref3_all_L1_tl2 x.1 x.2.1 x.2.2.2.2.1 x.2.2.2.2.2.1 x.2.2.2.2.2.2.1 x.2.2.2.2.2.2.2.1 x.2.2.2.2.2.2.2.2.1 y.1.1 y.1.2.1 o1_w1013)) n s.1 s.2.1) (fun _ => rfl) (fun _ _ => rfl)
    (fun I s => ref3_all_L1_step N x.1 x.2.1 x.2.2.2.2.1 x.2.2.2.2.2.1 x.2.2.2.2.2.2.1 x.2.2.2.2.2.2.2.1 x.2.2.2.2.2.2.2.2.1 y.1.1 y.1.2.1 (fun j => k (.exit j)) I s.1 s.2.1) N (x.2.2.2.2.2.2.2.2.2.1, y.2.1, ())
theorem ref3_all_lp2 (N : Nat) : ∀ st k, (∀ st, k .ret st = (resD (ref3_all_E N) Tryz.f41 (ref3_all_sg fun x _ => ref3_all N x.1 x.2.1 x.2.2.1) ref3_all_pk) st) → ref3_all_LP N 2 (cAt (bodyOf Tryz.f41) [true, true, false, true, false, false, true, true, false, false, true, true, true, true, false, true, false, false]) st k = iter (Env.hint (ref3_all_E N) 2) (exec (ref3_all_E N) N (cAt (bodyOf Tryz.f41) [true, true, false, true, false, false, true, true, false, false, true, true, true, true, false, true, false, false]) 2) N st k := fun st k hk => LPc_eq 65 ref3_all_L1_fs ref3_all_L1_bs _ _ (resD (ref3_all_E N) Tryz.f41 (ref3_all_sg fun x _ => ref3_all N x.1 x.2.1 x.2.2.1) ref3_all_pk) (ref3_all_L1_ok N) _ st k hk (rfl)
theorem ref3_all_L0_step (N : Nat) (x0 : List (Str × List Str)) (x2 : List Str) (c21 : Int) (KX : Nat → St → Option (List (List (Str × Str)) × Bool)) (I : St → Option (List (List (Str × Str)) × Bool)) (s8 : List (List (Str × Str))) (s22 : Int) :
    execL (ref3_all_LP N) (ref3_all_E N) (cAt (bodyOf Tryz.f41) [true, true, false, true, false, false]) 0 (ref3_all_L0_hd x0 x2 c21 s8 s22) (roundK (ref3_all_h 0) I KX (resD (ref3_all_E N) Tryz.f41 (ref3_all_sg fun x _ => ref3_all N x.1 x.2.1 x.2.2.1) ref3_all_pk)) = ref3_all_L0T N x0 x2 c21 (fun o0_8 => KX 0 (ref3_all_L0_tl0 x0 x2 c21 o0_8)) (fun s8 s22 => I (ref3_all_L0_hd x0 x2 c21 s8 s22)) s8 s22 := by kernel_rfl
theorem ref3_all_L0_ok (N : Nat) : ∀ x y k, (∀ st, k .ret st = (resD (ref3_all_E N) Tryz.f41 (ref3_all_sg fun x _ => ref3_all N x.1 x.2.1 x.2.2.1) ref3_all_pk) st) → iter (ref3_all_h 0) (exec (ref3_all_E N) N (cAt (bodyOf Tryz.f41) [true, true, false, true, false, false]) 0) N ⟨65, unF ref3_all_L0_fs x, unH ref3_all_L0_bs y⟩ k = ref3_all_L0_F N x y k := fun x _ k hk =>
  iter_link (S := (List (List (Str × Str))) × (Int) × Unit) (ref3_all_h 0) _ (execL (ref3_all_LP N) (ref3_all_E N) (cAt (bodyOf Tryz.f41) [true, true, false, true, false, false]) 0) (resD (ref3_all_E N) Tryz.f41 (ref3_all_sg fun x _ => ref3_all N x.1 x.2.1 x.2.2.1) ref3_all_pk) (fun st k hk => execL_eq _ _ N _ (cAt (bodyOf Tryz.f41) [true, true, false, true, false, false]) 0 (show LoopsOk (ref3_all_LP N) (ref3_all_E N) N (resD (ref3_all_E N) Tryz.f41 (ref3_all_sg fun x _ => ref3_all N x.1 x.2.1 x.2.2.1) ref3_all_pk) [(2, (cAt (bodyOf Tryz.f41) [true, true, false, true, false, false, true, true, false, false, true, true, true, true, false, true, false, false])), (4, (cAt (bodyOf Tryz.f41) [true, true, false, true, false, false, true, true, false, false, true, true, true, true, false, true, false, false, true, true, false, false, true, true, false, false]))] from ⟨ref3_all_lp2 N, ref3_all_lp4 N, trivial⟩) st k hk) (fun s => ref3_all_L0_hd x.1 x.2.2.1 x.2.2.2.1 s.1 s.2.1) k hk
    (fun self s => ref3_all_L0T N x.1 x.2.2.1 x.2.2.2.1 (fun o0_8 => k (.exit 0) (ref3_all_L0_tl0 x.1 x.2.2.1 x.2.2.2.1 o0_8)) (fun s8 s22 => self (s8, s22, ())) s.1 s.2.1) (fun n s => ref3_all_L0 N x.1 x.2.2.1 x.2.2.2.1 (fun o0_8 => k (.exit 0) (ref3_all_L0_tl0 x.1 x.2.2.1 x.2.2.2.1 o0_8)) n s.1 s.2.1) (fun _ => rfl) (fun _ _ => rfl)
    (fun I s => ref3_all_L0_step N x.1 x.2.2.1 x.2.2.2.1 (fun j => k (.exit j)) I s.1 s.2.1) N (x.2.1, x.2.2.2.2.1, ())
theorem ref3_all_lp0 (N : Nat) : ∀ st k, (∀ st, k .ret st = (resD (ref3_all_E N) Tryz.f41 (ref3_all_sg fun x _ => ref3_all N x.1 x.2.1 x.2.2.1) ref3_all_pk) st) → ref3_all_LP N 0 (cAt (bodyOf Tryz.f41) [true, true, false, true, false, false]) st k = iter (Env.hint (ref3_all_E N) 0) (exec (ref3_all_E N) N (cAt (bodyOf Tryz.f41) [true, true, false, true, false, false]) 0) N st k := fun st k hk => LPc_eq 65 ref3_all_L0_fs ref3_all_L0_bs _ _ (resD (ref3_all_E N) Tryz.f41 (ref3_all_sg fun x _ => ref3_all N x.1 x.2.1 x.2.2.1) ref3_all_pk) (ref3_all_L0_ok N) _ st k hk (rfl)
theorem ref3_all_core (N : Nat) (x : SV [.v (.sl (.pr .str (.sl .str))), .v (.sl (.pr .str .str)), .v (.sl .str)]) (y : BV []) : runL (ref3_all_E N) Tryz.f41 (ref3_all_sg fun x _ => ref3_all N x.1 x.2.1 x.2.2.1) ref3_all_pk (ref3_all_LP N) x y = ref3_all N x.1 x.2.1 x.2.2.1 := by kernel_rfl
theorem ref3_all_sound (N : Nat) : Sound Tryz.prog GW B0G 41 (ref3_all_sg fun x _ => ref3_all N x.1 x.2.1 x.2.2.1) :=
  runD_sound (mkE_ok ref3_all_h (ref3_all_fn N) _ _ (ref3_all_fn_ok N)) Tryz.func41 rfl Tryz.call41 (ref3_all_sg fun x _ => ref3_all N x.1 x.2.1 x.2.2.1) ref3_all_pk (fun _ _ => rfl) N (fun x y _ h => ((runL_eq (ref3_all_E N) N Tryz.f41 (ref3_all_sg fun x _ => ref3_all N x.1 x.2.1 x.2.2.1) ref3_all_pk (ref3_all_LP N) (show LoopsOk (ref3_all_LP N) (ref3_all_E N) N (resD (ref3_all_E N) Tryz.f41 (ref3_all_sg fun x _ => ref3_all N x.1 x.2.1 x.2.2.1) ref3_all_pk) [(0, (cAt (bodyOf Tryz.f41) [true, true, false, true, false, false])), (2, (cAt (bodyOf Tryz.f41) [true, true, false, true, false, false, true, true, false, false, true, true, true, true, false, true, false, false])), (4, (cAt (bodyOf Tryz.f41) [true, true, false, true, false, false, true, true, false, false, true, true, true, true, false, true, false, false, true, true, false, false, true, true, false, false]))] from ⟨ref3_all_lp0 N, ref3_all_lp2 N, ref3_all_lp4 N, trivial⟩) x y).trans (ref3_all_core N x y)).trans h)
def ref3_SamePairs_L0T (N : Nat) (x0 : List (List (Str × Str))) (x1 : List (List (Str × Str))) (c12 : Int) (k0 : Option Bool) (self : Int → Option Bool) (s13 : Int) : Option Bool :=
  br (decide (s13 < c12))
    (bnd (geti x0 s13) fun t18 =>
    bnd (geti x1 s13) fun t22 =>
    bnd (slices_Equal_api_Pair N t18 t22) fun t24 =>
    br (!t24)
      (some false)
      (self (IntKind.i64.wrap (s13 + (1 : Int)))))
    (k0)
def ref3_SamePairs_L0 (N : Nat) (x0 : List (List (Str × Str))) (x1 : List (List (Str × Str))) (c12 : Int) (k0 : Option Bool) : Nat → Int → Option Bool
  | 0, _ => none
  | n + 1, s13 => ref3_SamePairs_L0T N x0 x1 c12 k0 (ref3_SamePairs_L0 N x0 x1 c12 k0 n) s13
def ref3_SamePairs (N : Nat) (x0 : List (List (Str × Str))) (x1 : List (List (Str × Str))) : Option Bool :=
  br ((x0.length : Int) != (x1.length : Int))
    (some false)
    (ref3_SamePairs_L0 N x0 x1 (x0.length : Int) (some true) N (0 : Int))
abbrev ref3_SamePairs_sg (f : SV [.v (.sl (.sl (.pr .str .str))), .v (.sl (.sl (.pr .str .str)))] → BV [] → Option (Bool)) : AF := { ps := [.v (.sl (.sl (.pr .str .str))), .v (.sl (.sl (.pr .str .str)))], bs := [], rs := [.v .bool], cs := [], R := Bool, out := fun z => ((z, ()), ()), f := f }
abbrev ref3_SamePairs_pk : SV [.v .bool] → BV [] → Bool := fun x _ => x.1
def ref3_SamePairs_fn (N : Nat) : FuncId → Option Tmp → Option AF := fun f _ =>
  match f with
    | 19 => some (slices_Equal_api_Pair_sg fun x _ => slices_Equal_api_Pair N x.1 x.2.1)
    | _ => none
theorem ref3_SamePairs_fn_ok (N : Nat) : ∀ f q F, ref3_SamePairs_fn N f q = some F → Sound Tryz.prog GW B0G f F := by
  intro f q F h
  unfold ref3_SamePairs_fn at h
  split at h
  · cases h; exact slices_Equal_api_Pair_sound N
  · cases h
def ref3_SamePairs_h : Nat → Hint := fun i =>
  match i with
  | 0 => ⟨[], [0, 1, 12, 13], [], [], [], []⟩
  | _ => ⟨[], [], [], [], [], []⟩
abbrev ref3_SamePairs_E (N : Nat) : Env := mkE ref3_SamePairs_h (ref3_SamePairs_fn N) (fun _ => false) (fun _ => false)
abbrev ref3_SamePairs_L0_fs : List (Nat × Sl) := [(0, .v (.sl (.sl (.pr .str .str)))), (1, .v (.sl (.sl (.pr .str .str)))), (12, .v (.int .i64)), (13, .v (.int .i64))]
abbrev ref3_SamePairs_L0_bs : List (Nat × Sb) := []
def ref3_SamePairs_L0_hd (x0 : List (List (Str × Str))) (x1 : List (List (Str × Str))) (c12 : Int) (s13 : Int) : St := ⟨27, [(0, .v (.sl (.sl (.pr .str .str))) x0), (1, .v (.sl (.sl (.pr .str .str))) x1), (12, .v (.int .i64) c12), (13, .v (.int .i64) s13)], []⟩
def ref3_SamePairs_L0_tl0 (_x0 : List (List (Str × Str))) (_x1 : List (List (Str × Str))) (_c12 : Int) : St := ⟨27, [], []⟩
def ref3_SamePairs_L0_G (N : Nat) (x0 : List (List (Str × Str))) (x1 : List (List (Str × Str))) (c12 : Int) (s13 : Int) (k : Ex → St → Option Bool) : Option Bool :=
  ref3_SamePairs_L0 N x0 x1 c12 (k (.exit 0) (ref3_SamePairs_L0_tl0 x0 x1 c12)) N s13
abbrev ref3_SamePairs_L0_F (N : Nat) : FV ref3_SamePairs_L0_fs → HV ref3_SamePairs_L0_bs → (Ex → St → Option Bool) → Option Bool := fun x _ k => ref3_SamePairs_L0_G N x.1 x.2.1 x.2.2.1 x.2.2.2.1 k
noncomputable def ref3_SamePairs_LP (N : Nat) : Nat → Code → St → (Ex → St → Option Bool) → Option Bool := fun i c =>
  match i with
  | 0 => (LPc 27 ref3_SamePairs_L0_fs ref3_SamePairs_L0_bs (ref3_SamePairs_L0_F N) (fun st k => iter (ref3_SamePairs_h 0) (exec (ref3_SamePairs_E N) N c 0) N st k))
  | i => fun st k => iter (ref3_SamePairs_h i) (exec (ref3_SamePairs_E N) N c i) N st k
theorem ref3_SamePairs_L0_step (N : Nat) (x0 : List (List (Str × Str))) (x1 : List (List (Str × Str))) (c12 : Int) (KX : Nat → St → Option Bool) (I : St → Option Bool) (s13 : Int) :
    execL (ref3_SamePairs_LP N) (ref3_SamePairs_E N) (cAt (bodyOf Tryz.f16) [true, true, false, true, false, false]) 0 (ref3_SamePairs_L0_hd x0 x1 c12 s13) (roundK (ref3_SamePairs_h 0) I KX (resD (ref3_SamePairs_E N) Tryz.f16 (ref3_SamePairs_sg fun x _ => ref3_SamePairs N x.1 x.2.1) ref3_SamePairs_pk)) = ref3_SamePairs_L0T N x0 x1 c12 (KX 0 (ref3_SamePairs_L0_tl0 x0 x1 c12)) (fun s13 => I (ref3_SamePairs_L0_hd x0 x1 c12 s13)) s13 := by kernel_rfl
theorem ref3_SamePairs_L0_ok (N : Nat) : ∀ x y k, (∀ st, k .ret st = (resD (ref3_SamePairs_E N) Tryz.f16 (ref3_SamePairs_sg fun x _ => ref3_SamePairs N x.1 x.2.1) ref3_SamePairs_pk) st) → iter (ref3_SamePairs_h 0) (exec (ref3_SamePairs_E N) N (cAt (bodyOf Tryz.f16) [true, true, false, true, false, false]) 0) N ⟨27, unF ref3_SamePairs_L0_fs x, unH ref3_SamePairs_L0_bs y⟩ k = ref3_SamePairs_L0_F N x y k := fun x _ k hk =>
  iter_link (S := (Int) × Unit) (ref3_SamePairs_h 0) _ (execL (ref3_SamePairs_LP N) (ref3_SamePairs_E N) (cAt (bodyOf Tryz.f16) [true, true, false, true, false, false]) 0) (resD (ref3_SamePairs_E N) Tryz.f16 (ref3_SamePairs_sg fun x _ => ref3_SamePairs N x.1 x.2.1) ref3_SamePairs_pk) (fun st k hk => execL_eq _ _ N _ (cAt (bodyOf Tryz.f16) [true, true, false, true, false, false]) 0 (show LoopsOk (ref3_SamePairs_LP N) (ref3_SamePairs_E N) N (resD (ref3_SamePairs_E N) Tryz.f16 (ref3_SamePairs_sg fun x _ => ref3_SamePairs N x.1 x.2.1) ref3_SamePairs_pk) [] from trivial) st k hk) (fun s => ref3_SamePairs_L0_hd x.1 x.2.1 x.2.2.1 s.1) k hk
    (fun self s => ref3_SamePairs_L0T N x.1 x.2.1 x.2.2.1 (k (.exit 0) (ref3_SamePairs_L0_tl0 x.1 x.2.1 x.2.2.1)) (fun s13 => self (s13, ())) s.1) (fun n s => ref3_SamePairs_L0 N x.1 x.2.1 x.2.2.1 (k (.exit 0) (ref3_SamePairs_L0_tl0 x.1 x.2.1 x.2.2.1)) n s.1) (fun _ => rfl) (fun _ _ => rfl)
    (fun I s => ref3_SamePairs_L0_step N x.1 x.2.1 x.2.2.1 (fun j => k (.exit j)) I s.1) N (x.2.2.2.1, ())
theorem ref3_SamePairs_lp0 (N : Nat) : ∀ st k, (∀ st, k .ret st = (resD (ref3_SamePairs_E N) Tryz.f16 (ref3_SamePairs_sg fun x _ => ref3_SamePairs N x.1 x.2.1) ref3_SamePairs_pk) st) → ref3_SamePairs_LP N 0 (cAt (bodyOf Tryz.f16) [true, true, false, true, false, false]) st k = iter (Env.hint (ref3_SamePairs_E N) 0) (exec (ref3_SamePairs_E N) N (cAt (bodyOf Tryz.f16) [true, true, false, true, false, false]) 0) N st k := fun st k hk => LPc_eq 27 ref3_SamePairs_L0_fs ref3_SamePairs_L0_bs _ _ (resD (ref3_SamePairs_E N) Tryz.f16 (ref3_SamePairs_sg fun x _ => ref3_SamePairs N x.1 x.2.1) ref3_SamePairs_pk) (ref3_SamePairs_L0_ok N) _ st k hk (rfl)
theorem ref3_SamePairs_core (N : Nat) (x : SV [.v (.sl (.sl (.pr .str .str))), .v (.sl (.sl (.pr .str .str)))]) (y : BV []) : runL (ref3_SamePairs_E N) Tryz.f16 (ref3_SamePairs_sg fun x _ => ref3_SamePairs N x.1 x.2.1) ref3_SamePairs_pk (ref3_SamePairs_LP N) x y = ref3_SamePairs N x.1 x.2.1 := by kernel_rfl
theorem ref3_SamePairs_sound (N : Nat) : Sound Tryz.prog GW B0G 16 (ref3_SamePairs_sg fun x _ => ref3_SamePairs N x.1 x.2.1) :=
  runD_sound (mkE_ok ref3_SamePairs_h (ref3_SamePairs_fn N) _ _ (ref3_SamePairs_fn_ok N)) Tryz.func16 rfl Tryz.call16 (ref3_SamePairs_sg fun x _ => ref3_SamePairs N x.1 x.2.1) ref3_SamePairs_pk (fun _ _ => rfl) N (fun x y _ h => ((runL_eq (ref3_SamePairs_E N) N Tryz.f16 (ref3_SamePairs_sg fun x _ => ref3_SamePairs N x.1 x.2.1) ref3_SamePairs_pk (ref3_SamePairs_LP N) (show LoopsOk (ref3_SamePairs_LP N) (ref3_SamePairs_E N) N (resD (ref3_SamePairs_E N) Tryz.f16 (ref3_SamePairs_sg fun x _ => ref3_SamePairs N x.1 x.2.1) ref3_SamePairs_pk) [(0, (cAt (bodyOf Tryz.f16) [true, true, false, true, false, false]))] from ⟨ref3_SamePairs_lp0 N, trivial⟩) x y).trans (ref3_SamePairs_core N x y)).trans h)
end
end Go.Proofs.YtbekhaioddmliaaGreatDoor


/- What functions of the program compute, as plain functions (printed). -/
namespace Go.Proofs.YtbekhaioddmliaaGreatDoor
open Go Go.RowKit
set_option maxRecDepth 100000
set_option linter.unusedVariables false
noncomputable section
end
end Go.Proofs.YtbekhaioddmliaaGreatDoor


/- What functions of the program compute, as plain functions (printed). -/
namespace Go.Proofs.YtbekhaioddmliaaGreatDoor
open Go Go.RowKit
set_option maxRecDepth 100000
set_option linter.unusedVariables false
noncomputable section
end
end Go.Proofs.YtbekhaioddmliaaGreatDoor


/- What functions of the program compute, as plain functions (printed). -/
namespace Go.Proofs.YtbekhaioddmliaaGreatDoor
open Go Go.RowKit
set_option maxRecDepth 100000
set_option linter.unusedVariables false
noncomputable section
def config_CheckTransitions_1 (N : Nat) (x0 : Str) (x1 : Str × List (Str × Str) × List Str) : Option Bool :=
  bnd (config_pairOf N x1.2.1 x0) fun t10 =>
  some t10.2
abbrev config_CheckTransitions_1_sg (f : SV [.v .str, .v (.ptr (.pr .str (.pr (.sl (.pr .str .str)) (.sl .str))))] → BV [] → Option (Bool)) : AF := { ps := [.v .str, .v (.ptr (.pr .str (.pr (.sl (.pr .str .str)) (.sl .str))))], bs := [], rs := [.v .bool], cs := [], R := Bool, out := fun z => ((z, ()), ()), f := f }
abbrev config_CheckTransitions_1_pk : SV [.v .bool] → BV [] → Bool := fun x _ => x.1
def config_CheckTransitions_1_fn (N : Nat) : FuncId → Option Tmp → Option AF := fun f _ =>
  match f with
    | 48 => some (config_pairOf_sg fun x _ => config_pairOf N x.1 x.2.1)
    | _ => none
theorem config_CheckTransitions_1_fn_ok (N : Nat) : ∀ f q F, config_CheckTransitions_1_fn N f q = some F → Sound Tryz.prog GW B0G f F := by
  intro f q F h
  unfold config_CheckTransitions_1_fn at h
  split at h
  · cases h; exact config_pairOf_sound N
  · cases h
def config_CheckTransitions_1_h : Nat → Hint := fun i =>
  match i with
  | _ => ⟨[], [], [], [], [], []⟩
abbrev config_CheckTransitions_1_E (N : Nat) : Env := mkE config_CheckTransitions_1_h (config_CheckTransitions_1_fn N) (fun _ => false) (fun _ => false)
noncomputable def config_CheckTransitions_1_LP (N : Nat) : Nat → Code → St → (Ex → St → Option Bool) → Option Bool := fun i c =>
  match i with
  | i => fun st k => iter (config_CheckTransitions_1_h i) (exec (config_CheckTransitions_1_E N) N c i) N st k
theorem config_CheckTransitions_1_core (N : Nat) (x : SV [.v .str, .v (.ptr (.pr .str (.pr (.sl (.pr .str .str)) (.sl .str))))]) (y : BV []) : runL (config_CheckTransitions_1_E N) Tryz.f47 (config_CheckTransitions_1_sg fun x _ => config_CheckTransitions_1 N x.1 x.2.1) config_CheckTransitions_1_pk (config_CheckTransitions_1_LP N) x y = config_CheckTransitions_1 N x.1 x.2.1 := by kernel_rfl
theorem config_CheckTransitions_1_sound (N : Nat) : Sound Tryz.prog GW B0G 47 (config_CheckTransitions_1_sg fun x _ => config_CheckTransitions_1 N x.1 x.2.1) :=
  runD_sound (mkE_ok config_CheckTransitions_1_h (config_CheckTransitions_1_fn N) _ _ (config_CheckTransitions_1_fn_ok N)) Tryz.func47 rfl Tryz.call47 (config_CheckTransitions_1_sg fun x _ => config_CheckTransitions_1 N x.1 x.2.1) config_CheckTransitions_1_pk (fun _ _ => rfl) N (fun x y _ h => ((runL_eq (config_CheckTransitions_1_E N) N Tryz.f47 (config_CheckTransitions_1_sg fun x _ => config_CheckTransitions_1 N x.1 x.2.1) config_CheckTransitions_1_pk (config_CheckTransitions_1_LP N) (show LoopsOk (config_CheckTransitions_1_LP N) (config_CheckTransitions_1_E N) N (resD (config_CheckTransitions_1_E N) Tryz.f47 (config_CheckTransitions_1_sg fun x _ => config_CheckTransitions_1 N x.1 x.2.1) config_CheckTransitions_1_pk) [] from trivial) x y).trans (config_CheckTransitions_1_core N x y)).trans h)
def slices_IndexFunc_string_string_3_L0T (N : Nat) (x0 : List Str) (x1 : (Str × List (Str × Str) × List Str) × Unit) (c7 : Int) (k0 : Option Int) (self : Int → Option Int) (s8 : Int) : Option Int :=
  br (decide (s8 < c7))
    (bnd (geti x0 s8) fun t14 =>
    bnd (config_CheckTransitions_1 N t14 x1.1) fun t16 =>
    br (t16)
      (some s8)
      (self (IntKind.i64.wrap (s8 + (1 : Int)))))
    (k0)
def slices_IndexFunc_string_string_3_L0 (N : Nat) (x0 : List Str) (x1 : (Str × List (Str × Str) × List Str) × Unit) (c7 : Int) (k0 : Option Int) : Nat → Int → Option Int
  | 0, _ => none
  | n + 1, s8 => slices_IndexFunc_string_string_3_L0T N x0 x1 c7 k0 (slices_IndexFunc_string_string_3_L0 N x0 x1 c7 k0 n) s8
def slices_IndexFunc_string_string_3 (N : Nat) (x0 : List Str) (x1 : (Str × List (Str × Str) × List Str) × Unit) : Option Int :=
  slices_IndexFunc_string_string_3_L0 N x0 x1 (x0.length : Int) (some (-1 : Int)) N (0 : Int)
abbrev slices_IndexFunc_string_string_3_sg (f : SV [.v (.sl .str), .v (.clo 47 (.pr (.ptr (.pr .str (.pr (.sl (.pr .str .str)) (.sl .str)))) .un))] → BV [] → Option (Int)) : AF := { ps := [.v (.sl .str), .v (.clo 47 (.pr (.ptr (.pr .str (.pr (.sl (.pr .str .str)) (.sl .str)))) .un))], bs := [], rs := [.v (.int .i64)], cs := [], R := Int, out := fun z => ((z, ()), ()), f := f }
abbrev slices_IndexFunc_string_string_3_pk : SV [.v (.int .i64)] → BV [] → Int := fun x _ => x.1
def slices_IndexFunc_string_string_3_fn (N : Nat) : FuncId → Option Tmp → Option AF := fun f _ =>
  match f with
    | 47 => some (config_CheckTransitions_1_sg fun x _ => config_CheckTransitions_1 N x.1 x.2.1)
    | _ => none
theorem slices_IndexFunc_string_string_3_fn_ok (N : Nat) : ∀ f q F, slices_IndexFunc_string_string_3_fn N f q = some F → Sound Tryz.prog GW B0G f F := by
  intro f q F h
  unfold slices_IndexFunc_string_string_3_fn at h
  split at h
  · cases h; exact config_CheckTransitions_1_sound N
  · cases h
def slices_IndexFunc_string_string_3_h : Nat → Hint := fun i =>
  match i with
  | 0 => ⟨[], [0, 1, 7, 8], [], [], [], []⟩
  | _ => ⟨[], [], [], [], [], []⟩
abbrev slices_IndexFunc_string_string_3_E (N : Nat) : Env := mkE slices_IndexFunc_string_string_3_h (slices_IndexFunc_string_string_3_fn N) (fun _ => false) (fun _ => false)
abbrev slices_IndexFunc_string_string_3_L0_fs : List (Nat × Sl) := [(0, .v (.sl .str)), (1, .v (.clo 47 (.pr (.ptr (.pr .str (.pr (.sl (.pr .str .str)) (.sl .str)))) .un))), (7, .v (.int .i64)), (8, .v (.int .i64))]
abbrev slices_IndexFunc_string_string_3_L0_bs : List (Nat × Sb) := []
def slices_IndexFunc_string_string_3_L0_hd (x0 : List Str) (x1 : (Str × List (Str × Str) × List Str) × Unit) (c7 : Int) (s8 : Int) : St := ⟨19, [(0, .v (.sl .str) x0), (1, .v (.clo 47 (.pr (.ptr (.pr .str (.pr (.sl (.pr .str .str)) (.sl .str)))) .un)) x1), (7, .v (.int .i64) c7), (8, .v (.int .i64) s8)], []⟩
def slices_IndexFunc_string_string_3_L0_tl0 (_x0 : List Str) (_x1 : (Str × List (Str × Str) × List Str) × Unit) (_c7 : Int) : St := ⟨19, [], []⟩
def slices_IndexFunc_string_string_3_L0_G (N : Nat) (x0 : List Str) (x1 : (Str × List (Str × Str) × List Str) × Unit) (c7 : Int) (s8 : Int) (k : Ex → St → Option Int) : Option Int :=
  slices_IndexFunc_string_string_3_L0 N x0 x1 c7 (k (.exit 0) (slices_IndexFunc_string_string_3_L0_tl0 x0 x1 c7)) N s8
abbrev slices_IndexFunc_string_string_3_L0_F (N : Nat) : FV slices_IndexFunc_string_string_3_L0_fs → HV slices_IndexFunc_string_string_3_L0_bs → (Ex → St → Option Int) → Option Int := fun x _ k => slices_IndexFunc_string_string_3_L0_G N x.1 x.2.1 x.2.2.1 x.2.2.2.1 k
noncomputable def slices_IndexFunc_string_string_3_LP (N : Nat) : Nat → Code → St → (Ex → St → Option Int) → Option Int := fun i c =>
  match i with
  | 0 => (LPc 19 slices_IndexFunc_string_string_3_L0_fs slices_IndexFunc_string_string_3_L0_bs (slices_IndexFunc_string_string_3_L0_F N) (fun st k => iter (slices_IndexFunc_string_string_3_h 0) (exec (slices_IndexFunc_string_string_3_E N) N c 0) N st k))
  | i => fun st k => iter (slices_IndexFunc_string_string_3_h i) (exec (slices_IndexFunc_string_string_3_E N) N c i) N st k
theorem slices_IndexFunc_string_string_3_L0_step (N : Nat) (x0 : List Str) (x1 : (Str × List (Str × Str) × List Str) × Unit) (c7 : Int) (KX : Nat → St → Option Int) (I : St → Option Int) (s8 : Int) :
    execL (slices_IndexFunc_string_string_3_LP N) (slices_IndexFunc_string_string_3_E N) (cAt (bodyOf Tryz.f103) [true, false, true, false, false]) 0 (slices_IndexFunc_string_string_3_L0_hd x0 x1 c7 s8) (roundK (slices_IndexFunc_string_string_3_h 0) I KX (resD (slices_IndexFunc_string_string_3_E N) Tryz.f103 (slices_IndexFunc_string_string_3_sg fun x _ => slices_IndexFunc_string_string_3 N x.1 x.2.1) slices_IndexFunc_string_string_3_pk)) = slices_IndexFunc_string_string_3_L0T N x0 x1 c7 (KX 0 (slices_IndexFunc_string_string_3_L0_tl0 x0 x1 c7)) (fun s8 => I (slices_IndexFunc_string_string_3_L0_hd x0 x1 c7 s8)) s8 := by kernel_rfl
theorem slices_IndexFunc_string_string_3_L0_ok (N : Nat) : ∀ x y k, (∀ st, k .ret st = (resD (slices_IndexFunc_string_string_3_E N) Tryz.f103 (slices_IndexFunc_string_string_3_sg fun x _ => slices_IndexFunc_string_string_3 N x.1 x.2.1) slices_IndexFunc_string_string_3_pk) st) → iter (slices_IndexFunc_string_string_3_h 0) (exec (slices_IndexFunc_string_string_3_E N) N (cAt (bodyOf Tryz.f103) [true, false, true, false, false]) 0) N ⟨19, unF slices_IndexFunc_string_string_3_L0_fs x, unH slices_IndexFunc_string_string_3_L0_bs y⟩ k = slices_IndexFunc_string_string_3_L0_F N x y k := fun x _ k hk =>
  iter_link (S := (Int) × Unit) (slices_IndexFunc_string_string_3_h 0) _ (execL (slices_IndexFunc_string_string_3_LP N) (slices_IndexFunc_string_string_3_E N) (cAt (bodyOf Tryz.f103) [true, false, true, false, false]) 0) (resD (slices_IndexFunc_string_string_3_E N) Tryz.f103 (slices_IndexFunc_string_string_3_sg fun x _ => slices_IndexFunc_string_string_3 N x.1 x.2.1) slices_IndexFunc_string_string_3_pk) (fun st k hk => execL_eq _ _ N _ (cAt (bodyOf Tryz.f103) [true, false, true, false, false]) 0 (show LoopsOk (slices_IndexFunc_string_string_3_LP N) (slices_IndexFunc_string_string_3_E N) N (resD (slices_IndexFunc_string_string_3_E N) Tryz.f103 (slices_IndexFunc_string_string_3_sg fun x _ => slices_IndexFunc_string_string_3 N x.1 x.2.1) slices_IndexFunc_string_string_3_pk) [] from trivial) st k hk) (fun s => slices_IndexFunc_string_string_3_L0_hd x.1 x.2.1 x.2.2.1 s.1) k hk
    (fun self s => slices_IndexFunc_string_string_3_L0T N x.1 x.2.1 x.2.2.1 (k (.exit 0) (slices_IndexFunc_string_string_3_L0_tl0 x.1 x.2.1 x.2.2.1)) (fun s8 => self (s8, ())) s.1) (fun n s => slices_IndexFunc_string_string_3_L0 N x.1 x.2.1 x.2.2.1 (k (.exit 0) (slices_IndexFunc_string_string_3_L0_tl0 x.1 x.2.1 x.2.2.1)) n s.1) (fun _ => rfl) (fun _ _ => rfl)
    (fun I s => slices_IndexFunc_string_string_3_L0_step N x.1 x.2.1 x.2.2.1 (fun j => k (.exit j)) I s.1) N (x.2.2.2.1, ())
theorem slices_IndexFunc_string_string_3_lp0 (N : Nat) : ∀ st k, (∀ st, k .ret st = (resD (slices_IndexFunc_string_string_3_E N) Tryz.f103 (slices_IndexFunc_string_string_3_sg fun x _ => slices_IndexFunc_string_string_3 N x.1 x.2.1) slices_IndexFunc_string_string_3_pk) st) → slices_IndexFunc_string_string_3_LP N 0 (cAt (bodyOf Tryz.f103) [true, false, true, false, false]) st k = iter (Env.hint (slices_IndexFunc_string_string_3_E N) 0) (exec (slices_IndexFunc_string_string_3_E N) N (cAt (bodyOf Tryz.f103) [true, false, true, false, false]) 0) N st k := fun st k hk => LPc_eq 19 slices_IndexFunc_string_string_3_L0_fs slices_IndexFunc_string_string_3_L0_bs _ _ (resD (slices_IndexFunc_string_string_3_E N) Tryz.f103 (slices_IndexFunc_string_string_3_sg fun x _ => slices_IndexFunc_string_string_3 N x.1 x.2.1) slices_IndexFunc_string_string_3_pk) (slices_IndexFunc_string_string_3_L0_ok N) _ st k hk (rfl)
theorem slices_IndexFunc_string_string_3_core (N : Nat) (x : SV [.v (.sl .str), .v (.clo 47 (.pr (.ptr (.pr .str (.pr (.sl (.pr .str .str)) (.sl .str)))) .un))]) (y : BV []) : runL (slices_IndexFunc_string_string_3_E N) Tryz.f103 (slices_IndexFunc_string_string_3_sg fun x _ => slices_IndexFunc_string_string_3 N x.1 x.2.1) slices_IndexFunc_string_string_3_pk (slices_IndexFunc_string_string_3_LP N) x y = slices_IndexFunc_string_string_3 N x.1 x.2.1 := by kernel_rfl
theorem slices_IndexFunc_string_string_3_sound (N : Nat) : Sound Tryz.prog GW B0G 103 (slices_IndexFunc_string_string_3_sg fun x _ => slices_IndexFunc_string_string_3 N x.1 x.2.1) :=
  runD_sound (mkE_ok slices_IndexFunc_string_string_3_h (slices_IndexFunc_string_string_3_fn N) _ _ (slices_IndexFunc_string_string_3_fn_ok N)) Tryz.func103 rfl Tryz.call103 (slices_IndexFunc_string_string_3_sg fun x _ => slices_IndexFunc_string_string_3 N x.1 x.2.1) slices_IndexFunc_string_string_3_pk (fun _ _ => rfl) N (fun x y _ h => ((runL_eq (slices_IndexFunc_string_string_3_E N) N Tryz.f103 (slices_IndexFunc_string_string_3_sg fun x _ => slices_IndexFunc_string_string_3 N x.1 x.2.1) slices_IndexFunc_string_string_3_pk (slices_IndexFunc_string_string_3_LP N) (show LoopsOk (slices_IndexFunc_string_string_3_LP N) (slices_IndexFunc_string_string_3_E N) N (resD (slices_IndexFunc_string_string_3_E N) Tryz.f103 (slices_IndexFunc_string_string_3_sg fun x _ => slices_IndexFunc_string_string_3 N x.1 x.2.1) slices_IndexFunc_string_string_3_pk) [(0, (cAt (bodyOf Tryz.f103) [true, false, true, false, false]))] from ⟨slices_IndexFunc_string_string_3_lp0 N, trivial⟩) x y).trans (slices_IndexFunc_string_string_3_core N x y)).trans h)
def slices_ContainsFunc_string_string_3 (N : Nat) (x0 : List Str) (x1 : (Str × List (Str × Str) × List Str) × Unit) : Option Bool :=
  bnd (slices_IndexFunc_string_string_3 N x0 x1) fun t7 =>
  some (decide (t7 ≥ (0 : Int)))
abbrev slices_ContainsFunc_string_string_3_sg (f : SV [.v (.sl .str), .v (.clo 47 (.pr (.ptr (.pr .str (.pr (.sl (.pr .str .str)) (.sl .str)))) .un))] → BV [] → Option (Bool)) : AF := { ps := [.v (.sl .str), .v (.clo 47 (.pr (.ptr (.pr .str (.pr (.sl (.pr .str .str)) (.sl .str)))) .un))], bs := [], rs := [.v .bool], cs := [], R := Bool, out := fun z => ((z, ()), ()), f := f }
abbrev slices_ContainsFunc_string_string_3_pk : SV [.v .bool] → BV [] → Bool := fun x _ => x.1
def slices_ContainsFunc_string_string_3_fn (N : Nat) : FuncId → Option Tmp → Option AF := fun f _ =>
  match f with
    | 103 => some (slices_IndexFunc_string_string_3_sg fun x _ => slices_IndexFunc_string_string_3 N x.1 x.2.1)
    | _ => none
theorem slices_ContainsFunc_string_string_3_fn_ok (N : Nat) : ∀ f q F, slices_ContainsFunc_string_string_3_fn N f q = some F → Sound Tryz.prog GW B0G f F := by
  intro f q F h
  unfold slices_ContainsFunc_string_string_3_fn at h
  split at h
  · cases h; exact slices_IndexFunc_string_string_3_sound N
  · cases h
def slices_ContainsFunc_string_string_3_h : Nat → Hint := fun i =>
  match i with
  | _ => ⟨[], [], [], [], [], []⟩
abbrev slices_ContainsFunc_string_string_3_E (N : Nat) : Env := mkE slices_ContainsFunc_string_string_3_h (slices_ContainsFunc_string_string_3_fn N) (fun _ => false) (fun _ => false)
noncomputable def slices_ContainsFunc_string_string_3_LP (N : Nat) : Nat → Code → St → (Ex → St → Option Bool) → Option Bool := fun i c =>
  match i with
  | i => fun st k => iter (slices_ContainsFunc_string_string_3_h i) (exec (slices_ContainsFunc_string_string_3_E N) N c i) N st k
theorem slices_ContainsFunc_string_string_3_core (N : Nat) (x : SV [.v (.sl .str), .v (.clo 47 (.pr (.ptr (.pr .str (.pr (.sl (.pr .str .str)) (.sl .str)))) .un))]) (y : BV []) : runL (slices_ContainsFunc_string_string_3_E N) Tryz.f46 (slices_ContainsFunc_string_string_3_sg fun x _ => slices_ContainsFunc_string_string_3 N x.1 x.2.1) slices_ContainsFunc_string_string_3_pk (slices_ContainsFunc_string_string_3_LP N) x y = slices_ContainsFunc_string_string_3 N x.1 x.2.1 := by kernel_rfl
theorem slices_ContainsFunc_string_string_3_sound (N : Nat) : Sound Tryz.prog GW B0G 46 (slices_ContainsFunc_string_string_3_sg fun x _ => slices_ContainsFunc_string_string_3 N x.1 x.2.1) :=
  runD_sound (mkE_ok slices_ContainsFunc_string_string_3_h (slices_ContainsFunc_string_string_3_fn N) _ _ (slices_ContainsFunc_string_string_3_fn_ok N)) Tryz.func46 rfl Tryz.call46 (slices_ContainsFunc_string_string_3_sg fun x _ => slices_ContainsFunc_string_string_3 N x.1 x.2.1) slices_ContainsFunc_string_string_3_pk (fun _ _ => rfl) N (fun x y _ h => ((runL_eq (slices_ContainsFunc_string_string_3_E N) N Tryz.f46 (slices_ContainsFunc_string_string_3_sg fun x _ => slices_ContainsFunc_string_string_3 N x.1 x.2.1) slices_ContainsFunc_string_string_3_pk (slices_ContainsFunc_string_string_3_LP N) (show LoopsOk (slices_ContainsFunc_string_string_3_LP N) (slices_ContainsFunc_string_string_3_E N) N (resD (slices_ContainsFunc_string_string_3_E N) Tryz.f46 (slices_ContainsFunc_string_string_3_sg fun x _ => slices_ContainsFunc_string_string_3 N x.1 x.2.1) slices_ContainsFunc_string_string_3_pk) [] from trivial) x y).trans (slices_ContainsFunc_string_string_3_core N x y)).trans h)
end
end Go.Proofs.YtbekhaioddmliaaGreatDoor


/- A function that turns a row of its caller's where it lies, and gives nothing back: the caller's slice is the one it was. -/
namespace Go.Proofs.YtbekhaioddmliaaGreatDoor
set_option linter.unusedVariables false
set_option linter.unusedSimpArgs false
open Go Go.RowKit Go.Shelf
theorem Sound.ofRowKept {P : Program} {G : World → Prop} {B0 : Nat} {f : FuncId} {ps : List Sl} {e : TypeId} {t : Ty} {F : SV ps → List t.den → Option (List t.den)}
    (hcall : ∀ (args : Array Value) (w : World), (callFunc f args).run P w = .ok (.enter f args) w) (hz : 0 < t.sz)
    (h : ∀ (M : Nat → Nat → Prop) (w : World) (g : Gh) (v0 : Value) (vs : List Value) (x : SV ps) (xs zs : List t.den) (cs : List Value), G w → (∀ b o, M b o → b < w.heap.size) → (∀ b, v0.ownBlock = some b → ∀ o, M b o) →
      w.ownsRow 0 e t.sz v0 xs.length cs → Els M w t xs cs → All2 (RepD0 M w g) (lays id ps x) vs → F x xs = some zs →
      Calls P f (v0 :: vs).toArray w fun en w' => ∃ cs', en = .returned (.tuple #[]) ∧ ExtX (fun b => v0.ownBlock = some b) w w' ∧
        w'.ownsRow 0 e t.sz v0 zs.length cs' ∧ Els M w t zs cs') :
    Sound P G B0 f ⟨.row 0 :: ps, [.row e t true], [], [.row e t true, .none], List t.den, fun z => ((), (z, ((), ()))), fun x y => F x.2 y.1⟩ := by
  refine ⟨hcall, fun M w g vs0 x y zs hG hB hF hz' => ?_⟩
  obtain ⟨_, x⟩ := x
  obtain ⟨xs, _⟩ := y
  match vs0, hF.args with
  | v0 :: vs, ⟨h0, hA⟩ =>
    obtain ⟨gx, A, n, c, hg0, hv, hv2⟩ := h0
    obtain ⟨gx', hg', _, cs, hown, hblk, hlo, hels⟩ := hF.res 0 (.row e t true xs) rfl
    replace hg0 : g 0 = some gx := hg0
    rw [hg'] at hg0
    cases hg0
    have hlo : gx.lo = 0 := hlo
    rw [← hv] at hown hblk
    have hM : ∀ b, v0.ownBlock = some b → ∀ o, M b o := fun b hb o => (hF.chg 0 gx b o hg' (by rw [hblk]; exact hb)).2 (by rw [hlo]; exact Nat.zero_le _)
    have honly : ∀ r gy, g r = some gy → r = 0 := fun r gy hr => by have := hF.dom r gy hr; exact Nat.lt_one_iff.1 this
    have hX : ∀ b, Xof g b ↔ v0.ownBlock = some b := fun b => by
      constructor
      · rintro ⟨r, gy, hr, hb⟩
        obtain rfl := honly r gy hr
        rw [hg'] at hr; cases hr
        rw [← hblk]; exact hb
      · intro hb
        exact ⟨0, gx, hg', by rw [hblk]; exact hb⟩
    refine (h M w g v0 vs x xs zs cs hG hF.mlt hM hown hels hA hz').mono fun en w' hp => ?_
    obtain ⟨cs', he, hE, hown', hels'⟩ := hp
    have hblk' : ∀ b, v0.ownBlock = some b → v0.ownBlock = some b ∨ w.heap.size ≤ b := fun b h => .inl h
    obtain ⟨v', hv0⟩ : ∃ v', v' = v0 := ⟨v0, rfl⟩
    rw [← hv0] at hown'
    replace hblk' : ∀ b, v'.ownBlock = some b → v0.ownBlock = some b ∨ w.heap.size ≤ b := by rw [hv0]; exact hblk'
    obtain ⟨g', hgd⟩ : ∃ g' : Gh, g' = fun r => if r = 0 then some ⟨v'.ownBlock, 0, v'⟩ else none := ⟨_, rfl⟩
    have hg0' : g' 0 = some ⟨v'.ownBlock, 0, v'⟩ := by rw [hgd]; rfl
    have hgo : ∀ r gy, g' r = some gy → r = 0 ∧ gy = ⟨v'.ownBlock, 0, v'⟩ := fun r gy hr => by
      rw [hgd] at hr
      by_cases h0 : r = 0
      · subst h0; simp at hr; exact ⟨rfl, hr.symm⟩
      · simp [h0] at hr
    have hnew : ∀ b o, Mafter M g g' b o → (M b o ∧ v0.ownBlock ≠ some b) ∨ v'.ownBlock = some b := fun b o hm => by
      rcases hm with ⟨hm, hx⟩ | ⟨r, gy, hr, hb, _⟩
      · exact .inl ⟨hm, fun hb => hx ((hX b).2 hb)⟩
      · obtain ⟨_, rfl⟩ := hgo r gy hr
        exact .inr hb
    have hstep : Step M w (Mafter M g g') w' := by
      have key : ∀ b o, b < w.heap.size → ¬ M b o → w'.heap[b]? = w.heap[b]? ∧ ¬ Mafter M g g' b o := fun b o hb hm => by
        have hnb : v0.ownBlock ≠ some b := fun h => hm (hM b h o)
        refine ⟨hE.block b hb hnb, fun hm' => ?_⟩
        rcases hnew b o hm' with ⟨h1, _⟩ | h1
        · exact hm h1
        · rcases hblk' b h1 with h2 | h2
          · exact hnb h2
          · omega
      refine ⟨fun ad u hu hm => ?_, fun b es c hb hm => ?_⟩
      · have hlt : ad.block < w.heap.size := World.block_lt_of_cell? w _ hu
        obtain ⟨h1, h2⟩ := key ad.block ad.off hlt hm
        exact ⟨(cell_of_block h1).trans hu, h2⟩
      · obtain ⟨h1, h2⟩ := key b 0 (lt_of_map hb) hm
        exact ⟨h1.trans hb, h2⟩
    obtain ⟨A', c', hv', _⟩ := Row.of_own' hown'
    have hlow : ∀ b, v'.ownBlock = some b → B0 ≤ b ∧ b < w'.heap.size := fun b hb => by
      refine ⟨?_, own_lt hown' hb⟩
      rcases hblk' b hb with h1 | h1
      · exact (hF.low 0 gx b hg' (by rw [hblk]; exact h1)).1
      · omega
    have hrow : RepD0 (Mafter M g g') w' g' (.row 0) v' := ⟨_, A', _, c', hg0', rfl, hv'⟩
    refine ⟨[], g', ?_, ⟨hE.os, hE.tape, hE.output, hE.size, fun k hk hx => hE.block k hk fun hb => hx ((hX k).2 hb)⟩, hstep, ?_, fun r gy hr hbm => ?_, fun b hb => ?_⟩
    · rw [he]
      rfl
    · exact {
        args := trivial
        res := fun r blk hr => by
          cases r with
          | zero =>
            obtain rfl : Blk.row e t true zs = blk := Option.some.inj hr
            exact ⟨_, hg0', hz, cs', hown', rfl, rfl, fun i hi => RepC.step hstep _ _ _ (hels' i hi)⟩
          | succ r =>
            cases r with
            | zero => cases hr
            | succ r => cases hr
        dom := fun r gy hr => by obtain ⟨rfl, _⟩ := hgo r gy hr; exact Nat.zero_lt_two
        inj := fun r r' gy gy' b hr hr' _ _ => by obtain ⟨rfl, _⟩ := hgo r gy hr; obtain ⟨rfl, _⟩ := hgo r' gy' hr'; rfl
        low := fun r gy b hr hb => by obtain ⟨_, rfl⟩ := hgo r gy hr; exact hlow b hb
        chg := fun r gy b o hr hb => ⟨fun _ => by obtain ⟨_, rfl⟩ := hgo r gy hr; exact Nat.zero_le _, fun hle => .inr ⟨r, gy, hr, hb, hle⟩⟩
        mlt := fun b o hm => by
          rcases hnew b o hm with ⟨h1, _⟩ | h1
          · exact Nat.lt_of_lt_of_le (hF.mlt b o h1) hE.size
          · exact (hlow b h1).2
        row := fun r gy b hr hb h0 => by obtain ⟨_, rfl⟩ := hgo r gy hr; exact absurd h0 (Nat.lt_irrefl 0) }
    · obtain rfl := honly r gy hr
      rw [hg'] at hr; cases hr
      rw [hg0', hv0]
      obtain ⟨b1, l1, v1⟩ := gx
      dsimp only at hv hblk hlo
      subst hv hblk hlo
      rfl
    · obtain ⟨r, gy, hr, hb⟩ := hb
      obtain ⟨_, rfl⟩ := hgo r gy hr
      rcases hblk' b hb with h1 | h1
      · exact .inl ((hX b).2 h1)
      · exact .inr h1
end Go.Proofs.YtbekhaioddmliaaGreatDoor


/-
  DERIVED: THE SHELF's CONTRACTS AT THIS DUMP, IN PLAIN WORDS (tools/lay-plain.mjs out of 'TryzShelfS.lean', which tools/lay-shelf.mjs wrote): THE SAME DECLARATIONS UNDER THE SAME NAMES: 'import', 'namespace', 'open', 'def', 'theorem' AND NOTHING ELSE: no command of the shelf's: FOR A HAND-IN. Each laying: the table of numbers ('.._ren') and one theorem, a field a fact of the dump's own or the kernel's comparison; each contract: ONE APPLICATION.
-/
namespace Go.Proofs
open Go.Shelf
def Tryz.sortS_ren : Go.Shelf.Ren := ⟨fun | 6 => 57 | 8 => 107 | 9 => 106 | 19 => 163 | 20 => 164 | 21 => 154 | 22 => 155 | 23 => 156 | 24 => 157 | 25 => 158 | 26 => 159 | 27 => 160 | 28 => 161 | 29 => 162 | 36 => 194 | 31 => 195 | 32 => 196 | 37 => 197 | 38 => 198 | 39 => 199 | 41 => 214 | n => n, fun | 27 => 29 | 29 => 9 | 3 => 3 | 32 => 142 | 26 => 29 | 0 => 0 | 44 => 192 | 46 => 194 | 4 => 4 | 36 => 185 | 35 => 184 | 41 => 130 | 5 => 5 | 9 => 9 | 53 => 214 | 57 => 218 | 63 => 231 | 64 => 232 | n => n, fun | n => n⟩
theorem Tryz.sortS : Go.Proofs.SlLaysM.n6 Tryz.prog Tryz.sortS_ren := {
  mixed := by kernel_rfl
  f6 := ⟨Tryz.f57.name, by decide, Tryz.func57.trans (congrArg some (by kernel_rfl))⟩
  f8 := Tryz.func107.trans (congrArg some (by kernel_rfl))
  f9 := ⟨Tryz.f106.name, by decide, Tryz.func106.trans (congrArg some (by kernel_rfl))⟩
  f19 := Tryz.func163.trans (congrArg some (by kernel_rfl))
  f20 := Tryz.func164.trans (congrArg some (by kernel_rfl))
  f21 := ⟨Tryz.f154.name, by decide, Tryz.func154.trans (congrArg some (by kernel_rfl))⟩
  f22 := ⟨Tryz.f155.name, by decide, Tryz.func155.trans (congrArg some (by kernel_rfl))⟩
  f23 := ⟨Tryz.f156.name, by decide, Tryz.func156.trans (congrArg some (by kernel_rfl))⟩
  f24 := ⟨Tryz.f157.name, by decide, Tryz.func157.trans (congrArg some (by kernel_rfl))⟩
  f25 := ⟨Tryz.f158.name, by decide, Tryz.func158.trans (congrArg some (by kernel_rfl))⟩
  f26 := ⟨Tryz.f159.name, by decide, Tryz.func159.trans (congrArg some (by kernel_rfl))⟩
  f27 := ⟨Tryz.f160.name, by decide, Tryz.func160.trans (congrArg some (by kernel_rfl))⟩
  f28 := ⟨Tryz.f161.name, by decide, Tryz.func161.trans (congrArg some (by kernel_rfl))⟩
  f29 := ⟨Tryz.f162.name, by decide, Tryz.func162.trans (congrArg some (by kernel_rfl))⟩
  f31 := Tryz.func195.trans (congrArg some (by kernel_rfl))
  f32 := Tryz.func196.trans (congrArg some (by kernel_rfl))
  f36 := ⟨Tryz.f194.name, by decide, Tryz.func194.trans (congrArg some (by kernel_rfl))⟩
  f37 := ⟨Tryz.f197.name, by decide, Tryz.func197.trans (congrArg some (by kernel_rfl))⟩
  f38 := ⟨Tryz.f198.name, by decide, Tryz.func198.trans (congrArg some (by kernel_rfl))⟩
  f39 := ⟨Tryz.f199.name, by decide, Tryz.func199.trans (congrArg some (by kernel_rfl))⟩
  f41 := ⟨Tryz.f214.name, by decide, Tryz.func214.trans (congrArg some (by kernel_rfl))⟩
  t0 := Tryz.underlying0
  a0 := Tryz.isAgg0
  z0 := Tryz.sizeOf0
  v0 := Tryz.zeroValue0
  t3 := Tryz.underlying3
  a3 := Tryz.isAgg3
  z3 := Tryz.sizeOf3
  v3 := Tryz.zeroValue3
  t4 := Tryz.underlying4
  a4 := Tryz.isAgg4
  z4 := Tryz.sizeOf4
  v4 := Tryz.zeroValue4
  t5 := Tryz.underlying5
  a5 := Tryz.isAgg5
  z5 := Tryz.sizeOf5
  v5 := Tryz.zeroValue5
  t9 := Tryz.underlying9
  a9 := Tryz.isAgg9
  z9 := Tryz.sizeOf9
  v9 := Tryz.zeroValue9
  t26 := Tryz.underlying29
  a26 := Tryz.isAgg29
  z26 := Tryz.sizeOf29
  v26 := Tryz.zeroValue29
  t27 := Tryz.underlying29
  a27 := Tryz.isAgg29
  z27 := Tryz.sizeOf29
  v27 := Tryz.zeroValue29
  t29 := Tryz.underlying9
  a29 := Tryz.isAgg9
  z29 := Tryz.sizeOf9
  v29 := Tryz.zeroValue9
  t32 := Tryz.underlying142
  a32 := Tryz.isAgg142
  z32 := Tryz.sizeOf142
  v32 := Tryz.zeroValue142
  t35 := Tryz.underlying184
  a35 := Tryz.isAgg184
  z35 := Tryz.sizeOf184
  v35 := Tryz.zeroValue184
  t36 := Tryz.underlying185
  a36 := Tryz.isAgg185
  z36 := Tryz.sizeOf185
  v36 := Tryz.zeroValue185
  t41 := Tryz.underlying130
  a41 := Tryz.isAgg130
  z41 := Tryz.sizeOf130
  v41 := Tryz.zeroValue130
  t44 := Tryz.underlying192
  a44 := Tryz.isAgg192
  z44 := Tryz.sizeOf192
  v44 := Tryz.zeroValue192
  t46 := Tryz.underlying194
  a46 := Tryz.isAgg194
  z46 := Tryz.sizeOf194
  v46 := Tryz.zeroValue194
  t53 := Tryz.underlying214
  a53 := Tryz.isAgg214
  z53 := Tryz.sizeOf214
  v53 := Tryz.zeroValue214
  t57 := Tryz.underlying218
  a57 := Tryz.isAgg218
  z57 := Tryz.sizeOf218
  v57 := Tryz.zeroValue218
  t63 := Tryz.underlying231
  a63 := Tryz.isAgg231
  z63 := Tryz.sizeOf231
  v63 := Tryz.zeroValue231
  t64 := Tryz.underlying232
  a64 := Tryz.isAgg232
  z64 := Tryz.sizeOf232
  v64 := Tryz.zeroValue232 }
end Go.Proofs


/- slices.Sort of strings, out of the kit's contract: it turns a row of its caller's. -/
namespace Go.Proofs.YtbekhaioddmliaaGreatDoor
set_option linter.unusedVariables false
set_option linter.unusedSimpArgs false
open Go Go.RowKit Go.Shelf
def leStr (x y : Str) : Bool := decide (x ≤ y)
def slices_Sort_string_string (xs : List Str) : Option (List Str) := if xs.length < 4611686018427387904 then some (xs.mergeSort leStr) else none
theorem sortW_block {α : Type} [Inhabited α] (enc : α → Value) {w : World} {n b : Nat} {d : Array α} {os : Array Obj} {cur : Array Value} {e : TypeId} {fz : Nat × Nat} (h : w.heap[b]? = some (.cells cur e fz)) :
    (Sort.grow (Sort.putRow enc (Sort.ahead w n) b 0 d) os).heap[b]? = some (.cells (Sort.putCells enc 0 d cur) e fz) := by
  have hb : b < w.heap.size := by
    apply Classical.byContradiction
    intro hn
    rw [Array.getElem?_eq_none (by omega)] at h
    cases h
  have hb2 : b < (w.heap.modify b (Sort.onCells (Sort.putCells enc 0 d))).size := by rw [Array.size_modify]; exact hb
  show (w.heap.modify b (Sort.onCells (Sort.putCells enc 0 d)) ++ os)[b]? = _
  rw [Array.getElem?_append_left hb2, Array.getElem?_modify, if_pos rfl, h]
  rfl
theorem sortW_ext {α : Type} [Inhabited α] (enc : α → Value) {w : World} {n b : Nat} {d : Array α} {os : Array Obj} : ExtX (fun k => b = k) w (Sort.grow (Sort.putRow enc (Sort.ahead w n) b 0 d) os) := by
  refine ⟨rfl, rfl, rfl, ?_, fun k hk hx => ?_⟩
  · show w.heap.size ≤ (w.heap.modify b (Sort.onCells (Sort.putCells enc 0 d)) ++ os).size
    rw [Array.size_append, Array.size_modify]; omega
  · have hb2 : k < (w.heap.modify b (Sort.onCells (Sort.putCells enc 0 d))).size := by rw [Array.size_modify]; exact hk
    show (w.heap.modify b (Sort.onCells (Sort.putCells enc 0 d)) ++ os)[k]? = _
    rw [Array.getElem?_append_left hb2, Array.getElem?_modify, if_neg hx]
theorem putCells_size {α : Type} [Inhabited α] (enc : α → Value) (d : Array α) (cur : Array Value) : (Sort.putCells enc 0 d cur).size = cur.size := by
  unfold Sort.putCells; simp
theorem putCells_take {α : Type} [Inhabited α] (enc : α → Value) (zs : List α) (cur : Array Value) (h : zs.length ≤ cur.size) : (Sort.putCells enc 0 zs.toArray cur).toList.take zs.length = zs.map enc := by
  apply List.ext_getElem
  · have e : (Sort.putCells enc 0 zs.toArray cur).toList.length = cur.size := by
      rw [Array.length_toList]; exact putCells_size _ _ _
    rw [List.length_take, List.length_map, e]; omega
  · intro k h1 h2
    rw [List.length_map] at h2
    rw [List.getElem_take, Array.getElem_toList, List.getElem_map]
    unfold Sort.putCells
    rw [Array.getElem_mapIdx, if_pos ⟨Nat.zero_le _, by simpa using h2⟩]
    simp [h2]
theorem slices_Sort_string_string_sound : Sound Tryz.prog GW B0G 57 ⟨[.row 0], [.row 9 .str true], [], [.row 9 .str true, .none], List Str, fun z => ((), (z, ((), ()))), fun x y => slices_Sort_string_string y.1⟩ := by
  refine Sound.ofRowKept (ps := []) (t := .str) (F := fun x xs => slices_Sort_string_string xs) Tryz.call57 (by decide) fun M w g v0 vs x xs zs cs hG hMl hM hown hels hA hz => ?_
  match vs, hA with
  | [], hA =>
    change slices_Sort_string_string xs = some zs at hz
    unfold slices_Sort_string_string at hz
    split at hz
    case isFalse => cases hz
    rename_i hbig
    injection hz with hz
    have hl := hown.1
    have hl' : cs.length = xs.length := by rw [hl]; exact Nat.mul_one _
    have hcs := els_str hl' hels
    have hzl : zs.length = xs.length := by rw [← hz]; exact List.length_mergeSort _
    rcases hown.2 with ⟨e1, e2⟩ | ⟨b, cap, cur, e1, _, hg, hle, hmax, hsz, htk⟩
    · have hx0 : xs = [] := List.eq_nil_of_length_eq_zero e2
      subst hx0 e1
      refine (AnyM.slices_Sort_string_none Tryz.sortS none 0 w).mono fun e w' hp => ?_
      obtain ⟨rfl, rfl⟩ := hp
      have hz0 : zs = [] := List.eq_nil_of_length_eq_zero hzl
      subst hz0
      exact ⟨[], rfl, ExtX.refl _ _, ⟨rfl, .inl ⟨rfl, rfl⟩⟩, fun i h => absurd h (Nat.not_lt_zero _)⟩
    · subst e1
      have hsz' : cur.size = cap := by rw [hsz]; exact Nat.mul_one _
      have htk' : cur.toList.take xs.length = xs.map fun x => Value.string ⟨x.toArray⟩ := by rw [← hcs, ← htk]; congr 1; exact (Nat.mul_one _).symm
      have hb : b < w.heap.size := by
        apply Classical.byContradiction
        intro hn
        rw [Array.getElem?_eq_none (by omega)] at hg
        cases hg
      have hH : Sort.Holds encStr w b 0 xs.toArray := fun k hk => by
        have hk : k < xs.length := by simpa using hk
        have h1 : cur.toList[k]? = some (Value.string ⟨xs[k].toArray⟩) := by
          have := congrArg (fun l => l[k]?) htk'
          simp only [List.getElem?_take, hk, if_true, List.getElem?_map, List.getElem?_eq_getElem hk, Option.map_some] at this
          exact this
        refine ⟨?_, by unfold World.frozen?; rw [hg]; simp⟩
        rw [Nat.zero_add]
        have e : encStr xs.toArray[k]! = Value.string ⟨xs[k].toArray⟩ := by simp [encStr, hk]
        rw [e]
        unfold World.cell?
        rw [hg]
        simpa using h1
      refine (AnyM.slices_Sort_string Tryz.sortS b 0 cap xs w hH hb hbig).mono fun e w' hp => ?_
      obtain ⟨rfl, n, os, rfl⟩ := hp
      have ez : (xs.mergeSort fun x y => decide (x ≤ y)) = zs := hz
      rw [ez]
      refine ⟨zs.map fun x => Value.string ⟨x.toArray⟩, rfl, (sortW_ext encStr).mono (fun k hk => by simpa [Value.ownBlock] using hk), ⟨by rw [List.length_map]; exact (Nat.mul_one _).symm, .inr ⟨b, cap, _, by rw [hzl], Nat.zero_le _, sortW_block encStr hg, by omega, hmax, ?_, ?_⟩⟩, str_els _⟩
      · rw [putCells_size]; exact hsz
      · rw [show zs.length * Ty.sz .str = zs.length from Nat.mul_one _]
        exact putCells_take encStr zs cur (by omega)
end Go.Proofs.YtbekhaioddmliaaGreatDoor



/-
  DERIVED: THE SHELF's CONTRACTS AT THIS DUMP, IN PLAIN WORDS (tools/lay-plain.mjs out of 'TryzShelfF.lean', which tools/lay-shelf.mjs wrote): THE SAME DECLARATIONS UNDER THE SAME NAMES: 'import', 'namespace', 'open', 'def', 'theorem' AND NOTHING ELSE: no command of the shelf's: FOR A HAND-IN. Each laying: the table of numbers ('.._ren') and one theorem, a field a fact of the dump's own or the kernel's comparison; each contract: ONE APPLICATION.
-/
namespace Go.Proofs
open Go.Shelf
def Tryz.sortF_ren : Go.Shelf.Ren := ⟨fun | 6 => 58 | 15 => 107 | 14 => 108 | 28 => 163 | 29 => 164 | 20 => 165 | 21 => 166 | 22 => 167 | 23 => 168 | 24 => 169 | 25 => 170 | 26 => 171 | 27 => 172 | 46 => 200 | 47 => 195 | 48 => 196 | 49 => 201 | 50 => 202 | 57 => 215 | n => n, fun | 22 => 33 | 24 => 53 | 25 => 98 | 3 => 3 | 39 => 142 | 0 => 0 | 53 => 192 | 55 => 194 | 4 => 4 | 46 => 185 | 45 => 184 | 50 => 130 | 5 => 5 | 9 => 9 | 66 => 214 | 70 => 218 | 76 => 231 | 77 => 232 | n => n, fun | n => n⟩
theorem Tryz.sortF : Go.Proofs.SlLaysF0.n6 Tryz.prog Tryz.sortF_ren := {
  mixed := by kernel_rfl
  f6 := ⟨Tryz.f58.name, by decide, Tryz.func58.trans (congrArg some (by kernel_rfl))⟩
  f14 := ⟨Tryz.f108.name, by decide, Tryz.func108.trans (congrArg some (by kernel_rfl))⟩
  f15 := Tryz.func107.trans (congrArg some (by kernel_rfl))
  f20 := ⟨Tryz.f165.name, by decide, Tryz.func165.trans (congrArg some (by kernel_rfl))⟩
  f21 := ⟨Tryz.f166.name, by decide, Tryz.func166.trans (congrArg some (by kernel_rfl))⟩
  f22 := ⟨Tryz.f167.name, by decide, Tryz.func167.trans (congrArg some (by kernel_rfl))⟩
  f23 := ⟨Tryz.f168.name, by decide, Tryz.func168.trans (congrArg some (by kernel_rfl))⟩
  f24 := ⟨Tryz.f169.name, by decide, Tryz.func169.trans (congrArg some (by kernel_rfl))⟩
  f25 := ⟨Tryz.f170.name, by decide, Tryz.func170.trans (congrArg some (by kernel_rfl))⟩
  f26 := ⟨Tryz.f171.name, by decide, Tryz.func171.trans (congrArg some (by kernel_rfl))⟩
  f27 := ⟨Tryz.f172.name, by decide, Tryz.func172.trans (congrArg some (by kernel_rfl))⟩
  f28 := Tryz.func163.trans (congrArg some (by kernel_rfl))
  f29 := Tryz.func164.trans (congrArg some (by kernel_rfl))
  f46 := ⟨Tryz.f200.name, by decide, Tryz.func200.trans (congrArg some (by kernel_rfl))⟩
  f47 := Tryz.func195.trans (congrArg some (by kernel_rfl))
  f48 := Tryz.func196.trans (congrArg some (by kernel_rfl))
  f49 := ⟨Tryz.f201.name, by decide, Tryz.func201.trans (congrArg some (by kernel_rfl))⟩
  f50 := ⟨Tryz.f202.name, by decide, Tryz.func202.trans (congrArg some (by kernel_rfl))⟩
  f57 := ⟨Tryz.f215.name, by decide, Tryz.func215.trans (congrArg some (by kernel_rfl))⟩
  t0 := Tryz.underlying0
  a0 := Tryz.isAgg0
  z0 := Tryz.sizeOf0
  v0 := Tryz.zeroValue0
  t3 := Tryz.underlying3
  a3 := Tryz.isAgg3
  z3 := Tryz.sizeOf3
  v3 := Tryz.zeroValue3
  t4 := Tryz.underlying4
  a4 := Tryz.isAgg4
  z4 := Tryz.sizeOf4
  v4 := Tryz.zeroValue4
  t5 := Tryz.underlying5
  a5 := Tryz.isAgg5
  z5 := Tryz.sizeOf5
  v5 := Tryz.zeroValue5
  t9 := Tryz.underlying9
  a9 := Tryz.isAgg9
  z9 := Tryz.sizeOf9
  v9 := Tryz.zeroValue9
  t22 := Tryz.underlying33
  a22 := Tryz.isAgg33
  z22 := Tryz.sizeOf33
  v22 := Tryz.zeroValue33
  t25 := Tryz.underlying98
  a25 := Tryz.isAgg98
  z25 := Tryz.sizeOf98
  v25 := Tryz.zeroValue98
  t39 := Tryz.underlying142
  a39 := Tryz.isAgg142
  z39 := Tryz.sizeOf142
  v39 := Tryz.zeroValue142
  t45 := Tryz.underlying184
  a45 := Tryz.isAgg184
  z45 := Tryz.sizeOf184
  v45 := Tryz.zeroValue184
  t46 := Tryz.underlying185
  a46 := Tryz.isAgg185
  z46 := Tryz.sizeOf185
  v46 := Tryz.zeroValue185
  t50 := Tryz.underlying130
  a50 := Tryz.isAgg130
  z50 := Tryz.sizeOf130
  v50 := Tryz.zeroValue130
  t53 := Tryz.underlying192
  a53 := Tryz.isAgg192
  z53 := Tryz.sizeOf192
  v53 := Tryz.zeroValue192
  t55 := Tryz.underlying194
  a55 := Tryz.isAgg194
  z55 := Tryz.sizeOf194
  v55 := Tryz.zeroValue194
  t66 := Tryz.underlying214
  a66 := Tryz.isAgg214
  z66 := Tryz.sizeOf214
  v66 := Tryz.zeroValue214
  t70 := Tryz.underlying218
  a70 := Tryz.isAgg218
  z70 := Tryz.sizeOf218
  v70 := Tryz.zeroValue218
  t76 := Tryz.underlying231
  a76 := Tryz.isAgg231
  z76 := Tryz.sizeOf231
  v76 := Tryz.zeroValue231
  t77 := Tryz.underlying232
  a77 := Tryz.isAgg232
  z77 := Tryz.sizeOf232
  v77 := Tryz.zeroValue232 }
end Go.Proofs


/- The closure of config.Then: it says which of two pairs comes first. -/
namespace Go.Proofs.YtbekhaioddmliaaGreatDoor
set_option linter.unusedVariables false
set_option linter.unusedSimpArgs false
open Go Go.RowKit Go.Shelf Go.Sort
def cfName (x y : Str × Str) : Int := if Op.bytesLess x.1 y.1 = true then -1 else 1
def encP (x : Str × Str) : List Value := [.string ⟨x.1.toArray⟩, .string ⟨x.2.toArray⟩]
theorem then1_calls (x y : Str × Str) (W : World) : Calls Tryz.prog 59 #[.agg (encP x).toArray, .agg (encP y).toArray] W fun e w' => e = .returned (.int .i64 (cfName x y)) ∧ ∃ q os', w' = Sort.grow (W.drewN q) os' := by
  unfold cfName encP
  go_enter Tryz.func59, Tryz.ntmps59
  go_wp2_with fail
  all_goals go_ret
  all_goals exact ⟨by simp_all, 0, _, by rw [Sort.alloc_eq_grow, Sort.alloc_eq_grow, Sort.grow_grow]; rfl⟩
end Go.Proofs.YtbekhaioddmliaaGreatDoor



/- slices.SortFunc of pairs by their names, out of the kit's contract: it turns a row of its caller's. -/
namespace Go.Proofs.YtbekhaioddmliaaGreatDoor
set_option linter.unusedVariables false
set_option linter.unusedSimpArgs false
open Go Go.RowKit Go.Shelf Go.Sort
theorem less_is : ∀ (x y : List UInt8), Op.bytesLess x y = decide (x < y)
  | [], [] => by simp [Op.bytesLess]
  | _ :: _, [] => by simp [Op.bytesLess]
  | [], _ :: _ => by simp [Op.bytesLess]
  | a :: x, b :: y => by
    rw [Op.bytesLess, less_is x y]
    simp only [List.cons_lt_cons_iff]
    by_cases h1 : a < b <;> by_cases h2 : a = b <;> by_cases h3 : x < y <;> simp [h1, h2, h3]
def slices_SortFunc_pair (_u : Unit) (xs : List (Str × Str)) : Option (List (Str × Str)) := if xs.length < 4611686018427387904 ∧ (xs.map (·.1)).Nodup then some (xs.mergeSort leName) else none
theorem lt_cfName (x y : Str × Str) : ltOf cfName x y = decide (x.1 < y.1) := by
  unfold ltOf cfName
  rw [less_is]
  by_cases h : x.1 < y.1 <;> simp [h]
theorem swo_cfName : Sort.SWO (ltOf cfName) where
  irrefl x := by rw [lt_cfName]; exact decide_eq_false (str_lt_irrefl _)
  trans x y z h1 h2 := by
    rw [lt_cfName] at *
    simp only [decide_eq_true_eq] at *
    exact str_lt_trans h1 h2
  ntrans x y z h1 h2 := by
    rw [lt_cfName] at *
    simp only [decide_eq_false_iff_not] at *
    exact fun h => absurd (List.le_trans (List.not_lt.1 h2) (List.not_lt.1 h1)) (List.not_le.2 h)
theorem pair_cells {M : Nat → Nat → Prop} {w : World} {x : Str × Str} {l : List Value} : RepC M w pairT x l ↔ l = encP x := by
  constructor
  · rintro ⟨c1, c2, rfl, h1, h2⟩
    rw [show c1 = [Value.string ⟨x.1.toArray⟩] from h1, show c2 = [Value.string ⟨x.2.toArray⟩] from h2]; rfl
  · rintro rfl
    exact ⟨[Value.string ⟨x.1.toArray⟩], [Value.string ⟨x.2.toArray⟩], rfl, rfl, rfl⟩
theorem flat_list {xs : List (Str × Str)} : ∀ t, t < xs.length * 2 → (flatK encP 2 xs.toArray).toList[t]? = (encP (xs[t / 2]?.getD ([], [])))[t % 2]? := fun t ht => by
  have hs : t < (flatK encP 2 xs.toArray).size := by rw [size_flatK]; simpa using ht
  have hi : t / 2 < xs.length := by omega
  have h2 : t % 2 < 2 := by omega
  rw [Array.getElem?_toList, Array.getElem?_eq_getElem hs, ← getElem!_pos _ t hs, get_flatK _ _ _ _ (by simpa using ht)]
  rw [List.getElem?_eq_getElem hi]
  have e1 : xs.toArray[t / 2]! = xs[t / 2] := by simp [hi]
  rw [e1]
  have hl : t % 2 < (encP xs[t / 2]).length := h2
  rw [getElem!_pos (encP xs[t / 2]) (t % 2) hl, Option.getD_some, List.getElem?_eq_getElem hl]
theorem els_flat {M : Nat → Nat → Prop} {w : World} {xs : List (Str × Str)} {cs : List Value} (hl : cs.length = xs.length * 2) (h : Els M w pairT xs cs) : cs = (flatK encP 2 xs.toArray).toList := by
  apply List.ext_getElem?
  intro t
  by_cases ht : t < xs.length * 2
  · have hi : t / 2 < xs.length := by omega
    have h1 : (cs.drop (t / 2 * 2)).take 2 = encP xs[t / 2] := pair_cells.1 (h (t / 2) hi)
    rw [flat_list t ht, List.getElem?_eq_getElem hi, Option.getD_some, ← h1, List.getElem?_take, if_pos (by omega), List.getElem?_drop]
    congr 1
    omega
  · rw [List.getElem?_eq_none (by omega), List.getElem?_eq_none (by rw [Array.length_toList, size_flatK]; simp; omega)]
theorem flat_els {M : Nat → Nat → Prop} {w : World} (xs : List (Str × Str)) : Els M w pairT xs (flatK encP 2 xs.toArray).toList := fun i h => by
  refine pair_cells.2 ?_
  show ((flatK encP 2 xs.toArray).toList.drop (i * 2)).take 2 = encP xs[i]
  apply List.ext_getElem?
  intro t
  rw [List.getElem?_take]
  by_cases ht : t < 2
  · rw [if_pos ht, List.getElem?_drop, flat_list _ (by omega), show (i * 2 + t) / 2 = i by omega, show (i * 2 + t) % 2 = t by omega, List.getElem?_eq_getElem h, Option.getD_some]
  · rw [if_neg ht, List.getElem?_eq_none (show (encP xs[i]).length ≤ t from by show 2 ≤ t; omega)]
theorem aggP : ∀ w, (isAgg 53).run Tryz.prog w = .ok true w := by
  intro w; kernel_rfl
theorem sizeP : ∀ w, (Go.sizeOf 53).run Tryz.prog w = .ok 2 w := by
  intro w; kernel_rfl
theorem slices_SortFunc_pair_sound : Sound Tryz.prog GW B0G 58 ⟨[.row 0, .v (.clo 59 .un)], [.row 53 pairT true], [], [.row 53 pairT true, .none], List (Str × Str), fun z => ((), (z, ((), ()))), fun x y => slices_SortFunc_pair x.2.1 y.1⟩ := by
  refine Sound.ofRowKept (ps := [.v (.clo 59 .un)]) (t := pairT) (F := fun x xs => slices_SortFunc_pair x.1 xs) Tryz.call58 (by decide) fun M w g v0 vs x xs zs cs hG hMl hM hown hels hA hz => ?_
  match vs, hA with
  | [v1], hA =>
    obtain ⟨h1, _⟩ := hA
    have h3 := RepV.plain (t := .clo 59 .un) rfl h1
    obtain ⟨caps, h4, h5⟩ := h3
    injection h4 with h4
    have h6 : caps = #[] := by
      have : caps.toList = [] := h5
      exact Array.toList_eq_nil_iff.1 this
    subst h6
    rw [h4]
    change slices_SortFunc_pair x.1 xs = some zs at hz
    unfold slices_SortFunc_pair at hz
    split at hz
    case isFalse => cases hz
    rename_i hc
    obtain ⟨hbig, hnd⟩ := hc
    injection hz with hz
    have hl : cs.length = xs.length * 2 := hown.1
    have hcs := els_flat hl hels
    have hzl : zs.length = xs.length := by rw [← hz]; exact List.length_mergeSort _
    have eg : ∀ args w, (callFunc 59 args).run Tryz.prog w = .ok (.enter 59 args) w := Tryz.call59
    have con := fun (blk cap : Nat) (hH : HoldsK encP 2 w blk 0 xs.toArray) (hblk : blk < w.heap.size) => AnyQ.slices_SortFunc Tryz.sortF 2 aggP sizeP encP (fun _ => rfl) (fun x v hv => by simp [encP] at hv; rcases hv with rfl | rfl <;> rfl) cfName swo_cfName 59 #[] blk 0 cap xs.toArray w eg (fun _ _ _ _ x y => then1_calls x y _) hH hblk (by simpa using hbig)
    rcases hown.2 with ⟨e1, e2⟩ | ⟨b, cap, cur, e1, _, hg, hle, hmax, hsz, htk⟩
    · have hx0 : xs = [] := List.eq_nil_of_length_eq_zero e2
      subst hx0 e1
      refine (AnyF.slices_SortFunc_none Tryz.sortF none 0 _ w).mono fun e w' hp => ?_
      obtain ⟨rfl, rfl⟩ := hp
      have hz0 : zs = [] := List.eq_nil_of_length_eq_zero hzl
      subst hz0
      exact ⟨[], rfl, ExtX.refl _ _, ⟨rfl, .inl ⟨rfl, rfl⟩⟩, fun i h => absurd h (Nat.not_lt_zero _)⟩
    · subst e1
      have hsz' : cur.size = cap * 2 := hsz
      have htk' : cur.toList.take (xs.length * 2) = (flatK encP 2 xs.toArray).toList := by rw [← hcs, ← htk]; rfl
      have hb : b < w.heap.size := by
        apply Classical.byContradiction
        intro hn
        rw [Array.getElem?_eq_none (by omega)] at hg
        cases hg
      have hH : HoldsK encP 2 w b 0 xs.toArray := fun k hk => by
        have hk' : k < xs.length * 2 := by rw [size_flatK] at hk; simpa using hk
        have h1 : cur.toList[k]? = some ((flatK encP 2 xs.toArray)[k]!) := by
          have := congrArg (fun l => l[k]?) htk'
          simp only [List.getElem?_take, hk', if_true, Array.getElem?_toList, Array.getElem?_eq_getElem hk] at this
          rw [getElem!_pos _ k hk]
          simpa using this
        refine ⟨?_, by unfold World.frozen?; rw [hg]; simp⟩
        rw [Nat.zero_add]
        unfold World.cell?
        rw [hg]
        simpa using h1
      refine (con b cap hH hb).mono fun e w' hp => ?_
      obtain ⟨rfl, d', n, os, ⟨hps, _, hpp⟩, hso, rfl⟩ := hp
      have hd : d'.toList = zs := by
        rw [← hz]
        have hds : d'.size = xs.length := by rw [hps]; simp
        refine sort_unique hnd ?_ ?_
        · have := hpp
          rw [show xs.toArray.size = xs.length from by simp] at this
          have e1 : (d'.extract 0 xs.length) = d' := by rw [← hds]; exact Array.extract_size
          have e2 : (xs.toArray.extract 0 xs.length) = xs.toArray := by rw [show xs.length = xs.toArray.size from by simp]; exact Array.extract_size
          rw [e1, e2] at this
          simpa using this
        · rw [List.pairwise_iff_getElem]
          intro i j hi hj hij
          have := hso i j (Nat.zero_le _) hij (by rw [Array.length_toList] at hj; rw [← hps]; exact hj)
          rw [lt_cfName] at this
          rw [Array.length_toList] at hi hj
          rw [getElem!_pos d' i hi, getElem!_pos d' j hj] at this
          simpa using this
      have hd' : d' = zs.toArray := by rw [← hd]
      subst hd'
      refine ⟨(flatK encP 2 zs.toArray).toList, rfl, (sortW_ext id).mono (fun k hk => by simpa [Value.ownBlock] using hk), ⟨by rw [Array.length_toList, size_flatK]; simp; rfl, .inr ⟨b, cap, _, by rw [hzl], Nat.zero_le _, sortW_block id hg, by omega, hmax, ?_, ?_⟩⟩, flat_els zs⟩
      · rw [putCells_size]; exact hsz
      · have h9 := putCells_take id (flatK encP 2 zs.toArray).toList cur (by rw [Array.length_toList, size_flatK, hsz']; simp; omega)
        rw [Array.length_toList, size_flatK, Array.toArray_toList, List.map_id] at h9
        show List.take (zs.length * 2) _ = _
        simpa using h9
end Go.Proofs.YtbekhaioddmliaaGreatDoor


