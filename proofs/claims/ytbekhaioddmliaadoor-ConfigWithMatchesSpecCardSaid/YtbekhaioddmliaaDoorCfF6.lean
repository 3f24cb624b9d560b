/- What functions of the program compute, as plain functions (printed). -/
import Derived.Test.YtbekhaioddmliaaDoorCfF5
namespace Go.Proofs.YtbekhaioddmliaaDoor
open Go Go.RowKit
set_option maxRecDepth 100000
set_option linter.unusedVariables false
noncomputable section
def ref3_Tools_L0T (N : Nat) (x2 : List Str) (c34 : List Str) (c35 : Int) (k0 : Option (Str × Bool × Int × List Str)) (self : Int → Option (Str × Bool × Int × List Str)) (s36 : Int) : Option (Str × Bool × Int × List Str) :=
  br (decide (s36 < c35))
    (bnd (geti c34 s36) fun t39 =>
    bnd (ref3_IsWord N t39) fun t42 =>
    br (!t42)
      (some (([] : Str), (false, ((5 : Int), ([] : List Str)))))
      (br (decide (s36 > (0 : Int)))
        (bnd (geti x2 (IntKind.i64.wrap (s36 - (1 : Int)))) fun t51 =>
        br (Op.bytesLess t39 t51 || t39 == t51)
          (some (([] : Str), (false, ((8 : Int), ([] : List Str)))))
          (self (IntKind.i64.wrap (s36 + (1 : Int)))))
        (self (IntKind.i64.wrap (s36 + (1 : Int))))))
    (k0)
def ref3_Tools_L0 (N : Nat) (x2 : List Str) (c34 : List Str) (c35 : Int) (k0 : Option (Str × Bool × Int × List Str)) : Nat → Int → Option (Str × Bool × Int × List Str)
  | 0, _ => none
  | n + 1, s36 => ref3_Tools_L0T N x2 c34 c35 k0 (ref3_Tools_L0 N x2 c34 c35 k0 n) s36
def ref3_Tools_L1T (N : Nat) (x1 : List (Str × Str × List (Str × Str) × List (Str × Str))) (x2 : List Str) (x0 : List (Str × List (Str × Str))) (c63 : Int) (c1007_0_1 : Str) (c1007_1_2 : List (Str × Str)) (k2 : Option (Str × Bool × Int × List Str)) (self : Int → Option (Str × Bool × Int × List Str)) (s64 : Int) : Option (Str × Bool × Int × List Str) :=
  br (decide (s64 < c63))
    (bnd (geti x0 s64) fun t66 =>
    bnd (ref3_toolsOn N t66 x1 x2 (c1007_0_1, c1007_1_2)) fun t73 =>
    br (t73.1)
      (some (t66.1, (true, ((0 : Int), t73.2))))
      (self (IntKind.i64.wrap (s64 + (1 : Int)))))
    (k2)
def ref3_Tools_L1 (N : Nat) (x1 : List (Str × Str × List (Str × Str) × List (Str × Str))) (x2 : List Str) (x0 : List (Str × List (Str × Str))) (c63 : Int) (c1007_0_1 : Str) (c1007_1_2 : List (Str × Str)) (k2 : Option (Str × Bool × Int × List Str)) : Nat → Int → Option (Str × Bool × Int × List Str)
  | 0, _ => none
  | n + 1, s64 => ref3_Tools_L1T N x1 x2 x0 c63 c1007_0_1 c1007_1_2 k2 (ref3_Tools_L1 N x1 x2 x0 c63 c1007_0_1 c1007_1_2 k2 n) s64
def ref3_Tools (N : Nat) (x0 : List (Str × List (Str × Str))) (x1 : List (Str × Str × List (Str × Str) × List (Str × Str))) (x2 : List Str) (x3 : Str × List (Str × Str)) : Option (Str × Bool × Int × List Str) :=
  bnd (ref3_CheckPlatforms N x0) fun t22 =>
  br (t22 != (0 : Int))
    (some (([] : Str), (false, (t22, ([] : List Str)))))
    (bnd (ref3_CheckTools N x1) fun t27 =>
    br (t27 != (0 : Int))
      (some (([] : Str), (false, (t27, ([] : List Str)))))
      (br (decide ((x2.length : Int) > (30 : Int)))
        (some (([] : Str), (false, ((2 : Int), ([] : List Str)))))
        (ref3_Tools_L0 N x2 x2 (x2.length : Int) (bnd (ref3_CheckPlatforms N [x3]) fun t58 =>
            br (t58 != (0 : Int))
              (some (([] : Str), (false, (t58, ([] : List Str)))))
              (ref3_Tools_L1 N x1 x2 x0 (x0.length : Int) x3.1 x3.2 (some (([] : Str), (false, ((0 : Int), ([] : List Str))))) N (0 : Int))) N (0 : Int))))
abbrev ref3_Tools_sg (f : SV [.v (.sl (.pr .str (.sl (.pr .str .str)))), .v (.sl (.pr .str (.pr .str (.pr (.sl (.pr .str .str)) (.sl (.pr .str .str)))))), .v (.sl .str), .v (.pr .str (.sl (.pr .str .str)))] → BV [] → Option (Str × Bool × Int × List Str)) : AF := { ps := [.v (.sl (.pr .str (.sl (.pr .str .str)))), .v (.sl (.pr .str (.pr .str (.pr (.sl (.pr .str .str)) (.sl (.pr .str .str)))))), .v (.sl .str), .v (.pr .str (.sl (.pr .str .str)))], bs := [], rs := [.v .str, .row 0, .v .bool, .v (.int .i64)], cs := [.row 9 .str false], R := Str × Bool × Int × List Str, out := fun z => ((z.1, (), z.2.1, z.2.2.1, ()), (z.2.2.2, ())), f := f }
abbrev ref3_Tools_pk : SV [.v .str, .row 0, .v .bool, .v (.int .i64)] → BV [.row 9 .str false] → (Str × Bool × Int × List Str) := fun x y => (x.1, x.2.2.1, x.2.2.2.1, y.1)
def ref3_Tools_fn (N : Nat) : FuncId → Option Tmp → Option AF := fun f _ =>
  match f with
    | 24 => some (ref3_CheckPlatforms_sg fun x _ => ref3_CheckPlatforms N x.1)
    | 30 => some (ref3_CheckTools_sg fun x _ => ref3_CheckTools N x.1)
    | 55 => some (ref3_IsWord_sg fun x _ => ref3_IsWord N x.1)
    | 69 => some (ref3_toolsOn_sg fun x _ => ref3_toolsOn N x.1 x.2.1 x.2.2.1 x.2.2.2.1)
    | _ => none
theorem ref3_Tools_fn_ok (N : Nat) : ∀ f q F, ref3_Tools_fn N f q = some F → Sound Tryd.prog GW B0G f F := by
  intro f q F h
  unfold ref3_Tools_fn at h
  split at h
  · cases h; exact ref3_CheckPlatforms_sound N
  · cases h; exact ref3_CheckTools_sound N
  · cases h; exact ref3_IsWord_sound N
  · cases h; exact ref3_toolsOn_sound N
  · cases h
def ref3_Tools_h : Nat → Hint := fun i =>
  match i with
  | 0 => ⟨[], [0, 1, 2, 7, 34, 35, 36], [1007], [0, 1, 2, 7], [1007]⟩
  | 2 => ⟨[], [1, 2, 7, 62, 63, 64], [1007], [], []⟩
  | _ => ⟨[], [], [], [], []⟩
abbrev ref3_Tools_E (N : Nat) : Env := mkE ref3_Tools_h (ref3_Tools_fn N) (fun _ => false) (fun _ => false)
abbrev ref3_Tools_L0_fs : List (Nat × Sl) := [(0, .v (.sl (.pr .str (.sl (.pr .str .str))))), (1, .v (.sl (.pr .str (.pr .str (.pr (.sl (.pr .str .str)) (.sl (.pr .str .str))))))), (2, .v (.sl .str)), (7, .box 1007 0), (34, .v (.sl .str)), (35, .v (.int .i64)), (36, .v (.int .i64))]
abbrev ref3_Tools_L0_bs : List (Nat × Sb) := [(1007, .cells [.v .str, .v (.sl (.pr .str .str))])]
def ref3_Tools_L0_hd (x0 : List (Str × List (Str × Str))) (x1 : List (Str × Str × List (Str × Str) × List (Str × Str))) (x2 : List Str) (c34 : List Str) (c35 : Int) (c1007_0 : Str) (c1007_1 : List (Str × Str)) (s36 : Int) : St := ⟨81, [(0, .v (.sl (.pr .str (.sl (.pr .str .str)))) x0), (1, .v (.sl (.pr .str (.pr .str (.pr (.sl (.pr .str .str)) (.sl (.pr .str .str)))))) x1), (2, .v (.sl .str) x2), (7, .box 1007 0), (34, .v (.sl .str) c34), (35, .v (.int .i64) c35), (36, .v (.int .i64) s36)], [(1007, .cells [.v .str c1007_0, .v (.sl (.pr .str .str)) c1007_1])]⟩
def ref3_Tools_L0_tl0 (x0 : List (Str × List (Str × Str))) (x1 : List (Str × Str × List (Str × Str) × List (Str × Str))) (x2 : List Str) (_c34 : List Str) (_c35 : Int) (c1007_0 : Str) (c1007_1 : List (Str × Str)) : St := ⟨81, [(0, .v (.sl (.pr .str (.sl (.pr .str .str)))) x0), (1, .v (.sl (.pr .str (.pr .str (.pr (.sl (.pr .str .str)) (.sl (.pr .str .str)))))) x1), (2, .v (.sl .str) x2), (7, .box 1007 0)], [(1007, .cells [.v .str c1007_0, .v (.sl (.pr .str .str)) c1007_1])]⟩
def ref3_Tools_L0_G (N : Nat) (x0 : List (Str × List (Str × Str))) (x1 : List (Str × Str × List (Str × Str) × List (Str × Str))) (x2 : List Str) (c34 : List Str) (c35 : Int) (c1007_0 : Str) (c1007_1 : List (Str × Str)) (s36 : Int) (k : Ex → St → Option (Str × Bool × Int × List Str)) : Option (Str × Bool × Int × List Str) :=
  ref3_Tools_L0 N x2 c34 c35 (k (.exit 0) (ref3_Tools_L0_tl0 x0 x1 x2 c34 c35 c1007_0 c1007_1)) N s36
abbrev ref3_Tools_L0_F (N : Nat) : FV ref3_Tools_L0_fs → HV ref3_Tools_L0_bs → (Ex → St → Option (Str × Bool × Int × List Str)) → Option (Str × Bool × Int × List Str) := fun x y k => ref3_Tools_L0_G N x.1 x.2.1 x.2.2.1 x.2.2.2.2.1 x.2.2.2.2.2.1 y.1.1 y.1.2.1 x.2.2.2.2.2.2.1 k
abbrev ref3_Tools_L1_fs : List (Nat × Sl) := [(1, .v (.sl (.pr .str (.pr .str (.pr (.sl (.pr .str .str)) (.sl (.pr .str .str))))))), (2, .v (.sl .str)), (7, .box 1007 0), (62, .v (.sl (.pr .str (.sl (.pr .str .str))))), (63, .v (.int .i64)), (64, .v (.int .i64))]
abbrev ref3_Tools_L1_bs : List (Nat × Sb) := [(1007, .cells [.v .str, .v (.sl (.pr .str .str))])]
def ref3_Tools_L1_hd (x1 : List (Str × Str × List (Str × Str) × List (Str × Str))) (x2 : List Str) (x0 : List (Str × List (Str × Str))) (c63 : Int) (c1007_0_1 : Str) (c1007_1_2 : List (Str × Str)) (s64 : Int) : St := ⟨81, [(1, .v (.sl (.pr .str (.pr .str (.pr (.sl (.pr .str .str)) (.sl (.pr .str .str)))))) x1), (2, .v (.sl .str) x2), (7, .box 1007 0), (62, .v (.sl (.pr .str (.sl (.pr .str .str)))) x0), (63, .v (.int .i64) c63), (64, .v (.int .i64) s64)], [(1007, .cells [.v .str c1007_0_1, .v (.sl (.pr .str .str)) c1007_1_2])]⟩
def ref3_Tools_L1_tl2 (_x1 : List (Str × Str × List (Str × Str) × List (Str × Str))) (_x2 : List Str) (_x0 : List (Str × List (Str × Str))) (_c63 : Int) (_c1007_0_1 : Str) (_c1007_1_2 : List (Str × Str)) : St := ⟨81, [], []⟩
def ref3_Tools_L1_G (N : Nat) (x1 : List (Str × Str × List (Str × Str) × List (Str × Str))) (x2 : List Str) (x0 : List (Str × List (Str × Str))) (c63 : Int) (c1007_0_1 : Str) (c1007_1_2 : List (Str × Str)) (s64 : Int) (k : Ex → St → Option (Str × Bool × Int × List Str)) : Option (Str × Bool × Int × List Str) :=
  ref3_Tools_L1 N x1 x2 x0 c63 c1007_0_1 c1007_1_2 (k (.exit 2) (ref3_Tools_L1_tl2 x1 x2 x0 c63 c1007_0_1 c1007_1_2)) N s64
abbrev ref3_Tools_L1_F (N : Nat) : FV ref3_Tools_L1_fs → HV ref3_Tools_L1_bs → (Ex → St → Option (Str × Bool × Int × List Str)) → Option (Str × Bool × Int × List Str) := fun x y k => ref3_Tools_L1_G N x.1 x.2.1 x.2.2.2.1 x.2.2.2.2.1 y.1.1 y.1.2.1 x.2.2.2.2.2.1 k
noncomputable def ref3_Tools_LP (N : Nat) : Nat → Code → St → (Ex → St → Option (Str × Bool × Int × List Str)) → Option (Str × Bool × Int × List Str) := fun i c =>
  match i with
  | 0 => (LPc 81 ref3_Tools_L0_fs ref3_Tools_L0_bs (ref3_Tools_L0_F N) (fun st k => iter (ref3_Tools_h 0) (exec (ref3_Tools_E N) N c 0) N st k))
  | 2 => (LPc 81 ref3_Tools_L1_fs ref3_Tools_L1_bs (ref3_Tools_L1_F N) (fun st k => iter (ref3_Tools_h 2) (exec (ref3_Tools_E N) N c 2) N st k))
  | i => fun st k => iter (ref3_Tools_h i) (exec (ref3_Tools_E N) N c i) N st k
theorem ref3_Tools_L1_step (N : Nat) (x1 : List (Str × Str × List (Str × Str) × List (Str × Str))) (x2 : List Str) (x0 : List (Str × List (Str × Str))) (c63 : Int) (c1007_0_1 : Str) (c1007_1_2 : List (Str × Str)) (KX : Nat → St → Option (Str × Bool × Int × List Str)) (I : St → Option (Str × Bool × Int × List Str)) (s64 : Int) :
    execL (ref3_Tools_LP N) (ref3_Tools_E N) (cAt (bodyOf Tryd.f28) [true, true, true, true, true, true, false, true, false, false]) 2 (ref3_Tools_L1_hd x1 x2 x0 c63 c1007_0_1 c1007_1_2 s64) (roundK (ref3_Tools_h 2) I KX (resD (ref3_Tools_E N) Tryd.f28 (ref3_Tools_sg fun x _ => ref3_Tools N x.1 x.2.1 x.2.2.1 x.2.2.2.1) ref3_Tools_pk)) = ref3_Tools_L1T N x1 x2 x0 c63 c1007_0_1 c1007_1_2 (KX 2 (ref3_Tools_L1_tl2 x1 x2 x0 c63 c1007_0_1 c1007_1_2)) (fun s64 => I (ref3_Tools_L1_hd x1 x2 x0 c63 c1007_0_1 c1007_1_2 s64)) s64 := by kernel_rfl
theorem ref3_Tools_L1_ok (N : Nat) : ∀ x y k, (∀ st, k .ret st = (resD (ref3_Tools_E N) Tryd.f28 (ref3_Tools_sg fun x _ => ref3_Tools N x.1 x.2.1 x.2.2.1 x.2.2.2.1) ref3_Tools_pk) st) → iter (ref3_Tools_h 2) (exec (ref3_Tools_E N) N (cAt (bodyOf Tryd.f28) [true, true, true, true, true, true, false, true, false, false]) 2) N ⟨81, unF ref3_Tools_L1_fs x, unH ref3_Tools_L1_bs y⟩ k = ref3_Tools_L1_F N x y k := fun x y k hk =>
  iter_link (S := (Int) × Unit) (ref3_Tools_h 2) _ (execL (ref3_Tools_LP N) (ref3_Tools_E N) (cAt (bodyOf Tryd.f28) [true, true, true, true, true, true, false, true, false, false]) 2) (resD (ref3_Tools_E N) Tryd.f28 (ref3_Tools_sg fun x _ => ref3_Tools N x.1 x.2.1 x.2.2.1 x.2.2.2.1) ref3_Tools_pk) (fun st k hk => execL_eq _ _ N _ (cAt (bodyOf Tryd.f28) [true, true, true, true, true, true, false, true, false, false]) 2 (show LoopsOk (ref3_Tools_LP N) (ref3_Tools_E N) N (resD (ref3_Tools_E N) Tryd.f28 (ref3_Tools_sg fun x _ => ref3_Tools N x.1 x.2.1 x.2.2.1 x.2.2.2.1) ref3_Tools_pk) [] from trivial) st k hk) (fun s => ref3_Tools_L1_hd x.1 x.2.1 x.2.2.2.1 x.2.2.2.2.1 y.1.1 y.1.2.1 s.1) k hk
    (fun self s => ref3_Tools_L1T N x.1 x.2.1 x.2.2.2.1 x.2.2.2.2.1 y.1.1 y.1.2.1 (k (.exit 2) (ref3_Tools_L1_tl2 x.1 x.2.1 x.2.2.2.1 x.2.2.2.2.1 y.1.1 y.1.2.1)) (fun s64 => self (s64, ())) s.1) (fun n s => ref3_Tools_L1 N x.1 x.2.1 x.2.2.2.1 x.2.2.2.2.1 y.1.1 y.1.2.1 (k (.exit 2) (ref3_Tools_L1_tl2 x.1 x.2.1 x.2.2.2.1 x.2.2.2.2.1 y.1.1 y.1.2.1)) n s.1) (fun _ => rfl) (fun _ _ => rfl)
    (fun I s => ref3_Tools_L1_step N x.1 x.2.1 x.2.2.2.1 x.2.2.2.2.1 y.1.1 y.1.2.1 (fun j => k (.exit j)) I s.1) N (x.2.2.2.2.2.1, ())
theorem ref3_Tools_lp2 (N : Nat) : ∀ st k, (∀ st, k .ret st = (resD (ref3_Tools_E N) Tryd.f28 (ref3_Tools_sg fun x _ => ref3_Tools N x.1 x.2.1 x.2.2.1 x.2.2.2.1) ref3_Tools_pk) st) → ref3_Tools_LP N 2 (cAt (bodyOf Tryd.f28) [true, true, true, true, true, true, false, true, false, false]) st k = iter (Env.hint (ref3_Tools_E N) 2) (exec (ref3_Tools_E N) N (cAt (bodyOf Tryd.f28) [true, true, true, true, true, true, false, true, false, false]) 2) N st k := fun st k hk => LPc_eq 81 ref3_Tools_L1_fs ref3_Tools_L1_bs _ _ (resD (ref3_Tools_E N) Tryd.f28 (ref3_Tools_sg fun x _ => ref3_Tools N x.1 x.2.1 x.2.2.1 x.2.2.2.1) ref3_Tools_pk) (ref3_Tools_L1_ok N) _ st k hk (rfl)
theorem ref3_Tools_L0_step (N : Nat) (x0 : List (Str × List (Str × Str))) (x1 : List (Str × Str × List (Str × Str) × List (Str × Str))) (x2 : List Str) (c34 : List Str) (c35 : Int) (c1007_0 : Str) (c1007_1 : List (Str × Str)) (KX : Nat → St → Option (Str × Bool × Int × List Str)) (I : St → Option (Str × Bool × Int × List Str)) (s36 : Int) :
    execL (ref3_Tools_LP N) (ref3_Tools_E N) (cAt (bodyOf Tryd.f28) [true, true, true, true, false, true, false, false]) 0 (ref3_Tools_L0_hd x0 x1 x2 c34 c35 c1007_0 c1007_1 s36) (roundK (ref3_Tools_h 0) I KX (resD (ref3_Tools_E N) Tryd.f28 (ref3_Tools_sg fun x _ => ref3_Tools N x.1 x.2.1 x.2.2.1 x.2.2.2.1) ref3_Tools_pk)) = ref3_Tools_L0T N x2 c34 c35 (KX 0 (ref3_Tools_L0_tl0 x0 x1 x2 c34 c35 c1007_0 c1007_1)) (fun s36 => I (ref3_Tools_L0_hd x0 x1 x2 c34 c35 c1007_0 c1007_1 s36)) s36 := by kernel_rfl
theorem ref3_Tools_L0_ok (N : Nat) : ∀ x y k, (∀ st, k .ret st = (resD (ref3_Tools_E N) Tryd.f28 (ref3_Tools_sg fun x _ => ref3_Tools N x.1 x.2.1 x.2.2.1 x.2.2.2.1) ref3_Tools_pk) st) → iter (ref3_Tools_h 0) (exec (ref3_Tools_E N) N (cAt (bodyOf Tryd.f28) [true, true, true, true, false, true, false, false]) 0) N ⟨81, unF ref3_Tools_L0_fs x, unH ref3_Tools_L0_bs y⟩ k = ref3_Tools_L0_F N x y k := fun x y k hk =>
  iter_link (S := (Int) × Unit) (ref3_Tools_h 0) _ (execL (ref3_Tools_LP N) (ref3_Tools_E N) (cAt (bodyOf Tryd.f28) [true, true, true, true, false, true, false, false]) 0) (resD (ref3_Tools_E N) Tryd.f28 (ref3_Tools_sg fun x _ => ref3_Tools N x.1 x.2.1 x.2.2.1 x.2.2.2.1) ref3_Tools_pk) (fun st k hk => execL_eq _ _ N _ (cAt (bodyOf Tryd.f28) [true, true, true, true, false, true, false, false]) 0 (show LoopsOk (ref3_Tools_LP N) (ref3_Tools_E N) N (resD (ref3_Tools_E N) Tryd.f28 (ref3_Tools_sg fun x _ => ref3_Tools N x.1 x.2.1 x.2.2.1 x.2.2.2.1) ref3_Tools_pk) [] from trivial) st k hk) (fun s => ref3_Tools_L0_hd x.1 x.2.1 x.2.2.1 x.2.2.2.2.1 x.2.2.2.2.2.1 y.1.1 y.1.2.1 s.1) k hk
    (fun self s => ref3_Tools_L0T N x.2.2.1 x.2.2.2.2.1 x.2.2.2.2.2.1 (k (.exit 0) (ref3_Tools_L0_tl0 x.1 x.2.1 x.2.2.1 x.2.2.2.2.1 x.2.2.2.2.2.1 y.1.1 y.1.2.1)) (fun s36 => self (s36, ())) s.1) (fun n s => ref3_Tools_L0 N x.2.2.1 x.2.2.2.2.1 x.2.2.2.2.2.1 (k (.exit 0) (ref3_Tools_L0_tl0 x.1 x.2.1 x.2.2.1 x.2.2.2.2.1 x.2.2.2.2.2.1 y.1.1 y.1.2.1)) n s.1) (fun _ => rfl) (fun _ _ => rfl)
    (fun I s => ref3_Tools_L0_step N x.1 x.2.1 x.2.2.1 x.2.2.2.2.1 x.2.2.2.2.2.1 y.1.1 y.1.2.1 (fun j => k (.exit j)) I s.1) N (x.2.2.2.2.2.2.1, ())
theorem ref3_Tools_lp0 (N : Nat) : ∀ st k, (∀ st, k .ret st = (resD (ref3_Tools_E N) Tryd.f28 (ref3_Tools_sg fun x _ => ref3_Tools N x.1 x.2.1 x.2.2.1 x.2.2.2.1) ref3_Tools_pk) st) → ref3_Tools_LP N 0 (cAt (bodyOf Tryd.f28) [true, true, true, true, false, true, false, false]) st k = iter (Env.hint (ref3_Tools_E N) 0) (exec (ref3_Tools_E N) N (cAt (bodyOf Tryd.f28) [true, true, true, true, false, true, false, false]) 0) N st k := fun st k hk => LPc_eq 81 ref3_Tools_L0_fs ref3_Tools_L0_bs _ _ (resD (ref3_Tools_E N) Tryd.f28 (ref3_Tools_sg fun x _ => ref3_Tools N x.1 x.2.1 x.2.2.1 x.2.2.2.1) ref3_Tools_pk) (ref3_Tools_L0_ok N) _ st k hk (rfl)
theorem ref3_Tools_core (N : Nat) (x : SV [.v (.sl (.pr .str (.sl (.pr .str .str)))), .v (.sl (.pr .str (.pr .str (.pr (.sl (.pr .str .str)) (.sl (.pr .str .str)))))), .v (.sl .str), .v (.pr .str (.sl (.pr .str .str)))]) (y : BV []) : runL (ref3_Tools_E N) Tryd.f28 (ref3_Tools_sg fun x _ => ref3_Tools N x.1 x.2.1 x.2.2.1 x.2.2.2.1) ref3_Tools_pk (ref3_Tools_LP N) x y = ref3_Tools N x.1 x.2.1 x.2.2.1 x.2.2.2.1 := by kernel_rfl
theorem ref3_Tools_sound (N : Nat) : Sound Tryd.prog GW B0G 28 (ref3_Tools_sg fun x _ => ref3_Tools N x.1 x.2.1 x.2.2.1 x.2.2.2.1) :=
  runD_sound (mkE_ok ref3_Tools_h (ref3_Tools_fn N) _ _ (ref3_Tools_fn_ok N)) Tryd.func28 rfl Tryd.call28 (ref3_Tools_sg fun x _ => ref3_Tools N x.1 x.2.1 x.2.2.1 x.2.2.2.1) ref3_Tools_pk (fun _ _ => rfl) N (fun x y _ h => ((runL_eq (ref3_Tools_E N) N Tryd.f28 (ref3_Tools_sg fun x _ => ref3_Tools N x.1 x.2.1 x.2.2.1 x.2.2.2.1) ref3_Tools_pk (ref3_Tools_LP N) (show LoopsOk (ref3_Tools_LP N) (ref3_Tools_E N) N (resD (ref3_Tools_E N) Tryd.f28 (ref3_Tools_sg fun x _ => ref3_Tools N x.1 x.2.1 x.2.2.1 x.2.2.2.1) ref3_Tools_pk) [(0, (cAt (bodyOf Tryd.f28) [true, true, true, true, false, true, false, false])), (2, (cAt (bodyOf Tryd.f28) [true, true, true, true, true, true, false, true, false, false]))] from ⟨ref3_Tools_lp0 N, ref3_Tools_lp2 N, trivial⟩) x y).trans (ref3_Tools_core N x y)).trans h)
def slices_Equal_string_string_L0T (_N : Nat) (x0 : List Str) (x1 : List Str) (c12 : Int) (k0 : Option Bool) (self : Int → Option Bool) (s13 : Int) : Option Bool :=
  br (decide (s13 < c12))
    (bnd (geti x0 s13) fun t18 =>
    bnd (geti x1 s13) fun t22 =>
    br (!(t18 == t22))
      (some false)
      (self (IntKind.i64.wrap (s13 + (1 : Int)))))
    (k0)
def slices_Equal_string_string_L0 (N : Nat) (x0 : List Str) (x1 : List Str) (c12 : Int) (k0 : Option Bool) : Nat → Int → Option Bool
  | 0, _ => none
  | n + 1, s13 => slices_Equal_string_string_L0T N x0 x1 c12 k0 (slices_Equal_string_string_L0 N x0 x1 c12 k0 n) s13
def slices_Equal_string_string (N : Nat) (x0 : List Str) (x1 : List Str) : Option Bool :=
  br ((x0.length : Int) != (x1.length : Int))
    (some false)
    (slices_Equal_string_string_L0 N x0 x1 (x0.length : Int) (some true) N (0 : Int))
abbrev slices_Equal_string_string_sg (f : SV [.v (.sl .str), .v (.sl .str)] → BV [] → Option (Bool)) : AF := { ps := [.v (.sl .str), .v (.sl .str)], bs := [], rs := [.v .bool], cs := [], R := Bool, out := fun z => ((z, ()), ()), f := f }
abbrev slices_Equal_string_string_pk : SV [.v .bool] → BV [] → Bool := fun x _ => x.1
def slices_Equal_string_string_fn (_N : Nat) : FuncId → Option Tmp → Option AF := fun f _ =>
  match f with
    | _ => none
theorem slices_Equal_string_string_fn_ok (N : Nat) : ∀ f q F, slices_Equal_string_string_fn N f q = some F → Sound Tryd.prog GW B0G f F := by
  intro f q F h
  unfold slices_Equal_string_string_fn at h
  split at h
  · cases h
def slices_Equal_string_string_h : Nat → Hint := fun i =>
  match i with
  | 0 => ⟨[], [0, 1, 12, 13], [], [], []⟩
  | _ => ⟨[], [], [], [], []⟩
abbrev slices_Equal_string_string_E (N : Nat) : Env := mkE slices_Equal_string_string_h (slices_Equal_string_string_fn N) (fun _ => false) (fun _ => false)
abbrev slices_Equal_string_string_L0_fs : List (Nat × Sl) := [(0, .v (.sl .str)), (1, .v (.sl .str)), (12, .v (.int .i64)), (13, .v (.int .i64))]
abbrev slices_Equal_string_string_L0_bs : List (Nat × Sb) := []
def slices_Equal_string_string_L0_hd (x0 : List Str) (x1 : List Str) (c12 : Int) (s13 : Int) : St := ⟨26, [(0, .v (.sl .str) x0), (1, .v (.sl .str) x1), (12, .v (.int .i64) c12), (13, .v (.int .i64) s13)], []⟩
def slices_Equal_string_string_L0_tl0 (_x0 : List Str) (_x1 : List Str) (_c12 : Int) : St := ⟨26, [], []⟩
def slices_Equal_string_string_L0_G (N : Nat) (x0 : List Str) (x1 : List Str) (c12 : Int) (s13 : Int) (k : Ex → St → Option Bool) : Option Bool :=
  slices_Equal_string_string_L0 N x0 x1 c12 (k (.exit 0) (slices_Equal_string_string_L0_tl0 x0 x1 c12)) N s13
abbrev slices_Equal_string_string_L0_F (N : Nat) : FV slices_Equal_string_string_L0_fs → HV slices_Equal_string_string_L0_bs → (Ex → St → Option Bool) → Option Bool := fun x _ k => slices_Equal_string_string_L0_G N x.1 x.2.1 x.2.2.1 x.2.2.2.1 k
noncomputable def slices_Equal_string_string_LP (N : Nat) : Nat → Code → St → (Ex → St → Option Bool) → Option Bool := fun i c =>
  match i with
  | 0 => (LPc 26 slices_Equal_string_string_L0_fs slices_Equal_string_string_L0_bs (slices_Equal_string_string_L0_F N) (fun st k => iter (slices_Equal_string_string_h 0) (exec (slices_Equal_string_string_E N) N c 0) N st k))
  | i => fun st k => iter (slices_Equal_string_string_h i) (exec (slices_Equal_string_string_E N) N c i) N st k
theorem slices_Equal_string_string_L0_step (N : Nat) (x0 : List Str) (x1 : List Str) (c12 : Int) (KX : Nat → St → Option Bool) (I : St → Option Bool) (s13 : Int) :
    execL (slices_Equal_string_string_LP N) (slices_Equal_string_string_E N) (cAt (bodyOf Tryd.f31) [true, true, false, true, false, false]) 0 (slices_Equal_string_string_L0_hd x0 x1 c12 s13) (roundK (slices_Equal_string_string_h 0) I KX (resD (slices_Equal_string_string_E N) Tryd.f31 (slices_Equal_string_string_sg fun x _ => slices_Equal_string_string N x.1 x.2.1) slices_Equal_string_string_pk)) = slices_Equal_string_string_L0T N x0 x1 c12 (KX 0 (slices_Equal_string_string_L0_tl0 x0 x1 c12)) (fun s13 => I (slices_Equal_string_string_L0_hd x0 x1 c12 s13)) s13 := by kernel_rfl
theorem slices_Equal_string_string_L0_ok (N : Nat) : ∀ x y k, (∀ st, k .ret st = (resD (slices_Equal_string_string_E N) Tryd.f31 (slices_Equal_string_string_sg fun x _ => slices_Equal_string_string N x.1 x.2.1) slices_Equal_string_string_pk) st) → iter (slices_Equal_string_string_h 0) (exec (slices_Equal_string_string_E N) N (cAt (bodyOf Tryd.f31) [true, true, false, true, false, false]) 0) N ⟨26, unF slices_Equal_string_string_L0_fs x, unH slices_Equal_string_string_L0_bs y⟩ k = slices_Equal_string_string_L0_F N x y k := fun x _ k hk =>
  iter_link (S := (Int) × Unit) (slices_Equal_string_string_h 0) _ (execL (slices_Equal_string_string_LP N) (slices_Equal_string_string_E N) (cAt (bodyOf Tryd.f31) [true, true, false, true, false, false]) 0) (resD (slices_Equal_string_string_E N) Tryd.f31 (slices_Equal_string_string_sg fun x _ => slices_Equal_string_string N x.1 x.2.1) slices_Equal_string_string_pk) (fun st k hk => execL_eq _ _ N _ (cAt (bodyOf Tryd.f31) [true, true, false, true, false, false]) 0 (show LoopsOk (slices_Equal_string_string_LP N) (slices_Equal_string_string_E N) N (resD (slices_Equal_string_string_E N) Tryd.f31 (slices_Equal_string_string_sg fun x _ => slices_Equal_string_string N x.1 x.2.1) slices_Equal_string_string_pk) [] from trivial) st k hk) (fun s => slices_Equal_string_string_L0_hd x.1 x.2.1 x.2.2.1 s.1) k hk
    (fun self s => slices_Equal_string_string_L0T N x.1 x.2.1 x.2.2.1 (k (.exit 0) (slices_Equal_string_string_L0_tl0 x.1 x.2.1 x.2.2.1)) (fun s13 => self (s13, ())) s.1) (fun n s => slices_Equal_string_string_L0 N x.1 x.2.1 x.2.2.1 (k (.exit 0) (slices_Equal_string_string_L0_tl0 x.1 x.2.1 x.2.2.1)) n s.1) (fun _ => rfl) (fun _ _ => rfl)
    (fun I s => slices_Equal_string_string_L0_step N x.1 x.2.1 x.2.2.1 (fun j => k (.exit j)) I s.1) N (x.2.2.2.1, ())
theorem slices_Equal_string_string_lp0 (N : Nat) : ∀ st k, (∀ st, k .ret st = (resD (slices_Equal_string_string_E N) Tryd.f31 (slices_Equal_string_string_sg fun x _ => slices_Equal_string_string N x.1 x.2.1) slices_Equal_string_string_pk) st) → slices_Equal_string_string_LP N 0 (cAt (bodyOf Tryd.f31) [true, true, false, true, false, false]) st k = iter (Env.hint (slices_Equal_string_string_E N) 0) (exec (slices_Equal_string_string_E N) N (cAt (bodyOf Tryd.f31) [true, true, false, true, false, false]) 0) N st k := fun st k hk => LPc_eq 26 slices_Equal_string_string_L0_fs slices_Equal_string_string_L0_bs _ _ (resD (slices_Equal_string_string_E N) Tryd.f31 (slices_Equal_string_string_sg fun x _ => slices_Equal_string_string N x.1 x.2.1) slices_Equal_string_string_pk) (slices_Equal_string_string_L0_ok N) _ st k hk (rfl)
theorem slices_Equal_string_string_core (N : Nat) (x : SV [.v (.sl .str), .v (.sl .str)]) (y : BV []) : runL (slices_Equal_string_string_E N) Tryd.f31 (slices_Equal_string_string_sg fun x _ => slices_Equal_string_string N x.1 x.2.1) slices_Equal_string_string_pk (slices_Equal_string_string_LP N) x y = slices_Equal_string_string N x.1 x.2.1 := by kernel_rfl
theorem slices_Equal_string_string_sound (N : Nat) : Sound Tryd.prog GW B0G 31 (slices_Equal_string_string_sg fun x _ => slices_Equal_string_string N x.1 x.2.1) :=
  runD_sound (mkE_ok slices_Equal_string_string_h (slices_Equal_string_string_fn N) _ _ (slices_Equal_string_string_fn_ok N)) Tryd.func31 rfl Tryd.call31 (slices_Equal_string_string_sg fun x _ => slices_Equal_string_string N x.1 x.2.1) slices_Equal_string_string_pk (fun _ _ => rfl) N (fun x y _ h => ((runL_eq (slices_Equal_string_string_E N) N Tryd.f31 (slices_Equal_string_string_sg fun x _ => slices_Equal_string_string N x.1 x.2.1) slices_Equal_string_string_pk (slices_Equal_string_string_LP N) (show LoopsOk (slices_Equal_string_string_LP N) (slices_Equal_string_string_E N) N (resD (slices_Equal_string_string_E N) Tryd.f31 (slices_Equal_string_string_sg fun x _ => slices_Equal_string_string N x.1 x.2.1) slices_Equal_string_string_pk) [(0, (cAt (bodyOf Tryd.f31) [true, true, false, true, false, false]))] from ⟨slices_Equal_string_string_lp0 N, trivial⟩) x y).trans (slices_Equal_string_string_core N x y)).trans h)
def law3_ConfigToolsMatchSpec (N : Nat) (x0 : List (Str × List Str) × List (Str × List (Str × Str) × List (Str × Str)) × List (Str × List (Str × Str)) × List (Str × Str × List (Str × Str) × List (Str × Str)) × List (Str × List (Str × Str) × List Str)) (x1 : List Str) (x2 : Str × List (Str × Str)) : Option Bool :=
  bnd (config_Tools N x0.2.2.1 x0.2.2.2.1 x1 x2) fun t22 =>
  bnd (ref3_Tools N x0.2.2.1 x0.2.2.2.1 x1 x2) fun t34 =>
  bnd (config_CheckTools N x0.2.2.2.1) fun t41 =>
  bnd (ref3_CheckTools N x0.2.2.2.1) fun t44 =>
  br (t41 == t44)
    (br (t22.2.2.1 == t34.2.2.1)
      (br (t22.1 == t34.1)
        (br (t22.2.1 == t34.2.1)
          (bnd (slices_Equal_string_string N t22.2.2.2 t34.2.2.2) fun t64 =>
          br (t64)
            (bnd (law3_awake N) fun t67 =>
            some t67)
            (some false))
          (some false))
        (some false))
      (some false))
    (some false)
abbrev law3_ConfigToolsMatchSpec_sg (f : SV [.v (.pr (.sl (.pr .str (.sl .str))) (.pr (.sl (.pr .str (.pr (.sl (.pr .str .str)) (.sl (.pr .str .str))))) (.pr (.sl (.pr .str (.sl (.pr .str .str)))) (.pr (.sl (.pr .str (.pr .str (.pr (.sl (.pr .str .str)) (.sl (.pr .str .str)))))) (.sl (.pr .str (.pr (.sl (.pr .str .str)) (.sl .str)))))))), .v (.sl .str), .v (.pr .str (.sl (.pr .str .str)))] → BV [] → Option (Bool)) : AF := { ps := [.v (.pr (.sl (.pr .str (.sl .str))) (.pr (.sl (.pr .str (.pr (.sl (.pr .str .str)) (.sl (.pr .str .str))))) (.pr (.sl (.pr .str (.sl (.pr .str .str)))) (.pr (.sl (.pr .str (.pr .str (.pr (.sl (.pr .str .str)) (.sl (.pr .str .str)))))) (.sl (.pr .str (.pr (.sl (.pr .str .str)) (.sl .str)))))))), .v (.sl .str), .v (.pr .str (.sl (.pr .str .str)))], bs := [], rs := [.v .bool], cs := [], R := Bool, out := fun z => ((z, ()), ()), f := f }
abbrev law3_ConfigToolsMatchSpec_pk : SV [.v .bool] → BV [] → Bool := fun x _ => x.1
def law3_ConfigToolsMatchSpec_fn (N : Nat) : FuncId → Option Tmp → Option AF := fun f _ =>
  match f with
    | 20 => some (law3_awake_sg fun _ _ => law3_awake N)
    | 27 => some (config_Tools_sg fun x _ => config_Tools N x.1 x.2.1 x.2.2.1 x.2.2.2.1)
    | 28 => some (ref3_Tools_sg fun x _ => ref3_Tools N x.1 x.2.1 x.2.2.1 x.2.2.2.1)
    | 29 => some (config_CheckTools_sg fun x _ => config_CheckTools N x.1)
    | 30 => some (ref3_CheckTools_sg fun x _ => ref3_CheckTools N x.1)
    | 31 => some (slices_Equal_string_string_sg fun x _ => slices_Equal_string_string N x.1 x.2.1)
    | _ => none
theorem law3_ConfigToolsMatchSpec_fn_ok (N : Nat) : ∀ f q F, law3_ConfigToolsMatchSpec_fn N f q = some F → Sound Tryd.prog GW B0G f F := by
  intro f q F h
  unfold law3_ConfigToolsMatchSpec_fn at h
  split at h
  · cases h; exact law3_awake_sound N
  · cases h; exact config_Tools_sound N
  · cases h; exact ref3_Tools_sound N
  · cases h; exact config_CheckTools_sound N
  · cases h; exact ref3_CheckTools_sound N
  · cases h; exact slices_Equal_string_string_sound N
  · cases h
def law3_ConfigToolsMatchSpec_h : Nat → Hint := fun i =>
  match i with
  | _ => ⟨[], [], [], [], []⟩
abbrev law3_ConfigToolsMatchSpec_E (N : Nat) : Env := mkE law3_ConfigToolsMatchSpec_h (law3_ConfigToolsMatchSpec_fn N) (fun _ => false) (fun _ => false)
noncomputable def law3_ConfigToolsMatchSpec_LP (N : Nat) : Nat → Code → St → (Ex → St → Option Bool) → Option Bool := fun i c =>
  match i with
  | i => fun st k => iter (law3_ConfigToolsMatchSpec_h i) (exec (law3_ConfigToolsMatchSpec_E N) N c i) N st k
theorem law3_ConfigToolsMatchSpec_core (N : Nat) (x : SV [.v (.pr (.sl (.pr .str (.sl .str))) (.pr (.sl (.pr .str (.pr (.sl (.pr .str .str)) (.sl (.pr .str .str))))) (.pr (.sl (.pr .str (.sl (.pr .str .str)))) (.pr (.sl (.pr .str (.pr .str (.pr (.sl (.pr .str .str)) (.sl (.pr .str .str)))))) (.sl (.pr .str (.pr (.sl (.pr .str .str)) (.sl .str)))))))), .v (.sl .str), .v (.pr .str (.sl (.pr .str .str)))]) (y : BV []) : runL (law3_ConfigToolsMatchSpec_E N) Tryd.f5 (law3_ConfigToolsMatchSpec_sg fun x _ => law3_ConfigToolsMatchSpec N x.1 x.2.1 x.2.2.1) law3_ConfigToolsMatchSpec_pk (law3_ConfigToolsMatchSpec_LP N) x y = law3_ConfigToolsMatchSpec N x.1 x.2.1 x.2.2.1 := by kernel_rfl
theorem law3_ConfigToolsMatchSpec_sound (N : Nat) : Sound Tryd.prog GW B0G 5 (law3_ConfigToolsMatchSpec_sg fun x _ => law3_ConfigToolsMatchSpec N x.1 x.2.1 x.2.2.1) :=
  runD_sound (mkE_ok law3_ConfigToolsMatchSpec_h (law3_ConfigToolsMatchSpec_fn N) _ _ (law3_ConfigToolsMatchSpec_fn_ok N)) Tryd.func5 rfl Tryd.call5 (law3_ConfigToolsMatchSpec_sg fun x _ => law3_ConfigToolsMatchSpec N x.1 x.2.1 x.2.2.1) law3_ConfigToolsMatchSpec_pk (fun _ _ => rfl) N (fun x y _ h => ((runL_eq (law3_ConfigToolsMatchSpec_E N) N Tryd.f5 (law3_ConfigToolsMatchSpec_sg fun x _ => law3_ConfigToolsMatchSpec N x.1 x.2.1 x.2.2.1) law3_ConfigToolsMatchSpec_pk (law3_ConfigToolsMatchSpec_LP N) (show LoopsOk (law3_ConfigToolsMatchSpec_LP N) (law3_ConfigToolsMatchSpec_E N) N (resD (law3_ConfigToolsMatchSpec_E N) Tryd.f5 (law3_ConfigToolsMatchSpec_sg fun x _ => law3_ConfigToolsMatchSpec N x.1 x.2.1 x.2.2.1) law3_ConfigToolsMatchSpec_pk) [] from trivial) x y).trans (law3_ConfigToolsMatchSpec_core N x y)).trans h)
def ref3_ConfigText_L0T (_N : Nat) (x1 : List (Str × Str)) (c20 : Int) (k0 : (List Str) → Option (Str × Int)) (self : Int → (List Str) → Option (Str × Int)) (s21 : Int) (w1007 : List Str) : Option (Str × Int) :=
  br (decide (s21 < c20))
    (bnd (geti x1 s21) fun t23 =>
    br (decide (t23.1.length + ([61] : Str).length ≤ 9223372036854775807))
      (br (decide ((t23.1 ++ ([61] : Str)).length + t23.2.length ≤ 9223372036854775807))
        (br (decide ((w1007.length + [(t23.1 ++ ([61] : Str)) ++ t23.2].length) * (24 * Ty.sz .str) ≤ 140737488355328))
          (self (IntKind.i64.wrap (s21 + (1 : Int))) (w1007 ++ [(t23.1 ++ ([61] : Str)) ++ t23.2]))
          none)
        none)
      none)
    (k0 w1007)
def ref3_ConfigText_L0 (N : Nat) (x1 : List (Str × Str)) (c20 : Int) (k0 : (List Str) → Option (Str × Int)) : Nat → Int → (List Str) → Option (Str × Int)
  | 0, _, _ => none
  | n + 1, s21, w1007 => ref3_ConfigText_L0T N x1 c20 k0 (ref3_ConfigText_L0 N x1 c20 k0 n) s21 w1007
def ref3_ConfigText (N : Nat) (x0 : List (Str × List Str)) (x1 : List (Str × Str)) : Option (Str × Int) :=
  bnd (ref3_CheckConfig N x0 x1) fun t12 =>
  br (t12 != (0 : Int))
    (some (([] : Str), t12))
    (br ((x1.length : Int) == (0 : Int))
      (some (([45] : Str), (0 : Int)))
      (ref3_ConfigText_L0 N x1 (x1.length : Int) (fun o0_w1007 =>
          bnd (strings_Join o0_w1007 ([44] : Str)) fun t36 =>
          some (t36, (0 : Int))) N (0 : Int) ([] : List Str)))
abbrev ref3_ConfigText_sg (f : SV [.v (.sl (.pr .str (.sl .str))), .v (.sl (.pr .str .str))] → BV [] → Option (Str × Int)) : AF := { ps := [.v (.sl (.pr .str (.sl .str))), .v (.sl (.pr .str .str))], bs := [], rs := [.v .str, .v (.int .i64)], cs := [], R := Str × Int, out := fun z => ((z.1, z.2, ()), ()), f := f }
abbrev ref3_ConfigText_pk : SV [.v .str, .v (.int .i64)] → BV [] → (Str × Int) := fun x _ => (x.1, x.2.1)
def ref3_ConfigText_fn (N : Nat) : FuncId → Option Tmp → Option AF := fun f _ =>
  match f with
    | 19 => some (ref3_CheckConfig_sg fun x _ => ref3_CheckConfig N x.1 x.2.1)
    | 72 => some (strings_Join_sg fun x _ => strings_Join x.1 x.2.1)
    | _ => none
theorem ref3_ConfigText_fn_ok (N : Nat) : ∀ f q F, ref3_ConfigText_fn N f q = some F → Sound Tryd.prog GW B0G f F := by
  intro f q F h
  unfold ref3_ConfigText_fn at h
  split at h
  · cases h; exact ref3_CheckConfig_sound N
  · cases h; exact strings_Join_sound
  · cases h
def ref3_ConfigText_h : Nat → Hint := fun i =>
  match i with
  | 0 => ⟨[], [7, 19, 20, 21], [1007], [7], [1007]⟩
  | _ => ⟨[], [], [], [], []⟩
abbrev ref3_ConfigText_E (N : Nat) : Env := mkE ref3_ConfigText_h (ref3_ConfigText_fn N) (fun _ => false) (fun _ => false)
abbrev ref3_ConfigText_L0_fs : List (Nat × Sl) := [(7, .row 1007), (19, .v (.sl (.pr .str .str))), (20, .v (.int .i64)), (21, .v (.int .i64))]
abbrev ref3_ConfigText_L0_bs : List (Nat × Sb) := [(1007, .row 9 .str false)]
def ref3_ConfigText_L0_hd (x1 : List (Str × Str)) (c20 : Int) (s21 : Int) (w1007 : List Str) : St := ⟨37, [(7, .row 1007), (19, .v (.sl (.pr .str .str)) x1), (20, .v (.int .i64) c20), (21, .v (.int .i64) s21)], [(1007, .row 9 .str false w1007)]⟩
def ref3_ConfigText_L0_tl0 (_x1 : List (Str × Str)) (_c20 : Int) (o0_w1007 : List Str) : St := ⟨37, [(7, .row 1007)], [(1007, .row 9 .str false o0_w1007)]⟩
def ref3_ConfigText_L0_G (N : Nat) (x1 : List (Str × Str)) (c20 : Int) (s21 : Int) (w1007 : List Str) (k : Ex → St → Option (Str × Int)) : Option (Str × Int) :=
  ref3_ConfigText_L0 N x1 c20 (fun o0_w1007 => k (.exit 0) (ref3_ConfigText_L0_tl0 x1 c20 o0_w1007)) N s21 w1007
abbrev ref3_ConfigText_L0_F (N : Nat) : FV ref3_ConfigText_L0_fs → HV ref3_ConfigText_L0_bs → (Ex → St → Option (Str × Int)) → Option (Str × Int) := fun x y k => ref3_ConfigText_L0_G N x.2.1 x.2.2.1 x.2.2.2.1 y.1 k
noncomputable def ref3_ConfigText_LP (N : Nat) : Nat → Code → St → (Ex → St → Option (Str × Int)) → Option (Str × Int) := fun i c =>
  match i with
  | 0 => (LPc 37 ref3_ConfigText_L0_fs ref3_ConfigText_L0_bs (ref3_ConfigText_L0_F N) (fun st k => iter (ref3_ConfigText_h 0) (exec (ref3_ConfigText_E N) N c 0) N st k))
  | i => fun st k => iter (ref3_ConfigText_h i) (exec (ref3_ConfigText_E N) N c i) N st k
theorem ref3_ConfigText_L0_step (N : Nat) (x1 : List (Str × Str)) (c20 : Int) (KX : Nat → St → Option (Str × Int)) (I : St → Option (Str × Int)) (s21 : Int) (w1007 : List Str) :
    execL (ref3_ConfigText_LP N) (ref3_ConfigText_E N) (cAt (bodyOf Tryd.f35) [true, true, true, true, false, true, false, false]) 0 (ref3_ConfigText_L0_hd x1 c20 s21 w1007) (roundK (ref3_ConfigText_h 0) I KX (resD (ref3_ConfigText_E N) Tryd.f35 (ref3_ConfigText_sg fun x _ => ref3_ConfigText N x.1 x.2.1) ref3_ConfigText_pk)) = ref3_ConfigText_L0T N x1 c20 (fun o0_w1007 => KX 0 (ref3_ConfigText_L0_tl0 x1 c20 o0_w1007)) (fun s21 w1007 => I (ref3_ConfigText_L0_hd x1 c20 s21 w1007)) s21 w1007 := by kernel_rfl
theorem ref3_ConfigText_L0_ok (N : Nat) : ∀ x y k, (∀ st, k .ret st = (resD (ref3_ConfigText_E N) Tryd.f35 (ref3_ConfigText_sg fun x _ => ref3_ConfigText N x.1 x.2.1) ref3_ConfigText_pk) st) → iter (ref3_ConfigText_h 0) (exec (ref3_ConfigText_E N) N (cAt (bodyOf Tryd.f35) [true, true, true, true, false, true, false, false]) 0) N ⟨37, unF ref3_ConfigText_L0_fs x, unH ref3_ConfigText_L0_bs y⟩ k = ref3_ConfigText_L0_F N x y k := fun x y k hk =>
  iter_link (S := (Int) × (List Str) × Unit) (ref3_ConfigText_h 0) _ (execL (ref3_ConfigText_LP N) (ref3_ConfigText_E N) (cAt (bodyOf Tryd.f35) [true, true, true, true, false, true, false, false]) 0) (resD (ref3_ConfigText_E N) Tryd.f35 (ref3_ConfigText_sg fun x _ => ref3_ConfigText N x.1 x.2.1) ref3_ConfigText_pk) (fun st k hk => execL_eq _ _ N _ (cAt (bodyOf Tryd.f35) [true, true, true, true, false, true, false, false]) 0 (show LoopsOk (ref3_ConfigText_LP N) (ref3_ConfigText_E N) N (resD (ref3_ConfigText_E N) Tryd.f35 (ref3_ConfigText_sg fun x _ => ref3_ConfigText N x.1 x.2.1) ref3_ConfigText_pk) [] from trivial) st k hk) (fun s => ref3_ConfigText_L0_hd x.2.1 x.2.2.1 s.1 s.2.1) k hk
    (fun self s => ref3_ConfigText_L0T N x.2.1 x.2.2.1 (fun o0_w1007 => k (.exit 0) (ref3_ConfigText_L0_tl0 x.2.1 x.2.2.1 o0_w1007)) (fun s21 w1007 => self (s21, w1007, ())) s.1 s.2.1) (fun n s => ref3_ConfigText_L0 N x.2.1 x.2.2.1 (fun o0_w1007 => k (.exit 0) (ref3_ConfigText_L0_tl0 x.2.1 x.2.2.1 o0_w1007)) n s.1 s.2.1) (fun _ => rfl) (fun _ _ => rfl)
    (fun I s => ref3_ConfigText_L0_step N x.2.1 x.2.2.1 (fun j => k (.exit j)) I s.1 s.2.1) N (x.2.2.2.1, y.1, ())
theorem ref3_ConfigText_lp0 (N : Nat) : ∀ st k, (∀ st, k .ret st = (resD (ref3_ConfigText_E N) Tryd.f35 (ref3_ConfigText_sg fun x _ => ref3_ConfigText N x.1 x.2.1) ref3_ConfigText_pk) st) → ref3_ConfigText_LP N 0 (cAt (bodyOf Tryd.f35) [true, true, true, true, false, true, false, false]) st k = iter (Env.hint (ref3_ConfigText_E N) 0) (exec (ref3_ConfigText_E N) N (cAt (bodyOf Tryd.f35) [true, true, true, true, false, true, false, false]) 0) N st k := fun st k hk => LPc_eq 37 ref3_ConfigText_L0_fs ref3_ConfigText_L0_bs _ _ (resD (ref3_ConfigText_E N) Tryd.f35 (ref3_ConfigText_sg fun x _ => ref3_ConfigText N x.1 x.2.1) ref3_ConfigText_pk) (ref3_ConfigText_L0_ok N) _ st k hk (rfl)
theorem ref3_ConfigText_core (N : Nat) (x : SV [.v (.sl (.pr .str (.sl .str))), .v (.sl (.pr .str .str))]) (y : BV []) : runL (ref3_ConfigText_E N) Tryd.f35 (ref3_ConfigText_sg fun x _ => ref3_ConfigText N x.1 x.2.1) ref3_ConfigText_pk (ref3_ConfigText_LP N) x y = ref3_ConfigText N x.1 x.2.1 := by kernel_rfl
theorem ref3_ConfigText_sound (N : Nat) : Sound Tryd.prog GW B0G 35 (ref3_ConfigText_sg fun x _ => ref3_ConfigText N x.1 x.2.1) :=
  runD_sound (mkE_ok ref3_ConfigText_h (ref3_ConfigText_fn N) _ _ (ref3_ConfigText_fn_ok N)) Tryd.func35 rfl Tryd.call35 (ref3_ConfigText_sg fun x _ => ref3_ConfigText N x.1 x.2.1) ref3_ConfigText_pk (fun _ _ => rfl) N (fun x y _ h => ((runL_eq (ref3_ConfigText_E N) N Tryd.f35 (ref3_ConfigText_sg fun x _ => ref3_ConfigText N x.1 x.2.1) ref3_ConfigText_pk (ref3_ConfigText_LP N) (show LoopsOk (ref3_ConfigText_LP N) (ref3_ConfigText_E N) N (resD (ref3_ConfigText_E N) Tryd.f35 (ref3_ConfigText_sg fun x _ => ref3_ConfigText N x.1 x.2.1) ref3_ConfigText_pk) [(0, (cAt (bodyOf Tryd.f35) [true, true, true, true, false, true, false, false]))] from ⟨ref3_ConfigText_lp0 N, trivial⟩) x y).trans (ref3_ConfigText_core N x y)).trans h)
def config_ReadConfig_L0T (N : Nat) (t24 : List Str) (c25 : Int) (k0 : (List (Str × Str)) → Option (Int × Int × List (Str × Str))) (self : Int → Int → (List (Str × Str)) → Option (Int × Int × List (Str × Str))) (s9 : Int) (s26 : Int) (w1008 : List (Str × Str)) : Option (Int × Int × List (Str × Str)) :=
  br (decide (s26 < c25))
    (bnd (geti t24 s26) fun t28 =>
    bnd (strings_Cut t28 ([61] : Str)) fun t32 =>
    br (!t32.2.2)
      (some (s9, ((10 : Int), ([] : List (Str × Str)))))
      (bnd (config_IsWord N t32.1) fun t40 =>
      br (!t40)
        (some (s9, ((10 : Int), ([] : List (Str × Str)))))
        (bnd (config_IsWord N t32.2.1) fun t45 =>
        br (!t45)
          (some (s9, ((10 : Int), ([] : List (Str × Str)))))
          (br (decide ((w1008.length + [(t32.1, t32.2.1)].length) * (24 * Ty.sz (.pr .str .str)) ≤ 140737488355328))
            (self (IntKind.i64.wrap (s9 + (IntKind.i64.wrap ((t28.length : Int) + (1 : Int))))) (IntKind.i64.wrap (s26 + (1 : Int))) (w1008 ++ [(t32.1, t32.2.1)]))
            none))))
    (k0 w1008)
def config_ReadConfig_L0 (N : Nat) (t24 : List Str) (c25 : Int) (k0 : (List (Str × Str)) → Option (Int × Int × List (Str × Str))) : Nat → Int → Int → (List (Str × Str)) → Option (Int × Int × List (Str × Str))
  | 0, _, _, _ => none
  | n + 1, s9, s26, w1008 => config_ReadConfig_L0T N t24 c25 k0 (config_ReadConfig_L0 N t24 c25 k0 n) s9 s26 w1008
def config_ReadConfig (N : Nat) (x0 : List (Str × List Str)) (x1 : Str) : Option (Int × Int × List (Str × Str)) :=
  bnd (config_CheckSettings N x0) fun t17 =>
  br (t17 != (0 : Int))
    (some ((0 : Int), (t17, ([] : List (Str × Str)))))
    (br (x1 == ([45] : Str))
      (some ((0 : Int), ((0 : Int), ([] : List (Str × Str)))))
      (bnd (strings_Split x1 ([44] : Str)) fun t24 =>
      config_ReadConfig_L0 N t24 (t24.length : Int) (fun o0_w1008 =>
          bnd (config_checkSet N x0 o0_w1008 true) fun t63 =>
          br (t63 != (0 : Int))
            (some ((0 : Int), (t63, ([] : List (Str × Str)))))
            (some ((0 : Int), ((0 : Int), o0_w1008)))) N (0 : Int) (0 : Int) ([] : List (Str × Str))))
abbrev config_ReadConfig_sg (f : SV [.v (.sl (.pr .str (.sl .str))), .v .str] → BV [] → Option (Int × Int × List (Str × Str))) : AF := { ps := [.v (.sl (.pr .str (.sl .str))), .v .str], bs := [], rs := [.row 0, .v (.int .i64), .v (.int .i64)], cs := [.row 60 (.pr .str .str) false], R := Int × Int × List (Str × Str), out := fun z => (((), z.1, z.2.1, ()), (z.2.2, ())), f := f }
abbrev config_ReadConfig_pk : SV [.row 0, .v (.int .i64), .v (.int .i64)] → BV [.row 60 (.pr .str .str) false] → (Int × Int × List (Str × Str)) := fun x y => (x.2.1, x.2.2.1, y.1)
def config_ReadConfig_fn (N : Nat) : FuncId → Option Tmp → Option AF := fun f _ =>
  match f with
    | 16 => some (config_CheckSettings_sg fun x _ => config_CheckSettings N x.1)
    | 53 => some (config_IsWord_sg fun x _ => config_IsWord N x.1)
    | 56 => some (config_checkSet_sg fun x _ => config_checkSet N x.1 x.2.1 x.2.2.1)
    | 73 => some (strings_Split_sg fun x _ => strings_Split x.1 x.2.1)
    | 74 => some (strings_Cut_sg fun x _ => strings_Cut x.1 x.2.1)
    | _ => none
theorem config_ReadConfig_fn_ok (N : Nat) : ∀ f q F, config_ReadConfig_fn N f q = some F → Sound Tryd.prog GW B0G f F := by
  intro f q F h
  unfold config_ReadConfig_fn at h
  split at h
  · cases h; exact config_CheckSettings_sound N
  · cases h; exact config_IsWord_sound N
  · cases h; exact config_checkSet_sound N
  · cases h; exact strings_Split_sound
  · cases h; exact strings_Cut_sound
  · cases h
def config_ReadConfig_h : Nat → Hint := fun i =>
  match i with
  | 0 => ⟨[], [0, 8, 9, 24, 25, 26], [1008], [0, 8], [1008]⟩
  | _ => ⟨[], [], [], [], []⟩
abbrev config_ReadConfig_E (N : Nat) : Env := mkE config_ReadConfig_h (config_ReadConfig_fn N) (fun _ => false) (fun _ => false)
abbrev config_ReadConfig_L0_fs : List (Nat × Sl) := [(0, .v (.sl (.pr .str (.sl .str)))), (8, .row 1008), (9, .v (.int .i64)), (24, .v (.sl .str)), (25, .v (.int .i64)), (26, .v (.int .i64))]
abbrev config_ReadConfig_L0_bs : List (Nat × Sb) := [(1008, .row 60 (.pr .str .str) false)]
def config_ReadConfig_L0_hd (x0 : List (Str × List Str)) (t24 : List Str) (c25 : Int) (s9 : Int) (s26 : Int) (w1008 : List (Str × Str)) : St := ⟨68, [(0, .v (.sl (.pr .str (.sl .str))) x0), (8, .row 1008), (9, .v (.int .i64) s9), (24, .v (.sl .str) t24), (25, .v (.int .i64) c25), (26, .v (.int .i64) s26)], [(1008, .row 60 (.pr .str .str) false w1008)]⟩
def config_ReadConfig_L0_tl0 (x0 : List (Str × List Str)) (_t24 : List Str) (_c25 : Int) (o0_w1008 : List (Str × Str)) : St := ⟨68, [(0, .v (.sl (.pr .str (.sl .str))) x0), (8, .row 1008)], [(1008, .row 60 (.pr .str .str) false o0_w1008)]⟩
def config_ReadConfig_L0_G (N : Nat) (x0 : List (Str × List Str)) (t24 : List Str) (c25 : Int) (s9 : Int) (s26 : Int) (w1008 : List (Str × Str)) (k : Ex → St → Option (Int × Int × List (Str × Str))) : Option (Int × Int × List (Str × Str)) :=
  config_ReadConfig_L0 N t24 c25 (fun o0_w1008 => k (.exit 0) (config_ReadConfig_L0_tl0 x0 t24 c25 o0_w1008)) N s9 s26 w1008
abbrev config_ReadConfig_L0_F (N : Nat) : FV config_ReadConfig_L0_fs → HV config_ReadConfig_L0_bs → (Ex → St → Option (Int × Int × List (Str × Str))) → Option (Int × Int × List (Str × Str)) := fun x y k => config_ReadConfig_L0_G N x.1 x.2.2.2.1 x.2.2.2.2.1 x.2.2.1 x.2.2.2.2.2.1 y.1 k
noncomputable def config_ReadConfig_LP (N : Nat) : Nat → Code → St → (Ex → St → Option (Int × Int × List (Str × Str))) → Option (Int × Int × List (Str × Str)) := fun i c =>
  match i with
  | 0 => (LPc 68 config_ReadConfig_L0_fs config_ReadConfig_L0_bs (config_ReadConfig_L0_F N) (fun st k => iter (config_ReadConfig_h 0) (exec (config_ReadConfig_E N) N c 0) N st k))
  | i => fun st k => iter (config_ReadConfig_h i) (exec (config_ReadConfig_E N) N c i) N st k
theorem config_ReadConfig_L0_step (N : Nat) (x0 : List (Str × List Str)) (t24 : List Str) (c25 : Int) (KX : Nat → St → Option (Int × Int × List (Str × Str))) (I : St → Option (Int × Int × List (Str × Str))) (s9 : Int) (s26 : Int) (w1008 : List (Str × Str)) :
    execL (config_ReadConfig_LP N) (config_ReadConfig_E N) (cAt (bodyOf Tryd.f36) [true, true, true, true, true, false, true, false, false]) 0 (config_ReadConfig_L0_hd x0 t24 c25 s9 s26 w1008) (roundK (config_ReadConfig_h 0) I KX (resD (config_ReadConfig_E N) Tryd.f36 (config_ReadConfig_sg fun x _ => config_ReadConfig N x.1 x.2.1) config_ReadConfig_pk)) = config_ReadConfig_L0T N t24 c25 (fun o0_w1008 => KX 0 (config_ReadConfig_L0_tl0 x0 t24 c25 o0_w1008)) (fun s9 s26 w1008 => I (config_ReadConfig_L0_hd x0 t24 c25 s9 s26 w1008)) s9 s26 w1008 := by kernel_rfl
theorem config_ReadConfig_L0_ok (N : Nat) : ∀ x y k, (∀ st, k .ret st = (resD (config_ReadConfig_E N) Tryd.f36 (config_ReadConfig_sg fun x _ => config_ReadConfig N x.1 x.2.1) config_ReadConfig_pk) st) → iter (config_ReadConfig_h 0) (exec (config_ReadConfig_E N) N (cAt (bodyOf Tryd.f36) [true, true, true, true, true, false, true, false, false]) 0) N ⟨68, unF config_ReadConfig_L0_fs x, unH config_ReadConfig_L0_bs y⟩ k = config_ReadConfig_L0_F N x y k := fun x y k hk =>
  iter_link (S := (Int) × (Int) × (List (Str × Str)) × Unit) (config_ReadConfig_h 0) _ (execL (config_ReadConfig_LP N) (config_ReadConfig_E N) (cAt (bodyOf Tryd.f36) [true, true, true, true, true, false, true, false, false]) 0) (resD (config_ReadConfig_E N) Tryd.f36 (config_ReadConfig_sg fun x _ => config_ReadConfig N x.1 x.2.1) config_ReadConfig_pk) (fun st k hk => execL_eq _ _ N _ (cAt (bodyOf Tryd.f36) [true, true, true, true, true, false, true, false, false]) 0 (show LoopsOk (config_ReadConfig_LP N) (config_ReadConfig_E N) N (resD (config_ReadConfig_E N) Tryd.f36 (config_ReadConfig_sg fun x _ => config_ReadConfig N x.1 x.2.1) config_ReadConfig_pk) [] from trivial) st k hk) (fun s => config_ReadConfig_L0_hd x.1 x.2.2.2.1 x.2.2.2.2.1 s.1 s.2.1 s.2.2.1) k hk
    (fun self s => config_ReadConfig_L0T N x.2.2.2.1 x.2.2.2.2.1 (fun o0_w1008 => k (.exit 0) (config_ReadConfig_L0_tl0 x.1 x.2.2.2.1 x.2.2.2.2.1 o0_w1008)) (fun s9 s26 w1008 => self (s9, s26, w1008, ())) s.1 s.2.1 s.2.2.1) (fun n s => config_ReadConfig_L0 N x.2.2.2.1 x.2.2.2.2.1 (fun o0_w1008 => k (.exit 0) (config_ReadConfig_L0_tl0 x.1 x.2.2.2.1 x.2.2.2.2.1 o0_w1008)) n s.1 s.2.1 s.2.2.1) (fun _ => rfl) (fun _ _ => rfl)
    (fun I s => config_ReadConfig_L0_step N x.1 x.2.2.2.1 x.2.2.2.2.1 (fun j => k (.exit j)) I s.1 s.2.1 s.2.2.1) N (x.2.2.1, x.2.2.2.2.2.1, y.1, ())
theorem config_ReadConfig_lp0 (N : Nat) : ∀ st k, (∀ st, k .ret st = (resD (config_ReadConfig_E N) Tryd.f36 (config_ReadConfig_sg fun x _ => config_ReadConfig N x.1 x.2.1) config_ReadConfig_pk) st) → config_ReadConfig_LP N 0 (cAt (bodyOf Tryd.f36) [true, true, true, true, true, false, true, false, false]) st k = iter (Env.hint (config_ReadConfig_E N) 0) (exec (config_ReadConfig_E N) N (cAt (bodyOf Tryd.f36) [true, true, true, true, true, false, true, false, false]) 0) N st k := fun st k hk => LPc_eq 68 config_ReadConfig_L0_fs config_ReadConfig_L0_bs _ _ (resD (config_ReadConfig_E N) Tryd.f36 (config_ReadConfig_sg fun x _ => config_ReadConfig N x.1 x.2.1) config_ReadConfig_pk) (config_ReadConfig_L0_ok N) _ st k hk (rfl)
theorem config_ReadConfig_core (N : Nat) (x : SV [.v (.sl (.pr .str (.sl .str))), .v .str]) (y : BV []) : runL (config_ReadConfig_E N) Tryd.f36 (config_ReadConfig_sg fun x _ => config_ReadConfig N x.1 x.2.1) config_ReadConfig_pk (config_ReadConfig_LP N) x y = config_ReadConfig N x.1 x.2.1 := by kernel_rfl
theorem config_ReadConfig_sound (N : Nat) : Sound Tryd.prog GW B0G 36 (config_ReadConfig_sg fun x _ => config_ReadConfig N x.1 x.2.1) :=
  runD_sound (mkE_ok config_ReadConfig_h (config_ReadConfig_fn N) _ _ (config_ReadConfig_fn_ok N)) Tryd.func36 rfl Tryd.call36 (config_ReadConfig_sg fun x _ => config_ReadConfig N x.1 x.2.1) config_ReadConfig_pk (fun _ _ => rfl) N (fun x y _ h => ((runL_eq (config_ReadConfig_E N) N Tryd.f36 (config_ReadConfig_sg fun x _ => config_ReadConfig N x.1 x.2.1) config_ReadConfig_pk (config_ReadConfig_LP N) (show LoopsOk (config_ReadConfig_LP N) (config_ReadConfig_E N) N (resD (config_ReadConfig_E N) Tryd.f36 (config_ReadConfig_sg fun x _ => config_ReadConfig N x.1 x.2.1) config_ReadConfig_pk) [(0, (cAt (bodyOf Tryd.f36) [true, true, true, true, true, false, true, false, false]))] from ⟨config_ReadConfig_lp0 N, trivial⟩) x y).trans (config_ReadConfig_core N x y)).trans h)
def slices_Equal_api_Pair_L0T (_N : Nat) (x0 : List (Str × Str)) (x1 : List (Str × Str)) (c12 : Int) (k0 : Option Bool) (self : Int → Option Bool) (s13 : Int) : Option Bool :=
  br (decide (s13 < c12))
    (bnd (geti x0 s13) fun t18 =>
    bnd (geti x1 s13) fun t22 =>
    br (!(eqb (.pr .str .str) t18 t22))
      (some false)
      (self (IntKind.i64.wrap (s13 + (1 : Int)))))
    (k0)
def slices_Equal_api_Pair_L0 (N : Nat) (x0 : List (Str × Str)) (x1 : List (Str × Str)) (c12 : Int) (k0 : Option Bool) : Nat → Int → Option Bool
  | 0, _ => none
  | n + 1, s13 => slices_Equal_api_Pair_L0T N x0 x1 c12 k0 (slices_Equal_api_Pair_L0 N x0 x1 c12 k0 n) s13
def slices_Equal_api_Pair (N : Nat) (x0 : List (Str × Str)) (x1 : List (Str × Str)) : Option Bool :=
  br ((x0.length : Int) != (x1.length : Int))
    (some false)
    (slices_Equal_api_Pair_L0 N x0 x1 (x0.length : Int) (some true) N (0 : Int))
abbrev slices_Equal_api_Pair_sg (f : SV [.v (.sl (.pr .str .str)), .v (.sl (.pr .str .str))] → BV [] → Option (Bool)) : AF := { ps := [.v (.sl (.pr .str .str)), .v (.sl (.pr .str .str))], bs := [], rs := [.v .bool], cs := [], R := Bool, out := fun z => ((z, ()), ()), f := f }
abbrev slices_Equal_api_Pair_pk : SV [.v .bool] → BV [] → Bool := fun x _ => x.1
def slices_Equal_api_Pair_fn (_N : Nat) : FuncId → Option Tmp → Option AF := fun f _ =>
  match f with
    | _ => none
theorem slices_Equal_api_Pair_fn_ok (N : Nat) : ∀ f q F, slices_Equal_api_Pair_fn N f q = some F → Sound Tryd.prog GW B0G f F := by
  intro f q F h
  unfold slices_Equal_api_Pair_fn at h
  split at h
  · cases h
def slices_Equal_api_Pair_h : Nat → Hint := fun i =>
  match i with
  | 0 => ⟨[], [0, 1, 12, 13], [], [], []⟩
  | _ => ⟨[], [], [], [], []⟩
abbrev slices_Equal_api_Pair_E (N : Nat) : Env := mkE slices_Equal_api_Pair_h (slices_Equal_api_Pair_fn N) (fun _ => false) (fun _ => false)
abbrev slices_Equal_api_Pair_L0_fs : List (Nat × Sl) := [(0, .v (.sl (.pr .str .str))), (1, .v (.sl (.pr .str .str))), (12, .v (.int .i64)), (13, .v (.int .i64))]
abbrev slices_Equal_api_Pair_L0_bs : List (Nat × Sb) := []
def slices_Equal_api_Pair_L0_hd (x0 : List (Str × Str)) (x1 : List (Str × Str)) (c12 : Int) (s13 : Int) : St := ⟨26, [(0, .v (.sl (.pr .str .str)) x0), (1, .v (.sl (.pr .str .str)) x1), (12, .v (.int .i64) c12), (13, .v (.int .i64) s13)], []⟩
def slices_Equal_api_Pair_L0_tl0 (_x0 : List (Str × Str)) (_x1 : List (Str × Str)) (_c12 : Int) : St := ⟨26, [], []⟩
def slices_Equal_api_Pair_L0_G (N : Nat) (x0 : List (Str × Str)) (x1 : List (Str × Str)) (c12 : Int) (s13 : Int) (k : Ex → St → Option Bool) : Option Bool :=
  slices_Equal_api_Pair_L0 N x0 x1 c12 (k (.exit 0) (slices_Equal_api_Pair_L0_tl0 x0 x1 c12)) N s13
abbrev slices_Equal_api_Pair_L0_F (N : Nat) : FV slices_Equal_api_Pair_L0_fs → HV slices_Equal_api_Pair_L0_bs → (Ex → St → Option Bool) → Option Bool := fun x _ k => slices_Equal_api_Pair_L0_G N x.1 x.2.1 x.2.2.1 x.2.2.2.1 k
noncomputable def slices_Equal_api_Pair_LP (N : Nat) : Nat → Code → St → (Ex → St → Option Bool) → Option Bool := fun i c =>
  match i with
  | 0 => (LPc 26 slices_Equal_api_Pair_L0_fs slices_Equal_api_Pair_L0_bs (slices_Equal_api_Pair_L0_F N) (fun st k => iter (slices_Equal_api_Pair_h 0) (exec (slices_Equal_api_Pair_E N) N c 0) N st k))
  | i => fun st k => iter (slices_Equal_api_Pair_h i) (exec (slices_Equal_api_Pair_E N) N c i) N st k
theorem slices_Equal_api_Pair_L0_step (N : Nat) (x0 : List (Str × Str)) (x1 : List (Str × Str)) (c12 : Int) (KX : Nat → St → Option Bool) (I : St → Option Bool) (s13 : Int) :
    execL (slices_Equal_api_Pair_LP N) (slices_Equal_api_Pair_E N) (cAt (bodyOf Tryd.f37) [true, true, false, true, false, false]) 0 (slices_Equal_api_Pair_L0_hd x0 x1 c12 s13) (roundK (slices_Equal_api_Pair_h 0) I KX (resD (slices_Equal_api_Pair_E N) Tryd.f37 (slices_Equal_api_Pair_sg fun x _ => slices_Equal_api_Pair N x.1 x.2.1) slices_Equal_api_Pair_pk)) = slices_Equal_api_Pair_L0T N x0 x1 c12 (KX 0 (slices_Equal_api_Pair_L0_tl0 x0 x1 c12)) (fun s13 => I (slices_Equal_api_Pair_L0_hd x0 x1 c12 s13)) s13 := by kernel_rfl
theorem slices_Equal_api_Pair_L0_ok (N : Nat) : ∀ x y k, (∀ st, k .ret st = (resD (slices_Equal_api_Pair_E N) Tryd.f37 (slices_Equal_api_Pair_sg fun x _ => slices_Equal_api_Pair N x.1 x.2.1) slices_Equal_api_Pair_pk) st) → iter (slices_Equal_api_Pair_h 0) (exec (slices_Equal_api_Pair_E N) N (cAt (bodyOf Tryd.f37) [true, true, false, true, false, false]) 0) N ⟨26, unF slices_Equal_api_Pair_L0_fs x, unH slices_Equal_api_Pair_L0_bs y⟩ k = slices_Equal_api_Pair_L0_F N x y k := fun x _ k hk =>
  iter_link (S := (Int) × Unit) (slices_Equal_api_Pair_h 0) _ (execL (slices_Equal_api_Pair_LP N) (slices_Equal_api_Pair_E N) (cAt (bodyOf Tryd.f37) [true, true, false, true, false, false]) 0) (resD (slices_Equal_api_Pair_E N) Tryd.f37 (slices_Equal_api_Pair_sg fun x _ => slices_Equal_api_Pair N x.1 x.2.1) slices_Equal_api_Pair_pk) (fun st k hk => execL_eq _ _ N _ (cAt (bodyOf Tryd.f37) [true, true, false, true, false, false]) 0 (show LoopsOk (slices_Equal_api_Pair_LP N) (slices_Equal_api_Pair_E N) N (resD (slices_Equal_api_Pair_E N) Tryd.f37 (slices_Equal_api_Pair_sg fun x _ => slices_Equal_api_Pair N x.1 x.2.1) slices_Equal_api_Pair_pk) [] from trivial) st k hk) (fun s => slices_Equal_api_Pair_L0_hd x.1 x.2.1 x.2.2.1 s.1) k hk
    (fun self s => slices_Equal_api_Pair_L0T N x.1 x.2.1 x.2.2.1 (k (.exit 0) (slices_Equal_api_Pair_L0_tl0 x.1 x.2.1 x.2.2.1)) (fun s13 => self (s13, ())) s.1) (fun n s => slices_Equal_api_Pair_L0 N x.1 x.2.1 x.2.2.1 (k (.exit 0) (slices_Equal_api_Pair_L0_tl0 x.1 x.2.1 x.2.2.1)) n s.1) (fun _ => rfl) (fun _ _ => rfl)
    (fun I s => slices_Equal_api_Pair_L0_step N x.1 x.2.1 x.2.2.1 (fun j => k (.exit j)) I s.1) N (x.2.2.2.1, ())
theorem slices_Equal_api_Pair_lp0 (N : Nat) : ∀ st k, (∀ st, k .ret st = (resD (slices_Equal_api_Pair_E N) Tryd.f37 (slices_Equal_api_Pair_sg fun x _ => slices_Equal_api_Pair N x.1 x.2.1) slices_Equal_api_Pair_pk) st) → slices_Equal_api_Pair_LP N 0 (cAt (bodyOf Tryd.f37) [true, true, false, true, false, false]) st k = iter (Env.hint (slices_Equal_api_Pair_E N) 0) (exec (slices_Equal_api_Pair_E N) N (cAt (bodyOf Tryd.f37) [true, true, false, true, false, false]) 0) N st k := fun st k hk => LPc_eq 26 slices_Equal_api_Pair_L0_fs slices_Equal_api_Pair_L0_bs _ _ (resD (slices_Equal_api_Pair_E N) Tryd.f37 (slices_Equal_api_Pair_sg fun x _ => slices_Equal_api_Pair N x.1 x.2.1) slices_Equal_api_Pair_pk) (slices_Equal_api_Pair_L0_ok N) _ st k hk (rfl)
theorem slices_Equal_api_Pair_core (N : Nat) (x : SV [.v (.sl (.pr .str .str)), .v (.sl (.pr .str .str))]) (y : BV []) : runL (slices_Equal_api_Pair_E N) Tryd.f37 (slices_Equal_api_Pair_sg fun x _ => slices_Equal_api_Pair N x.1 x.2.1) slices_Equal_api_Pair_pk (slices_Equal_api_Pair_LP N) x y = slices_Equal_api_Pair N x.1 x.2.1 := by kernel_rfl
theorem slices_Equal_api_Pair_sound (N : Nat) : Sound Tryd.prog GW B0G 37 (slices_Equal_api_Pair_sg fun x _ => slices_Equal_api_Pair N x.1 x.2.1) :=
  runD_sound (mkE_ok slices_Equal_api_Pair_h (slices_Equal_api_Pair_fn N) _ _ (slices_Equal_api_Pair_fn_ok N)) Tryd.func37 rfl Tryd.call37 (slices_Equal_api_Pair_sg fun x _ => slices_Equal_api_Pair N x.1 x.2.1) slices_Equal_api_Pair_pk (fun _ _ => rfl) N (fun x y _ h => ((runL_eq (slices_Equal_api_Pair_E N) N Tryd.f37 (slices_Equal_api_Pair_sg fun x _ => slices_Equal_api_Pair N x.1 x.2.1) slices_Equal_api_Pair_pk (slices_Equal_api_Pair_LP N) (show LoopsOk (slices_Equal_api_Pair_LP N) (slices_Equal_api_Pair_E N) N (resD (slices_Equal_api_Pair_E N) Tryd.f37 (slices_Equal_api_Pair_sg fun x _ => slices_Equal_api_Pair N x.1 x.2.1) slices_Equal_api_Pair_pk) [(0, (cAt (bodyOf Tryd.f37) [true, true, false, true, false, false]))] from ⟨slices_Equal_api_Pair_lp0 N, trivial⟩) x y).trans (slices_Equal_api_Pair_core N x y)).trans h)
def law3_ConfigTextsMatchSpec (N : Nat) (x0 : List (Str × List Str)) (x1 : List (Str × Str)) : Option Bool :=
  bnd (config_ConfigText N x0 x1) fun t14 =>
  bnd (ref3_ConfigText N x0 x1) fun t20 =>
  br (t14.2 != t20.2)
    (some false)
    (br (!(t14.1 == t20.1))
      (some false)
      (bnd (law3_awake N) fun t32 =>
      br (!t32)
        (some false)
        (br (t14.2 != (0 : Int))
          (some true)
          (bnd (config_ReadConfig N x0 t14.1) fun t40 =>
          br (t40.2.1 == (0 : Int))
            (br (t40.1 == (0 : Int))
              (bnd (slices_Equal_api_Pair N x1 t40.2.2) fun t53 =>
              some t53)
              (some false))
            (some false)))))
abbrev law3_ConfigTextsMatchSpec_sg (f : SV [.v (.sl (.pr .str (.sl .str))), .v (.sl (.pr .str .str))] → BV [] → Option (Bool)) : AF := { ps := [.v (.sl (.pr .str (.sl .str))), .v (.sl (.pr .str .str))], bs := [], rs := [.v .bool], cs := [], R := Bool, out := fun z => ((z, ()), ()), f := f }
abbrev law3_ConfigTextsMatchSpec_pk : SV [.v .bool] → BV [] → Bool := fun x _ => x.1
def law3_ConfigTextsMatchSpec_fn (N : Nat) : FuncId → Option Tmp → Option AF := fun f _ =>
  match f with
    | 20 => some (law3_awake_sg fun _ _ => law3_awake N)
    | 34 => some (config_ConfigText_sg fun x _ => config_ConfigText N x.1 x.2.1)
    | 35 => some (ref3_ConfigText_sg fun x _ => ref3_ConfigText N x.1 x.2.1)
    | 36 => some (config_ReadConfig_sg fun x _ => config_ReadConfig N x.1 x.2.1)
    | 37 => some (slices_Equal_api_Pair_sg fun x _ => slices_Equal_api_Pair N x.1 x.2.1)
    | _ => none
theorem law3_ConfigTextsMatchSpec_fn_ok (N : Nat) : ∀ f q F, law3_ConfigTextsMatchSpec_fn N f q = some F → Sound Tryd.prog GW B0G f F := by
  intro f q F h
  unfold law3_ConfigTextsMatchSpec_fn at h
  split at h
  · cases h; exact law3_awake_sound N
  · cases h; exact config_ConfigText_sound N
  · cases h; exact ref3_ConfigText_sound N
  · cases h; exact config_ReadConfig_sound N
  · cases h; exact slices_Equal_api_Pair_sound N
  · cases h
def law3_ConfigTextsMatchSpec_h : Nat → Hint := fun i =>
  match i with
  | _ => ⟨[], [], [], [], []⟩
abbrev law3_ConfigTextsMatchSpec_E (N : Nat) : Env := mkE law3_ConfigTextsMatchSpec_h (law3_ConfigTextsMatchSpec_fn N) (fun _ => false) (fun _ => false)
noncomputable def law3_ConfigTextsMatchSpec_LP (N : Nat) : Nat → Code → St → (Ex → St → Option Bool) → Option Bool := fun i c =>
  match i with
  | i => fun st k => iter (law3_ConfigTextsMatchSpec_h i) (exec (law3_ConfigTextsMatchSpec_E N) N c i) N st k
theorem law3_ConfigTextsMatchSpec_core (N : Nat) (x : SV [.v (.sl (.pr .str (.sl .str))), .v (.sl (.pr .str .str))]) (y : BV []) : runL (law3_ConfigTextsMatchSpec_E N) Tryd.f7 (law3_ConfigTextsMatchSpec_sg fun x _ => law3_ConfigTextsMatchSpec N x.1 x.2.1) law3_ConfigTextsMatchSpec_pk (law3_ConfigTextsMatchSpec_LP N) x y = law3_ConfigTextsMatchSpec N x.1 x.2.1 := by kernel_rfl
theorem law3_ConfigTextsMatchSpec_sound (N : Nat) : Sound Tryd.prog GW B0G 7 (law3_ConfigTextsMatchSpec_sg fun x _ => law3_ConfigTextsMatchSpec N x.1 x.2.1) :=
  runD_sound (mkE_ok law3_ConfigTextsMatchSpec_h (law3_ConfigTextsMatchSpec_fn N) _ _ (law3_ConfigTextsMatchSpec_fn_ok N)) Tryd.func7 rfl Tryd.call7 (law3_ConfigTextsMatchSpec_sg fun x _ => law3_ConfigTextsMatchSpec N x.1 x.2.1) law3_ConfigTextsMatchSpec_pk (fun _ _ => rfl) N (fun x y _ h => ((runL_eq (law3_ConfigTextsMatchSpec_E N) N Tryd.f7 (law3_ConfigTextsMatchSpec_sg fun x _ => law3_ConfigTextsMatchSpec N x.1 x.2.1) law3_ConfigTextsMatchSpec_pk (law3_ConfigTextsMatchSpec_LP N) (show LoopsOk (law3_ConfigTextsMatchSpec_LP N) (law3_ConfigTextsMatchSpec_E N) N (resD (law3_ConfigTextsMatchSpec_E N) Tryd.f7 (law3_ConfigTextsMatchSpec_sg fun x _ => law3_ConfigTextsMatchSpec N x.1 x.2.1) law3_ConfigTextsMatchSpec_pk) [] from trivial) x y).trans (law3_ConfigTextsMatchSpec_core N x y)).trans h)
def ref3_ReadConfig_L0T (N : Nat) (t24 : List Str) (c25 : Int) (k0 : (List (Str × Str)) → Option (Int × Int × List (Str × Str))) (self : Int → Int → (List (Str × Str)) → Option (Int × Int × List (Str × Str))) (s9 : Int) (s26 : Int) (w1008 : List (Str × Str)) : Option (Int × Int × List (Str × Str)) :=
  br (decide (s26 < c25))
    (bnd (geti t24 s26) fun t28 =>
    bnd (strings_Cut t28 ([61] : Str)) fun t32 =>
    br (!t32.2.2)
      (some (s9, ((10 : Int), ([] : List (Str × Str)))))
      (bnd (ref3_IsWord N t32.1) fun t40 =>
      br (!t40)
        (some (s9, ((10 : Int), ([] : List (Str × Str)))))
        (bnd (ref3_IsWord N t32.2.1) fun t45 =>
        br (!t45)
          (some (s9, ((10 : Int), ([] : List (Str × Str)))))
          (br (decide ((w1008.length + [(t32.1, t32.2.1)].length) * (24 * Ty.sz (.pr .str .str)) ≤ 140737488355328))
            (self (IntKind.i64.wrap (s9 + (IntKind.i64.wrap ((t28.length : Int) + (1 : Int))))) (IntKind.i64.wrap (s26 + (1 : Int))) (w1008 ++ [(t32.1, t32.2.1)]))
            none))))
    (k0 w1008)
def ref3_ReadConfig_L0 (N : Nat) (t24 : List Str) (c25 : Int) (k0 : (List (Str × Str)) → Option (Int × Int × List (Str × Str))) : Nat → Int → Int → (List (Str × Str)) → Option (Int × Int × List (Str × Str))
  | 0, _, _, _ => none
  | n + 1, s9, s26, w1008 => ref3_ReadConfig_L0T N t24 c25 k0 (ref3_ReadConfig_L0 N t24 c25 k0 n) s9 s26 w1008
def ref3_ReadConfig (N : Nat) (x0 : List (Str × List Str)) (x1 : Str) : Option (Int × Int × List (Str × Str)) :=
  bnd (ref3_CheckSettings N x0) fun t17 =>
  br (t17 != (0 : Int))
    (some ((0 : Int), (t17, ([] : List (Str × Str)))))
    (br (x1 == ([45] : Str))
      (some ((0 : Int), ((0 : Int), ([] : List (Str × Str)))))
      (bnd (strings_Split x1 ([44] : Str)) fun t24 =>
      ref3_ReadConfig_L0 N t24 (t24.length : Int) (fun o0_w1008 =>
          bnd (ref3_CheckConfig N x0 o0_w1008) fun t63 =>
          br (t63 != (0 : Int))
            (some ((0 : Int), (t63, ([] : List (Str × Str)))))
            (some ((0 : Int), ((0 : Int), o0_w1008)))) N (0 : Int) (0 : Int) ([] : List (Str × Str))))
abbrev ref3_ReadConfig_sg (f : SV [.v (.sl (.pr .str (.sl .str))), .v .str] → BV [] → Option (Int × Int × List (Str × Str))) : AF := { ps := [.v (.sl (.pr .str (.sl .str))), .v .str], bs := [], rs := [.row 0, .v (.int .i64), .v (.int .i64)], cs := [.row 60 (.pr .str .str) false], R := Int × Int × List (Str × Str), out := fun z => (((), z.1, z.2.1, ()), (z.2.2, ())), f := f }
abbrev ref3_ReadConfig_pk : SV [.row 0, .v (.int .i64), .v (.int .i64)] → BV [.row 60 (.pr .str .str) false] → (Int × Int × List (Str × Str)) := fun x y => (x.2.1, x.2.2.1, y.1)
def ref3_ReadConfig_fn (N : Nat) : FuncId → Option Tmp → Option AF := fun f _ =>
  match f with
    | 17 => some (ref3_CheckSettings_sg fun x _ => ref3_CheckSettings N x.1)
    | 19 => some (ref3_CheckConfig_sg fun x _ => ref3_CheckConfig N x.1 x.2.1)
    | 55 => some (ref3_IsWord_sg fun x _ => ref3_IsWord N x.1)
    | 73 => some (strings_Split_sg fun x _ => strings_Split x.1 x.2.1)
    | 74 => some (strings_Cut_sg fun x _ => strings_Cut x.1 x.2.1)
    | _ => none
theorem ref3_ReadConfig_fn_ok (N : Nat) : ∀ f q F, ref3_ReadConfig_fn N f q = some F → Sound Tryd.prog GW B0G f F := by
  intro f q F h
  unfold ref3_ReadConfig_fn at h
  split at h
  · cases h; exact ref3_CheckSettings_sound N
  · cases h; exact ref3_CheckConfig_sound N
  · cases h; exact ref3_IsWord_sound N
  · cases h; exact strings_Split_sound
  · cases h; exact strings_Cut_sound
  · cases h
def ref3_ReadConfig_h : Nat → Hint := fun i =>
  match i with
  | 0 => ⟨[], [0, 8, 9, 24, 25, 26], [1008], [0, 8], [1008]⟩
  | _ => ⟨[], [], [], [], []⟩
abbrev ref3_ReadConfig_E (N : Nat) : Env := mkE ref3_ReadConfig_h (ref3_ReadConfig_fn N) (fun _ => false) (fun _ => false)
abbrev ref3_ReadConfig_L0_fs : List (Nat × Sl) := [(0, .v (.sl (.pr .str (.sl .str)))), (8, .row 1008), (9, .v (.int .i64)), (24, .v (.sl .str)), (25, .v (.int .i64)), (26, .v (.int .i64))]
abbrev ref3_ReadConfig_L0_bs : List (Nat × Sb) := [(1008, .row 60 (.pr .str .str) false)]
def ref3_ReadConfig_L0_hd (x0 : List (Str × List Str)) (t24 : List Str) (c25 : Int) (s9 : Int) (s26 : Int) (w1008 : List (Str × Str)) : St := ⟨68, [(0, .v (.sl (.pr .str (.sl .str))) x0), (8, .row 1008), (9, .v (.int .i64) s9), (24, .v (.sl .str) t24), (25, .v (.int .i64) c25), (26, .v (.int .i64) s26)], [(1008, .row 60 (.pr .str .str) false w1008)]⟩
def ref3_ReadConfig_L0_tl0 (x0 : List (Str × List Str)) (_t24 : List Str) (_c25 : Int) (o0_w1008 : List (Str × Str)) : St := ⟨68, [(0, .v (.sl (.pr .str (.sl .str))) x0), (8, .row 1008)], [(1008, .row 60 (.pr .str .str) false o0_w1008)]⟩
def ref3_ReadConfig_L0_G (N : Nat) (x0 : List (Str × List Str)) (t24 : List Str) (c25 : Int) (s9 : Int) (s26 : Int) (w1008 : List (Str × Str)) (k : Ex → St → Option (Int × Int × List (Str × Str))) : Option (Int × Int × List (Str × Str)) :=
  ref3_ReadConfig_L0 N t24 c25 (fun o0_w1008 => k (.exit 0) (ref3_ReadConfig_L0_tl0 x0 t24 c25 o0_w1008)) N s9 s26 w1008
abbrev ref3_ReadConfig_L0_F (N : Nat) : FV ref3_ReadConfig_L0_fs → HV ref3_ReadConfig_L0_bs → (Ex → St → Option (Int × Int × List (Str × Str))) → Option (Int × Int × List (Str × Str)) := fun x y k => ref3_ReadConfig_L0_G N x.1 x.2.2.2.1 x.2.2.2.2.1 x.2.2.1 x.2.2.2.2.2.1 y.1 k
noncomputable def ref3_ReadConfig_LP (N : Nat) : Nat → Code → St → (Ex → St → Option (Int × Int × List (Str × Str))) → Option (Int × Int × List (Str × Str)) := fun i c =>
  match i with
  | 0 => (LPc 68 ref3_ReadConfig_L0_fs ref3_ReadConfig_L0_bs (ref3_ReadConfig_L0_F N) (fun st k => iter (ref3_ReadConfig_h 0) (exec (ref3_ReadConfig_E N) N c 0) N st k))
  | i => fun st k => iter (ref3_ReadConfig_h i) (exec (ref3_ReadConfig_E N) N c i) N st k
theorem ref3_ReadConfig_L0_step (N : Nat) (x0 : List (Str × List Str)) (t24 : List Str) (c25 : Int) (KX : Nat → St → Option (Int × Int × List (Str × Str))) (I : St → Option (Int × Int × List (Str × Str))) (s9 : Int) (s26 : Int) (w1008 : List (Str × Str)) :
    execL (ref3_ReadConfig_LP N) (ref3_ReadConfig_E N) (cAt (bodyOf Tryd.f38) [true, true, true, true, true, false, true, false, false]) 0 (ref3_ReadConfig_L0_hd x0 t24 c25 s9 s26 w1008) (roundK (ref3_ReadConfig_h 0) I KX (resD (ref3_ReadConfig_E N) Tryd.f38 (ref3_ReadConfig_sg fun x _ => ref3_ReadConfig N x.1 x.2.1) ref3_ReadConfig_pk)) = ref3_ReadConfig_L0T N t24 c25 (fun o0_w1008 => KX 0 (ref3_ReadConfig_L0_tl0 x0 t24 c25 o0_w1008)) (fun s9 s26 w1008 => I (ref3_ReadConfig_L0_hd x0 t24 c25 s9 s26 w1008)) s9 s26 w1008 := by kernel_rfl
theorem ref3_ReadConfig_L0_ok (N : Nat) : ∀ x y k, (∀ st, k .ret st = (resD (ref3_ReadConfig_E N) Tryd.f38 (ref3_ReadConfig_sg fun x _ => ref3_ReadConfig N x.1 x.2.1) ref3_ReadConfig_pk) st) → iter (ref3_ReadConfig_h 0) (exec (ref3_ReadConfig_E N) N (cAt (bodyOf Tryd.f38) [true, true, true, true, true, false, true, false, false]) 0) N ⟨68, unF ref3_ReadConfig_L0_fs x, unH ref3_ReadConfig_L0_bs y⟩ k = ref3_ReadConfig_L0_F N x y k := fun x y k hk =>
  iter_link (S := (Int) × (Int) × (List (Str × Str)) × Unit) (ref3_ReadConfig_h 0) _ (execL (ref3_ReadConfig_LP N) (ref3_ReadConfig_E N) (cAt (bodyOf Tryd.f38) [true, true, true, true, true, false, true, false, false]) 0) (resD (ref3_ReadConfig_E N) Tryd.f38 (ref3_ReadConfig_sg fun x _ => ref3_ReadConfig N x.1 x.2.1) ref3_ReadConfig_pk) (fun st k hk => execL_eq _ _ N _ (cAt (bodyOf Tryd.f38) [true, true, true, true, true, false, true, false, false]) 0 (show LoopsOk (ref3_ReadConfig_LP N) (ref3_ReadConfig_E N) N (resD (ref3_ReadConfig_E N) Tryd.f38 (ref3_ReadConfig_sg fun x _ => ref3_ReadConfig N x.1 x.2.1) ref3_ReadConfig_pk) [] from trivial) st k hk) (fun s => ref3_ReadConfig_L0_hd x.1 x.2.2.2.1 x.2.2.2.2.1 s.1 s.2.1 s.2.2.1) k hk
    (fun self s => ref3_ReadConfig_L0T N x.2.2.2.1 x.2.2.2.2.1 (fun o0_w1008 => k (.exit 0) (ref3_ReadConfig_L0_tl0 x.1 x.2.2.2.1 x.2.2.2.2.1 o0_w1008)) (fun s9 s26 w1008 => self (s9, s26, w1008, ())) s.1 s.2.1 s.2.2.1) (fun n s => ref3_ReadConfig_L0 N x.2.2.2.1 x.2.2.2.2.1 (fun o0_w1008 => k (.exit 0) (ref3_ReadConfig_L0_tl0 x.1 x.2.2.2.1 x.2.2.2.2.1 o0_w1008)) n s.1 s.2.1 s.2.2.1) (fun _ => rfl) (fun _ _ => rfl)
    (fun I s => ref3_ReadConfig_L0_step N x.1 x.2.2.2.1 x.2.2.2.2.1 (fun j => k (.exit j)) I s.1 s.2.1 s.2.2.1) N (x.2.2.1, x.2.2.2.2.2.1, y.1, ())
theorem ref3_ReadConfig_lp0 (N : Nat) : ∀ st k, (∀ st, k .ret st = (resD (ref3_ReadConfig_E N) Tryd.f38 (ref3_ReadConfig_sg fun x _ => ref3_ReadConfig N x.1 x.2.1) ref3_ReadConfig_pk) st) → ref3_ReadConfig_LP N 0 (cAt (bodyOf Tryd.f38) [true, true, true, true, true, false, true, false, false]) st k = iter (Env.hint (ref3_ReadConfig_E N) 0) (exec (ref3_ReadConfig_E N) N (cAt (bodyOf Tryd.f38) [true, true, true, true, true, false, true, false, false]) 0) N st k := fun st k hk => LPc_eq 68 ref3_ReadConfig_L0_fs ref3_ReadConfig_L0_bs _ _ (resD (ref3_ReadConfig_E N) Tryd.f38 (ref3_ReadConfig_sg fun x _ => ref3_ReadConfig N x.1 x.2.1) ref3_ReadConfig_pk) (ref3_ReadConfig_L0_ok N) _ st k hk (rfl)
theorem ref3_ReadConfig_core (N : Nat) (x : SV [.v (.sl (.pr .str (.sl .str))), .v .str]) (y : BV []) : runL (ref3_ReadConfig_E N) Tryd.f38 (ref3_ReadConfig_sg fun x _ => ref3_ReadConfig N x.1 x.2.1) ref3_ReadConfig_pk (ref3_ReadConfig_LP N) x y = ref3_ReadConfig N x.1 x.2.1 := by kernel_rfl
theorem ref3_ReadConfig_sound (N : Nat) : Sound Tryd.prog GW B0G 38 (ref3_ReadConfig_sg fun x _ => ref3_ReadConfig N x.1 x.2.1) :=
  runD_sound (mkE_ok ref3_ReadConfig_h (ref3_ReadConfig_fn N) _ _ (ref3_ReadConfig_fn_ok N)) Tryd.func38 rfl Tryd.call38 (ref3_ReadConfig_sg fun x _ => ref3_ReadConfig N x.1 x.2.1) ref3_ReadConfig_pk (fun _ _ => rfl) N (fun x y _ h => ((runL_eq (ref3_ReadConfig_E N) N Tryd.f38 (ref3_ReadConfig_sg fun x _ => ref3_ReadConfig N x.1 x.2.1) ref3_ReadConfig_pk (ref3_ReadConfig_LP N) (show LoopsOk (ref3_ReadConfig_LP N) (ref3_ReadConfig_E N) N (resD (ref3_ReadConfig_E N) Tryd.f38 (ref3_ReadConfig_sg fun x _ => ref3_ReadConfig N x.1 x.2.1) ref3_ReadConfig_pk) [(0, (cAt (bodyOf Tryd.f38) [true, true, true, true, true, false, true, false, false]))] from ⟨ref3_ReadConfig_lp0 N, trivial⟩) x y).trans (ref3_ReadConfig_core N x y)).trans h)
def law3_ConfigReadsMatchSpec (N : Nat) (x0 : List (Str × List Str)) (x1 : Str) : Option Bool :=
  bnd (config_ReadConfig N x0 x1) fun t14 =>
  bnd (ref3_ReadConfig N x0 x1) fun t21 =>
  br (t14.2.1 == t21.2.1)
    (br (t14.1 == t21.1)
      (bnd (slices_Equal_api_Pair N t14.2.2 t21.2.2) fun t36 =>
      br (t36)
        (bnd (law3_awake N) fun t39 =>
        some t39)
        (some false))
      (some false))
    (some false)
abbrev law3_ConfigReadsMatchSpec_sg (f : SV [.v (.sl (.pr .str (.sl .str))), .v .str] → BV [] → Option (Bool)) : AF := { ps := [.v (.sl (.pr .str (.sl .str))), .v .str], bs := [], rs := [.v .bool], cs := [], R := Bool, out := fun z => ((z, ()), ()), f := f }
abbrev law3_ConfigReadsMatchSpec_pk : SV [.v .bool] → BV [] → Bool := fun x _ => x.1
def law3_ConfigReadsMatchSpec_fn (N : Nat) : FuncId → Option Tmp → Option AF := fun f _ =>
  match f with
    | 20 => some (law3_awake_sg fun _ _ => law3_awake N)
    | 36 => some (config_ReadConfig_sg fun x _ => config_ReadConfig N x.1 x.2.1)
    | 37 => some (slices_Equal_api_Pair_sg fun x _ => slices_Equal_api_Pair N x.1 x.2.1)
    | 38 => some (ref3_ReadConfig_sg fun x _ => ref3_ReadConfig N x.1 x.2.1)
    | _ => none
theorem law3_ConfigReadsMatchSpec_fn_ok (N : Nat) : ∀ f q F, law3_ConfigReadsMatchSpec_fn N f q = some F → Sound Tryd.prog GW B0G f F := by
  intro f q F h
  unfold law3_ConfigReadsMatchSpec_fn at h
  split at h
  · cases h; exact law3_awake_sound N
  · cases h; exact config_ReadConfig_sound N
  · cases h; exact slices_Equal_api_Pair_sound N
  · cases h; exact ref3_ReadConfig_sound N
  · cases h
def law3_ConfigReadsMatchSpec_h : Nat → Hint := fun i =>
  match i with
  | _ => ⟨[], [], [], [], []⟩
abbrev law3_ConfigReadsMatchSpec_E (N : Nat) : Env := mkE law3_ConfigReadsMatchSpec_h (law3_ConfigReadsMatchSpec_fn N) (fun _ => false) (fun _ => false)
noncomputable def law3_ConfigReadsMatchSpec_LP (N : Nat) : Nat → Code → St → (Ex → St → Option Bool) → Option Bool := fun i c =>
  match i with
  | i => fun st k => iter (law3_ConfigReadsMatchSpec_h i) (exec (law3_ConfigReadsMatchSpec_E N) N c i) N st k
theorem law3_ConfigReadsMatchSpec_core (N : Nat) (x : SV [.v (.sl (.pr .str (.sl .str))), .v .str]) (y : BV []) : runL (law3_ConfigReadsMatchSpec_E N) Tryd.f8 (law3_ConfigReadsMatchSpec_sg fun x _ => law3_ConfigReadsMatchSpec N x.1 x.2.1) law3_ConfigReadsMatchSpec_pk (law3_ConfigReadsMatchSpec_LP N) x y = law3_ConfigReadsMatchSpec N x.1 x.2.1 := by kernel_rfl
theorem law3_ConfigReadsMatchSpec_sound (N : Nat) : Sound Tryd.prog GW B0G 8 (law3_ConfigReadsMatchSpec_sg fun x _ => law3_ConfigReadsMatchSpec N x.1 x.2.1) :=
  runD_sound (mkE_ok law3_ConfigReadsMatchSpec_h (law3_ConfigReadsMatchSpec_fn N) _ _ (law3_ConfigReadsMatchSpec_fn_ok N)) Tryd.func8 rfl Tryd.call8 (law3_ConfigReadsMatchSpec_sg fun x _ => law3_ConfigReadsMatchSpec N x.1 x.2.1) law3_ConfigReadsMatchSpec_pk (fun _ _ => rfl) N (fun x y _ h => ((runL_eq (law3_ConfigReadsMatchSpec_E N) N Tryd.f8 (law3_ConfigReadsMatchSpec_sg fun x _ => law3_ConfigReadsMatchSpec N x.1 x.2.1) law3_ConfigReadsMatchSpec_pk (law3_ConfigReadsMatchSpec_LP N) (show LoopsOk (law3_ConfigReadsMatchSpec_LP N) (law3_ConfigReadsMatchSpec_E N) N (resD (law3_ConfigReadsMatchSpec_E N) Tryd.f8 (law3_ConfigReadsMatchSpec_sg fun x _ => law3_ConfigReadsMatchSpec N x.1 x.2.1) law3_ConfigReadsMatchSpec_pk) [] from trivial) x y).trans (law3_ConfigReadsMatchSpec_core N x y)).trans h)
def slices_Clone_api_Pair (_N : Nat) (x0 : List (Str × Str)) : Option (List (Str × Str)) :=
  br ((x0).isEmpty)
    (both
      (some ([] : List (Str × Str)))
      (br (decide ((([] : List (Str × Str)).length + x0.length) * (24 * Ty.sz (.pr .str .str)) ≤ 140737488355328))
        (some (([] : List (Str × Str)) ++ x0))
        none))
    (br (decide ((([] : List (Str × Str)).length + x0.length) * (24 * Ty.sz (.pr .str .str)) ≤ 140737488355328))
      (some (([] : List (Str × Str)) ++ x0))
      none)
abbrev slices_Clone_api_Pair_sg (f : SV [.v (.sl (.pr .str .str))] → BV [] → Option (List (Str × Str))) : AF := { ps := [.v (.sl (.pr .str .str))], bs := [], rs := [.row 0], cs := [.row 60 (.pr .str .str) true], R := List (Str × Str), out := fun z => (((), ()), (z, ())), f := f }
abbrev slices_Clone_api_Pair_pk : SV [.row 0] → BV [.row 60 (.pr .str .str) true] → (List (Str × Str)) := fun _ y => y.1
def slices_Clone_api_Pair_fn (_N : Nat) : FuncId → Option Tmp → Option AF := fun f _ =>
  match f with
    | _ => none
theorem slices_Clone_api_Pair_fn_ok (N : Nat) : ∀ f q F, slices_Clone_api_Pair_fn N f q = some F → Sound Tryd.prog GW B0G f F := by
  intro f q F h
  unfold slices_Clone_api_Pair_fn at h
  split at h
  · cases h
def slices_Clone_api_Pair_h : Nat → Hint := fun i =>
  match i with
  | _ => ⟨[], [], [], [], []⟩
abbrev slices_Clone_api_Pair_E (N : Nat) : Env := mkE slices_Clone_api_Pair_h (slices_Clone_api_Pair_fn N) (fun i => match i with | 2 => true | 5 => true | _ => false) (fun _ => false)
noncomputable def slices_Clone_api_Pair_LP (N : Nat) : Nat → Code → St → (Ex → St → Option (List (Str × Str))) → Option (List (Str × Str)) := fun i c =>
  match i with
  | i => fun st k => iter (slices_Clone_api_Pair_h i) (exec (slices_Clone_api_Pair_E N) N c i) N st k
theorem slices_Clone_api_Pair_core (N : Nat) (x : SV [.v (.sl (.pr .str .str))]) (y : BV []) : runL (slices_Clone_api_Pair_E N) Tryd.f79 (slices_Clone_api_Pair_sg fun x _ => slices_Clone_api_Pair N x.1) slices_Clone_api_Pair_pk (slices_Clone_api_Pair_LP N) x y = slices_Clone_api_Pair N x.1 := by kernel_rfl
theorem slices_Clone_api_Pair_sound (N : Nat) : Sound Tryd.prog GW B0G 79 (slices_Clone_api_Pair_sg fun x _ => slices_Clone_api_Pair N x.1) :=
  runD_sound (mkE_ok slices_Clone_api_Pair_h (slices_Clone_api_Pair_fn N) _ _ (slices_Clone_api_Pair_fn_ok N)) Tryd.func79 rfl Tryd.call79 (slices_Clone_api_Pair_sg fun x _ => slices_Clone_api_Pair N x.1) slices_Clone_api_Pair_pk (fun _ _ => rfl) N (fun x y _ h => ((runL_eq (slices_Clone_api_Pair_E N) N Tryd.f79 (slices_Clone_api_Pair_sg fun x _ => slices_Clone_api_Pair N x.1) slices_Clone_api_Pair_pk (slices_Clone_api_Pair_LP N) (show LoopsOk (slices_Clone_api_Pair_LP N) (slices_Clone_api_Pair_E N) N (resD (slices_Clone_api_Pair_E N) Tryd.f79 (slices_Clone_api_Pair_sg fun x _ => slices_Clone_api_Pair N x.1) slices_Clone_api_Pair_pk) [] from trivial) x y).trans (slices_Clone_api_Pair_core N x y)).trans h)
def config_with_2 (_N : Nat) (x0 : Str × Str) (x1 : Str) : Option Int :=
  bnd (strings_Compare x0.1 x1) fun t8 =>
  some t8
abbrev config_with_2_sg (f : SV [.v (.pr .str .str), .v .str] → BV [] → Option (Int)) : AF := { ps := [.v (.pr .str .str), .v .str], bs := [], rs := [.v (.int .i64)], cs := [], R := Int, out := fun z => ((z, ()), ()), f := f }
abbrev config_with_2_pk : SV [.v (.int .i64)] → BV [] → Int := fun x _ => x.1
def config_with_2_fn (_N : Nat) : FuncId → Option Tmp → Option AF := fun f _ =>
  match f with
    | 109 => some (strings_Compare_sg fun x _ => strings_Compare x.1 x.2.1)
    | _ => none
theorem config_with_2_fn_ok (N : Nat) : ∀ f q F, config_with_2_fn N f q = some F → Sound Tryd.prog GW B0G f F := by
  intro f q F h
  unfold config_with_2_fn at h
  split at h
  · cases h; exact strings_Compare_sound
  · cases h
def config_with_2_h : Nat → Hint := fun i =>
  match i with
  | _ => ⟨[], [], [], [], []⟩
abbrev config_with_2_E (N : Nat) : Env := mkE config_with_2_h (config_with_2_fn N) (fun _ => false) (fun _ => false)
noncomputable def config_with_2_LP (N : Nat) : Nat → Code → St → (Ex → St → Option Int) → Option Int := fun i c =>
  match i with
  | i => fun st k => iter (config_with_2_h i) (exec (config_with_2_E N) N c i) N st k
theorem config_with_2_core (N : Nat) (x : SV [.v (.pr .str .str), .v .str]) (y : BV []) : runL (config_with_2_E N) Tryd.f108 (config_with_2_sg fun x _ => config_with_2 N x.1 x.2.1) config_with_2_pk (config_with_2_LP N) x y = config_with_2 N x.1 x.2.1 := by kernel_rfl
theorem config_with_2_sound (N : Nat) : Sound Tryd.prog GW B0G 108 (config_with_2_sg fun x _ => config_with_2 N x.1 x.2.1) :=
  runD_sound (mkE_ok config_with_2_h (config_with_2_fn N) _ _ (config_with_2_fn_ok N)) Tryd.func108 rfl Tryd.call108 (config_with_2_sg fun x _ => config_with_2 N x.1 x.2.1) config_with_2_pk (fun _ _ => rfl) N (fun x y _ h => ((runL_eq (config_with_2_E N) N Tryd.f108 (config_with_2_sg fun x _ => config_with_2 N x.1 x.2.1) config_with_2_pk (config_with_2_LP N) (show LoopsOk (config_with_2_LP N) (config_with_2_E N) N (resD (config_with_2_E N) Tryd.f108 (config_with_2_sg fun x _ => config_with_2 N x.1 x.2.1) config_with_2_pk) [] from trivial) x y).trans (config_with_2_core N x y)).trans h)
def config_with_1 (_N : Nat) (x0 : Str × Str) (x1 : Str) : Option Bool :=
  some (x0.1 == x1)
abbrev config_with_1_sg (f : SV [.v (.pr .str .str), .v (.ptr .str)] → BV [] → Option (Bool)) : AF := { ps := [.v (.pr .str .str), .v (.ptr .str)], bs := [], rs := [.v .bool], cs := [], R := Bool, out := fun z => ((z, ()), ()), f := f }
abbrev config_with_1_pk : SV [.v .bool] → BV [] → Bool := fun x _ => x.1
def config_with_1_fn (_N : Nat) : FuncId → Option Tmp → Option AF := fun f _ =>
  match f with
    | _ => none
theorem config_with_1_fn_ok (N : Nat) : ∀ f q F, config_with_1_fn N f q = some F → Sound Tryd.prog GW B0G f F := by
  intro f q F h
  unfold config_with_1_fn at h
  split at h
  · cases h
def config_with_1_h : Nat → Hint := fun i =>
  match i with
  | _ => ⟨[], [], [], [], []⟩
abbrev config_with_1_E (N : Nat) : Env := mkE config_with_1_h (config_with_1_fn N) (fun _ => false) (fun _ => false)
noncomputable def config_with_1_LP (N : Nat) : Nat → Code → St → (Ex → St → Option Bool) → Option Bool := fun i c =>
  match i with
  | i => fun st k => iter (config_with_1_h i) (exec (config_with_1_E N) N c i) N st k
theorem config_with_1_core (N : Nat) (x : SV [.v (.pr .str .str), .v (.ptr .str)]) (y : BV []) : runL (config_with_1_E N) Tryd.f106 (config_with_1_sg fun x _ => config_with_1 N x.1 x.2.1) config_with_1_pk (config_with_1_LP N) x y = config_with_1 N x.1 x.2.1 := by kernel_rfl
theorem config_with_1_sound (N : Nat) : Sound Tryd.prog GW B0G 106 (config_with_1_sg fun x _ => config_with_1 N x.1 x.2.1) :=
  runD_sound (mkE_ok config_with_1_h (config_with_1_fn N) _ _ (config_with_1_fn_ok N)) Tryd.func106 rfl Tryd.call106 (config_with_1_sg fun x _ => config_with_1 N x.1 x.2.1) config_with_1_pk (fun _ _ => rfl) N (fun x y _ h => ((runL_eq (config_with_1_E N) N Tryd.f106 (config_with_1_sg fun x _ => config_with_1 N x.1 x.2.1) config_with_1_pk (config_with_1_LP N) (show LoopsOk (config_with_1_LP N) (config_with_1_E N) N (resD (config_with_1_E N) Tryd.f106 (config_with_1_sg fun x _ => config_with_1 N x.1 x.2.1) config_with_1_pk) [] from trivial) x y).trans (config_with_1_core N x y)).trans h)
end
end Go.Proofs.YtbekhaioddmliaaDoor
