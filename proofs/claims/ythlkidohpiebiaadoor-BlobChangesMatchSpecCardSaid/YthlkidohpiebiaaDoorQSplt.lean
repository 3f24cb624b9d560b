/- What functions of the program compute, as plain functions (printed). -/
import Derived.Test.YthlkidohpiebiaaDoorQBnF4
import Derived.Test.YthlkidohpiebiaaDoorQBmMk
import Derived.Test.YthlkidohpiebiaaDoorQAsc
import Derived.Shelf.SlGeneric
import Derived.Shelf.SlSortCmp.WholeK
import Derived.Shelf.SlSortCmp.NoneTotal
import Derived.Ground.SlsfProg
import Derived.Test.YthlkidohpiebiaaDoorProg
import Derived.Test.YthlkidohpiebiaaDoorQBnF2
import Derived.Shelf.Strings.SlTrimAscii
import Derived.Lib.Join
namespace Go.Proofs.YthlkidohpiebiaaDoor
open Go Go.RowKit
set_option maxRecDepth 100000
set_option linter.unusedVariables false
noncomputable section
def blob_Changes_L0T (_N : Nat) (c36 : Int) (t29 : List (Str × (Str × Bool × List UInt8))) (t31 : List (Str × (Str × Bool × List UInt8))) (t35 : List Str) (k0 : (List (Str × Int)) → Option (Int × List (Str × Int))) (self : Int → (List (Str × Int)) → Option (Int × List (Str × Int))) (s37 : Int) (w1010 : List (Str × Int)) : Option (Int × List (Str × Int)) :=
  br (decide (s37 < c36))
    (bnd (geti t35 s37) fun t39 =>
    br (!((mget t29 t39).isSome))
      (br (decide ((w1010.length + [(t39, (1 : Int))].length) * (24 * Ty.sz (.pr .str (.int .i64))) ≤ 140737488355328))
        (self (IntKind.i64.wrap (s37 + (1 : Int))) (w1010 ++ [(t39, (1 : Int))]))
        none)
      (br (!((mget t31 t39).isSome))
        (br (decide ((w1010.length + [(t39, (2 : Int))].length) * (24 * Ty.sz (.pr .str (.int .i64))) ≤ 140737488355328))
          (self (IntKind.i64.wrap (s37 + (1 : Int))) (w1010 ++ [(t39, (2 : Int))]))
          none)
        (br (!(((((mget t29 t39).getD (zero (.pr .str (.pr .bool (.sl .u8))))).2).2) == ((((mget t31 t39).getD (zero (.pr .str (.pr .bool (.sl .u8))))).2).2)))
          (br (decide ((w1010.length + [(t39, (3 : Int))].length) * (24 * Ty.sz (.pr .str (.int .i64))) ≤ 140737488355328))
            (self (IntKind.i64.wrap (s37 + (1 : Int))) (w1010 ++ [(t39, (3 : Int))]))
            none)
          (br (((((mget t29 t39).getD (zero (.pr .str (.pr .bool (.sl .u8))))).2).1) != ((((mget t31 t39).getD (zero (.pr .str (.pr .bool (.sl .u8))))).2).1))
            (br (decide ((w1010.length + [(t39, (4 : Int))].length) * (24 * Ty.sz (.pr .str (.int .i64))) ≤ 140737488355328))
              (self (IntKind.i64.wrap (s37 + (1 : Int))) (w1010 ++ [(t39, (4 : Int))]))
              none)
            (self (IntKind.i64.wrap (s37 + (1 : Int))) w1010)))))
    (k0 w1010)
def blob_Changes_L0 (N : Nat) (c36 : Int) (t29 : List (Str × (Str × Bool × List UInt8))) (t31 : List (Str × (Str × Bool × List UInt8))) (t35 : List Str) (k0 : (List (Str × Int)) → Option (Int × List (Str × Int))) : Nat → Int → (List (Str × Int)) → Option (Int × List (Str × Int))
  | 0, _, _ => none
  | n + 1, s37, w1010 => blob_Changes_L0T N c36 t29 t31 t35 k0 (blob_Changes_L0 N c36 t29 t31 t35 k0 n) s37 w1010
def blob_Changes (N : Nat) (x0 : List (Str × Bool × List UInt8)) (x1 : List (Str × Bool × List UInt8)) : Option (Int × List (Str × Int)) :=
  bnd (blob_CheckFiles N x0) fun t19 =>
  br (t19 != (0 : Int))
    (some (t19, ([] : List (Str × Int))))
    (bnd (blob_CheckFiles N x1) fun t24 =>
    br (t24 != (0 : Int))
      (some (t24, ([] : List (Str × Int))))
      (bnd (blob_byPath N x0) fun t29 =>
      bnd (blob_byPath N x1) fun t31 =>
      bnd (blob_paths N [x0, x1]) fun t35 =>
      blob_Changes_L0 N (t35.length : Int) t29 t31 t35 (fun o0_w1010 =>
          some ((0 : Int), o0_w1010)) N (0 : Int) ([] : List (Str × Int))))
abbrev blob_Changes_sg (f : SV [.v (.sl (.pr .str (.pr .bool (.sl .u8)))), .v (.sl (.pr .str (.pr .bool (.sl .u8))))] → BV [] → Option (Int × List (Str × Int))) : AF := { ps := [.v (.sl (.pr .str (.pr .bool (.sl .u8)))), .v (.sl (.pr .str (.pr .bool (.sl .u8))))], bs := [], rs := [.row 0, .v (.int .i64)], cs := [.row 43 (.pr .str (.int .i64)) false], R := Int × List (Str × Int), out := fun z => (((), z.1, ()), (z.2, ())), f := f }
abbrev blob_Changes_pk : SV [.row 0, .v (.int .i64)] → BV [.row 43 (.pr .str (.int .i64)) false] → (Int × List (Str × Int)) := fun x y => (x.2.1, y.1)
def blob_Changes_fn (N : Nat) : FuncId → Option Tmp → Option AF := fun f _ =>
  match f with
    | 35 => some (blob_CheckFiles_sg fun x _ => blob_CheckFiles N x.1)
    | 52 => some (blob_byPath_sg fun x _ => blob_byPath N x.1)
    | 53 => some (blob_paths_sg fun x _ => blob_paths N x.1)
    | _ => none
theorem blob_Changes_fn_ok (N : Nat) : ∀ f q F, blob_Changes_fn N f q = some F → Sound Tryd.prog GW B0G f F := by
  intro f q F h
  unfold blob_Changes_fn at h
  split at h
  · cases h; exact blob_CheckFiles_sound N
  · cases h; exact blob_byPath_sound N
  · cases h; exact blob_paths_sound N
  · cases h
def blob_Changes_h : Nat → Hint := fun i =>
  match i with
  | 0 => ⟨[], [8, 9, 10, 35, 36, 37], [1010, 102900, 103100, 103500], [10], [1010], []⟩
  | _ => ⟨[], [], [], [], [], []⟩
abbrev blob_Changes_E (N : Nat) : Env := mkE blob_Changes_h (blob_Changes_fn N) (fun _ => false) (fun _ => false)
abbrev blob_Changes_L0_fs : List (Nat × Sl) := [(8, .mref 102900), (9, .mref 103100), (10, .row 1010), (35, .row 103500), (36, .v (.int .i64)), (37, .v (.int .i64))]
abbrev blob_Changes_L0_bs : List (Nat × Sb) := [(1010, .row 43 (.pr .str (.int .i64)) false), (102900, .map (.pr .str (.pr .bool (.sl .u8)))), (103100, .map (.pr .str (.pr .bool (.sl .u8)))), (103500, .row 9 .str false)]
def blob_Changes_L0_hd (c36 : Int) (t29 : List (Str × (Str × Bool × List UInt8))) (t31 : List (Str × (Str × Bool × List UInt8))) (t35 : List Str) (s37 : Int) (w1010 : List (Str × Int)) : St := ⟨81, [(8, .mref 102900), (9, .mref 103100), (10, .row 1010), (35, .row 103500), (36, .v (.int .i64) c36), (37, .v (.int .i64) s37)], [(1010, .row 43 (.pr .str (.int .i64)) false w1010), (102900, .map (.pr .str (.pr .bool (.sl .u8))) t29), (103100, .map (.pr .str (.pr .bool (.sl .u8))) t31), (103500, .row 9 .str false t35)]⟩
def blob_Changes_L0_tl0 (_c36 : Int) (_t29 : List (Str × (Str × Bool × List UInt8))) (_t31 : List (Str × (Str × Bool × List UInt8))) (_t35 : List Str) (o0_w1010 : List (Str × Int)) : St := ⟨81, [(10, .row 1010)], [(1010, .row 43 (.pr .str (.int .i64)) false o0_w1010)]⟩
def blob_Changes_L0_G (N : Nat) (c36 : Int) (t29 : List (Str × (Str × Bool × List UInt8))) (t31 : List (Str × (Str × Bool × List UInt8))) (t35 : List Str) (s37 : Int) (w1010 : List (Str × Int)) (k : Ex → St → Option (Int × List (Str × Int))) : Option (Int × List (Str × Int)) :=
  blob_Changes_L0 N c36 t29 t31 t35 (fun o0_w1010 => k (.exit 0) (blob_Changes_L0_tl0 c36 t29 t31 t35 o0_w1010)) N s37 w1010
abbrev blob_Changes_L0_F (N : Nat) : FV blob_Changes_L0_fs → HV blob_Changes_L0_bs → (Ex → St → Option (Int × List (Str × Int))) → Option (Int × List (Str × Int)) := fun x y k => blob_Changes_L0_G N x.2.2.2.2.1 y.2.1 y.2.2.1 y.2.2.2.1 x.2.2.2.2.2.1 y.1 k
noncomputable def blob_Changes_LP (N : Nat) : Nat → Code → St → (Ex → St → Option (Int × List (Str × Int))) → Option (Int × List (Str × Int)) := fun i c =>
  match i with
  | 0 => (LPc 81 blob_Changes_L0_fs blob_Changes_L0_bs (blob_Changes_L0_F N) (fun st k => iter (blob_Changes_h 0) (exec (blob_Changes_E N) N c 0) N st k))
  | i => fun st k => iter (blob_Changes_h i) (exec (blob_Changes_E N) N c i) N st k
theorem blob_Changes_L0_step (N : Nat) (c36 : Int) (t29 : List (Str × (Str × Bool × List UInt8))) (t31 : List (Str × (Str × Bool × List UInt8))) (t35 : List Str) (KX : Nat → St → Option (Int × List (Str × Int))) (I : St → Option (Int × List (Str × Int))) (s37 : Int) (w1010 : List (Str × Int)) :
    execL (blob_Changes_LP N) (blob_Changes_E N) (cAt (bodyOf Tryd.f22) [true, true, true, true, true, false, true, false, false]) 0 (blob_Changes_L0_hd c36 t29 t31 t35 s37 w1010) (roundK (blob_Changes_h 0) I KX (resD (blob_Changes_E N) Tryd.f22 (blob_Changes_sg fun x _ => blob_Changes N x.1 x.2.1) blob_Changes_pk)) = blob_Changes_L0T N c36 t29 t31 t35 (fun o0_w1010 => KX 0 (blob_Changes_L0_tl0 c36 t29 t31 t35 o0_w1010)) (fun s37 w1010 => I (blob_Changes_L0_hd c36 t29 t31 t35 s37 w1010)) s37 w1010 := by kernel_rfl
theorem blob_Changes_L0_ok (N : Nat) : ∀ x y k, (∀ st, k .ret st = (resD (blob_Changes_E N) Tryd.f22 (blob_Changes_sg fun x _ => blob_Changes N x.1 x.2.1) blob_Changes_pk) st) → iter (blob_Changes_h 0) (exec (blob_Changes_E N) N (cAt (bodyOf Tryd.f22) [true, true, true, true, true, false, true, false, false]) 0) N ⟨81, unF blob_Changes_L0_fs x, unH blob_Changes_L0_bs y⟩ k = blob_Changes_L0_F N x y k := fun x y k hk =>
  iter_link (S := (Int) × (List (Str × Int)) × Unit) (blob_Changes_h 0) _ (execL (blob_Changes_LP N) (blob_Changes_E N) (cAt (bodyOf Tryd.f22) [true, true, true, true, true, false, true, false, false]) 0) (resD (blob_Changes_E N) Tryd.f22 (blob_Changes_sg fun x _ => blob_Changes N x.1 x.2.1) blob_Changes_pk) (fun st k hk => execL_eq _ _ N _ (cAt (bodyOf Tryd.f22) [true, true, true, true, true, false, true, false, false]) 0 (show LoopsOk (blob_Changes_LP N) (blob_Changes_E N) N (resD (blob_Changes_E N) Tryd.f22 (blob_Changes_sg fun x _ => blob_Changes N x.1 x.2.1) blob_Changes_pk) [] from trivial) st k hk) (fun s => blob_Changes_L0_hd x.2.2.2.2.1 y.2.1 y.2.2.1 y.2.2.2.1 s.1 s.2.1) k hk
    (fun self s => blob_Changes_L0T N x.2.2.2.2.1 y.2.1 y.2.2.1 y.2.2.2.1 (fun o0_w1010 => k (.exit 0) (blob_Changes_L0_tl0 x.2.2.2.2.1 y.2.1 y.2.2.1 y.2.2.2.1 o0_w1010)) (fun s37 w1010 => self (s37, w1010, ())) s.1 s.2.1) (fun n s => blob_Changes_L0 N x.2.2.2.2.1 y.2.1 y.2.2.1 y.2.2.2.1 (fun o0_w1010 => k (.exit 0) (blob_Changes_L0_tl0 x.2.2.2.2.1 y.2.1 y.2.2.1 y.2.2.2.1 o0_w1010)) n s.1 s.2.1) (fun _ => rfl) (fun _ _ => rfl)
    (fun I s => blob_Changes_L0_step N x.2.2.2.2.1 y.2.1 y.2.2.1 y.2.2.2.1 (fun j => k (.exit j)) I s.1 s.2.1) N (x.2.2.2.2.2.1, y.1, ())
theorem blob_Changes_lp0 (N : Nat) : ∀ st k, (∀ st, k .ret st = (resD (blob_Changes_E N) Tryd.f22 (blob_Changes_sg fun x _ => blob_Changes N x.1 x.2.1) blob_Changes_pk) st) → blob_Changes_LP N 0 (cAt (bodyOf Tryd.f22) [true, true, true, true, true, false, true, false, false]) st k = iter (Env.hint (blob_Changes_E N) 0) (exec (blob_Changes_E N) N (cAt (bodyOf Tryd.f22) [true, true, true, true, true, false, true, false, false]) 0) N st k := fun st k hk => LPc_eq 81 blob_Changes_L0_fs blob_Changes_L0_bs _ _ (resD (blob_Changes_E N) Tryd.f22 (blob_Changes_sg fun x _ => blob_Changes N x.1 x.2.1) blob_Changes_pk) (blob_Changes_L0_ok N) _ st k hk (rfl)
theorem blob_Changes_core (N : Nat) (x : SV [.v (.sl (.pr .str (.pr .bool (.sl .u8)))), .v (.sl (.pr .str (.pr .bool (.sl .u8))))]) (y : BV []) : runL (blob_Changes_E N) Tryd.f22 (blob_Changes_sg fun x _ => blob_Changes N x.1 x.2.1) blob_Changes_pk (blob_Changes_LP N) x y = blob_Changes N x.1 x.2.1 := by kernel_rfl
theorem blob_Changes_sound (N : Nat) : Sound Tryd.prog GW B0G 22 (blob_Changes_sg fun x _ => blob_Changes N x.1 x.2.1) :=
  runD_sound (mkE_ok blob_Changes_h (blob_Changes_fn N) _ _ (blob_Changes_fn_ok N)) Tryd.func22 rfl Tryd.call22 (blob_Changes_sg fun x _ => blob_Changes N x.1 x.2.1) blob_Changes_pk (fun _ _ => rfl) N (fun x y _ h => ((runL_eq (blob_Changes_E N) N Tryd.f22 (blob_Changes_sg fun x _ => blob_Changes N x.1 x.2.1) blob_Changes_pk (blob_Changes_LP N) (show LoopsOk (blob_Changes_LP N) (blob_Changes_E N) N (resD (blob_Changes_E N) Tryd.f22 (blob_Changes_sg fun x _ => blob_Changes N x.1 x.2.1) blob_Changes_pk) [(0, (cAt (bodyOf Tryd.f22) [true, true, true, true, true, false, true, false, false]))] from ⟨blob_Changes_lp0 N, trivial⟩) x y).trans (blob_Changes_core N x y)).trans h)
def bytes_Equal (_N : Nat) (x0 : List UInt8) (x1 : List UInt8) : Option Bool :=
  some (x0 == x1)
abbrev bytes_Equal_sg (f : SV [.v (.sl .u8), .v (.sl .u8)] → BV [] → Option (Bool)) : AF := { ps := [.v (.sl .u8), .v (.sl .u8)], bs := [], rs := [.v .bool], cs := [], R := Bool, out := fun z => ((z, ()), ()), f := f }
abbrev bytes_Equal_pk : SV [.v .bool] → BV [] → Bool := fun x _ => x.1
def bytes_Equal_fn (_N : Nat) : FuncId → Option Tmp → Option AF := fun f _ =>
  match f with
    | _ => none
theorem bytes_Equal_fn_ok (N : Nat) : ∀ f q F, bytes_Equal_fn N f q = some F → Sound Tryd.prog GW B0G f F := by
  intro f q F h
  unfold bytes_Equal_fn at h
  split at h
  · cases h
def bytes_Equal_h : Nat → Hint := fun i =>
  match i with
  | _ => ⟨[], [], [], [], [], []⟩
abbrev bytes_Equal_E (N : Nat) : Env := mkE bytes_Equal_h (bytes_Equal_fn N) (fun _ => false) (fun _ => false)
noncomputable def bytes_Equal_LP (N : Nat) : Nat → Code → St → (Ex → St → Option Bool) → Option Bool := fun i c =>
  match i with
  | i => fun st k => iter (bytes_Equal_h i) (exec (bytes_Equal_E N) N c i) N st k
theorem bytes_Equal_core (N : Nat) (x : SV [.v (.sl .u8), .v (.sl .u8)]) (y : BV []) : runL (bytes_Equal_E N) Tryd.f57 (bytes_Equal_sg fun x _ => bytes_Equal N x.1 x.2.1) bytes_Equal_pk (bytes_Equal_LP N) x y = bytes_Equal N x.1 x.2.1 := by kernel_rfl
theorem bytes_Equal_sound (N : Nat) : Sound Tryd.prog GW B0G 57 (bytes_Equal_sg fun x _ => bytes_Equal N x.1 x.2.1) :=
  runD_sound (mkE_ok bytes_Equal_h (bytes_Equal_fn N) _ _ (bytes_Equal_fn_ok N)) Tryd.func57 rfl Tryd.call57 (bytes_Equal_sg fun x _ => bytes_Equal N x.1 x.2.1) bytes_Equal_pk (fun _ _ => rfl) N (fun x y _ h => ((runL_eq (bytes_Equal_E N) N Tryd.f57 (bytes_Equal_sg fun x _ => bytes_Equal N x.1 x.2.1) bytes_Equal_pk (bytes_Equal_LP N) (show LoopsOk (bytes_Equal_LP N) (bytes_Equal_E N) N (resD (bytes_Equal_E N) Tryd.f57 (bytes_Equal_sg fun x _ => bytes_Equal N x.1 x.2.1) bytes_Equal_pk) [] from trivial) x y).trans (bytes_Equal_core N x y)).trans h)
def ref1_put_L0T (_N : Nat) (x0 : List Str) (x1 : Str) (k0 : Int → Option (List Str)) (self : Int → Option (List Str)) (s5 : Int) : Option (List Str) :=
  br (decide (s5 > (0 : Int)))
    (bnd (geti x0 (IntKind.i64.wrap (s5 - (1 : Int)))) fun t15 =>
    br (!(Op.bytesLess t15 x1 || t15 == x1))
      (self (IntKind.i64.wrap (s5 - (1 : Int))))
      (k0 s5))
    (k0 s5)
def ref1_put_L0 (N : Nat) (x0 : List Str) (x1 : Str) (k0 : Int → Option (List Str)) : Nat → Int → Option (List Str)
  | 0, _ => none
  | n + 1, s5 => ref1_put_L0T N x0 x1 k0 (ref1_put_L0 N x0 x1 k0 n) s5
def ref1_put (N : Nat) (x0 : List Str) (x1 : Str) : Option (List Str) :=
  ref1_put_L0 N x0 x1 (fun o0_5 =>
      br (decide (o0_5 > (0 : Int)))
        (bnd (geti x0 (IntKind.i64.wrap (o0_5 - (1 : Int)))) fun t28 =>
        br (t28 == x1)
          (some x0)
          (bnd (slc x0 (0 : Int) o0_5) fun t37 =>
          br (decide ((([] : List Str).length + t37.length) * (24 * Ty.sz .str) ≤ 140737488355328))
            (br (decide (((([] : List Str) ++ t37).length + [x1].length) * (24 * Ty.sz .str) ≤ 140737488355328))
              (bnd (slc x0 o0_5 (x0.length : Int)) fun t46 =>
              br (decide ((((([] : List Str) ++ t37) ++ [x1]).length + t46.length) * (24 * Ty.sz .str) ≤ 140737488355328))
                (some (((([] : List Str) ++ t37) ++ [x1]) ++ t46))
                none)
              none)
            none))
        (bnd (slc x0 (0 : Int) o0_5) fun t37_1 =>
        br (decide ((([] : List Str).length + t37_1.length) * (24 * Ty.sz .str) ≤ 140737488355328))
          (br (decide (((([] : List Str) ++ t37_1).length + [x1].length) * (24 * Ty.sz .str) ≤ 140737488355328))
            (bnd (slc x0 o0_5 (x0.length : Int)) fun t46_2 =>
            br (decide ((((([] : List Str) ++ t37_1) ++ [x1]).length + t46_2.length) * (24 * Ty.sz .str) ≤ 140737488355328))
              (some (((([] : List Str) ++ t37_1) ++ [x1]) ++ t46_2))
              none)
            none)
          none)) N (x0.length : Int)
abbrev ref1_put_sg (f : SV [.v (.sl .str), .v .str] → BV [] → Option (List Str)) : AF := { ps := [.v (.sl .str), .v .str], bs := [], rs := [.v (.sl .str)], cs := [], R := List Str, out := fun z => ((z, ()), ()), f := f }
abbrev ref1_put_pk : SV [.v (.sl .str)] → BV [] → (List Str) := fun x _ => x.1
def ref1_put_fn (_N : Nat) : FuncId → Option Tmp → Option AF := fun f _ =>
  match f with
    | _ => none
theorem ref1_put_fn_ok (N : Nat) : ∀ f q F, ref1_put_fn N f q = some F → Sound Tryd.prog GW B0G f F := by
  intro f q F h
  unfold ref1_put_fn at h
  split at h
  · cases h
def ref1_put_h : Nat → Hint := fun i =>
  match i with
  | 0 => ⟨[], [0, 1, 5], [], [0, 1, 5], [], []⟩
  | _ => ⟨[], [], [], [], [], []⟩
abbrev ref1_put_E (N : Nat) : Env := mkE ref1_put_h (ref1_put_fn N) (fun _ => false) (fun _ => false)
abbrev ref1_put_L0_fs : List (Nat × Sl) := [(0, .v (.sl .str)), (1, .v .str), (5, .v (.int .i64))]
abbrev ref1_put_L0_bs : List (Nat × Sb) := []
def ref1_put_L0_hd (x0 : List Str) (x1 : Str) (s5 : Int) : St := ⟨48, [(0, .v (.sl .str) x0), (1, .v .str x1), (5, .v (.int .i64) s5)], []⟩
def ref1_put_L0_tl0 (x0 : List Str) (x1 : Str) (o0_5 : Int) : St := ⟨48, [(0, .v (.sl .str) x0), (1, .v .str x1), (5, .v (.int .i64) o0_5)], []⟩
def ref1_put_L0_G (N : Nat) (x0 : List Str) (x1 : Str) (s5 : Int) (k : Ex → St → Option (List Str)) : Option (List Str) :=
  ref1_put_L0 N x0 x1 (fun o0_5 => k (.exit 0) (ref1_put_L0_tl0 x0 x1 o0_5)) N s5
abbrev ref1_put_L0_F (N : Nat) : FV ref1_put_L0_fs → HV ref1_put_L0_bs → (Ex → St → Option (List Str)) → Option (List Str) := fun x _ k => ref1_put_L0_G N x.1 x.2.1 x.2.2.1 k
noncomputable def ref1_put_LP (N : Nat) : Nat → Code → St → (Ex → St → Option (List Str)) → Option (List Str) := fun i c =>
  match i with
  | 0 => (LPc 48 ref1_put_L0_fs ref1_put_L0_bs (ref1_put_L0_F N) (fun st k => iter (ref1_put_h 0) (exec (ref1_put_E N) N c 0) N st k))
  | i => fun st k => iter (ref1_put_h i) (exec (ref1_put_E N) N c i) N st k
theorem ref1_put_L0_step (N : Nat) (x0 : List Str) (x1 : Str) (KX : Nat → St → Option (List Str)) (I : St → Option (List Str)) (s5 : Int) :
    execL (ref1_put_LP N) (ref1_put_E N) (cAt (bodyOf Tryd.f74) [true, true, false, false, false]) 0 (ref1_put_L0_hd x0 x1 s5) (roundK (ref1_put_h 0) I KX (resD (ref1_put_E N) Tryd.f74 (ref1_put_sg fun x _ => ref1_put N x.1 x.2.1) ref1_put_pk)) = ref1_put_L0T N x0 x1 (fun o0_5 => KX 0 (ref1_put_L0_tl0 x0 x1 o0_5)) (fun s5 => I (ref1_put_L0_hd x0 x1 s5)) s5 := by kernel_rfl
theorem ref1_put_L0_ok (N : Nat) : ∀ x y k, (∀ st, k .ret st = (resD (ref1_put_E N) Tryd.f74 (ref1_put_sg fun x _ => ref1_put N x.1 x.2.1) ref1_put_pk) st) → iter (ref1_put_h 0) (exec (ref1_put_E N) N (cAt (bodyOf Tryd.f74) [true, true, false, false, false]) 0) N ⟨48, unF ref1_put_L0_fs x, unH ref1_put_L0_bs y⟩ k = ref1_put_L0_F N x y k := fun x _ k hk =>
  iter_link (S := (Int) × Unit) (ref1_put_h 0) _ (execL (ref1_put_LP N) (ref1_put_E N) (cAt (bodyOf Tryd.f74) [true, true, false, false, false]) 0) (resD (ref1_put_E N) Tryd.f74 (ref1_put_sg fun x _ => ref1_put N x.1 x.2.1) ref1_put_pk) (fun st k hk => execL_eq _ _ N _ (cAt (bodyOf Tryd.f74) [true, true, false, false, false]) 0 (show LoopsOk (ref1_put_LP N) (ref1_put_E N) N (resD (ref1_put_E N) Tryd.f74 (ref1_put_sg fun x _ => ref1_put N x.1 x.2.1) ref1_put_pk) [] from trivial) st k hk) (fun s => ref1_put_L0_hd x.1 x.2.1 s.1) k hk
    (fun self s => ref1_put_L0T N x.1 x.2.1 (fun o0_5 => k (.exit 0) (ref1_put_L0_tl0 x.1 x.2.1 o0_5)) (fun s5 => self (s5, ())) s.1) (fun n s => ref1_put_L0 N x.1 x.2.1 (fun o0_5 => k (.exit 0) (ref1_put_L0_tl0 x.1 x.2.1 o0_5)) n s.1) (fun _ => rfl) (fun _ _ => rfl)
    (fun I s => ref1_put_L0_step N x.1 x.2.1 (fun j => k (.exit j)) I s.1) N (x.2.2.1, ())
theorem ref1_put_lp0 (N : Nat) : ∀ st k, (∀ st, k .ret st = (resD (ref1_put_E N) Tryd.f74 (ref1_put_sg fun x _ => ref1_put N x.1 x.2.1) ref1_put_pk) st) → ref1_put_LP N 0 (cAt (bodyOf Tryd.f74) [true, true, false, false, false]) st k = iter (Env.hint (ref1_put_E N) 0) (exec (ref1_put_E N) N (cAt (bodyOf Tryd.f74) [true, true, false, false, false]) 0) N st k := fun st k hk => LPc_eq 48 ref1_put_L0_fs ref1_put_L0_bs _ _ (resD (ref1_put_E N) Tryd.f74 (ref1_put_sg fun x _ => ref1_put N x.1 x.2.1) ref1_put_pk) (ref1_put_L0_ok N) _ st k hk (rfl)
theorem ref1_put_core (N : Nat) (x : SV [.v (.sl .str), .v .str]) (y : BV []) : runL (ref1_put_E N) Tryd.f74 (ref1_put_sg fun x _ => ref1_put N x.1 x.2.1) ref1_put_pk (ref1_put_LP N) x y = ref1_put N x.1 x.2.1 := by kernel_rfl
theorem ref1_put_sound (N : Nat) : Sound Tryd.prog GW B0G 74 (ref1_put_sg fun x _ => ref1_put N x.1 x.2.1) :=
  runD_sound (mkE_ok ref1_put_h (ref1_put_fn N) _ _ (ref1_put_fn_ok N)) Tryd.func74 rfl Tryd.call74 (ref1_put_sg fun x _ => ref1_put N x.1 x.2.1) ref1_put_pk (fun _ _ => rfl) N (fun x y _ h => ((runL_eq (ref1_put_E N) N Tryd.f74 (ref1_put_sg fun x _ => ref1_put N x.1 x.2.1) ref1_put_pk (ref1_put_LP N) (show LoopsOk (ref1_put_LP N) (ref1_put_E N) N (resD (ref1_put_E N) Tryd.f74 (ref1_put_sg fun x _ => ref1_put N x.1 x.2.1) ref1_put_pk) [(0, (cAt (bodyOf Tryd.f74) [true, true, false, false, false]))] from ⟨ref1_put_lp0 N, trivial⟩) x y).trans (ref1_put_core N x y)).trans h)
def ref1_paths_L0T (N : Nat) (x0 : List (Str × Bool × List UInt8)) (k0 : (List Str) → Option (List Str)) (self : (List Str) → Int → Option (List Str)) (s7 : List Str) (s8 : Int) : Option (List Str) :=
  br (decide (s8 < (x0.length : Int)))
    (bnd (geti x0 s8) fun t20 =>
    bnd (ref1_put N s7 t20.1) fun t23 =>
    self t23 (IntKind.i64.wrap (s8 + (1 : Int))))
    (k0 s7)
def ref1_paths_L0 (N : Nat) (x0 : List (Str × Bool × List UInt8)) (k0 : (List Str) → Option (List Str)) : Nat → (List Str) → Int → Option (List Str)
  | 0, _, _ => none
  | n + 1, s7, s8 => ref1_paths_L0T N x0 k0 (ref1_paths_L0 N x0 k0 n) s7 s8
def ref1_paths_L1T (N : Nat) (x1 : List (Str × Bool × List UInt8)) (k2 : (List Str) → Option (List Str)) (self : (List Str) → Int → Option (List Str)) (s7_1 : List Str) (s9 : Int) : Option (List Str) :=
  br (decide (s9 < (x1.length : Int)))
    (bnd (geti x1 s9) fun t33 =>
    bnd (ref1_put N s7_1 t33.1) fun t36 =>
    self t36 (IntKind.i64.wrap (s9 + (1 : Int))))
    (k2 s7_1)
def ref1_paths_L1 (N : Nat) (x1 : List (Str × Bool × List UInt8)) (k2 : (List Str) → Option (List Str)) : Nat → (List Str) → Int → Option (List Str)
  | 0, _, _ => none
  | n + 1, s7_1, s9 => ref1_paths_L1T N x1 k2 (ref1_paths_L1 N x1 k2 n) s7_1 s9
def ref1_paths_L2T (N : Nat) (x2 : List (Str × Bool × List UInt8)) (k4 : (List Str) → Option (List Str)) (self : (List Str) → Int → Option (List Str)) (s7_2 : List Str) (s10 : Int) : Option (List Str) :=
  br (decide (s10 < (x2.length : Int)))
    (bnd (geti x2 s10) fun t46 =>
    bnd (ref1_put N s7_2 t46.1) fun t49 =>
    self t49 (IntKind.i64.wrap (s10 + (1 : Int))))
    (k4 s7_2)
def ref1_paths_L2 (N : Nat) (x2 : List (Str × Bool × List UInt8)) (k4 : (List Str) → Option (List Str)) : Nat → (List Str) → Int → Option (List Str)
  | 0, _, _ => none
  | n + 1, s7_2, s10 => ref1_paths_L2T N x2 k4 (ref1_paths_L2 N x2 k4 n) s7_2 s10
def ref1_paths (N : Nat) (x0 : List (Str × Bool × List UInt8)) (x1 : List (Str × Bool × List UInt8)) (x2 : List (Str × Bool × List UInt8)) : Option (List Str) :=
  ref1_paths_L0 N x0 (fun o0_7 =>
      ref1_paths_L1 N x1 (fun o1_7 =>
          ref1_paths_L2 N x2 (fun o2_7 =>
              some o2_7) N o1_7 (0 : Int)) N o0_7 (0 : Int)) N ([] : List Str) (0 : Int)
abbrev ref1_paths_sg (f : SV [.v (.sl (.pr .str (.pr .bool (.sl .u8)))), .v (.sl (.pr .str (.pr .bool (.sl .u8)))), .v (.sl (.pr .str (.pr .bool (.sl .u8))))] → BV [] → Option (List Str)) : AF := { ps := [.v (.sl (.pr .str (.pr .bool (.sl .u8)))), .v (.sl (.pr .str (.pr .bool (.sl .u8)))), .v (.sl (.pr .str (.pr .bool (.sl .u8))))], bs := [], rs := [.v (.sl .str)], cs := [], R := List Str, out := fun z => ((z, ()), ()), f := f }
abbrev ref1_paths_pk : SV [.v (.sl .str)] → BV [] → (List Str) := fun x _ => x.1
def ref1_paths_fn (N : Nat) : FuncId → Option Tmp → Option AF := fun f _ =>
  match f with
    | 74 => some (ref1_put_sg fun x _ => ref1_put N x.1 x.2.1)
    | _ => none
theorem ref1_paths_fn_ok (N : Nat) : ∀ f q F, ref1_paths_fn N f q = some F → Sound Tryd.prog GW B0G f F := by
  intro f q F h
  unfold ref1_paths_fn at h
  split at h
  · cases h; exact ref1_put_sound N
  · cases h
def ref1_paths_h : Nat → Hint := fun i =>
  match i with
  | 0 => ⟨[7], [0, 1, 2, 7, 8], [], [1, 2, 7], [], []⟩
  | 2 => ⟨[], [1, 2, 7, 9], [], [2, 7], [], []⟩
  | 4 => ⟨[], [2, 7, 10], [], [7], [], []⟩
  | _ => ⟨[], [], [], [], [], []⟩
abbrev ref1_paths_E (N : Nat) : Env := mkE ref1_paths_h (ref1_paths_fn N) (fun _ => false) (fun _ => false)
abbrev ref1_paths_L0_fs : List (Nat × Sl) := [(0, .v (.sl (.pr .str (.pr .bool (.sl .u8))))), (1, .v (.sl (.pr .str (.pr .bool (.sl .u8))))), (2, .v (.sl (.pr .str (.pr .bool (.sl .u8))))), (7, .v (.sl .str)), (8, .v (.int .i64))]
abbrev ref1_paths_L0_bs : List (Nat × Sb) := []
def ref1_paths_L0_hd (x0 : List (Str × Bool × List UInt8)) (x1 : List (Str × Bool × List UInt8)) (x2 : List (Str × Bool × List UInt8)) (s7 : List Str) (s8 : Int) : St := ⟨51, [(0, .v (.sl (.pr .str (.pr .bool (.sl .u8)))) x0), (1, .v (.sl (.pr .str (.pr .bool (.sl .u8)))) x1), (2, .v (.sl (.pr .str (.pr .bool (.sl .u8)))) x2), (7, .v (.sl .str) s7), (8, .v (.int .i64) s8)], []⟩
def ref1_paths_L0_tl0 (_x0 : List (Str × Bool × List UInt8)) (x1 : List (Str × Bool × List UInt8)) (x2 : List (Str × Bool × List UInt8)) (o0_7 : List Str) : St := ⟨51, [(1, .v (.sl (.pr .str (.pr .bool (.sl .u8)))) x1), (2, .v (.sl (.pr .str (.pr .bool (.sl .u8)))) x2), (7, .v (.sl .str) o0_7)], []⟩
def ref1_paths_L0_G (N : Nat) (x0 : List (Str × Bool × List UInt8)) (x1 : List (Str × Bool × List UInt8)) (x2 : List (Str × Bool × List UInt8)) (s7 : List Str) (s8 : Int) (k : Ex → St → Option (List Str)) : Option (List Str) :=
  ref1_paths_L0 N x0 (fun o0_7 => k (.exit 0) (ref1_paths_L0_tl0 x0 x1 x2 o0_7)) N s7 s8
abbrev ref1_paths_L0_F (N : Nat) : FV ref1_paths_L0_fs → HV ref1_paths_L0_bs → (Ex → St → Option (List Str)) → Option (List Str) := fun x _ k => ref1_paths_L0_G N x.1 x.2.1 x.2.2.1 x.2.2.2.1 x.2.2.2.2.1 k
abbrev ref1_paths_L1_fs : List (Nat × Sl) := [(1, .v (.sl (.pr .str (.pr .bool (.sl .u8))))), (2, .v (.sl (.pr .str (.pr .bool (.sl .u8))))), (7, .v (.sl .str)), (9, .v (.int .i64))]
abbrev ref1_paths_L1_bs : List (Nat × Sb) := []
def ref1_paths_L1_hd (x1 : List (Str × Bool × List UInt8)) (x2 : List (Str × Bool × List UInt8)) (s7_1 : List Str) (s9 : Int) : St := ⟨51, [(1, .v (.sl (.pr .str (.pr .bool (.sl .u8)))) x1), (2, .v (.sl (.pr .str (.pr .bool (.sl .u8)))) x2), (7, .v (.sl .str) s7_1), (9, .v (.int .i64) s9)], []⟩
def ref1_paths_L1_tl2 (_x1 : List (Str × Bool × List UInt8)) (x2 : List (Str × Bool × List UInt8)) (o1_7 : List Str) : St := ⟨51, [(2, .v (.sl (.pr .str (.pr .bool (.sl .u8)))) x2), (7, .v (.sl .str) o1_7)], []⟩
def ref1_paths_L1_G (N : Nat) (x1 : List (Str × Bool × List UInt8)) (x2 : List (Str × Bool × List UInt8)) (s7_1 : List Str) (s9 : Int) (k : Ex → St → Option (List Str)) : Option (List Str) :=
  ref1_paths_L1 N x1 (fun o1_7 => k (.exit 2) (ref1_paths_L1_tl2 x1 x2 o1_7)) N s7_1 s9
abbrev ref1_paths_L1_F (N : Nat) : FV ref1_paths_L1_fs → HV ref1_paths_L1_bs → (Ex → St → Option (List Str)) → Option (List Str) := fun x _ k => ref1_paths_L1_G N x.1 x.2.1 x.2.2.1 x.2.2.2.1 k
abbrev ref1_paths_L2_fs : List (Nat × Sl) := [(2, .v (.sl (.pr .str (.pr .bool (.sl .u8))))), (7, .v (.sl .str)), (10, .v (.int .i64))]
abbrev ref1_paths_L2_bs : List (Nat × Sb) := []
def ref1_paths_L2_hd (x2 : List (Str × Bool × List UInt8)) (s7_2 : List Str) (s10 : Int) : St := ⟨51, [(2, .v (.sl (.pr .str (.pr .bool (.sl .u8)))) x2), (7, .v (.sl .str) s7_2), (10, .v (.int .i64) s10)], []⟩
def ref1_paths_L2_tl4 (_x2 : List (Str × Bool × List UInt8)) (o2_7 : List Str) : St := ⟨51, [(7, .v (.sl .str) o2_7)], []⟩
def ref1_paths_L2_G (N : Nat) (x2 : List (Str × Bool × List UInt8)) (s7_2 : List Str) (s10 : Int) (k : Ex → St → Option (List Str)) : Option (List Str) :=
  ref1_paths_L2 N x2 (fun o2_7 => k (.exit 4) (ref1_paths_L2_tl4 x2 o2_7)) N s7_2 s10
abbrev ref1_paths_L2_F (N : Nat) : FV ref1_paths_L2_fs → HV ref1_paths_L2_bs → (Ex → St → Option (List Str)) → Option (List Str) := fun x _ k => ref1_paths_L2_G N x.1 x.2.1 x.2.2.1 k
noncomputable def ref1_paths_LP (N : Nat) : Nat → Code → St → (Ex → St → Option (List Str)) → Option (List Str) := fun i c =>
  match i with
  | 0 => (LPc 51 ref1_paths_L0_fs ref1_paths_L0_bs (ref1_paths_L0_F N) (fun st k => iter (ref1_paths_h 0) (exec (ref1_paths_E N) N c 0) N st k))
  | 2 => (LPc 51 ref1_paths_L1_fs ref1_paths_L1_bs (ref1_paths_L1_F N) (fun st k => iter (ref1_paths_h 2) (exec (ref1_paths_E N) N c 2) N st k))
  | 4 => (LPc 51 ref1_paths_L2_fs ref1_paths_L2_bs (ref1_paths_L2_F N) (fun st k => iter (ref1_paths_h 4) (exec (ref1_paths_E N) N c 4) N st k))
  | i => fun st k => iter (ref1_paths_h i) (exec (ref1_paths_E N) N c i) N st k
theorem ref1_paths_L2_step (N : Nat) (x2 : List (Str × Bool × List UInt8)) (KX : Nat → St → Option (List Str)) (I : St → Option (List Str)) (s7_2 : List Str) (s10 : Int) :
    execL (ref1_paths_LP N) (ref1_paths_E N) (cAt (bodyOf Tryd.f55) [true, true, true, true, false, true, false, false]) 4 (ref1_paths_L2_hd x2 s7_2 s10) (roundK (ref1_paths_h 4) I KX (resD (ref1_paths_E N) Tryd.f55 (ref1_paths_sg fun x _ => ref1_paths N x.1 x.2.1 x.2.2.1) ref1_paths_pk)) = ref1_paths_L2T N x2 (fun o2_7 => KX 4 (ref1_paths_L2_tl4 x2 o2_7)) (fun s7_2 s10 => I (ref1_paths_L2_hd x2 s7_2 s10)) s7_2 s10 := by kernel_rfl
theorem ref1_paths_L2_ok (N : Nat) : ∀ x y k, (∀ st, k .ret st = (resD (ref1_paths_E N) Tryd.f55 (ref1_paths_sg fun x _ => ref1_paths N x.1 x.2.1 x.2.2.1) ref1_paths_pk) st) → iter (ref1_paths_h 4) (exec (ref1_paths_E N) N (cAt (bodyOf Tryd.f55) [true, true, true, true, false, true, false, false]) 4) N ⟨51, unF ref1_paths_L2_fs x, unH ref1_paths_L2_bs y⟩ k = ref1_paths_L2_F N x y k := fun x _ k hk =>
  iter_link (S := (List Str) × (Int) × Unit) (ref1_paths_h 4) _ (execL (ref1_paths_LP N) (ref1_paths_E N) (cAt (bodyOf Tryd.f55) [true, true, true, true, false, true, false, false]) 4) (resD (ref1_paths_E N) Tryd.f55 (ref1_paths_sg fun x _ => ref1_paths N x.1 x.2.1 x.2.2.1) ref1_paths_pk) (fun st k hk => execL_eq _ _ N _ (cAt (bodyOf Tryd.f55) [true, true, true, true, false, true, false, false]) 4 (show LoopsOk (ref1_paths_LP N) (ref1_paths_E N) N (resD (ref1_paths_E N) Tryd.f55 (ref1_paths_sg fun x _ => ref1_paths N x.1 x.2.1 x.2.2.1) ref1_paths_pk) [] from trivial) st k hk) (fun s => ref1_paths_L2_hd x.1 s.1 s.2.1) k hk
    (fun self s => ref1_paths_L2T N x.1 (fun o2_7 => k (.exit 4) (ref1_paths_L2_tl4 x.1 o2_7)) (fun s7_2 s10 => self (s7_2, s10, ())) s.1 s.2.1) (fun n s => ref1_paths_L2 N x.1 (fun o2_7 => k (.exit 4) (ref1_paths_L2_tl4 x.1 o2_7)) n s.1 s.2.1) (fun _ => rfl) (fun _ _ => rfl)
    (fun I s => ref1_paths_L2_step N x.1 (fun j => k (.exit j)) I s.1 s.2.1) N (x.2.1, x.2.2.1, ())
theorem ref1_paths_lp4 (N : Nat) : ∀ st k, (∀ st, k .ret st = (resD (ref1_paths_E N) Tryd.f55 (ref1_paths_sg fun x _ => ref1_paths N x.1 x.2.1 x.2.2.1) ref1_paths_pk) st) → ref1_paths_LP N 4 (cAt (bodyOf Tryd.f55) [true, true, true, true, false, true, false, false]) st k = iter (Env.hint (ref1_paths_E N) 4) (exec (ref1_paths_E N) N (cAt (bodyOf Tryd.f55) [true, true, true, true, false, true, false, false]) 4) N st k := fun st k hk => LPc_eq 51 ref1_paths_L2_fs ref1_paths_L2_bs _ _ (resD (ref1_paths_E N) Tryd.f55 (ref1_paths_sg fun x _ => ref1_paths N x.1 x.2.1 x.2.2.1) ref1_paths_pk) (ref1_paths_L2_ok N) _ st k hk (rfl)
theorem ref1_paths_L1_step (N : Nat) (x1 : List (Str × Bool × List UInt8)) (x2 : List (Str × Bool × List UInt8)) (KX : Nat → St → Option (List Str)) (I : St → Option (List Str)) (s7_1 : List Str) (s9 : Int) :
    execL (ref1_paths_LP N) (ref1_paths_E N) (cAt (bodyOf Tryd.f55) [true, true, true, false, true, false, false]) 2 (ref1_paths_L1_hd x1 x2 s7_1 s9) (roundK (ref1_paths_h 2) I KX (resD (ref1_paths_E N) Tryd.f55 (ref1_paths_sg fun x _ => ref1_paths N x.1 x.2.1 x.2.2.1) ref1_paths_pk)) = ref1_paths_L1T N x1 (fun o1_7 => KX 2 (ref1_paths_L1_tl2 x1 x2 o1_7)) (fun s7_1 s9 => I (ref1_paths_L1_hd x1 x2 s7_1 s9)) s7_1 s9 := by kernel_rfl
theorem ref1_paths_L1_ok (N : Nat) : ∀ x y k, (∀ st, k .ret st = (resD (ref1_paths_E N) Tryd.f55 (ref1_paths_sg fun x _ => ref1_paths N x.1 x.2.1 x.2.2.1) ref1_paths_pk) st) → iter (ref1_paths_h 2) (exec (ref1_paths_E N) N (cAt (bodyOf Tryd.f55) [true, true, true, false, true, false, false]) 2) N ⟨51, unF ref1_paths_L1_fs x, unH ref1_paths_L1_bs y⟩ k = ref1_paths_L1_F N x y k := fun x _ k hk =>
  iter_link (S := (List Str) × (Int) × Unit) (ref1_paths_h 2) _ (execL (ref1_paths_LP N) (ref1_paths_E N) (cAt (bodyOf Tryd.f55) [true, true, true, false, true, false, false]) 2) (resD (ref1_paths_E N) Tryd.f55 (ref1_paths_sg fun x _ => ref1_paths N x.1 x.2.1 x.2.2.1) ref1_paths_pk) (fun st k hk => execL_eq _ _ N _ (cAt (bodyOf Tryd.f55) [true, true, true, false, true, false, false]) 2 (show LoopsOk (ref1_paths_LP N) (ref1_paths_E N) N (resD (ref1_paths_E N) Tryd.f55 (ref1_paths_sg fun x _ => ref1_paths N x.1 x.2.1 x.2.2.1) ref1_paths_pk) [] from trivial) st k hk) (fun s => ref1_paths_L1_hd x.1 x.2.1 s.1 s.2.1) k hk
    (fun self s => ref1_paths_L1T N x.1 (fun o1_7 => k (.exit 2) (ref1_paths_L1_tl2 x.1 x.2.1 o1_7)) (fun s7_1 s9 => self (s7_1, s9, ())) s.1 s.2.1) (fun n s => ref1_paths_L1 N x.1 (fun o1_7 => k (.exit 2) (ref1_paths_L1_tl2 x.1 x.2.1 o1_7)) n s.1 s.2.1) (fun _ => rfl) (fun _ _ => rfl)
    (fun I s => ref1_paths_L1_step N x.1 x.2.1 (fun j => k (.exit j)) I s.1 s.2.1) N (x.2.2.1, x.2.2.2.1, ())
theorem ref1_paths_lp2 (N : Nat) : ∀ st k, (∀ st, k .ret st = (resD (ref1_paths_E N) Tryd.f55 (ref1_paths_sg fun x _ => ref1_paths N x.1 x.2.1 x.2.2.1) ref1_paths_pk) st) → ref1_paths_LP N 2 (cAt (bodyOf Tryd.f55) [true, true, true, false, true, false, false]) st k = iter (Env.hint (ref1_paths_E N) 2) (exec (ref1_paths_E N) N (cAt (bodyOf Tryd.f55) [true, true, true, false, true, false, false]) 2) N st k := fun st k hk => LPc_eq 51 ref1_paths_L1_fs ref1_paths_L1_bs _ _ (resD (ref1_paths_E N) Tryd.f55 (ref1_paths_sg fun x _ => ref1_paths N x.1 x.2.1 x.2.2.1) ref1_paths_pk) (ref1_paths_L1_ok N) _ st k hk (rfl)
theorem ref1_paths_L0_step (N : Nat) (x0 : List (Str × Bool × List UInt8)) (x1 : List (Str × Bool × List UInt8)) (x2 : List (Str × Bool × List UInt8)) (KX : Nat → St → Option (List Str)) (I : St → Option (List Str)) (s7 : List Str) (s8 : Int) :
    execL (ref1_paths_LP N) (ref1_paths_E N) (cAt (bodyOf Tryd.f55) [true, true, false, true, false, false]) 0 (ref1_paths_L0_hd x0 x1 x2 s7 s8) (roundK (ref1_paths_h 0) I KX (resD (ref1_paths_E N) Tryd.f55 (ref1_paths_sg fun x _ => ref1_paths N x.1 x.2.1 x.2.2.1) ref1_paths_pk)) = ref1_paths_L0T N x0 (fun o0_7 => KX 0 (ref1_paths_L0_tl0 x0 x1 x2 o0_7)) (fun s7 s8 => I (ref1_paths_L0_hd x0 x1 x2 s7 s8)) s7 s8 := by kernel_rfl
theorem ref1_paths_L0_ok (N : Nat) : ∀ x y k, (∀ st, k .ret st = (resD (ref1_paths_E N) Tryd.f55 (ref1_paths_sg fun x _ => ref1_paths N x.1 x.2.1 x.2.2.1) ref1_paths_pk) st) → iter (ref1_paths_h 0) (exec (ref1_paths_E N) N (cAt (bodyOf Tryd.f55) [true, true, false, true, false, false]) 0) N ⟨51, unF ref1_paths_L0_fs x, unH ref1_paths_L0_bs y⟩ k = ref1_paths_L0_F N x y k := fun x _ k hk =>
  iter_link (S := (List Str) × (Int) × Unit) (ref1_paths_h 0) _ (execL (ref1_paths_LP N) (ref1_paths_E N) (cAt (bodyOf Tryd.f55) [true, true, false, true, false, false]) 0) (resD (ref1_paths_E N) Tryd.f55 (ref1_paths_sg fun x _ => ref1_paths N x.1 x.2.1 x.2.2.1) ref1_paths_pk) (fun st k hk => execL_eq _ _ N _ (cAt (bodyOf Tryd.f55) [true, true, false, true, false, false]) 0 (show LoopsOk (ref1_paths_LP N) (ref1_paths_E N) N (resD (ref1_paths_E N) Tryd.f55 (ref1_paths_sg fun x _ => ref1_paths N x.1 x.2.1 x.2.2.1) ref1_paths_pk) [] from trivial) st k hk) (fun s => ref1_paths_L0_hd x.1 x.2.1 x.2.2.1 s.1 s.2.1) k hk
    (fun self s => ref1_paths_L0T N x.1 (fun o0_7 => k (.exit 0) (ref1_paths_L0_tl0 x.1 x.2.1 x.2.2.1 o0_7)) (fun s7 s8 => self (s7, s8, ())) s.1 s.2.1) (fun n s => ref1_paths_L0 N x.1 (fun o0_7 => k (.exit 0) (ref1_paths_L0_tl0 x.1 x.2.1 x.2.2.1 o0_7)) n s.1 s.2.1) (fun _ => rfl) (fun _ _ => rfl)
    (fun I s => ref1_paths_L0_step N x.1 x.2.1 x.2.2.1 (fun j => k (.exit j)) I s.1 s.2.1) N (x.2.2.2.1, x.2.2.2.2.1, ())
theorem ref1_paths_lp0 (N : Nat) : ∀ st k, (∀ st, k .ret st = (resD (ref1_paths_E N) Tryd.f55 (ref1_paths_sg fun x _ => ref1_paths N x.1 x.2.1 x.2.2.1) ref1_paths_pk) st) → ref1_paths_LP N 0 (cAt (bodyOf Tryd.f55) [true, true, false, true, false, false]) st k = iter (Env.hint (ref1_paths_E N) 0) (exec (ref1_paths_E N) N (cAt (bodyOf Tryd.f55) [true, true, false, true, false, false]) 0) N st k := fun st k hk => LPc_eq 51 ref1_paths_L0_fs ref1_paths_L0_bs _ _ (resD (ref1_paths_E N) Tryd.f55 (ref1_paths_sg fun x _ => ref1_paths N x.1 x.2.1 x.2.2.1) ref1_paths_pk) (ref1_paths_L0_ok N) _ st k hk (rfl)
theorem ref1_paths_core (N : Nat) (x : SV [.v (.sl (.pr .str (.pr .bool (.sl .u8)))), .v (.sl (.pr .str (.pr .bool (.sl .u8)))), .v (.sl (.pr .str (.pr .bool (.sl .u8))))]) (y : BV []) : runL (ref1_paths_E N) Tryd.f55 (ref1_paths_sg fun x _ => ref1_paths N x.1 x.2.1 x.2.2.1) ref1_paths_pk (ref1_paths_LP N) x y = ref1_paths N x.1 x.2.1 x.2.2.1 := by kernel_rfl
theorem ref1_paths_sound (N : Nat) : Sound Tryd.prog GW B0G 55 (ref1_paths_sg fun x _ => ref1_paths N x.1 x.2.1 x.2.2.1) :=
  runD_sound (mkE_ok ref1_paths_h (ref1_paths_fn N) _ _ (ref1_paths_fn_ok N)) Tryd.func55 rfl Tryd.call55 (ref1_paths_sg fun x _ => ref1_paths N x.1 x.2.1 x.2.2.1) ref1_paths_pk (fun _ _ => rfl) N (fun x y _ h => ((runL_eq (ref1_paths_E N) N Tryd.f55 (ref1_paths_sg fun x _ => ref1_paths N x.1 x.2.1 x.2.2.1) ref1_paths_pk (ref1_paths_LP N) (show LoopsOk (ref1_paths_LP N) (ref1_paths_E N) N (resD (ref1_paths_E N) Tryd.f55 (ref1_paths_sg fun x _ => ref1_paths N x.1 x.2.1 x.2.2.1) ref1_paths_pk) [(0, (cAt (bodyOf Tryd.f55) [true, true, false, true, false, false])), (2, (cAt (bodyOf Tryd.f55) [true, true, true, false, true, false, false])), (4, (cAt (bodyOf Tryd.f55) [true, true, true, true, false, true, false, false]))] from ⟨ref1_paths_lp0 N, ref1_paths_lp2 N, ref1_paths_lp4 N, trivial⟩) x y).trans (ref1_paths_core N x y)).trans h)
def ref1_find_L0T (_N : Nat) (x0 : List (Str × Bool × List UInt8)) (x1 : Str) (k0 : Option ((Str × Bool × List UInt8) × Bool)) (self : Int → Option ((Str × Bool × List UInt8) × Bool)) (s6 : Int) : Option ((Str × Bool × List UInt8) × Bool) :=
  br (decide (s6 < (x0.length : Int)))
    (bnd (geti x0 s6) fun t15 =>
    br (t15.1 == x1)
      (bnd (geti x0 s6) fun t22 =>
      some (t22, true))
      (self (IntKind.i64.wrap (s6 + (1 : Int)))))
    (k0)
def ref1_find_L0 (N : Nat) (x0 : List (Str × Bool × List UInt8)) (x1 : Str) (k0 : Option ((Str × Bool × List UInt8) × Bool)) : Nat → Int → Option ((Str × Bool × List UInt8) × Bool)
  | 0, _ => none
  | n + 1, s6 => ref1_find_L0T N x0 x1 k0 (ref1_find_L0 N x0 x1 k0 n) s6
def ref1_find (N : Nat) (x0 : List (Str × Bool × List UInt8)) (x1 : Str) : Option ((Str × Bool × List UInt8) × Bool) :=
  ref1_find_L0 N x0 x1 (some ((([] : Str), (false, ([] : List UInt8))), false)) N (0 : Int)
abbrev ref1_find_sg (f : SV [.v (.sl (.pr .str (.pr .bool (.sl .u8)))), .v .str] → BV [] → Option ((Str × Bool × List UInt8) × Bool)) : AF := { ps := [.v (.sl (.pr .str (.pr .bool (.sl .u8)))), .v .str], bs := [], rs := [.v (.pr .str (.pr .bool (.sl .u8))), .v .bool], cs := [], R := (Str × Bool × List UInt8) × Bool, out := fun z => ((z.1, z.2, ()), ()), f := f }
abbrev ref1_find_pk : SV [.v (.pr .str (.pr .bool (.sl .u8))), .v .bool] → BV [] → ((Str × Bool × List UInt8) × Bool) := fun x _ => (x.1, x.2.1)
def ref1_find_fn (_N : Nat) : FuncId → Option Tmp → Option AF := fun f _ =>
  match f with
    | _ => none
theorem ref1_find_fn_ok (N : Nat) : ∀ f q F, ref1_find_fn N f q = some F → Sound Tryd.prog GW B0G f F := by
  intro f q F h
  unfold ref1_find_fn at h
  split at h
  · cases h
def ref1_find_h : Nat → Hint := fun i =>
  match i with
  | 0 => ⟨[], [0, 1, 4, 6], [1004], [4], [1004], []⟩
  | _ => ⟨[], [], [], [], [], []⟩
abbrev ref1_find_E (N : Nat) : Env := mkE ref1_find_h (ref1_find_fn N) (fun _ => false) (fun _ => false)
abbrev ref1_find_L0_fs : List (Nat × Sl) := [(0, .v (.sl (.pr .str (.pr .bool (.sl .u8))))), (1, .v .str), (4, .box 1004 0), (6, .v (.int .i64))]
abbrev ref1_find_L0_bs : List (Nat × Sb) := [(1004, .cells [.v .str, .v .bool, .nilS])]
def ref1_find_L0_hd (x0 : List (Str × Bool × List UInt8)) (x1 : Str) (c1004_0 : Str) (c1004_1 : Bool) (s6 : Int) : St := ⟨25, [(0, .v (.sl (.pr .str (.pr .bool (.sl .u8)))) x0), (1, .v .str x1), (4, .box 1004 0), (6, .v (.int .i64) s6)], [(1004, .cells [.v .str c1004_0, .v .bool c1004_1, .nilS])]⟩
def ref1_find_L0_tl0 (_x0 : List (Str × Bool × List UInt8)) (_x1 : Str) (c1004_0 : Str) (c1004_1 : Bool) : St := ⟨25, [(4, .box 1004 0)], [(1004, .cells [.v .str c1004_0, .v .bool c1004_1, .nilS])]⟩
def ref1_find_L0_G (N : Nat) (x0 : List (Str × Bool × List UInt8)) (x1 : Str) (c1004_0 : Str) (c1004_1 : Bool) (s6 : Int) (k : Ex → St → Option ((Str × Bool × List UInt8) × Bool)) : Option ((Str × Bool × List UInt8) × Bool) :=
  ref1_find_L0 N x0 x1 (k (.exit 0) (ref1_find_L0_tl0 x0 x1 c1004_0 c1004_1)) N s6
abbrev ref1_find_L0_F (N : Nat) : FV ref1_find_L0_fs → HV ref1_find_L0_bs → (Ex → St → Option ((Str × Bool × List UInt8) × Bool)) → Option ((Str × Bool × List UInt8) × Bool) := fun x y k => ref1_find_L0_G N x.1 x.2.1 y.1.1 y.1.2.1 x.2.2.2.1 k
noncomputable def ref1_find_LP (N : Nat) : Nat → Code → St → (Ex → St → Option ((Str × Bool × List UInt8) × Bool)) → Option ((Str × Bool × List UInt8) × Bool) := fun i c =>
  match i with
  | 0 => (LPc 25 ref1_find_L0_fs ref1_find_L0_bs (ref1_find_L0_F N) (fun st k => iter (ref1_find_h 0) (exec (ref1_find_E N) N c 0) N st k))
  | i => fun st k => iter (ref1_find_h i) (exec (ref1_find_E N) N c i) N st k
theorem ref1_find_L0_step (N : Nat) (x0 : List (Str × Bool × List UInt8)) (x1 : Str) (c1004_0 : Str) (c1004_1 : Bool) (KX : Nat → St → Option ((Str × Bool × List UInt8) × Bool)) (I : St → Option ((Str × Bool × List UInt8) × Bool)) (s6 : Int) :
    execL (ref1_find_LP N) (ref1_find_E N) (cAt (bodyOf Tryd.f56) [true, false, true, false, false]) 0 (ref1_find_L0_hd x0 x1 c1004_0 c1004_1 s6) (roundK (ref1_find_h 0) I KX (resD (ref1_find_E N) Tryd.f56 (ref1_find_sg fun x _ => ref1_find N x.1 x.2.1) ref1_find_pk)) = ref1_find_L0T N x0 x1 (KX 0 (ref1_find_L0_tl0 x0 x1 c1004_0 c1004_1)) (fun s6 => I (ref1_find_L0_hd x0 x1 c1004_0 c1004_1 s6)) s6 := by kernel_rfl
theorem ref1_find_L0_ok (N : Nat) : ∀ x y k, (∀ st, k .ret st = (resD (ref1_find_E N) Tryd.f56 (ref1_find_sg fun x _ => ref1_find N x.1 x.2.1) ref1_find_pk) st) → iter (ref1_find_h 0) (exec (ref1_find_E N) N (cAt (bodyOf Tryd.f56) [true, false, true, false, false]) 0) N ⟨25, unF ref1_find_L0_fs x, unH ref1_find_L0_bs y⟩ k = ref1_find_L0_F N x y k := fun x y k hk =>
  iter_link (S := (Int) × Unit) (ref1_find_h 0) _ (execL (ref1_find_LP N) (ref1_find_E N) (cAt (bodyOf Tryd.f56) [true, false, true, false, false]) 0) (resD (ref1_find_E N) Tryd.f56 (ref1_find_sg fun x _ => ref1_find N x.1 x.2.1) ref1_find_pk) (fun st k hk => execL_eq _ _ N _ (cAt (bodyOf Tryd.f56) [true, false, true, false, false]) 0 (show LoopsOk (ref1_find_LP N) (ref1_find_E N) N (resD (ref1_find_E N) Tryd.f56 (ref1_find_sg fun x _ => ref1_find N x.1 x.2.1) ref1_find_pk) [] from trivial) st k hk) (fun s => ref1_find_L0_hd x.1 x.2.1 y.1.1 y.1.2.1 s.1) k hk
    (fun self s => ref1_find_L0T N x.1 x.2.1 (k (.exit 0) (ref1_find_L0_tl0 x.1 x.2.1 y.1.1 y.1.2.1)) (fun s6 => self (s6, ())) s.1) (fun n s => ref1_find_L0 N x.1 x.2.1 (k (.exit 0) (ref1_find_L0_tl0 x.1 x.2.1 y.1.1 y.1.2.1)) n s.1) (fun _ => rfl) (fun _ _ => rfl)
    (fun I s => ref1_find_L0_step N x.1 x.2.1 y.1.1 y.1.2.1 (fun j => k (.exit j)) I s.1) N (x.2.2.2.1, ())
theorem ref1_find_lp0 (N : Nat) : ∀ st k, (∀ st, k .ret st = (resD (ref1_find_E N) Tryd.f56 (ref1_find_sg fun x _ => ref1_find N x.1 x.2.1) ref1_find_pk) st) → ref1_find_LP N 0 (cAt (bodyOf Tryd.f56) [true, false, true, false, false]) st k = iter (Env.hint (ref1_find_E N) 0) (exec (ref1_find_E N) N (cAt (bodyOf Tryd.f56) [true, false, true, false, false]) 0) N st k := fun st k hk => LPc_eq 25 ref1_find_L0_fs ref1_find_L0_bs _ _ (resD (ref1_find_E N) Tryd.f56 (ref1_find_sg fun x _ => ref1_find N x.1 x.2.1) ref1_find_pk) (ref1_find_L0_ok N) _ st k hk (rfl)
theorem ref1_find_core (N : Nat) (x : SV [.v (.sl (.pr .str (.pr .bool (.sl .u8)))), .v .str]) (y : BV []) : runL (ref1_find_E N) Tryd.f56 (ref1_find_sg fun x _ => ref1_find N x.1 x.2.1) ref1_find_pk (ref1_find_LP N) x y = ref1_find N x.1 x.2.1 := by kernel_rfl
theorem ref1_find_sound (N : Nat) : Sound Tryd.prog GW B0G 56 (ref1_find_sg fun x _ => ref1_find N x.1 x.2.1) :=
  runD_sound (mkE_ok ref1_find_h (ref1_find_fn N) _ _ (ref1_find_fn_ok N)) Tryd.func56 rfl Tryd.call56 (ref1_find_sg fun x _ => ref1_find N x.1 x.2.1) ref1_find_pk (fun _ _ => rfl) N (fun x y _ h => ((runL_eq (ref1_find_E N) N Tryd.f56 (ref1_find_sg fun x _ => ref1_find N x.1 x.2.1) ref1_find_pk (ref1_find_LP N) (show LoopsOk (ref1_find_LP N) (ref1_find_E N) N (resD (ref1_find_E N) Tryd.f56 (ref1_find_sg fun x _ => ref1_find N x.1 x.2.1) ref1_find_pk) [(0, (cAt (bodyOf Tryd.f56) [true, false, true, false, false]))] from ⟨ref1_find_lp0 N, trivial⟩) x y).trans (ref1_find_core N x y)).trans h)
def ref1_Changes_L0T (N : Nat) (x0 : List (Str × Bool × List UInt8)) (x1 : List (Str × Bool × List UInt8)) (t28 : List Str) (k0 : (List (Str × Int)) → Option (Int × List (Str × Int))) (self : Int → (List (Str × Int)) → Option (Int × List (Str × Int))) (s10 : Int) (w1008 : List (Str × Int)) : Option (Int × List (Str × Int)) :=
  br (decide (s10 < (t28.length : Int)))
    (bnd (geti t28 s10) fun t39 =>
    bnd (ref1_find N x0 t39) fun t41 =>
    bnd (geti t28 s10) fun t48 =>
    bnd (ref1_find N x1 t48) fun t50 =>
    br (!t41.2)
      (br ((1 : Int) != (0 : Int))
        (bnd (geti t28 s10) fun t77 =>
        br (decide ((w1008.length + [(t77, (1 : Int))].length) * (24 * Ty.sz (.pr .str (.int .i64))) ≤ 140737488355328))
          (self (IntKind.i64.wrap (s10 + (1 : Int))) (w1008 ++ [(t77, (1 : Int))]))
          none)
        (self (IntKind.i64.wrap (s10 + (1 : Int))) w1008))
      (br (!t50.2)
        (br ((2 : Int) != (0 : Int))
          (bnd (geti t28 s10) fun t77_1 =>
          br (decide ((w1008.length + [(t77_1, (2 : Int))].length) * (24 * Ty.sz (.pr .str (.int .i64))) ≤ 140737488355328))
            (self (IntKind.i64.wrap (s10 + (1 : Int))) (w1008 ++ [(t77_1, (2 : Int))]))
            none)
          (self (IntKind.i64.wrap (s10 + (1 : Int))) w1008))
        (bnd (bytes_Equal N t41.1.2.2 t50.1.2.2) fun t64 =>
        br (!t64)
          (br ((3 : Int) != (0 : Int))
            (bnd (geti t28 s10) fun t77_2 =>
            br (decide ((w1008.length + [(t77_2, (3 : Int))].length) * (24 * Ty.sz (.pr .str (.int .i64))) ≤ 140737488355328))
              (self (IntKind.i64.wrap (s10 + (1 : Int))) (w1008 ++ [(t77_2, (3 : Int))]))
              none)
            (self (IntKind.i64.wrap (s10 + (1 : Int))) w1008))
          (br (t41.1.2.1 != t50.1.2.1)
            (br ((4 : Int) != (0 : Int))
              (bnd (geti t28 s10) fun t77_3 =>
              br (decide ((w1008.length + [(t77_3, (4 : Int))].length) * (24 * Ty.sz (.pr .str (.int .i64))) ≤ 140737488355328))
                (self (IntKind.i64.wrap (s10 + (1 : Int))) (w1008 ++ [(t77_3, (4 : Int))]))
                none)
              (self (IntKind.i64.wrap (s10 + (1 : Int))) w1008))
            (br ((0 : Int) != (0 : Int))
              (bnd (geti t28 s10) fun t77_4 =>
              br (decide ((w1008.length + [(t77_4, (0 : Int))].length) * (24 * Ty.sz (.pr .str (.int .i64))) ≤ 140737488355328))
                (self (IntKind.i64.wrap (s10 + (1 : Int))) (w1008 ++ [(t77_4, (0 : Int))]))
                none)
              (self (IntKind.i64.wrap (s10 + (1 : Int))) w1008))))))
    (k0 w1008)
def ref1_Changes_L0 (N : Nat) (x0 : List (Str × Bool × List UInt8)) (x1 : List (Str × Bool × List UInt8)) (t28 : List Str) (k0 : (List (Str × Int)) → Option (Int × List (Str × Int))) : Nat → Int → (List (Str × Int)) → Option (Int × List (Str × Int))
  | 0, _, _ => none
  | n + 1, s10, w1008 => ref1_Changes_L0T N x0 x1 t28 k0 (ref1_Changes_L0 N x0 x1 t28 k0 n) s10 w1008
def ref1_Changes (N : Nat) (x0 : List (Str × Bool × List UInt8)) (x1 : List (Str × Bool × List UInt8)) : Option (Int × List (Str × Int)) :=
  bnd (ref1_CheckFiles N x0) fun t17 =>
  br (t17 != (0 : Int))
    (some (t17, ([] : List (Str × Int))))
    (bnd (ref1_CheckFiles N x1) fun t22 =>
    br (t22 != (0 : Int))
      (some (t22, ([] : List (Str × Int))))
      (bnd (ref1_paths N x0 x1 ([] : List (Str × Bool × List UInt8))) fun t28 =>
      ref1_Changes_L0 N x0 x1 t28 (fun o0_w1008 =>
          some ((0 : Int), o0_w1008)) N (0 : Int) ([] : List (Str × Int))))
abbrev ref1_Changes_sg (f : SV [.v (.sl (.pr .str (.pr .bool (.sl .u8)))), .v (.sl (.pr .str (.pr .bool (.sl .u8))))] → BV [] → Option (Int × List (Str × Int))) : AF := { ps := [.v (.sl (.pr .str (.pr .bool (.sl .u8)))), .v (.sl (.pr .str (.pr .bool (.sl .u8))))], bs := [], rs := [.row 0, .v (.int .i64)], cs := [.row 43 (.pr .str (.int .i64)) false], R := Int × List (Str × Int), out := fun z => (((), z.1, ()), (z.2, ())), f := f }
abbrev ref1_Changes_pk : SV [.row 0, .v (.int .i64)] → BV [.row 43 (.pr .str (.int .i64)) false] → (Int × List (Str × Int)) := fun x y => (x.2.1, y.1)
def ref1_Changes_fn (N : Nat) : FuncId → Option Tmp → Option AF := fun f _ =>
  match f with
    | 36 => some (ref1_CheckFiles_sg fun x _ => ref1_CheckFiles N x.1)
    | 55 => some (ref1_paths_sg fun x _ => ref1_paths N x.1 x.2.1 x.2.2.1)
    | 56 => some (ref1_find_sg fun x _ => ref1_find N x.1 x.2.1)
    | 57 => some (bytes_Equal_sg fun x _ => bytes_Equal N x.1 x.2.1)
    | _ => none
theorem ref1_Changes_fn_ok (N : Nat) : ∀ f q F, ref1_Changes_fn N f q = some F → Sound Tryd.prog GW B0G f F := by
  intro f q F h
  unfold ref1_Changes_fn at h
  split at h
  · cases h; exact ref1_CheckFiles_sound N
  · cases h; exact ref1_paths_sound N
  · cases h; exact ref1_find_sound N
  · cases h; exact bytes_Equal_sound N
  · cases h
def ref1_Changes_h : Nat → Hint := fun i =>
  match i with
  | 0 => ⟨[], [0, 1, 8, 9, 10], [1008], [8], [1008], []⟩
  | _ => ⟨[], [], [], [], [], []⟩
abbrev ref1_Changes_E (N : Nat) : Env := mkE ref1_Changes_h (ref1_Changes_fn N) (fun _ => false) (fun _ => false)
abbrev ref1_Changes_L0_fs : List (Nat × Sl) := [(0, .v (.sl (.pr .str (.pr .bool (.sl .u8))))), (1, .v (.sl (.pr .str (.pr .bool (.sl .u8))))), (8, .row 1008), (9, .v (.sl .str)), (10, .v (.int .i64))]
abbrev ref1_Changes_L0_bs : List (Nat × Sb) := [(1008, .row 43 (.pr .str (.int .i64)) false)]
def ref1_Changes_L0_hd (x0 : List (Str × Bool × List UInt8)) (x1 : List (Str × Bool × List UInt8)) (t28 : List Str) (s10 : Int) (w1008 : List (Str × Int)) : St := ⟨84, [(0, .v (.sl (.pr .str (.pr .bool (.sl .u8)))) x0), (1, .v (.sl (.pr .str (.pr .bool (.sl .u8)))) x1), (8, .row 1008), (9, .v (.sl .str) t28), (10, .v (.int .i64) s10)], [(1008, .row 43 (.pr .str (.int .i64)) false w1008)]⟩
def ref1_Changes_L0_tl0 (_x0 : List (Str × Bool × List UInt8)) (_x1 : List (Str × Bool × List UInt8)) (_t28 : List Str) (o0_w1008 : List (Str × Int)) : St := ⟨84, [(8, .row 1008)], [(1008, .row 43 (.pr .str (.int .i64)) false o0_w1008)]⟩
def ref1_Changes_L0_G (N : Nat) (x0 : List (Str × Bool × List UInt8)) (x1 : List (Str × Bool × List UInt8)) (t28 : List Str) (s10 : Int) (w1008 : List (Str × Int)) (k : Ex → St → Option (Int × List (Str × Int))) : Option (Int × List (Str × Int)) :=
  ref1_Changes_L0 N x0 x1 t28 (fun o0_w1008 => k (.exit 0) (ref1_Changes_L0_tl0 x0 x1 t28 o0_w1008)) N s10 w1008
abbrev ref1_Changes_L0_F (N : Nat) : FV ref1_Changes_L0_fs → HV ref1_Changes_L0_bs → (Ex → St → Option (Int × List (Str × Int))) → Option (Int × List (Str × Int)) := fun x y k => ref1_Changes_L0_G N x.1 x.2.1 x.2.2.2.1 x.2.2.2.2.1 y.1 k
noncomputable def ref1_Changes_LP (N : Nat) : Nat → Code → St → (Ex → St → Option (Int × List (Str × Int))) → Option (Int × List (Str × Int)) := fun i c =>
  match i with
  | 0 => (LPc 84 ref1_Changes_L0_fs ref1_Changes_L0_bs (ref1_Changes_L0_F N) (fun st k => iter (ref1_Changes_h 0) (exec (ref1_Changes_E N) N c 0) N st k))
  | i => fun st k => iter (ref1_Changes_h i) (exec (ref1_Changes_E N) N c i) N st k
theorem ref1_Changes_L0_step (N : Nat) (x0 : List (Str × Bool × List UInt8)) (x1 : List (Str × Bool × List UInt8)) (t28 : List Str) (KX : Nat → St → Option (Int × List (Str × Int))) (I : St → Option (Int × List (Str × Int))) (s10 : Int) (w1008 : List (Str × Int)) :
    execL (ref1_Changes_LP N) (ref1_Changes_E N) (cAt (bodyOf Tryd.f24) [true, true, true, true, true, false, true, false, false]) 0 (ref1_Changes_L0_hd x0 x1 t28 s10 w1008) (roundK (ref1_Changes_h 0) I KX (resD (ref1_Changes_E N) Tryd.f24 (ref1_Changes_sg fun x _ => ref1_Changes N x.1 x.2.1) ref1_Changes_pk)) = ref1_Changes_L0T N x0 x1 t28 (fun o0_w1008 => KX 0 (ref1_Changes_L0_tl0 x0 x1 t28 o0_w1008)) (fun s10 w1008 => I (ref1_Changes_L0_hd x0 x1 t28 s10 w1008)) s10 w1008 := by kernel_rfl
theorem ref1_Changes_L0_ok (N : Nat) : ∀ x y k, (∀ st, k .ret st = (resD (ref1_Changes_E N) Tryd.f24 (ref1_Changes_sg fun x _ => ref1_Changes N x.1 x.2.1) ref1_Changes_pk) st) → iter (ref1_Changes_h 0) (exec (ref1_Changes_E N) N (cAt (bodyOf Tryd.f24) [true, true, true, true, true, false, true, false, false]) 0) N ⟨84, unF ref1_Changes_L0_fs x, unH ref1_Changes_L0_bs y⟩ k = ref1_Changes_L0_F N x y k := fun x y k hk =>
  iter_link (S := (Int) × (List (Str × Int)) × Unit) (ref1_Changes_h 0) _ (execL (ref1_Changes_LP N) (ref1_Changes_E N) (cAt (bodyOf Tryd.f24) [true, true, true, true, true, false, true, false, false]) 0) (resD (ref1_Changes_E N) Tryd.f24 (ref1_Changes_sg fun x _ => ref1_Changes N x.1 x.2.1) ref1_Changes_pk) (fun st k hk => execL_eq _ _ N _ (cAt (bodyOf Tryd.f24) [true, true, true, true, true, false, true, false, false]) 0 (show LoopsOk (ref1_Changes_LP N) (ref1_Changes_E N) N (resD (ref1_Changes_E N) Tryd.f24 (ref1_Changes_sg fun x _ => ref1_Changes N x.1 x.2.1) ref1_Changes_pk) [] from trivial) st k hk) (fun s => ref1_Changes_L0_hd x.1 x.2.1 x.2.2.2.1 s.1 s.2.1) k hk
    (fun self s => ref1_Changes_L0T N x.1 x.2.1 x.2.2.2.1 (fun o0_w1008 => k (.exit 0) (ref1_Changes_L0_tl0 x.1 x.2.1 x.2.2.2.1 o0_w1008)) (fun s10 w1008 => self (s10, w1008, ())) s.1 s.2.1) (fun n s => ref1_Changes_L0 N x.1 x.2.1 x.2.2.2.1 (fun o0_w1008 => k (.exit 0) (ref1_Changes_L0_tl0 x.1 x.2.1 x.2.2.2.1 o0_w1008)) n s.1 s.2.1) (fun _ => rfl) (fun _ _ => rfl)
    (fun I s => ref1_Changes_L0_step N x.1 x.2.1 x.2.2.2.1 (fun j => k (.exit j)) I s.1 s.2.1) N (x.2.2.2.2.1, y.1, ())
theorem ref1_Changes_lp0 (N : Nat) : ∀ st k, (∀ st, k .ret st = (resD (ref1_Changes_E N) Tryd.f24 (ref1_Changes_sg fun x _ => ref1_Changes N x.1 x.2.1) ref1_Changes_pk) st) → ref1_Changes_LP N 0 (cAt (bodyOf Tryd.f24) [true, true, true, true, true, false, true, false, false]) st k = iter (Env.hint (ref1_Changes_E N) 0) (exec (ref1_Changes_E N) N (cAt (bodyOf Tryd.f24) [true, true, true, true, true, false, true, false, false]) 0) N st k := fun st k hk => LPc_eq 84 ref1_Changes_L0_fs ref1_Changes_L0_bs _ _ (resD (ref1_Changes_E N) Tryd.f24 (ref1_Changes_sg fun x _ => ref1_Changes N x.1 x.2.1) ref1_Changes_pk) (ref1_Changes_L0_ok N) _ st k hk (rfl)
theorem ref1_Changes_core (N : Nat) (x : SV [.v (.sl (.pr .str (.pr .bool (.sl .u8)))), .v (.sl (.pr .str (.pr .bool (.sl .u8))))]) (y : BV []) : runL (ref1_Changes_E N) Tryd.f24 (ref1_Changes_sg fun x _ => ref1_Changes N x.1 x.2.1) ref1_Changes_pk (ref1_Changes_LP N) x y = ref1_Changes N x.1 x.2.1 := by kernel_rfl
theorem ref1_Changes_sound (N : Nat) : Sound Tryd.prog GW B0G 24 (ref1_Changes_sg fun x _ => ref1_Changes N x.1 x.2.1) :=
  runD_sound (mkE_ok ref1_Changes_h (ref1_Changes_fn N) _ _ (ref1_Changes_fn_ok N)) Tryd.func24 rfl Tryd.call24 (ref1_Changes_sg fun x _ => ref1_Changes N x.1 x.2.1) ref1_Changes_pk (fun _ _ => rfl) N (fun x y _ h => ((runL_eq (ref1_Changes_E N) N Tryd.f24 (ref1_Changes_sg fun x _ => ref1_Changes N x.1 x.2.1) ref1_Changes_pk (ref1_Changes_LP N) (show LoopsOk (ref1_Changes_LP N) (ref1_Changes_E N) N (resD (ref1_Changes_E N) Tryd.f24 (ref1_Changes_sg fun x _ => ref1_Changes N x.1 x.2.1) ref1_Changes_pk) [(0, (cAt (bodyOf Tryd.f24) [true, true, true, true, true, false, true, false, false]))] from ⟨ref1_Changes_lp0 N, trivial⟩) x y).trans (ref1_Changes_core N x y)).trans h)
end
end Go.Proofs.YthlkidohpiebiaaDoor


/- What functions of the program compute, as plain functions (printed). -/
namespace Go.Proofs.YthlkidohpiebiaaDoor
open Go Go.RowKit
set_option maxRecDepth 100000
set_option linter.unusedVariables false
noncomputable section
def slices_Equal_api_TreeChange_L0T (_N : Nat) (x0 : List (Str × Int)) (x1 : List (Str × Int)) (c12 : Int) (k0 : Option Bool) (self : Int → Option Bool) (s13 : Int) : Option Bool :=
  br (decide (s13 < c12))
    (bnd (geti x0 s13) fun t18 =>
    bnd (geti x1 s13) fun t22 =>
    br (!(eqb (.pr .str (.int .i64)) t18 t22))
      (some false)
      (self (IntKind.i64.wrap (s13 + (1 : Int)))))
    (k0)
def slices_Equal_api_TreeChange_L0 (N : Nat) (x0 : List (Str × Int)) (x1 : List (Str × Int)) (c12 : Int) (k0 : Option Bool) : Nat → Int → Option Bool
  | 0, _ => none
  | n + 1, s13 => slices_Equal_api_TreeChange_L0T N x0 x1 c12 k0 (slices_Equal_api_TreeChange_L0 N x0 x1 c12 k0 n) s13
def slices_Equal_api_TreeChange (N : Nat) (x0 : List (Str × Int)) (x1 : List (Str × Int)) : Option Bool :=
  br ((x0.length : Int) != (x1.length : Int))
    (some false)
    (slices_Equal_api_TreeChange_L0 N x0 x1 (x0.length : Int) (some true) N (0 : Int))
abbrev slices_Equal_api_TreeChange_sg (f : SV [.v (.sl (.pr .str (.int .i64))), .v (.sl (.pr .str (.int .i64)))] → BV [] → Option (Bool)) : AF := { ps := [.v (.sl (.pr .str (.int .i64))), .v (.sl (.pr .str (.int .i64)))], bs := [], rs := [.v .bool], cs := [], R := Bool, out := fun z => ((z, ()), ()), f := f }
abbrev slices_Equal_api_TreeChange_pk : SV [.v .bool] → BV [] → Bool := fun x _ => x.1
def slices_Equal_api_TreeChange_fn (_N : Nat) : FuncId → Option Tmp → Option AF := fun f _ =>
  match f with
    | _ => none
theorem slices_Equal_api_TreeChange_fn_ok (N : Nat) : ∀ f q F, slices_Equal_api_TreeChange_fn N f q = some F → Sound Tryd.prog GW B0G f F := by
  intro f q F h
  unfold slices_Equal_api_TreeChange_fn at h
  split at h
  · cases h
def slices_Equal_api_TreeChange_h : Nat → Hint := fun i =>
  match i with
  | 0 => ⟨[], [0, 1, 12, 13], [], [], [], []⟩
  | _ => ⟨[], [], [], [], [], []⟩
abbrev slices_Equal_api_TreeChange_E (N : Nat) : Env := mkE slices_Equal_api_TreeChange_h (slices_Equal_api_TreeChange_fn N) (fun _ => false) (fun _ => false)
abbrev slices_Equal_api_TreeChange_L0_fs : List (Nat × Sl) := [(0, .v (.sl (.pr .str (.int .i64)))), (1, .v (.sl (.pr .str (.int .i64)))), (12, .v (.int .i64)), (13, .v (.int .i64))]
abbrev slices_Equal_api_TreeChange_L0_bs : List (Nat × Sb) := []
def slices_Equal_api_TreeChange_L0_hd (x0 : List (Str × Int)) (x1 : List (Str × Int)) (c12 : Int) (s13 : Int) : St := ⟨26, [(0, .v (.sl (.pr .str (.int .i64))) x0), (1, .v (.sl (.pr .str (.int .i64))) x1), (12, .v (.int .i64) c12), (13, .v (.int .i64) s13)], []⟩
def slices_Equal_api_TreeChange_L0_tl0 (_x0 : List (Str × Int)) (_x1 : List (Str × Int)) (_c12 : Int) : St := ⟨26, [], []⟩
def slices_Equal_api_TreeChange_L0_G (N : Nat) (x0 : List (Str × Int)) (x1 : List (Str × Int)) (c12 : Int) (s13 : Int) (k : Ex → St → Option Bool) : Option Bool :=
  slices_Equal_api_TreeChange_L0 N x0 x1 c12 (k (.exit 0) (slices_Equal_api_TreeChange_L0_tl0 x0 x1 c12)) N s13
abbrev slices_Equal_api_TreeChange_L0_F (N : Nat) : FV slices_Equal_api_TreeChange_L0_fs → HV slices_Equal_api_TreeChange_L0_bs → (Ex → St → Option Bool) → Option Bool := fun x _ k => slices_Equal_api_TreeChange_L0_G N x.1 x.2.1 x.2.2.1 x.2.2.2.1 k
noncomputable def slices_Equal_api_TreeChange_LP (N : Nat) : Nat → Code → St → (Ex → St → Option Bool) → Option Bool := fun i c =>
  match i with
  | 0 => (LPc 26 slices_Equal_api_TreeChange_L0_fs slices_Equal_api_TreeChange_L0_bs (slices_Equal_api_TreeChange_L0_F N) (fun st k => iter (slices_Equal_api_TreeChange_h 0) (exec (slices_Equal_api_TreeChange_E N) N c 0) N st k))
  | i => fun st k => iter (slices_Equal_api_TreeChange_h i) (exec (slices_Equal_api_TreeChange_E N) N c i) N st k
theorem slices_Equal_api_TreeChange_L0_step (N : Nat) (x0 : List (Str × Int)) (x1 : List (Str × Int)) (c12 : Int) (KX : Nat → St → Option Bool) (I : St → Option Bool) (s13 : Int) :
    execL (slices_Equal_api_TreeChange_LP N) (slices_Equal_api_TreeChange_E N) (cAt (bodyOf Tryd.f25) [true, true, false, true, false, false]) 0 (slices_Equal_api_TreeChange_L0_hd x0 x1 c12 s13) (roundK (slices_Equal_api_TreeChange_h 0) I KX (resD (slices_Equal_api_TreeChange_E N) Tryd.f25 (slices_Equal_api_TreeChange_sg fun x _ => slices_Equal_api_TreeChange N x.1 x.2.1) slices_Equal_api_TreeChange_pk)) = slices_Equal_api_TreeChange_L0T N x0 x1 c12 (KX 0 (slices_Equal_api_TreeChange_L0_tl0 x0 x1 c12)) (fun s13 => I (slices_Equal_api_TreeChange_L0_hd x0 x1 c12 s13)) s13 := by kernel_rfl
theorem slices_Equal_api_TreeChange_L0_ok (N : Nat) : ∀ x y k, (∀ st, k .ret st = (resD (slices_Equal_api_TreeChange_E N) Tryd.f25 (slices_Equal_api_TreeChange_sg fun x _ => slices_Equal_api_TreeChange N x.1 x.2.1) slices_Equal_api_TreeChange_pk) st) → iter (slices_Equal_api_TreeChange_h 0) (exec (slices_Equal_api_TreeChange_E N) N (cAt (bodyOf Tryd.f25) [true, true, false, true, false, false]) 0) N ⟨26, unF slices_Equal_api_TreeChange_L0_fs x, unH slices_Equal_api_TreeChange_L0_bs y⟩ k = slices_Equal_api_TreeChange_L0_F N x y k := fun x _ k hk =>
  iter_link (S := (Int) × Unit) (slices_Equal_api_TreeChange_h 0) _ (execL (slices_Equal_api_TreeChange_LP N) (slices_Equal_api_TreeChange_E N) (cAt (bodyOf Tryd.f25) [true, true, false, true, false, false]) 0) (resD (slices_Equal_api_TreeChange_E N) Tryd.f25 (slices_Equal_api_TreeChange_sg fun x _ => slices_Equal_api_TreeChange N x.1 x.2.1) slices_Equal_api_TreeChange_pk) (fun st k hk => execL_eq _ _ N _ (cAt (bodyOf Tryd.f25) [true, true, false, true, false, false]) 0 (show LoopsOk (slices_Equal_api_TreeChange_LP N) (slices_Equal_api_TreeChange_E N) N (resD (slices_Equal_api_TreeChange_E N) Tryd.f25 (slices_Equal_api_TreeChange_sg fun x _ => slices_Equal_api_TreeChange N x.1 x.2.1) slices_Equal_api_TreeChange_pk) [] from trivial) st k hk) (fun s => slices_Equal_api_TreeChange_L0_hd x.1 x.2.1 x.2.2.1 s.1) k hk
    (fun self s => slices_Equal_api_TreeChange_L0T N x.1 x.2.1 x.2.2.1 (k (.exit 0) (slices_Equal_api_TreeChange_L0_tl0 x.1 x.2.1 x.2.2.1)) (fun s13 => self (s13, ())) s.1) (fun n s => slices_Equal_api_TreeChange_L0 N x.1 x.2.1 x.2.2.1 (k (.exit 0) (slices_Equal_api_TreeChange_L0_tl0 x.1 x.2.1 x.2.2.1)) n s.1) (fun _ => rfl) (fun _ _ => rfl)
    (fun I s => slices_Equal_api_TreeChange_L0_step N x.1 x.2.1 x.2.2.1 (fun j => k (.exit j)) I s.1) N (x.2.2.2.1, ())
theorem slices_Equal_api_TreeChange_lp0 (N : Nat) : ∀ st k, (∀ st, k .ret st = (resD (slices_Equal_api_TreeChange_E N) Tryd.f25 (slices_Equal_api_TreeChange_sg fun x _ => slices_Equal_api_TreeChange N x.1 x.2.1) slices_Equal_api_TreeChange_pk) st) → slices_Equal_api_TreeChange_LP N 0 (cAt (bodyOf Tryd.f25) [true, true, false, true, false, false]) st k = iter (Env.hint (slices_Equal_api_TreeChange_E N) 0) (exec (slices_Equal_api_TreeChange_E N) N (cAt (bodyOf Tryd.f25) [true, true, false, true, false, false]) 0) N st k := fun st k hk => LPc_eq 26 slices_Equal_api_TreeChange_L0_fs slices_Equal_api_TreeChange_L0_bs _ _ (resD (slices_Equal_api_TreeChange_E N) Tryd.f25 (slices_Equal_api_TreeChange_sg fun x _ => slices_Equal_api_TreeChange N x.1 x.2.1) slices_Equal_api_TreeChange_pk) (slices_Equal_api_TreeChange_L0_ok N) _ st k hk (rfl)
theorem slices_Equal_api_TreeChange_core (N : Nat) (x : SV [.v (.sl (.pr .str (.int .i64))), .v (.sl (.pr .str (.int .i64)))]) (y : BV []) : runL (slices_Equal_api_TreeChange_E N) Tryd.f25 (slices_Equal_api_TreeChange_sg fun x _ => slices_Equal_api_TreeChange N x.1 x.2.1) slices_Equal_api_TreeChange_pk (slices_Equal_api_TreeChange_LP N) x y = slices_Equal_api_TreeChange N x.1 x.2.1 := by kernel_rfl
theorem slices_Equal_api_TreeChange_sound (N : Nat) : Sound Tryd.prog GW B0G 25 (slices_Equal_api_TreeChange_sg fun x _ => slices_Equal_api_TreeChange N x.1 x.2.1) :=
  runD_sound (mkE_ok slices_Equal_api_TreeChange_h (slices_Equal_api_TreeChange_fn N) _ _ (slices_Equal_api_TreeChange_fn_ok N)) Tryd.func25 rfl Tryd.call25 (slices_Equal_api_TreeChange_sg fun x _ => slices_Equal_api_TreeChange N x.1 x.2.1) slices_Equal_api_TreeChange_pk (fun _ _ => rfl) N (fun x y _ h => ((runL_eq (slices_Equal_api_TreeChange_E N) N Tryd.f25 (slices_Equal_api_TreeChange_sg fun x _ => slices_Equal_api_TreeChange N x.1 x.2.1) slices_Equal_api_TreeChange_pk (slices_Equal_api_TreeChange_LP N) (show LoopsOk (slices_Equal_api_TreeChange_LP N) (slices_Equal_api_TreeChange_E N) N (resD (slices_Equal_api_TreeChange_E N) Tryd.f25 (slices_Equal_api_TreeChange_sg fun x _ => slices_Equal_api_TreeChange N x.1 x.2.1) slices_Equal_api_TreeChange_pk) [(0, (cAt (bodyOf Tryd.f25) [true, true, false, true, false, false]))] from ⟨slices_Equal_api_TreeChange_lp0 N, trivial⟩) x y).trans (slices_Equal_api_TreeChange_core N x y)).trans h)
def law1_BlobChangesMatchSpec (N : Nat) (x0 : List (Str × Bool × List UInt8)) (x1 : List (Str × Bool × List UInt8)) : Option Bool :=
  bnd (blob_Changes N x0 x1) fun t12 =>
  bnd (ref1_Changes N x0 x1) fun t18 =>
  bnd (slices_Equal_api_TreeChange N t12.2 t18.2) fun t23 =>
  br (t23)
    (br (t12.1 == t18.1)
      (bnd (law1_awake N) fun t30 =>
      some t30)
      (some false))
    (some false)
abbrev law1_BlobChangesMatchSpec_sg (f : SV [.v (.sl (.pr .str (.pr .bool (.sl .u8)))), .v (.sl (.pr .str (.pr .bool (.sl .u8))))] → BV [] → Option (Bool)) : AF := { ps := [.v (.sl (.pr .str (.pr .bool (.sl .u8)))), .v (.sl (.pr .str (.pr .bool (.sl .u8))))], bs := [], rs := [.v .bool], cs := [], R := Bool, out := fun z => ((z, ()), ()), f := f }
abbrev law1_BlobChangesMatchSpec_pk : SV [.v .bool] → BV [] → Bool := fun x _ => x.1
def law1_BlobChangesMatchSpec_fn (N : Nat) : FuncId → Option Tmp → Option AF := fun f _ =>
  match f with
    | 18 => some (law1_awake_sg fun _ _ => law1_awake N)
    | 22 => some (blob_Changes_sg fun x _ => blob_Changes N x.1 x.2.1)
    | 24 => some (ref1_Changes_sg fun x _ => ref1_Changes N x.1 x.2.1)
    | 25 => some (slices_Equal_api_TreeChange_sg fun x _ => slices_Equal_api_TreeChange N x.1 x.2.1)
    | _ => none
theorem law1_BlobChangesMatchSpec_fn_ok (N : Nat) : ∀ f q F, law1_BlobChangesMatchSpec_fn N f q = some F → Sound Tryd.prog GW B0G f F := by
  intro f q F h
  unfold law1_BlobChangesMatchSpec_fn at h
  split at h
  · cases h; exact law1_awake_sound N
  · cases h; exact blob_Changes_sound N
  · cases h; exact ref1_Changes_sound N
  · cases h; exact slices_Equal_api_TreeChange_sound N
  · cases h
def law1_BlobChangesMatchSpec_h : Nat → Hint := fun i =>
  match i with
  | _ => ⟨[], [], [], [], [], []⟩
abbrev law1_BlobChangesMatchSpec_E (N : Nat) : Env := mkE law1_BlobChangesMatchSpec_h (law1_BlobChangesMatchSpec_fn N) (fun _ => false) (fun _ => false)
noncomputable def law1_BlobChangesMatchSpec_LP (N : Nat) : Nat → Code → St → (Ex → St → Option Bool) → Option Bool := fun i c =>
  match i with
  | i => fun st k => iter (law1_BlobChangesMatchSpec_h i) (exec (law1_BlobChangesMatchSpec_E N) N c i) N st k
theorem law1_BlobChangesMatchSpec_core (N : Nat) (x : SV [.v (.sl (.pr .str (.pr .bool (.sl .u8)))), .v (.sl (.pr .str (.pr .bool (.sl .u8))))]) (y : BV []) : runL (law1_BlobChangesMatchSpec_E N) Tryd.f7 (law1_BlobChangesMatchSpec_sg fun x _ => law1_BlobChangesMatchSpec N x.1 x.2.1) law1_BlobChangesMatchSpec_pk (law1_BlobChangesMatchSpec_LP N) x y = law1_BlobChangesMatchSpec N x.1 x.2.1 := by kernel_rfl
theorem law1_BlobChangesMatchSpec_sound (N : Nat) : Sound Tryd.prog GW B0G 7 (law1_BlobChangesMatchSpec_sg fun x _ => law1_BlobChangesMatchSpec N x.1 x.2.1) :=
  runD_sound (mkE_ok law1_BlobChangesMatchSpec_h (law1_BlobChangesMatchSpec_fn N) _ _ (law1_BlobChangesMatchSpec_fn_ok N)) Tryd.func7 rfl Tryd.call7 (law1_BlobChangesMatchSpec_sg fun x _ => law1_BlobChangesMatchSpec N x.1 x.2.1) law1_BlobChangesMatchSpec_pk (fun _ _ => rfl) N (fun x y _ h => ((runL_eq (law1_BlobChangesMatchSpec_E N) N Tryd.f7 (law1_BlobChangesMatchSpec_sg fun x _ => law1_BlobChangesMatchSpec N x.1 x.2.1) law1_BlobChangesMatchSpec_pk (law1_BlobChangesMatchSpec_LP N) (show LoopsOk (law1_BlobChangesMatchSpec_LP N) (law1_BlobChangesMatchSpec_E N) N (resD (law1_BlobChangesMatchSpec_E N) Tryd.f7 (law1_BlobChangesMatchSpec_sg fun x _ => law1_BlobChangesMatchSpec N x.1 x.2.1) law1_BlobChangesMatchSpec_pk) [] from trivial) x y).trans (law1_BlobChangesMatchSpec_core N x y)).trans h)
end
end Go.Proofs.YthlkidohpiebiaaDoor


/- slices.SortFunc of structs by their first field, a name that each has but once, out of the kit's contract: it turns a row of its caller's. For any program. -/
namespace Go.Proofs.YthlkidohpiebiaaDoor
set_option linter.unusedVariables false
set_option linter.unusedSimpArgs false
open Go Go.RowKit Go.Shelf Go.Sort
/-- A name, and n further cells. -/
def KC (n : Nat) : Type := { p : Str × List Value // p.2.length = n ∧ ∀ v ∈ p.2, v.oneCell' = true }
instance (n : Nat) : Inhabited (KC n) := ⟨⟨([], List.replicate n (.bool false)), by simp, fun v hv => by rw [List.eq_of_mem_replicate hv]; rfl⟩⟩
end Go.Proofs.YthlkidohpiebiaaDoor


/-
  DERIVED: THE SHELF's CONTRACTS AT THIS DUMP, IN PLAIN WORDS (tools/lay-plain.mjs out of 'TrydShelfF.lean', which tools/lay-shelf.mjs wrote): THE SAME DECLARATIONS UNDER THE SAME NAMES: 'import', 'namespace', 'open', 'def', 'theorem' AND NOTHING ELSE: no command of the shelf's: FOR A HAND-IN. Each laying: the table of numbers ('.._ren') and one theorem, a field a fact of the dump's own or the kernel's comparison; each contract: ONE APPLICATION.
-/
namespace Go.Proofs
open Go.Shelf
end Go.Proofs


/- slices.SortFunc of files by their paths, out of the kit's contract: it turns a row of its caller's. -/
namespace Go.Proofs.YthlkidohpiebiaaDoor
set_option linter.unusedVariables false
set_option linter.unusedSimpArgs false
open Go Go.RowKit Go.Shelf Go.Sort
end Go.Proofs.YthlkidohpiebiaaDoor



/- What functions of the program compute, as plain functions (printed). -/
namespace Go.Proofs.YthlkidohpiebiaaDoor
open Go Go.RowKit
set_option maxRecDepth 100000
set_option linter.unusedVariables false
noncomputable section
end
end Go.Proofs.YthlkidohpiebiaaDoor


/- What functions of the program compute, as plain functions (printed). -/
namespace Go.Proofs.YthlkidohpiebiaaDoor
open Go Go.RowKit
set_option maxRecDepth 100000
set_option linter.unusedVariables false
noncomputable section
end
end Go.Proofs.YthlkidohpiebiaaDoor


/- strings.Trim and strings.Join, out of the kit's contracts. -/
namespace Go.Proofs.YthlkidohpiebiaaDoor
set_option linter.unusedVariables false
set_option linter.unusedSimpArgs false
open Go Go.RowKit Go.Shelf
end Go.Proofs.YthlkidohpiebiaaDoor



/- Splitting, cutting and joining at one byte. No program in sight. -/
namespace Go.Proofs.YthlkidohpiebiaaDoor
set_option linter.unusedVariables false
set_option linter.unusedSimpArgs false
open Go Go.RowKit
def splitC (c : UInt8) : Str → List Str
  | [] => [[]]
  | b :: s => if b = c then [] :: splitC c s else match splitC c s with
    | x :: xs => (b :: x) :: xs
    | [] => [[b]]
theorem splitC_ne (c : UInt8) (s : Str) : splitC c s ≠ [] := by
  cases s with
  | nil => simp [splitC]
  | cons b s => unfold splitC; split; simp; split <;> simp
theorem indexByte_cons (b c : UInt8) (s : Str) : Lib.indexByte (b :: s) c = if b = c then 0 else if Lib.indexByte s c = -1 then -1 else Lib.indexByte s c + 1 := by
  have h := Lib.indexByte_ge s c
  rw [Lib.indexByte]
  by_cases hb : b = c
  · simp [hb]
  · simp only [beq_iff_eq, hb, if_false]
theorem splitK_one (c : UInt8) : ∀ (s : Str), Lib.splitK [c] 0 (Lib.count s [c]) s = splitC c s
  | [] => by simp [Lib.count_one, Lib.splitK, splitC]
  | b :: s => by
    have ih := splitK_one c s
    by_cases hb : b = c
    · subst hb
      rw [Lib.count_cons_eq, Nat.add_comm, Lib.splitK, Lib.index_one, indexByte_cons]
      simp only [if_true]
      show (_ :: Lib.splitK [b] 0 (Lib.count s [b]) s) = _
      rw [ih]
      simp [splitC]
    · rw [Lib.count_cons_ne _ _ _ hb]
      unfold splitC
      rw [if_neg hb, ← ih]
      cases hk : Lib.count s [c] with
      | zero => simp [Lib.splitK]
      | succ k =>
        rw [Lib.splitK, Lib.splitK, Lib.index_one, Lib.index_one, indexByte_cons, if_neg hb]
        have h0 := Lib.indexByte_ge s c
        by_cases h1 : Lib.indexByte s c = -1
        · simp [h1]
        · have h2 : ∃ n : Nat, Lib.indexByte s c = n := ⟨(Lib.indexByte s c).toNat, by omega⟩
          obtain ⟨n, hn⟩ := h2
          have e : ((n : Int) + 1).toNat = n + 1 := by omega
          have e1 : ¬ ((n : Int) = -1) := by omega
          have e2 : ¬ ((n : Int) + 1 = -1) := by omega
          simp [hn, e, e1, e2, Nat.add_right_comm]
theorem splitS_one (s : Str) (c : UInt8) : splitS s [c] = splitC c s := by
  unfold splitS
  have := Lib.splitB_data ⟨[c].toArray⟩ 0 (Lib.countB ⟨s.toArray⟩ ⟨[c].toArray⟩) ⟨s.toArray⟩
  rw [this]
  exact splitK_one c s
theorem splitC_len (c : UInt8) : ∀ s : Str, (splitC c s).length = s.count c + 1
  | [] => rfl
  | b :: s => by
    have ih := splitC_len c s
    unfold splitC
    by_cases hb : b = c
    · rw [if_pos hb]; simp [hb, ih]
    · rw [if_neg hb, List.count_cons_of_ne hb, ← ih]
      have := splitC_ne c s
      cases h : splitC c s with
      | nil => exact absurd h this
      | cons => rfl
theorem strings_Split_one (s : Str) (c : UInt8) (h : s.length < 4294967281) : strings_Split s [c] = some (splitC c s) := by
  have hc : s.count c ≤ s.length := List.count_le_length
  unfold strings_Split
  rw [splitS_one, splitC_len]
  refine if_pos ⟨h, by simp, ?_, by omega⟩
  show _ = Lib.count s [c] + 1
  rw [Lib.count_one]
theorem splitC_mem (c : UInt8) (s : Str) : ∀ x ∈ splitC c s, c ∉ x ∧ x.length ≤ s.length := by
  induction s with
  | nil => intro x hx; simp [splitC] at hx; subst hx; simp
  | cons b s ih =>
    intro x hx
    unfold splitC at hx
    by_cases hb : b = c
    · rw [if_pos hb] at hx
      rcases List.mem_cons.1 hx with rfl | hx
      · simp
      · have := ih x hx; exact ⟨this.1, by simp; omega⟩
    · rw [if_neg hb] at hx
      cases h : splitC c s with
      | nil => exact absurd h (splitC_ne c s)
      | cons y ys =>
        rw [h] at hx ih
        rcases List.mem_cons.1 hx with rfl | hx
        · have := ih y (by simp)
          refine ⟨fun hm => ?_, by simp; omega⟩
          rcases List.mem_cons.1 hm with e | hm
          · exact hb e.symm
          · exact this.1 hm
        · have := ih x (List.mem_cons_of_mem _ hx); exact ⟨this.1, by simp; omega⟩
end Go.Proofs.YthlkidohpiebiaaDoor

