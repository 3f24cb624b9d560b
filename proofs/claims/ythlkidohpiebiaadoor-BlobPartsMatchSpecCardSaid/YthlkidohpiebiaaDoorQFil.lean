/- What functions of the program compute, as plain functions (printed). -/
import Derived.Test.YthlkidohpiebiaaDoorQBmSl
import Derived.Test.YthlkidohpiebiaaDoorQBnF2
import Derived.Shelf.Strings.SlTrimAscii
import Derived.Lib.Join
import Derived.ProofKit
import Derived.OpenShut
import Derived.ShutString
import Derived.DataReads
import Derived.ChangeShapes
import Derived.WideShapes
import Derived.Test.YthlkidohpiebiaaDoorQSlc
namespace Go.Proofs.YthlkidohpiebiaaDoor
open Go Go.RowKit
set_option maxRecDepth 100000
set_option linter.unusedVariables false
noncomputable section
def blob_sorted_2 (N : Nat) (w0 : List (Str × Bool × List UInt8)) : Option (List (Str × Bool × List UInt8) × Int) :=
  bnd (slices_SortFunc_file () w0) fun t6 =>
  bnd (blob_CheckFiles N t6) fun t8 =>
  br (t8 != (0 : Int))
    (some (([] : List (Str × Bool × List UInt8)), t8))
    (some (t6, (0 : Int)))
abbrev blob_sorted_2_sg (f : SV [.row 0] → BV [.row 34 (.pr .str (.pr .bool (.sl .u8))) true] → Option (List (Str × Bool × List UInt8) × Int)) : AF := { ps := [.row 0], bs := [.row 34 (.pr .str (.pr .bool (.sl .u8))) true], rs := [.v (.sl (.pr .str (.pr .bool (.sl .u8)))), .v (.int .i64)], cs := [.none], R := List (Str × Bool × List UInt8) × Int, out := fun z => ((z.1, z.2, ()), ((), ())), f := f }
abbrev blob_sorted_2_pk : SV [.v (.sl (.pr .str (.pr .bool (.sl .u8)))), .v (.int .i64)] → BV [.none] → (List (Str × Bool × List UInt8) × Int) := fun x _ => (x.1, x.2.1)
def blob_sorted_2_fn (N : Nat) : FuncId → Option Tmp → Option AF := fun f _ =>
  match f with
    | 35 => some (blob_CheckFiles_sg fun x _ => blob_CheckFiles N x.1)
    | 97 => some (slices_SortFunc_file_sg fun x y => slices_SortFunc_file x.2.1 y.1)
    | _ => none
theorem blob_sorted_2_fn_ok (N : Nat) : ∀ f q F, blob_sorted_2_fn N f q = some F → Sound Tryd.prog GW B0G f F := by
  intro f q F h
  unfold blob_sorted_2_fn at h
  split at h
  · cases h; exact blob_CheckFiles_sound N
  · cases h; exact slices_SortFunc_file_sound
  · cases h
def blob_sorted_2_h : Nat → Hint := fun i =>
  match i with
  | _ => ⟨[], [], [], [], [], []⟩
abbrev blob_sorted_2_E (N : Nat) : Env := mkE blob_sorted_2_h (blob_sorted_2_fn N) (fun _ => false) (fun _ => false)
noncomputable def blob_sorted_2_LP (N : Nat) : Nat → Code → St → (Ex → St → Option (List (Str × Bool × List UInt8) × Int)) → Option (List (Str × Bool × List UInt8) × Int) := fun i c =>
  match i with
  | i => fun st k => iter (blob_sorted_2_h i) (exec (blob_sorted_2_E N) N c i) N st k
theorem blob_sorted_2_core (N : Nat) (x : SV [.row 0]) (y : BV [.row 34 (.pr .str (.pr .bool (.sl .u8))) true]) : runL (blob_sorted_2_E N) Tryd.f63 (blob_sorted_2_sg fun _ y => blob_sorted_2 N y.1) blob_sorted_2_pk (blob_sorted_2_LP N) x y = blob_sorted_2 N y.1 := by kernel_rfl
theorem blob_sorted_2_sound (N : Nat) : Sound Tryd.prog GW B0G 63 (blob_sorted_2_sg fun _ y => blob_sorted_2 N y.1) :=
  runD_sound (mkE_ok blob_sorted_2_h (blob_sorted_2_fn N) _ _ (blob_sorted_2_fn_ok N)) Tryd.func63 rfl Tryd.call63 (blob_sorted_2_sg fun _ y => blob_sorted_2 N y.1) blob_sorted_2_pk (fun _ _ => rfl) N (fun x y _ h => ((runL_eq (blob_sorted_2_E N) N Tryd.f63 (blob_sorted_2_sg fun _ y => blob_sorted_2 N y.1) blob_sorted_2_pk (blob_sorted_2_LP N) (show LoopsOk (blob_sorted_2_LP N) (blob_sorted_2_E N) N (resD (blob_sorted_2_E N) Tryd.f63 (blob_sorted_2_sg fun _ y => blob_sorted_2 N y.1) blob_sorted_2_pk) [] from trivial) x y).trans (blob_sorted_2_core N x y)).trans h)
def blob_Put_L0T (_N : Nat) (x1 : Str) (c32 : Int) (t31 : List (Str × Bool × List UInt8)) (k0 : (List (Str × Bool × List UInt8)) → Option (List (Str × Bool × List UInt8) × Int)) (self : Int → (List (Str × Bool × List UInt8)) → Option (List (Str × Bool × List UInt8) × Int)) (s33 : Int) (w102700 : List (Str × Bool × List UInt8)) : Option (List (Str × Bool × List UInt8) × Int) :=
  br (decide (s33 < c32))
    (br (decide (0 ≤ s33 ∧ s33 < (t31.length : Int)))
      (bnd (geti t31 s33) fun t36 =>
      br (decide (x1.length + ([47] : Str).length ≤ 9223372036854775807))
        (br (decide ((x1 ++ ([47] : Str)).length + t36.1.length ≤ 9223372036854775807))
          (br (decide ((w102700.length + [((x1 ++ ([47] : Str)) ++ t36.1, t36.2)].length) * (24 * Ty.sz (.pr .str (.pr .bool (.sl .u8)))) ≤ 140737488355328))
            (self (IntKind.i64.wrap (s33 + (1 : Int))) (w102700 ++ [((x1 ++ ([47] : Str)) ++ t36.1, t36.2)]))
            none)
          none)
        none)
      none)
    (k0 w102700)
def blob_Put_L0 (N : Nat) (x1 : Str) (c32 : Int) (t31 : List (Str × Bool × List UInt8)) (k0 : (List (Str × Bool × List UInt8)) → Option (List (Str × Bool × List UInt8) × Int)) : Nat → Int → (List (Str × Bool × List UInt8)) → Option (List (Str × Bool × List UInt8) × Int)
  | 0, _, _ => none
  | n + 1, s33, w102700 => blob_Put_L0T N x1 c32 t31 k0 (blob_Put_L0 N x1 c32 t31 k0 n) s33 w102700
def blob_Put (N : Nat) (x0 : List (Str × Bool × List UInt8)) (x1 : Str) (x2 : List (Str × Bool × List UInt8)) : Option (List (Str × Bool × List UInt8) × Int) :=
  bnd (blob_CheckFiles N x0) fun t14 =>
  br (t14 != (0 : Int))
    (some (([] : List (Str × Bool × List UInt8)), t14))
    (bnd (blob_CheckFiles N x2) fun t19 =>
    br (t19 != (0 : Int))
      (some (([] : List (Str × Bool × List UInt8)), t19))
      (bnd (blob_IsPath N x1) fun t24 =>
      br (!t24)
        (some (([] : List (Str × Bool × List UInt8)), (3 : Int)))
        (bnd (blob_Own N x0) fun t27 =>
        bnd (slices_DeleteFunc_api_File N (x1, ()) t27) fun t29 =>
        bnd (blob_Own N x2) fun t31 =>
        blob_Put_L0 N x1 (t31.length : Int) t31 (fun o0_w102700 =>
            bnd (blob_sorted_2 N o0_w102700) fun t49 =>
            some t49) N (0 : Int) t29)))
abbrev blob_Put_sg (f : SV [.v (.sl (.pr .str (.pr .bool (.sl .u8)))), .v .str, .v (.sl (.pr .str (.pr .bool (.sl .u8))))] → BV [] → Option (List (Str × Bool × List UInt8) × Int)) : AF := { ps := [.v (.sl (.pr .str (.pr .bool (.sl .u8)))), .v .str, .v (.sl (.pr .str (.pr .bool (.sl .u8))))], bs := [], rs := [.v (.sl (.pr .str (.pr .bool (.sl .u8)))), .v (.int .i64)], cs := [], R := List (Str × Bool × List UInt8) × Int, out := fun z => ((z.1, z.2, ()), ()), f := f }
abbrev blob_Put_pk : SV [.v (.sl (.pr .str (.pr .bool (.sl .u8)))), .v (.int .i64)] → BV [] → (List (Str × Bool × List UInt8) × Int) := fun x _ => (x.1, x.2.1)
def blob_Put_fn (N : Nat) : FuncId → Option Tmp → Option AF := fun f _ =>
  match f with
    | 35 => some (blob_CheckFiles_sg fun x _ => blob_CheckFiles N x.1)
    | 38 => some (blob_IsPath_sg fun x _ => blob_IsPath N x.1)
    | 58 => some (blob_Own_sg fun x _ => blob_Own N x.1)
    | 61 => some (slices_DeleteFunc_api_File_sg fun x y => slices_DeleteFunc_api_File N x.2.1 y.1)
    | 63 => some (blob_sorted_2_sg fun _ y => blob_sorted_2 N y.1)
    | 62 => some (noneAF [.v (.ptr .str)])
    | _ => none
theorem blob_Put_fn_ok (N : Nat) : ∀ f q F, blob_Put_fn N f q = some F → Sound Tryd.prog GW B0G f F := by
  intro f q F h
  unfold blob_Put_fn at h
  split at h
  · cases h; exact blob_CheckFiles_sound N
  · cases h; exact blob_IsPath_sound N
  · cases h; exact blob_Own_sound N
  · cases h; exact slices_DeleteFunc_api_File_sound N
  · cases h; exact blob_sorted_2_sound N
  · cases h; exact noneAF_sound Tryd.call62 _
  · cases h
def blob_Put_h : Nat → Hint := fun i =>
  match i with
  | 0 => ⟨[], [4, 10, 31, 32, 33], [102700, 103100], [10], [102700], []⟩
  | _ => ⟨[], [], [], [], [], []⟩
abbrev blob_Put_E (N : Nat) : Env := mkE blob_Put_h (blob_Put_fn N) (fun _ => false) (fun _ => false)
abbrev blob_Put_L0_fs : List (Nat × Sl) := [(4, .at_ .str), (10, .row 102700), (31, .row 103100), (32, .v (.int .i64)), (33, .v (.int .i64))]
abbrev blob_Put_L0_bs : List (Nat × Sb) := [(102700, .row 34 (.pr .str (.pr .bool (.sl .u8))) true), (103100, .row 34 (.pr .str (.pr .bool (.sl .u8))) true)]
def blob_Put_L0_hd (x1 : Str) (c32 : Int) (t31 : List (Str × Bool × List UInt8)) (s33 : Int) (w102700 : List (Str × Bool × List UInt8)) : St := ⟨52, [(4, .at_ .str x1), (10, .row 102700), (31, .row 103100), (32, .v (.int .i64) c32), (33, .v (.int .i64) s33)], [(102700, .row 34 (.pr .str (.pr .bool (.sl .u8))) true w102700), (103100, .row 34 (.pr .str (.pr .bool (.sl .u8))) true t31)]⟩
def blob_Put_L0_tl0 (_x1 : Str) (_c32 : Int) (_t31 : List (Str × Bool × List UInt8)) (o0_w102700 : List (Str × Bool × List UInt8)) : St := ⟨52, [(10, .row 102700)], [(102700, .row 34 (.pr .str (.pr .bool (.sl .u8))) true o0_w102700)]⟩
def blob_Put_L0_G (N : Nat) (x1 : Str) (c32 : Int) (t31 : List (Str × Bool × List UInt8)) (s33 : Int) (w102700 : List (Str × Bool × List UInt8)) (k : Ex → St → Option (List (Str × Bool × List UInt8) × Int)) : Option (List (Str × Bool × List UInt8) × Int) :=
  blob_Put_L0 N x1 c32 t31 (fun o0_w102700 => k (.exit 0) (blob_Put_L0_tl0 x1 c32 t31 o0_w102700)) N s33 w102700
abbrev blob_Put_L0_F (N : Nat) : FV blob_Put_L0_fs → HV blob_Put_L0_bs → (Ex → St → Option (List (Str × Bool × List UInt8) × Int)) → Option (List (Str × Bool × List UInt8) × Int) := fun x y k => blob_Put_L0_G N x.1 x.2.2.2.1 y.2.1 x.2.2.2.2.1 y.1 k
noncomputable def blob_Put_LP (N : Nat) : Nat → Code → St → (Ex → St → Option (List (Str × Bool × List UInt8) × Int)) → Option (List (Str × Bool × List UInt8) × Int) := fun i c =>
  match i with
  | 0 => (LPc 52 blob_Put_L0_fs blob_Put_L0_bs (blob_Put_L0_F N) (fun st k => iter (blob_Put_h 0) (exec (blob_Put_E N) N c 0) N st k))
  | i => fun st k => iter (blob_Put_h i) (exec (blob_Put_E N) N c i) N st k
theorem blob_Put_L0_step (N : Nat) (x1 : Str) (c32 : Int) (t31 : List (Str × Bool × List UInt8)) (KX : Nat → St → Option (List (Str × Bool × List UInt8) × Int)) (I : St → Option (List (Str × Bool × List UInt8) × Int)) (s33 : Int) (w102700 : List (Str × Bool × List UInt8)) :
    execL (blob_Put_LP N) (blob_Put_E N) (cAt (bodyOf Tryd.f28) [true, true, true, true, true, false, true, false, false]) 0 (blob_Put_L0_hd x1 c32 t31 s33 w102700) (roundK (blob_Put_h 0) I KX (resD (blob_Put_E N) Tryd.f28 (blob_Put_sg fun x _ => blob_Put N x.1 x.2.1 x.2.2.1) blob_Put_pk)) = blob_Put_L0T N x1 c32 t31 (fun o0_w102700 => KX 0 (blob_Put_L0_tl0 x1 c32 t31 o0_w102700)) (fun s33 w102700 => I (blob_Put_L0_hd x1 c32 t31 s33 w102700)) s33 w102700 := by kernel_rfl
theorem blob_Put_L0_ok (N : Nat) : ∀ x y k, (∀ st, k .ret st = (resD (blob_Put_E N) Tryd.f28 (blob_Put_sg fun x _ => blob_Put N x.1 x.2.1 x.2.2.1) blob_Put_pk) st) → iter (blob_Put_h 0) (exec (blob_Put_E N) N (cAt (bodyOf Tryd.f28) [true, true, true, true, true, false, true, false, false]) 0) N ⟨52, unF blob_Put_L0_fs x, unH blob_Put_L0_bs y⟩ k = blob_Put_L0_F N x y k := fun x y k hk =>
  iter_link (S := (Int) × (List (Str × Bool × List UInt8)) × Unit) (blob_Put_h 0) _ (execL (blob_Put_LP N) (blob_Put_E N) (cAt (bodyOf Tryd.f28) [true, true, true, true, true, false, true, false, false]) 0) (resD (blob_Put_E N) Tryd.f28 (blob_Put_sg fun x _ => blob_Put N x.1 x.2.1 x.2.2.1) blob_Put_pk) (fun st k hk => execL_eq _ _ N _ (cAt (bodyOf Tryd.f28) [true, true, true, true, true, false, true, false, false]) 0 (show LoopsOk (blob_Put_LP N) (blob_Put_E N) N (resD (blob_Put_E N) Tryd.f28 (blob_Put_sg fun x _ => blob_Put N x.1 x.2.1 x.2.2.1) blob_Put_pk) [] from trivial) st k hk) (fun s => blob_Put_L0_hd x.1 x.2.2.2.1 y.2.1 s.1 s.2.1) k hk
    (fun self s => blob_Put_L0T N x.1 x.2.2.2.1 y.2.1 (fun o0_w102700 => k (.exit 0) (blob_Put_L0_tl0 x.1 x.2.2.2.1 y.2.1 o0_w102700)) (fun s33 w102700 => self (s33, w102700, ())) s.1 s.2.1) (fun n s => blob_Put_L0 N x.1 x.2.2.2.1 y.2.1 (fun o0_w102700 => k (.exit 0) (blob_Put_L0_tl0 x.1 x.2.2.2.1 y.2.1 o0_w102700)) n s.1 s.2.1) (fun _ => rfl) (fun _ _ => rfl)
    (fun I s => blob_Put_L0_step N x.1 x.2.2.2.1 y.2.1 (fun j => k (.exit j)) I s.1 s.2.1) N (x.2.2.2.2.1, y.1, ())
theorem blob_Put_lp0 (N : Nat) : ∀ st k, (∀ st, k .ret st = (resD (blob_Put_E N) Tryd.f28 (blob_Put_sg fun x _ => blob_Put N x.1 x.2.1 x.2.2.1) blob_Put_pk) st) → blob_Put_LP N 0 (cAt (bodyOf Tryd.f28) [true, true, true, true, true, false, true, false, false]) st k = iter (Env.hint (blob_Put_E N) 0) (exec (blob_Put_E N) N (cAt (bodyOf Tryd.f28) [true, true, true, true, true, false, true, false, false]) 0) N st k := fun st k hk => LPc_eq 52 blob_Put_L0_fs blob_Put_L0_bs _ _ (resD (blob_Put_E N) Tryd.f28 (blob_Put_sg fun x _ => blob_Put N x.1 x.2.1 x.2.2.1) blob_Put_pk) (blob_Put_L0_ok N) _ st k hk (rfl)
theorem blob_Put_core (N : Nat) (x : SV [.v (.sl (.pr .str (.pr .bool (.sl .u8)))), .v .str, .v (.sl (.pr .str (.pr .bool (.sl .u8))))]) (y : BV []) : runL (blob_Put_E N) Tryd.f28 (blob_Put_sg fun x _ => blob_Put N x.1 x.2.1 x.2.2.1) blob_Put_pk (blob_Put_LP N) x y = blob_Put N x.1 x.2.1 x.2.2.1 := by kernel_rfl
theorem blob_Put_sound (N : Nat) : Sound Tryd.prog GW B0G 28 (blob_Put_sg fun x _ => blob_Put N x.1 x.2.1 x.2.2.1) :=
  runD_sound (mkE_ok blob_Put_h (blob_Put_fn N) _ _ (blob_Put_fn_ok N)) Tryd.func28 rfl Tryd.call28 (blob_Put_sg fun x _ => blob_Put N x.1 x.2.1 x.2.2.1) blob_Put_pk (fun _ _ => rfl) N (fun x y _ h => ((runL_eq (blob_Put_E N) N Tryd.f28 (blob_Put_sg fun x _ => blob_Put N x.1 x.2.1 x.2.2.1) blob_Put_pk (blob_Put_LP N) (show LoopsOk (blob_Put_LP N) (blob_Put_E N) N (resD (blob_Put_E N) Tryd.f28 (blob_Put_sg fun x _ => blob_Put N x.1 x.2.1 x.2.2.1) blob_Put_pk) [(0, (cAt (bodyOf Tryd.f28) [true, true, true, true, true, false, true, false, false]))] from ⟨blob_Put_lp0 N, trivial⟩) x y).trans (blob_Put_core N x y)).trans h)
def ref1_sorted_L0T (_N : Nat) (x0 : List (Str × Bool × List UInt8)) (c1003_0 : Str) (k0 : Int → Option (List (Str × Bool × List UInt8))) (self : Int → Option (List (Str × Bool × List UInt8))) (s5 : Int) : Option (List (Str × Bool × List UInt8)) :=
  br (decide (s5 > (0 : Int)))
    (bnd (geti x0 (IntKind.i64.wrap (s5 - (1 : Int)))) fun t15 =>
    br (!(Op.bytesLess t15.1 c1003_0 || t15.1 == c1003_0))
      (self (IntKind.i64.wrap (s5 - (1 : Int))))
      (k0 s5))
    (k0 s5)
def ref1_sorted_L0 (N : Nat) (x0 : List (Str × Bool × List UInt8)) (c1003_0 : Str) (k0 : Int → Option (List (Str × Bool × List UInt8))) : Nat → Int → Option (List (Str × Bool × List UInt8))
  | 0, _ => none
  | n + 1, s5 => ref1_sorted_L0T N x0 c1003_0 k0 (ref1_sorted_L0 N x0 c1003_0 k0 n) s5
def ref1_sorted (N : Nat) (x0 : List (Str × Bool × List UInt8)) (x1 : Str × Bool × List UInt8) : Option (List (Str × Bool × List UInt8)) :=
  ref1_sorted_L0 N x0 x1.1 (fun o0_5 =>
      bnd (slc x0 (0 : Int) o0_5) fun t27 =>
      br (decide ((([] : List (Str × Bool × List UInt8)).length + t27.length) * (24 * Ty.sz (.pr .str (.pr .bool (.sl .u8)))) ≤ 140737488355328))
        (br (decide (((([] : List (Str × Bool × List UInt8)) ++ t27).length + [x1].length) * (24 * Ty.sz (.pr .str (.pr .bool (.sl .u8)))) ≤ 140737488355328))
          (bnd (slc x0 o0_5 (x0.length : Int)) fun t36 =>
          br (decide ((((([] : List (Str × Bool × List UInt8)) ++ t27) ++ [x1]).length + t36.length) * (24 * Ty.sz (.pr .str (.pr .bool (.sl .u8)))) ≤ 140737488355328))
            (some (((([] : List (Str × Bool × List UInt8)) ++ t27) ++ [x1]) ++ t36))
            none)
          none)
        none) N (x0.length : Int)
abbrev ref1_sorted_sg (f : SV [.v (.sl (.pr .str (.pr .bool (.sl .u8)))), .v (.pr .str (.pr .bool (.sl .u8)))] → BV [] → Option (List (Str × Bool × List UInt8))) : AF := { ps := [.v (.sl (.pr .str (.pr .bool (.sl .u8)))), .v (.pr .str (.pr .bool (.sl .u8)))], bs := [], rs := [.row 0], cs := [.row 34 (.pr .str (.pr .bool (.sl .u8))) false], R := List (Str × Bool × List UInt8), out := fun z => (((), ()), (z, ())), f := f }
abbrev ref1_sorted_pk : SV [.row 0] → BV [.row 34 (.pr .str (.pr .bool (.sl .u8))) false] → (List (Str × Bool × List UInt8)) := fun _ y => y.1
def ref1_sorted_fn (_N : Nat) : FuncId → Option Tmp → Option AF := fun f _ =>
  match f with
    | _ => none
theorem ref1_sorted_fn_ok (N : Nat) : ∀ f q F, ref1_sorted_fn N f q = some F → Sound Tryd.prog GW B0G f F := by
  intro f q F h
  unfold ref1_sorted_fn at h
  split at h
  · cases h
def ref1_sorted_h : Nat → Hint := fun i =>
  match i with
  | 0 => ⟨[], [0, 3, 5], [1003], [0, 3, 5], [1003], []⟩
  | _ => ⟨[], [], [], [], [], []⟩
abbrev ref1_sorted_E (N : Nat) : Env := mkE ref1_sorted_h (ref1_sorted_fn N) (fun _ => false) (fun _ => false)
abbrev ref1_sorted_L0_fs : List (Nat × Sl) := [(0, .v (.sl (.pr .str (.pr .bool (.sl .u8))))), (3, .box 1003 0), (5, .v (.int .i64))]
abbrev ref1_sorted_L0_bs : List (Nat × Sb) := [(1003, .cells [.v .str, .v .bool, .v (.sl .u8)])]
def ref1_sorted_L0_hd (x0 : List (Str × Bool × List UInt8)) (c1003_0 : Str) (c1003_1 : Bool) (c1003_2 : List UInt8) (s5 : Int) : St := ⟨38, [(0, .v (.sl (.pr .str (.pr .bool (.sl .u8)))) x0), (3, .box 1003 0), (5, .v (.int .i64) s5)], [(1003, .cells [.v .str c1003_0, .v .bool c1003_1, .v (.sl .u8) c1003_2])]⟩
def ref1_sorted_L0_tl0 (x0 : List (Str × Bool × List UInt8)) (c1003_0 : Str) (c1003_1 : Bool) (c1003_2 : List UInt8) (o0_5 : Int) : St := ⟨38, [(0, .v (.sl (.pr .str (.pr .bool (.sl .u8)))) x0), (3, .box 1003 0), (5, .v (.int .i64) o0_5)], [(1003, .cells [.v .str c1003_0, .v .bool c1003_1, .v (.sl .u8) c1003_2])]⟩
def ref1_sorted_L0_G (N : Nat) (x0 : List (Str × Bool × List UInt8)) (c1003_0 : Str) (c1003_1 : Bool) (c1003_2 : List UInt8) (s5 : Int) (k : Ex → St → Option (List (Str × Bool × List UInt8))) : Option (List (Str × Bool × List UInt8)) :=
  ref1_sorted_L0 N x0 c1003_0 (fun o0_5 => k (.exit 0) (ref1_sorted_L0_tl0 x0 c1003_0 c1003_1 c1003_2 o0_5)) N s5
abbrev ref1_sorted_L0_F (N : Nat) : FV ref1_sorted_L0_fs → HV ref1_sorted_L0_bs → (Ex → St → Option (List (Str × Bool × List UInt8))) → Option (List (Str × Bool × List UInt8)) := fun x y k => ref1_sorted_L0_G N x.1 y.1.1 y.1.2.1 y.1.2.2.1 x.2.2.1 k
noncomputable def ref1_sorted_LP (N : Nat) : Nat → Code → St → (Ex → St → Option (List (Str × Bool × List UInt8))) → Option (List (Str × Bool × List UInt8)) := fun i c =>
  match i with
  | 0 => (LPc 38 ref1_sorted_L0_fs ref1_sorted_L0_bs (ref1_sorted_L0_F N) (fun st k => iter (ref1_sorted_h 0) (exec (ref1_sorted_E N) N c 0) N st k))
  | i => fun st k => iter (ref1_sorted_h i) (exec (ref1_sorted_E N) N c i) N st k
theorem ref1_sorted_L0_step (N : Nat) (x0 : List (Str × Bool × List UInt8)) (c1003_0 : Str) (c1003_1 : Bool) (c1003_2 : List UInt8) (KX : Nat → St → Option (List (Str × Bool × List UInt8))) (I : St → Option (List (Str × Bool × List UInt8))) (s5 : Int) :
    execL (ref1_sorted_LP N) (ref1_sorted_E N) (cAt (bodyOf Tryd.f65) [true, true, false, false, false]) 0 (ref1_sorted_L0_hd x0 c1003_0 c1003_1 c1003_2 s5) (roundK (ref1_sorted_h 0) I KX (resD (ref1_sorted_E N) Tryd.f65 (ref1_sorted_sg fun x _ => ref1_sorted N x.1 x.2.1) ref1_sorted_pk)) = ref1_sorted_L0T N x0 c1003_0 (fun o0_5 => KX 0 (ref1_sorted_L0_tl0 x0 c1003_0 c1003_1 c1003_2 o0_5)) (fun s5 => I (ref1_sorted_L0_hd x0 c1003_0 c1003_1 c1003_2 s5)) s5 := by kernel_rfl
theorem ref1_sorted_L0_ok (N : Nat) : ∀ x y k, (∀ st, k .ret st = (resD (ref1_sorted_E N) Tryd.f65 (ref1_sorted_sg fun x _ => ref1_sorted N x.1 x.2.1) ref1_sorted_pk) st) → iter (ref1_sorted_h 0) (exec (ref1_sorted_E N) N (cAt (bodyOf Tryd.f65) [true, true, false, false, false]) 0) N ⟨38, unF ref1_sorted_L0_fs x, unH ref1_sorted_L0_bs y⟩ k = ref1_sorted_L0_F N x y k := fun x y k hk =>
  iter_link (S := (Int) × Unit) (ref1_sorted_h 0) _ (execL (ref1_sorted_LP N) (ref1_sorted_E N) (cAt (bodyOf Tryd.f65) [true, true, false, false, false]) 0) (resD (ref1_sorted_E N) Tryd.f65 (ref1_sorted_sg fun x _ => ref1_sorted N x.1 x.2.1) ref1_sorted_pk) (fun st k hk => execL_eq _ _ N _ (cAt (bodyOf Tryd.f65) [true, true, false, false, false]) 0 (show LoopsOk (ref1_sorted_LP N) (ref1_sorted_E N) N (resD (ref1_sorted_E N) Tryd.f65 (ref1_sorted_sg fun x _ => ref1_sorted N x.1 x.2.1) ref1_sorted_pk) [] from trivial) st k hk) (fun s => ref1_sorted_L0_hd x.1 y.1.1 y.1.2.1 y.1.2.2.1 s.1) k hk
    (fun self s => ref1_sorted_L0T N x.1 y.1.1 (fun o0_5 => k (.exit 0) (ref1_sorted_L0_tl0 x.1 y.1.1 y.1.2.1 y.1.2.2.1 o0_5)) (fun s5 => self (s5, ())) s.1) (fun n s => ref1_sorted_L0 N x.1 y.1.1 (fun o0_5 => k (.exit 0) (ref1_sorted_L0_tl0 x.1 y.1.1 y.1.2.1 y.1.2.2.1 o0_5)) n s.1) (fun _ => rfl) (fun _ _ => rfl)
    (fun I s => ref1_sorted_L0_step N x.1 y.1.1 y.1.2.1 y.1.2.2.1 (fun j => k (.exit j)) I s.1) N (x.2.2.1, ())
theorem ref1_sorted_lp0 (N : Nat) : ∀ st k, (∀ st, k .ret st = (resD (ref1_sorted_E N) Tryd.f65 (ref1_sorted_sg fun x _ => ref1_sorted N x.1 x.2.1) ref1_sorted_pk) st) → ref1_sorted_LP N 0 (cAt (bodyOf Tryd.f65) [true, true, false, false, false]) st k = iter (Env.hint (ref1_sorted_E N) 0) (exec (ref1_sorted_E N) N (cAt (bodyOf Tryd.f65) [true, true, false, false, false]) 0) N st k := fun st k hk => LPc_eq 38 ref1_sorted_L0_fs ref1_sorted_L0_bs _ _ (resD (ref1_sorted_E N) Tryd.f65 (ref1_sorted_sg fun x _ => ref1_sorted N x.1 x.2.1) ref1_sorted_pk) (ref1_sorted_L0_ok N) _ st k hk (rfl)
theorem ref1_sorted_core (N : Nat) (x : SV [.v (.sl (.pr .str (.pr .bool (.sl .u8)))), .v (.pr .str (.pr .bool (.sl .u8)))]) (y : BV []) : runL (ref1_sorted_E N) Tryd.f65 (ref1_sorted_sg fun x _ => ref1_sorted N x.1 x.2.1) ref1_sorted_pk (ref1_sorted_LP N) x y = ref1_sorted N x.1 x.2.1 := by kernel_rfl
theorem ref1_sorted_sound (N : Nat) : Sound Tryd.prog GW B0G 65 (ref1_sorted_sg fun x _ => ref1_sorted N x.1 x.2.1) :=
  runD_sound (mkE_ok ref1_sorted_h (ref1_sorted_fn N) _ _ (ref1_sorted_fn_ok N)) Tryd.func65 rfl Tryd.call65 (ref1_sorted_sg fun x _ => ref1_sorted N x.1 x.2.1) ref1_sorted_pk (fun _ _ => rfl) N (fun x y _ h => ((runL_eq (ref1_sorted_E N) N Tryd.f65 (ref1_sorted_sg fun x _ => ref1_sorted N x.1 x.2.1) ref1_sorted_pk (ref1_sorted_LP N) (show LoopsOk (ref1_sorted_LP N) (ref1_sorted_E N) N (resD (ref1_sorted_E N) Tryd.f65 (ref1_sorted_sg fun x _ => ref1_sorted N x.1 x.2.1) ref1_sorted_pk) [(0, (cAt (bodyOf Tryd.f65) [true, true, false, false, false]))] from ⟨ref1_sorted_lp0 N, trivial⟩) x y).trans (ref1_sorted_core N x y)).trans h)
def ref1_Put_L0T (N : Nat) (x0 : List (Str × Bool × List UInt8)) (x1 : Str) (k0 : (List (Str × Bool × List UInt8)) → Option (List (Str × Bool × List UInt8) × Int)) (self : Int → (List (Str × Bool × List UInt8)) → Option (List (Str × Bool × List UInt8) × Int)) (s11 : Int) (w1010 : List (Str × Bool × List UInt8)) : Option (List (Str × Bool × List UInt8) × Int) :=
  br (decide (s11 < (x0.length : Int)))
    (bnd (geti x0 s11) fun t35 =>
    br (!(t35.1 == x1))
      (bnd (geti x0 s11) fun t43 =>
      bnd (ref1_Lies N t43.1 x1) fun t47 =>
      br (!t47)
        (bnd (geti x0 s11) fun t53 =>
        bnd (geti x0 s11) fun t57 =>
        bnd (ref1_copied N t53 t57.1) fun t60 =>
        br (decide ((w1010.length + [t60].length) * (24 * Ty.sz (.pr .str (.pr .bool (.sl .u8)))) ≤ 140737488355328))
          (self (IntKind.i64.wrap (s11 + (1 : Int))) (w1010 ++ [t60]))
          none)
        (self (IntKind.i64.wrap (s11 + (1 : Int))) w1010))
      (self (IntKind.i64.wrap (s11 + (1 : Int))) w1010))
    (k0 w1010)
def ref1_Put_L0 (N : Nat) (x0 : List (Str × Bool × List UInt8)) (x1 : Str) (k0 : (List (Str × Bool × List UInt8)) → Option (List (Str × Bool × List UInt8) × Int)) : Nat → Int → (List (Str × Bool × List UInt8)) → Option (List (Str × Bool × List UInt8) × Int)
  | 0, _, _ => none
  | n + 1, s11, w1010 => ref1_Put_L0T N x0 x1 k0 (ref1_Put_L0 N x0 x1 k0 n) s11 w1010
def ref1_Put_L1T (N : Nat) (x1 : Str) (x2 : List (Str × Bool × List UInt8)) (k2 : (List (Str × Bool × List UInt8)) → Option (List (Str × Bool × List UInt8) × Int)) (self : (List (Str × Bool × List UInt8)) → Int → Option (List (Str × Bool × List UInt8) × Int)) (s10 : List (Str × Bool × List UInt8)) (s12 : Int) : Option (List (Str × Bool × List UInt8) × Int) :=
  br (decide (s12 < (x2.length : Int)))
    (bnd (geti x2 s12) fun t72 =>
    br (decide (x1.length + ([47] : Str).length ≤ 9223372036854775807))
      (bnd (geti x2 s12) fun t78 =>
      br (decide ((x1 ++ ([47] : Str)).length + t78.1.length ≤ 9223372036854775807))
        (bnd (ref1_copied N t72 ((x1 ++ ([47] : Str)) ++ t78.1)) fun t82 =>
        bnd (ref1_sorted N s10 t82) fun t83 =>
        self t83 (IntKind.i64.wrap (s12 + (1 : Int))))
        none)
      none)
    (k2 s10)
def ref1_Put_L1 (N : Nat) (x1 : Str) (x2 : List (Str × Bool × List UInt8)) (k2 : (List (Str × Bool × List UInt8)) → Option (List (Str × Bool × List UInt8) × Int)) : Nat → (List (Str × Bool × List UInt8)) → Int → Option (List (Str × Bool × List UInt8) × Int)
  | 0, _, _ => none
  | n + 1, s10, s12 => ref1_Put_L1T N x1 x2 k2 (ref1_Put_L1 N x1 x2 k2 n) s10 s12
def ref1_Put (N : Nat) (x0 : List (Str × Bool × List UInt8)) (x1 : Str) (x2 : List (Str × Bool × List UInt8)) : Option (List (Str × Bool × List UInt8) × Int) :=
  bnd (ref1_CheckFiles N x0) fun t15 =>
  br (t15 != (0 : Int))
    (some (([] : List (Str × Bool × List UInt8)), t15))
    (bnd (ref1_CheckFiles N x2) fun t20 =>
    br (t20 != (0 : Int))
      (some (([] : List (Str × Bool × List UInt8)), t20))
      (bnd (ref1_IsPath N x1) fun t25 =>
      br (!t25)
        (some (([] : List (Str × Bool × List UInt8)), (3 : Int)))
        (ref1_Put_L0 N x0 x1 (fun o0_w1010 =>
            ref1_Put_L1 N x1 x2 (fun o1_10 =>
                bnd (ref1_CheckFiles N o1_10) fun t85 =>
                br (t85 != (0 : Int))
                  (some (([] : List (Str × Bool × List UInt8)), t85))
                  (some (o1_10, (0 : Int)))) N o0_w1010 (0 : Int)) N (0 : Int) ([] : List (Str × Bool × List UInt8)))))
abbrev ref1_Put_sg (f : SV [.v (.sl (.pr .str (.pr .bool (.sl .u8)))), .v .str, .v (.sl (.pr .str (.pr .bool (.sl .u8))))] → BV [] → Option (List (Str × Bool × List UInt8) × Int)) : AF := { ps := [.v (.sl (.pr .str (.pr .bool (.sl .u8)))), .v .str, .v (.sl (.pr .str (.pr .bool (.sl .u8))))], bs := [], rs := [.v (.sl (.pr .str (.pr .bool (.sl .u8)))), .v (.int .i64)], cs := [], R := List (Str × Bool × List UInt8) × Int, out := fun z => ((z.1, z.2, ()), ()), f := f }
abbrev ref1_Put_pk : SV [.v (.sl (.pr .str (.pr .bool (.sl .u8)))), .v (.int .i64)] → BV [] → (List (Str × Bool × List UInt8) × Int) := fun x _ => (x.1, x.2.1)
def ref1_Put_fn (N : Nat) : FuncId → Option Tmp → Option AF := fun f _ =>
  match f with
    | 30 => some (ref1_Lies_sg fun x _ => ref1_Lies N x.1 x.2.1)
    | 36 => some (ref1_CheckFiles_sg fun x _ => ref1_CheckFiles N x.1)
    | 40 => some (ref1_IsPath_sg fun x _ => ref1_IsPath N x.1)
    | 64 => some (ref1_copied_sg fun x _ => ref1_copied N x.1 x.2.1)
    | 65 => some (ref1_sorted_sg fun x _ => ref1_sorted N x.1 x.2.1)
    | _ => none
theorem ref1_Put_fn_ok (N : Nat) : ∀ f q F, ref1_Put_fn N f q = some F → Sound Tryd.prog GW B0G f F := by
  intro f q F h
  unfold ref1_Put_fn at h
  split at h
  · cases h; exact ref1_Lies_sound N
  · cases h; exact ref1_CheckFiles_sound N
  · cases h; exact ref1_IsPath_sound N
  · cases h; exact ref1_copied_sound N
  · cases h; exact ref1_sorted_sound N
  · cases h
def ref1_Put_h : Nat → Hint := fun i =>
  match i with
  | 0 => ⟨[], [0, 1, 2, 10, 11], [1010], [1, 2, 10], [1010], []⟩
  | 2 => ⟨[10], [1, 2, 10, 12], [], [10], [], []⟩
  | 100014 => ⟨[], [], [], [], [], []⟩
  | 100018 => ⟨[], [], [], [], [], []⟩
  | _ => ⟨[], [], [], [], [], []⟩
abbrev ref1_Put_E (N : Nat) : Env := mkE ref1_Put_h (ref1_Put_fn N) (fun _ => false) (fun _ => false)
abbrev ref1_Put_L0_fs : List (Nat × Sl) := [(0, .v (.sl (.pr .str (.pr .bool (.sl .u8))))), (1, .v .str), (2, .v (.sl (.pr .str (.pr .bool (.sl .u8))))), (10, .row 1010), (11, .v (.int .i64))]
abbrev ref1_Put_L0_bs : List (Nat × Sb) := [(1010, .row 34 (.pr .str (.pr .bool (.sl .u8))) false)]
def ref1_Put_L0_hd (x0 : List (Str × Bool × List UInt8)) (x1 : Str) (x2 : List (Str × Bool × List UInt8)) (s11 : Int) (w1010 : List (Str × Bool × List UInt8)) : St := ⟨90, [(0, .v (.sl (.pr .str (.pr .bool (.sl .u8)))) x0), (1, .v .str x1), (2, .v (.sl (.pr .str (.pr .bool (.sl .u8)))) x2), (10, .row 1010), (11, .v (.int .i64) s11)], [(1010, .row 34 (.pr .str (.pr .bool (.sl .u8))) false w1010)]⟩
def ref1_Put_L0_tl0 (_x0 : List (Str × Bool × List UInt8)) (x1 : Str) (x2 : List (Str × Bool × List UInt8)) (o0_w1010 : List (Str × Bool × List UInt8)) : St := ⟨90, [(1, .v .str x1), (2, .v (.sl (.pr .str (.pr .bool (.sl .u8)))) x2), (10, .row 1010)], [(1010, .row 34 (.pr .str (.pr .bool (.sl .u8))) false o0_w1010)]⟩
def ref1_Put_L0_G (N : Nat) (x0 : List (Str × Bool × List UInt8)) (x1 : Str) (x2 : List (Str × Bool × List UInt8)) (s11 : Int) (w1010 : List (Str × Bool × List UInt8)) (k : Ex → St → Option (List (Str × Bool × List UInt8) × Int)) : Option (List (Str × Bool × List UInt8) × Int) :=
  ref1_Put_L0 N x0 x1 (fun o0_w1010 => k (.exit 0) (ref1_Put_L0_tl0 x0 x1 x2 o0_w1010)) N s11 w1010
abbrev ref1_Put_L0_F (N : Nat) : FV ref1_Put_L0_fs → HV ref1_Put_L0_bs → (Ex → St → Option (List (Str × Bool × List UInt8) × Int)) → Option (List (Str × Bool × List UInt8) × Int) := fun x y k => ref1_Put_L0_G N x.1 x.2.1 x.2.2.1 x.2.2.2.2.1 y.1 k
abbrev ref1_Put_L1_fs : List (Nat × Sl) := [(1, .v .str), (2, .v (.sl (.pr .str (.pr .bool (.sl .u8))))), (10, .v (.sl (.pr .str (.pr .bool (.sl .u8))))), (12, .v (.int .i64))]
abbrev ref1_Put_L1_bs : List (Nat × Sb) := []
def ref1_Put_L1_hd (x1 : Str) (x2 : List (Str × Bool × List UInt8)) (s10 : List (Str × Bool × List UInt8)) (s12 : Int) : St := ⟨90, [(1, .v .str x1), (2, .v (.sl (.pr .str (.pr .bool (.sl .u8)))) x2), (10, .v (.sl (.pr .str (.pr .bool (.sl .u8)))) s10), (12, .v (.int .i64) s12)], []⟩
def ref1_Put_L1_tl2 (_x1 : Str) (_x2 : List (Str × Bool × List UInt8)) (o1_10 : List (Str × Bool × List UInt8)) : St := ⟨90, [(10, .v (.sl (.pr .str (.pr .bool (.sl .u8)))) o1_10)], []⟩
def ref1_Put_L1_G (N : Nat) (x1 : Str) (x2 : List (Str × Bool × List UInt8)) (s10 : List (Str × Bool × List UInt8)) (s12 : Int) (k : Ex → St → Option (List (Str × Bool × List UInt8) × Int)) : Option (List (Str × Bool × List UInt8) × Int) :=
  ref1_Put_L1 N x1 x2 (fun o1_10 => k (.exit 2) (ref1_Put_L1_tl2 x1 x2 o1_10)) N s10 s12
abbrev ref1_Put_L1_F (N : Nat) : FV ref1_Put_L1_fs → HV ref1_Put_L1_bs → (Ex → St → Option (List (Str × Bool × List UInt8) × Int)) → Option (List (Str × Bool × List UInt8) × Int) := fun x _ k => ref1_Put_L1_G N x.1 x.2.1 x.2.2.1 x.2.2.2.1 k
noncomputable def ref1_Put_LP (N : Nat) : Nat → Code → St → (Ex → St → Option (List (Str × Bool × List UInt8) × Int)) → Option (List (Str × Bool × List UInt8) × Int) := fun i c =>
  match i with
  | 0 => (LPc 90 ref1_Put_L0_fs ref1_Put_L0_bs (ref1_Put_L0_F N) (fun st k => iter (ref1_Put_h 0) (exec (ref1_Put_E N) N c 0) N st k))
  | 2 => (LPc 90 ref1_Put_L1_fs ref1_Put_L1_bs (ref1_Put_L1_F N) (fun st k => iter (ref1_Put_h 2) (exec (ref1_Put_E N) N c 2) N st k))
  | i => fun st k => iter (ref1_Put_h i) (exec (ref1_Put_E N) N c i) N st k
theorem ref1_Put_L1_step (N : Nat) (x1 : Str) (x2 : List (Str × Bool × List UInt8)) (KX : Nat → St → Option (List (Str × Bool × List UInt8) × Int)) (I : St → Option (List (Str × Bool × List UInt8) × Int)) (s10 : List (Str × Bool × List UInt8)) (s12 : Int) :
    execL (ref1_Put_LP N) (ref1_Put_E N) (cAt (bodyOf Tryd.f29) [true, true, true, true, true, true, false, true, false, false]) 2 (ref1_Put_L1_hd x1 x2 s10 s12) (roundK (ref1_Put_h 2) I KX (resD (ref1_Put_E N) Tryd.f29 (ref1_Put_sg fun x _ => ref1_Put N x.1 x.2.1 x.2.2.1) ref1_Put_pk)) = ref1_Put_L1T N x1 x2 (fun o1_10 => KX 2 (ref1_Put_L1_tl2 x1 x2 o1_10)) (fun s10 s12 => I (ref1_Put_L1_hd x1 x2 s10 s12)) s10 s12 := by kernel_rfl
theorem ref1_Put_L1_ok (N : Nat) : ∀ x y k, (∀ st, k .ret st = (resD (ref1_Put_E N) Tryd.f29 (ref1_Put_sg fun x _ => ref1_Put N x.1 x.2.1 x.2.2.1) ref1_Put_pk) st) → iter (ref1_Put_h 2) (exec (ref1_Put_E N) N (cAt (bodyOf Tryd.f29) [true, true, true, true, true, true, false, true, false, false]) 2) N ⟨90, unF ref1_Put_L1_fs x, unH ref1_Put_L1_bs y⟩ k = ref1_Put_L1_F N x y k := fun x _ k hk =>
  iter_link (S := (List (Str × Bool × List UInt8)) × (Int) × Unit) (ref1_Put_h 2) _ (execL (ref1_Put_LP N) (ref1_Put_E N) (cAt (bodyOf Tryd.f29) [true, true, true, true, true, true, false, true, false, false]) 2) (resD (ref1_Put_E N) Tryd.f29 (ref1_Put_sg fun x _ => ref1_Put N x.1 x.2.1 x.2.2.1) ref1_Put_pk) (fun st k hk => execL_eq _ _ N _ (cAt (bodyOf Tryd.f29) [true, true, true, true, true, true, false, true, false, false]) 2 (show LoopsOk (ref1_Put_LP N) (ref1_Put_E N) N (resD (ref1_Put_E N) Tryd.f29 (ref1_Put_sg fun x _ => ref1_Put N x.1 x.2.1 x.2.2.1) ref1_Put_pk) [] from trivial) st k hk) (fun s => ref1_Put_L1_hd x.1 x.2.1 s.1 s.2.1) k hk
    (fun self s => ref1_Put_L1T N x.1 x.2.1 (fun o1_10 => k (.exit 2) (ref1_Put_L1_tl2 x.1 x.2.1 o1_10)) (fun s10 s12 => self (s10, s12, ())) s.1 s.2.1) (fun n s => ref1_Put_L1 N x.1 x.2.1 (fun o1_10 => k (.exit 2) (ref1_Put_L1_tl2 x.1 x.2.1 o1_10)) n s.1 s.2.1) (fun _ => rfl) (fun _ _ => rfl)
    (fun I s => ref1_Put_L1_step N x.1 x.2.1 (fun j => k (.exit j)) I s.1 s.2.1) N (x.2.2.1, x.2.2.2.1, ())
theorem ref1_Put_lp2 (N : Nat) : ∀ st k, (∀ st, k .ret st = (resD (ref1_Put_E N) Tryd.f29 (ref1_Put_sg fun x _ => ref1_Put N x.1 x.2.1 x.2.2.1) ref1_Put_pk) st) → ref1_Put_LP N 2 (cAt (bodyOf Tryd.f29) [true, true, true, true, true, true, false, true, false, false]) st k = iter (Env.hint (ref1_Put_E N) 2) (exec (ref1_Put_E N) N (cAt (bodyOf Tryd.f29) [true, true, true, true, true, true, false, true, false, false]) 2) N st k := fun st k hk => LPc_eq 90 ref1_Put_L1_fs ref1_Put_L1_bs _ _ (resD (ref1_Put_E N) Tryd.f29 (ref1_Put_sg fun x _ => ref1_Put N x.1 x.2.1 x.2.2.1) ref1_Put_pk) (ref1_Put_L1_ok N) _ st k hk (rfl)
theorem ref1_Put_L0_step (N : Nat) (x0 : List (Str × Bool × List UInt8)) (x1 : Str) (x2 : List (Str × Bool × List UInt8)) (KX : Nat → St → Option (List (Str × Bool × List UInt8) × Int)) (I : St → Option (List (Str × Bool × List UInt8) × Int)) (s11 : Int) (w1010 : List (Str × Bool × List UInt8)) :
    execL (ref1_Put_LP N) (ref1_Put_E N) (cAt (bodyOf Tryd.f29) [true, true, true, true, true, false, true, false, false]) 0 (ref1_Put_L0_hd x0 x1 x2 s11 w1010) (roundK (ref1_Put_h 0) I KX (resD (ref1_Put_E N) Tryd.f29 (ref1_Put_sg fun x _ => ref1_Put N x.1 x.2.1 x.2.2.1) ref1_Put_pk)) = ref1_Put_L0T N x0 x1 (fun o0_w1010 => KX 0 (ref1_Put_L0_tl0 x0 x1 x2 o0_w1010)) (fun s11 w1010 => I (ref1_Put_L0_hd x0 x1 x2 s11 w1010)) s11 w1010 := by kernel_rfl
theorem ref1_Put_L0_ok (N : Nat) : ∀ x y k, (∀ st, k .ret st = (resD (ref1_Put_E N) Tryd.f29 (ref1_Put_sg fun x _ => ref1_Put N x.1 x.2.1 x.2.2.1) ref1_Put_pk) st) → iter (ref1_Put_h 0) (exec (ref1_Put_E N) N (cAt (bodyOf Tryd.f29) [true, true, true, true, true, false, true, false, false]) 0) N ⟨90, unF ref1_Put_L0_fs x, unH ref1_Put_L0_bs y⟩ k = ref1_Put_L0_F N x y k := fun x y k hk =>
  iter_link (S := (Int) × (List (Str × Bool × List UInt8)) × Unit) (ref1_Put_h 0) _ (execL (ref1_Put_LP N) (ref1_Put_E N) (cAt (bodyOf Tryd.f29) [true, true, true, true, true, false, true, false, false]) 0) (resD (ref1_Put_E N) Tryd.f29 (ref1_Put_sg fun x _ => ref1_Put N x.1 x.2.1 x.2.2.1) ref1_Put_pk) (fun st k hk => execL_eq _ _ N _ (cAt (bodyOf Tryd.f29) [true, true, true, true, true, false, true, false, false]) 0 (show LoopsOk (ref1_Put_LP N) (ref1_Put_E N) N (resD (ref1_Put_E N) Tryd.f29 (ref1_Put_sg fun x _ => ref1_Put N x.1 x.2.1 x.2.2.1) ref1_Put_pk) [] from trivial) st k hk) (fun s => ref1_Put_L0_hd x.1 x.2.1 x.2.2.1 s.1 s.2.1) k hk
    (fun self s => ref1_Put_L0T N x.1 x.2.1 (fun o0_w1010 => k (.exit 0) (ref1_Put_L0_tl0 x.1 x.2.1 x.2.2.1 o0_w1010)) (fun s11 w1010 => self (s11, w1010, ())) s.1 s.2.1) (fun n s => ref1_Put_L0 N x.1 x.2.1 (fun o0_w1010 => k (.exit 0) (ref1_Put_L0_tl0 x.1 x.2.1 x.2.2.1 o0_w1010)) n s.1 s.2.1) (fun _ => rfl) (fun _ _ => rfl)
    (fun I s => ref1_Put_L0_step N x.1 x.2.1 x.2.2.1 (fun j => k (.exit j)) I s.1 s.2.1) N (x.2.2.2.2.1, y.1, ())
theorem ref1_Put_lp0 (N : Nat) : ∀ st k, (∀ st, k .ret st = (resD (ref1_Put_E N) Tryd.f29 (ref1_Put_sg fun x _ => ref1_Put N x.1 x.2.1 x.2.2.1) ref1_Put_pk) st) → ref1_Put_LP N 0 (cAt (bodyOf Tryd.f29) [true, true, true, true, true, false, true, false, false]) st k = iter (Env.hint (ref1_Put_E N) 0) (exec (ref1_Put_E N) N (cAt (bodyOf Tryd.f29) [true, true, true, true, true, false, true, false, false]) 0) N st k := fun st k hk => LPc_eq 90 ref1_Put_L0_fs ref1_Put_L0_bs _ _ (resD (ref1_Put_E N) Tryd.f29 (ref1_Put_sg fun x _ => ref1_Put N x.1 x.2.1 x.2.2.1) ref1_Put_pk) (ref1_Put_L0_ok N) _ st k hk (rfl)
theorem ref1_Put_core (N : Nat) (x : SV [.v (.sl (.pr .str (.pr .bool (.sl .u8)))), .v .str, .v (.sl (.pr .str (.pr .bool (.sl .u8))))]) (y : BV []) : runL (ref1_Put_E N) Tryd.f29 (ref1_Put_sg fun x _ => ref1_Put N x.1 x.2.1 x.2.2.1) ref1_Put_pk (ref1_Put_LP N) x y = ref1_Put N x.1 x.2.1 x.2.2.1 := by kernel_rfl
theorem ref1_Put_sound (N : Nat) : Sound Tryd.prog GW B0G 29 (ref1_Put_sg fun x _ => ref1_Put N x.1 x.2.1 x.2.2.1) :=
  runD_sound (mkE_ok ref1_Put_h (ref1_Put_fn N) _ _ (ref1_Put_fn_ok N)) Tryd.func29 rfl Tryd.call29 (ref1_Put_sg fun x _ => ref1_Put N x.1 x.2.1 x.2.2.1) ref1_Put_pk (fun _ _ => rfl) N (fun x y _ h => ((runL_eq (ref1_Put_E N) N Tryd.f29 (ref1_Put_sg fun x _ => ref1_Put N x.1 x.2.1 x.2.2.1) ref1_Put_pk (ref1_Put_LP N) (show LoopsOk (ref1_Put_LP N) (ref1_Put_E N) N (resD (ref1_Put_E N) Tryd.f29 (ref1_Put_sg fun x _ => ref1_Put N x.1 x.2.1 x.2.2.1) ref1_Put_pk) [(0, (cAt (bodyOf Tryd.f29) [true, true, true, true, true, false, true, false, false])), (2, (cAt (bodyOf Tryd.f29) [true, true, true, true, true, true, false, true, false, false]))] from ⟨ref1_Put_lp0 N, ref1_Put_lp2 N, trivial⟩) x y).trans (ref1_Put_core N x y)).trans h)
def law1_BlobPartsMatchSpec (N : Nat) (x0 : List (Str × Bool × List UInt8)) (x1 : Str) (x2 : List (Str × Bool × List UInt8)) : Option Bool :=
  bnd (blob_At N x0 x1) fun t18 =>
  bnd (ref1_At N x0 x1) fun t24 =>
  bnd (blob_Put N x0 x1 x2) fun t31 =>
  bnd (ref1_Put N x0 x1 x2) fun t38 =>
  bnd (ref1_SameFiles N t18.2 t24.2) fun t43 =>
  br (t43)
    (br (t18.1 == t24.1)
      (bnd (ref1_SameFiles N t31.1 t38.1) fun t52 =>
      br (t52)
        (br (t31.2 == t38.2)
          (bnd (law1_awake N) fun t60 =>
          some t60)
          (some false))
        (some false))
      (some false))
    (some false)
abbrev law1_BlobPartsMatchSpec_sg (f : SV [.v (.sl (.pr .str (.pr .bool (.sl .u8)))), .v .str, .v (.sl (.pr .str (.pr .bool (.sl .u8))))] → BV [] → Option (Bool)) : AF := { ps := [.v (.sl (.pr .str (.pr .bool (.sl .u8)))), .v .str, .v (.sl (.pr .str (.pr .bool (.sl .u8))))], bs := [], rs := [.v .bool], cs := [], R := Bool, out := fun z => ((z, ()), ()), f := f }
abbrev law1_BlobPartsMatchSpec_pk : SV [.v .bool] → BV [] → Bool := fun x _ => x.1
def law1_BlobPartsMatchSpec_fn (N : Nat) : FuncId → Option Tmp → Option AF := fun f _ =>
  match f with
    | 18 => some (law1_awake_sg fun _ _ => law1_awake N)
    | 23 => some (ref1_SameFiles_sg fun x _ => ref1_SameFiles N x.1 x.2.1)
    | 26 => some (blob_At_sg fun x _ => blob_At N x.1 x.2.1)
    | 27 => some (ref1_At_sg fun x _ => ref1_At N x.1 x.2.1)
    | 28 => some (blob_Put_sg fun x _ => blob_Put N x.1 x.2.1 x.2.2.1)
    | 29 => some (ref1_Put_sg fun x _ => ref1_Put N x.1 x.2.1 x.2.2.1)
    | _ => none
theorem law1_BlobPartsMatchSpec_fn_ok (N : Nat) : ∀ f q F, law1_BlobPartsMatchSpec_fn N f q = some F → Sound Tryd.prog GW B0G f F := by
  intro f q F h
  unfold law1_BlobPartsMatchSpec_fn at h
  split at h
  · cases h; exact law1_awake_sound N
  · cases h; exact ref1_SameFiles_sound N
  · cases h; exact blob_At_sound N
  · cases h; exact ref1_At_sound N
  · cases h; exact blob_Put_sound N
  · cases h; exact ref1_Put_sound N
  · cases h
def law1_BlobPartsMatchSpec_h : Nat → Hint := fun i =>
  match i with
  | _ => ⟨[], [], [], [], [], []⟩
abbrev law1_BlobPartsMatchSpec_E (N : Nat) : Env := mkE law1_BlobPartsMatchSpec_h (law1_BlobPartsMatchSpec_fn N) (fun _ => false) (fun _ => false)
noncomputable def law1_BlobPartsMatchSpec_LP (N : Nat) : Nat → Code → St → (Ex → St → Option Bool) → Option Bool := fun i c =>
  match i with
  | i => fun st k => iter (law1_BlobPartsMatchSpec_h i) (exec (law1_BlobPartsMatchSpec_E N) N c i) N st k
theorem law1_BlobPartsMatchSpec_core (N : Nat) (x : SV [.v (.sl (.pr .str (.pr .bool (.sl .u8)))), .v .str, .v (.sl (.pr .str (.pr .bool (.sl .u8))))]) (y : BV []) : runL (law1_BlobPartsMatchSpec_E N) Tryd.f8 (law1_BlobPartsMatchSpec_sg fun x _ => law1_BlobPartsMatchSpec N x.1 x.2.1 x.2.2.1) law1_BlobPartsMatchSpec_pk (law1_BlobPartsMatchSpec_LP N) x y = law1_BlobPartsMatchSpec N x.1 x.2.1 x.2.2.1 := by kernel_rfl
theorem law1_BlobPartsMatchSpec_sound (N : Nat) : Sound Tryd.prog GW B0G 8 (law1_BlobPartsMatchSpec_sg fun x _ => law1_BlobPartsMatchSpec N x.1 x.2.1 x.2.2.1) :=
  runD_sound (mkE_ok law1_BlobPartsMatchSpec_h (law1_BlobPartsMatchSpec_fn N) _ _ (law1_BlobPartsMatchSpec_fn_ok N)) Tryd.func8 rfl Tryd.call8 (law1_BlobPartsMatchSpec_sg fun x _ => law1_BlobPartsMatchSpec N x.1 x.2.1 x.2.2.1) law1_BlobPartsMatchSpec_pk (fun _ _ => rfl) N (fun x y _ h => ((runL_eq (law1_BlobPartsMatchSpec_E N) N Tryd.f8 (law1_BlobPartsMatchSpec_sg fun x _ => law1_BlobPartsMatchSpec N x.1 x.2.1 x.2.2.1) law1_BlobPartsMatchSpec_pk (law1_BlobPartsMatchSpec_LP N) (show LoopsOk (law1_BlobPartsMatchSpec_LP N) (law1_BlobPartsMatchSpec_E N) N (resD (law1_BlobPartsMatchSpec_E N) Tryd.f8 (law1_BlobPartsMatchSpec_sg fun x _ => law1_BlobPartsMatchSpec N x.1 x.2.1 x.2.2.1) law1_BlobPartsMatchSpec_pk) [] from trivial) x y).trans (law1_BlobPartsMatchSpec_core N x y)).trans h)
end
end Go.Proofs.YthlkidohpiebiaaDoor


/- What functions of the program compute, as plain functions (printed). -/
namespace Go.Proofs.YthlkidohpiebiaaDoor
open Go Go.RowKit
set_option maxRecDepth 100000
set_option linter.unusedVariables false
noncomputable section
end
end Go.Proofs.YthlkidohpiebiaaDoor


/- strings.Trim and strings.Join, out of the kit's contracts. -/
namespace Go.Proofs.YthlkidohpiebiaaDoor
set_option linter.unusedVariables false
set_option linter.unusedSimpArgs false
open Go Go.RowKit Go.Shelf
end Go.Proofs.YthlkidohpiebiaaDoor



/- Splitting, cutting and joining at one byte. No program in sight. -/
namespace Go.Proofs.YthlkidohpiebiaaDoor
set_option linter.unusedVariables false
set_option linter.unusedSimpArgs false
open Go Go.RowKit
def splitC (c : UInt8) : Str → List Str
  | [] => [[]]
  | b :: s => if b = c then [] :: splitC c s else match splitC c s with
    | x :: xs => (b :: x) :: xs
    | [] => [[b]]
theorem splitC_ne (c : UInt8) (s : Str) : splitC c s ≠ [] := by
  cases s with
  | nil => simp [splitC]
  | cons b s => unfold splitC; split; simp; split <;> simp
theorem indexByte_cons (b c : UInt8) (s : Str) : Lib.indexByte (b :: s) c = if b = c then 0 else if Lib.indexByte s c = -1 then -1 else Lib.indexByte s c + 1 := by
  have h := Lib.indexByte_ge s c
  rw [Lib.indexByte]
  by_cases hb : b = c
  · simp [hb]
  · simp only [beq_iff_eq, hb, if_false]
theorem splitK_one (c : UInt8) : ∀ (s : Str), Lib.splitK [c] 0 (Lib.count s [c]) s = splitC c s
  | [] => by simp [Lib.count_one, Lib.splitK, splitC]
  | b :: s => by
    have ih := splitK_one c s
    by_cases hb : b = c
    · subst hb
      rw [Lib.count_cons_eq, Nat.add_comm, Lib.splitK, Lib.index_one, indexByte_cons]
      simp only [if_true]
      show (_ :: Lib.splitK [b] 0 (Lib.count s [b]) s) = _
      rw [ih]
      simp [splitC]
    · rw [Lib.count_cons_ne _ _ _ hb]
      unfold splitC
      rw [if_neg hb, ← ih]
      cases hk : Lib.count s [c] with
      | zero => simp [Lib.splitK]
      | succ k =>
        rw [Lib.splitK, Lib.splitK, Lib.index_one, Lib.index_one, indexByte_cons, if_neg hb]
        have h0 := Lib.indexByte_ge s c
        by_cases h1 : Lib.indexByte s c = -1
        · simp [h1]
        · have h2 : ∃ n : Nat, Lib.indexByte s c = n := ⟨(Lib.indexByte s c).toNat, by omega⟩
          obtain ⟨n, hn⟩ := h2
          have e : ((n : Int) + 1).toNat = n + 1 := by omega
          have e1 : ¬ ((n : Int) = -1) := by omega
          have e2 : ¬ ((n : Int) + 1 = -1) := by omega
          simp [hn, e, e1, e2, Nat.add_right_comm]
theorem splitS_one (s : Str) (c : UInt8) : splitS s [c] = splitC c s := by
  unfold splitS
  have := Lib.splitB_data ⟨[c].toArray⟩ 0 (Lib.countB ⟨s.toArray⟩ ⟨[c].toArray⟩) ⟨s.toArray⟩
  rw [this]
  exact splitK_one c s
theorem splitC_len (c : UInt8) : ∀ s : Str, (splitC c s).length = s.count c + 1
  | [] => rfl
  | b :: s => by
    have ih := splitC_len c s
    unfold splitC
    by_cases hb : b = c
    · rw [if_pos hb]; simp [hb, ih]
    · rw [if_neg hb, List.count_cons_of_ne hb, ← ih]
      have := splitC_ne c s
      cases h : splitC c s with
      | nil => exact absurd h this
      | cons => rfl
theorem strings_Split_one (s : Str) (c : UInt8) (h : s.length < 4294967281) : strings_Split s [c] = some (splitC c s) := by
  have hc : s.count c ≤ s.length := List.count_le_length
  unfold strings_Split
  rw [splitS_one, splitC_len]
  refine if_pos ⟨h, by simp, ?_, by omega⟩
  show _ = Lib.count s [c] + 1
  rw [Lib.count_one]
theorem splitC_mem (c : UInt8) (s : Str) : ∀ x ∈ splitC c s, c ∉ x ∧ x.length ≤ s.length := by
  induction s with
  | nil => intro x hx; simp [splitC] at hx; subst hx; simp
  | cons b s ih =>
    intro x hx
    unfold splitC at hx
    by_cases hb : b = c
    · rw [if_pos hb] at hx
      rcases List.mem_cons.1 hx with rfl | hx
      · simp
      · have := ih x hx; exact ⟨this.1, by simp; omega⟩
    · rw [if_neg hb] at hx
      cases h : splitC c s with
      | nil => exact absurd h (splitC_ne c s)
      | cons y ys =>
        rw [h] at hx ih
        rcases List.mem_cons.1 hx with rfl | hx
        · have := ih y (by simp)
          refine ⟨fun hm => ?_, by simp; omega⟩
          rcases List.mem_cons.1 hm with e | hm
          · exact hb e.symm
          · exact this.1 hm
        · have := ih x (List.mem_cons_of_mem _ hx); exact ⟨this.1, by simp; omega⟩
end Go.Proofs.YthlkidohpiebiaaDoor


/- The arguments of a law, as the statement's reading hands them over, as data of the machine: any type. -/
namespace Go.Proofs.YthlkidohpiebiaaDoor
set_option linter.unusedVariables false
set_option linter.unusedSimpArgs false
open Go Go.RowKit Go.ChangeShapes Go.WideShapes
/-- Nothing is longer than Go lets it be. -/
def FitG (RR : (i : RC) → i.den → Prop) : (t : Ty) → t.den → Prop
  | .u8, _ => True
  | .int k, x => (Lit.int k x).wf = true
  | .bool, _ => True
  | .str, x => x.length ≤ maxLen
  | .sl t, xs => xs.length ≤ maxLen ∧ ∀ x ∈ xs, FitG RR t x
  | .pr a b, x => FitG RR a x.1 ∧ FitG RR b x.2
  | .un, _ => True
  | .mp _, _ => True
  | .ptr _, _ => True
  | .np _, _ => True
  | .clo _ _, _ => True
  | .rc i, x => RR i x
def FitR (i : RC) (x : i.den) : Prop := ∀ RR : (i : RC) → i.den → Prop, (∀ j y, FitG RR j.body (j.un y) → RR j y) → RR i x
def Fit : (t : Ty) → t.den → Prop := FitG FitR
theorem FitG.mono {RR RR' : (i : RC) → i.den → Prop} (hR : ∀ i x, RR i x → RR' i x) : ∀ (t : Ty) (x : t.den), FitG RR t x → FitG RR' t x
  | .u8, _, h => h
  | .int _, _, h => h
  | .bool, _, h => h
  | .str, _, h => h
  | .sl t, _, h => ⟨h.1, fun x hx => FitG.mono hR t x (h.2 x hx)⟩
  | .pr a b, _, h => ⟨FitG.mono hR a _ h.1, FitG.mono hR b _ h.2⟩
  | .un, _, h => h
  | .mp _, _, h => h
  | .ptr _, _, h => h
  | .np _, _, h => h
  | .clo _ _, _, h => h
  | .rc i, x, h => hR i x h
theorem FitR.intro {i : RC} {x : i.den} (h : Fit i.body (i.un x)) : FitR i x :=
  fun RR hc => hc i x (FitG.mono (fun j y hy => hy RR hc) _ _ h)
theorem FitR.elim {i : RC} {x : i.den} (h : FitR i x) : Fit i.body (i.un x) :=
  h (fun j y => Fit j.body (j.un y)) fun _ _ hy => FitG.mono (fun _ _ h => FitR.intro h) _ _ hy
mutual
/-- A type of the program is this one, down to its parts. -/
inductive Deep (P : Program) (R : RC → Option TypeId) : Ty → TypeId → Prop where
  | u8 {T : TypeId} : P.underlying T = some (.int .u8) → Deep P R .u8 T
  | int {T : TypeId} {k : IntKind} : P.underlying T = some (.int k) → Deep P R (.int k) T
  | bool {T : TypeId} : P.underlying T = some .bool → Deep P R .bool T
  | str {T : TypeId} : P.underlying T = some .string → Deep P R .str T
  | sl {T e : TypeId} {t : Ty} : P.underlying T = some (.slice e) → P.cellsOf e = t.sz → Deep P R t e → Deep P R (.sl t) T
  | st {T : TypeId} {t : Ty} {fs : Array Field} : P.underlying T = some (.struct fs) → P.cellsOf T = t.sz → t.isAgg = true → DeepF P R t fs.toList 0 → Deep P R t T
  | rc {T : TypeId} {i : RC} : R i = some T → Deep P R (.rc i) T
/-- The same, of fields from a place on. -/
inductive DeepF (P : Program) (R : RC → Option TypeId) : Ty → List Field → Nat → Prop where
  | nil {o : Nat} : DeepF P R .un [] o
  | one {t : Ty} {f : Field} {o : Nat} : f.offset = o → P.cellsOf f.type = t.sz → Deep P R t f.type → DeepF P R t [f] o
  | single {t : Ty} {f : Field} {o : Nat} : f.offset = o → P.cellsOf f.type = t.sz → Deep P R t f.type → DeepF P R (.pr t .un) [f] o
  | cons {a b : Ty} {f : Field} {fs : List Field} {o : Nat} : f.offset = o → P.cellsOf f.type = a.sz → Deep P R a f.type → DeepF P R b fs (o + a.sz) → DeepF P R (.pr a b) (f :: fs) o
end
def RcOk (P : Program) (R : RC → Option TypeId) : Prop := ∀ i T, R i = some T → ∃ fs, P.underlying T = some (.struct fs) ∧ P.cellsOf T = i.sz ∧ DeepF P R i.body fs.toList 0
abbrev M00 : Nat → Nat → Prop := fun _ _ => False
section
variable {H : Type} {enc : TypeId × Value → H} {P : Program} {w : World} {spare : Nat → Bool} {held : Bool} {R : RC → Option TypeId}
theorem choose_list {α : Type} {p : Nat → α → Prop} : ∀ n, (∀ i, i < n → ∃ x, p i x) → ∃ l : List α, l.length = n ∧ ∀ i (h : i < l.length), p i l[i]
  | 0, _ => ⟨[], rfl, fun i h => absurd h (Nat.not_lt_zero _)⟩
  | n + 1, h => by
    obtain ⟨l, hl, hp⟩ := choose_list n fun i hi => h i (Nat.lt_succ_of_lt hi)
    obtain ⟨x, hx⟩ := h n (Nat.lt_succ_self _)
    refine ⟨l ++ [x], by simp [hl], fun i hi => ?_⟩
    rcases Nat.lt_or_ge i l.length with h' | h'
    · rw [List.getElem_append_left h']; exact hp i h'
    · have : i = l.length := by simp at hi; omega
      subst this
      simp [hl, hx]
theorem pl_of_cells {a : Addr} {n : Nat} {cs : List Value} (h : w.cells? 0 a n = some cs) : Pl M00 w a cs := by
  intro j u hu
  refine ⟨?_, id⟩
  unfold World.cells? at h
  rw [if_pos (Nat.zero_le _)] at h
  have hl := mapM_some_length h
  have hj : j < n := by
    rcases Nat.lt_or_ge j cs.length with h' | h'
    · rw [hl, List.length_range] at h'; exact h'
    · rw [List.getElem?_eq_none h'] at hu; cases hu
  have := mapM_some_get h j j (by rw [List.getElem?_range hj])
  rw [this]; exact hu
/-- What fields read as. -/
theorem fields_rep {fuel : Nat} {cs : List Value}
    (ih : ∀ (t : Ty) (T : TypeId) (cs : List Value) (x : DataW H × List MemPlace), Deep P R t T → DataW.trod enc P w 0 spare held fuel T cs = some x → ∃ d : t.den, RepC M00 w t d cs ∧ Fit t d) :
    ∀ (fs : List Field) (t : Ty) (o : Nat) (xs : List (DataW H × List MemPlace)), DeepF P R t fs o →
      (fs.mapM fun f => DataW.trod enc P w 0 spare held fuel f.type ((cs.drop f.offset).take (P.cellsOf f.type))) = some xs → ∃ d : t.den, RepC M00 w t d ((cs.drop o).take t.sz) ∧ Fit t d := by
  intro fs
  induction fs with
  | nil =>
    intro t o xs hd _
    cases hd
    exact ⟨(), List.take_zero, trivial⟩
  | cons f fs hfs =>
    intro t o xs hd hm
    have hhead : ∃ y, DataW.trod enc P w 0 spare held fuel f.type ((cs.drop f.offset).take (P.cellsOf f.type)) = some y := by
      have := mapM_some_get hm 0 f rfl
      cases hx : xs[0]? with
      | none =>
        have hl := mapM_some_length hm
        rw [List.getElem?_eq_none_iff] at hx
        simp at hl; omega
      | some y => exact ⟨y, this.trans hx⟩
    have htail : ∃ ys, (fs.mapM fun f => DataW.trod enc P w 0 spare held fuel f.type ((cs.drop f.offset).take (P.cellsOf f.type))) = some ys := by
      rw [List.mapM_cons] at hm
      obtain ⟨y, hy⟩ := hhead
      rw [hy] at hm
      cases hys : (fs.mapM fun f => DataW.trod enc P w 0 spare held fuel f.type ((cs.drop f.offset).take (P.cellsOf f.type))) with
      | none => rw [hys] at hm; cases hm
      | some ys => exact ⟨ys, rfl⟩
    obtain ⟨y, hy⟩ := hhead
    obtain ⟨ys, hys⟩ := htail
    cases hd with
    | one ho hc h1 =>
      rw [ho, hc] at hy
      exact ih _ _ _ _ h1 hy
    | single ho hc h1 =>
      rw [ho, hc] at hy
      obtain ⟨d, hd1, hd2⟩ := ih _ _ _ _ h1 hy
      exact ⟨(d, ()), ⟨_, [], (List.append_nil _).symm, hd1, rfl⟩, hd2, trivial⟩
    | @cons a b _ _ _ ho hc h1 h2 =>
      rw [ho, hc] at hy
      obtain ⟨d, hd1, hd2⟩ := ih _ _ _ _ h1 hy
      obtain ⟨e, he1, he2⟩ := hfs _ _ _ h2 hys
      refine ⟨(d, e), ⟨_, _, ?_, hd1, he1⟩, hd2, he2⟩
      show (cs.drop o).take (a.sz + b.sz) = _
      rw [List.take_add, List.drop_drop]
theorem trod_rep (hR : RcOk P R) : ∀ (fuel : Nat) (t : Ty) (T : TypeId) (cs : List Value) (x : DataW H × List MemPlace), Deep P R t T → DataW.trod enc P w 0 spare held fuel T cs = some x →
    ∃ d : t.den, RepC M00 w t d cs ∧ Fit t d := by
  intro fuel
  induction fuel with
  | zero => intro t T cs x _ h; cases h
  | succ fuel ih =>
    intro t T cs x hd h
    have hstruct : ∀ (t : Ty) (fs : Array Field), P.underlying T = some (.struct fs) → P.cellsOf T = t.sz → DeepF P R t fs.toList 0 → ∃ d : t.den, RepC M00 w t d cs ∧ Fit t d := fun t fs hu hc hf => by
      unfold DataW.trod at h
      simp only [hu] at h
      split at h
      · rename_i hl
        cases hm : (fs.toList.mapM fun f => DataW.trod enc P w 0 spare held fuel f.type ((cs.drop f.offset).take (P.cellsOf f.type))) with
        | none => rw [hm] at h; cases h
        | some xs =>
          obtain ⟨d, h1, h2⟩ := fields_rep ih fs.toList t 0 xs hf hm
          rw [List.drop_zero, List.take_of_length_le (by omega)] at h1
          exact ⟨d, h1, h2⟩
      · cases h
    cases hd with
    | u8 hu =>
      have hx : ∃ n, cs = [.int .u8 n] ∧ (Lit.int .u8 n).wf = true := by
        unfold DataW.trod at h
        split at h <;> simp_all
      obtain ⟨n, rfl, hn⟩ := hx
      refine ⟨UInt8.ofNat n.toNat, ?_, trivial⟩
      show [Value.int .u8 n] = [Value.int .u8 (UInt8.ofNat n.toNat).toNat]
      simp [Lit.wf, IntKind.min, IntKind.max, IntKind.signed, IntKind.bits] at hn
      have : ((UInt8.ofNat n.toNat).toNat : Int) = n := by simp; omega
      rw [this]
    | @int _ k hu =>
      have hx : ∃ n, cs = [.int k n] ∧ (Lit.int k n).wf = true := by
        unfold DataW.trod at h
        split at h <;> simp_all
      obtain ⟨n, rfl, hn⟩ := hx
      exact ⟨n, rfl, hn⟩
    | bool hu =>
      have hx : ∃ b, cs = [.bool b] := by
        unfold DataW.trod at h
        split at h <;> simp_all
      obtain ⟨b, rfl⟩ := hx
      exact ⟨b, rfl, trivial⟩
    | str hu =>
      have hx : ∃ s : ByteArray, cs = [.string s] ∧ s.size ≤ maxLen := by
        unfold DataW.trod at h
        split at h <;> simp_all
      obtain ⟨s, rfl, hn⟩ := hx
      refine ⟨s.data.toList, ?_, ?_⟩
      · show [Value.string s] = [Value.string ⟨s.data.toList.toArray⟩]
        simp
      · show s.data.toList.length ≤ maxLen
        simpa using hn
    | @sl _ e t hu hc he =>
      have hx : cs = [.slice none 0 0] ∨ ∃ a len cap, cs = [.slice (some a) len cap] ∧ len ≤ cap ∧ cap ≤ maxLen ∧
          ∀ i, i < len → ∃ y, (w.cells? 0 (a.add (i * P.cellsOf e)) (P.cellsOf e)).bind (DataW.trod enc P w 0 spare held fuel e) = some y := by
        unfold DataW.trod at h
        split at h
        all_goals try (simp_all; done)
        · rename_i hu2
          rw [hu] at hu2
          cases hu2
          simp only at h
          split at h
          · rename_i hb
            right
            refine ⟨_, _, _, rfl, hb.2.1, hb.2.2, fun i hi => ?_⟩
            cases hm : ((List.range _).mapM fun i => (w.cells? 0 (Addr.add _ (i * P.cellsOf e)) (P.cellsOf e)).bind (DataW.trod enc P w 0 spare held fuel e)) with
            | none => rw [hm] at h; cases h
            | some ys =>
              have h1 := mapM_some_get hm i i (by rw [List.getElem?_range hi])
              have hl := mapM_some_length hm
              rw [List.length_range] at hl
              exact ⟨ys[i]'(by omega), h1.trans (List.getElem?_eq_getElem (by omega))⟩
          · cases h
      rcases hx with rfl | ⟨a, len, cap, rfl, h1, h2, h3⟩
      · exact ⟨[], ⟨none, 0, rfl, Nat.le_refl _, Nat.zero_le _, fun i h => absurd h (Nat.not_lt_zero _)⟩, Nat.zero_le _, fun x h => by cases h⟩
      · have hall : ∀ i, i < len → ∃ d : t.den, (∃ es, RepC M00 w t d es ∧ Pl M00 w (a.add (i * t.sz)) es) ∧ Fit t d := fun i hi => by
          obtain ⟨y, hy⟩ := h3 i hi
          rw [hc] at hy
          cases hcs : w.cells? 0 (a.add (i * t.sz)) t.sz with
          | none => rw [hcs] at hy; cases hy
          | some es =>
            rw [hcs] at hy
            obtain ⟨d, hd1, hd2⟩ := ih _ _ _ _ he hy
            exact ⟨d, ⟨es, hd1, pl_of_cells hcs⟩, hd2⟩
        obtain ⟨l, hl, hp⟩ := choose_list len hall
        refine ⟨l, ⟨some a, cap, ?_, by omega, h2, fun i hi => ?_⟩, ?_, fun x hx => ?_⟩
        · rw [hl]
        · obtain ⟨⟨es, e1, e2⟩, _⟩ := hp i hi
          exact ⟨a, es, rfl, e1, e2⟩
        · show l.length ≤ maxLen; omega
        · obtain ⟨i, hi, rfl⟩ := List.getElem_of_mem hx
          exact (hp i hi).2
    | st hu hc ha hf => exact hstruct t _ hu hc hf
    | rc hr =>
      obtain ⟨fs, hu, hc, hf⟩ := hR _ _ hr
      rename_i i
      obtain ⟨d, h1, h2⟩ := hstruct i.body fs hu (by rw [hc, RC.sz_body]) hf
      refine ⟨i.mk d, RepC.rc.2 (by rw [RC.un_mk]; exact h1), FitR.intro (by rw [RC.un_mk]; exact h2)⟩
/-- An argument. -/
theorem arg_open (hR : RcOk P R) {r : Reach} {base : Nat} {t : Ty} {T : TypeId} {v : Value} {d : DataW H} {p : List MemPlace} (hd : Deep P R t T) (hv : Value.okWide P w r base T v) (h : DataW.Trod enc P w 0 spare held T v d p) :
    ∃ x : t.den, RepV M00 w t x v ∧ Fit t x := by
  obtain ⟨fuel, hf⟩ := h
  obtain ⟨x, h1, h2⟩ := trod_rep hR fuel t T _ _ hd hf
  refine ⟨x, ⟨_, h1, ?_⟩, h2⟩
  have hagg : ∀ fs, P.underlying T = some (.struct fs) → t.isAgg = true → v = mkV t v.cells.toList := fun fs hu ha => by
    obtain ⟨cs, rfl, _⟩ := okWide_struct hu hv
    rw [mkV_agg ha]
    simp [Value.cells]
  have hone : ∀ c : Value, v = c → c.cells = #[c] → t.isAgg = false → v = mkV t v.cells.toList := fun c e hc ha => by
    subst e
    rw [hc, mkV_plain ha]
  cases hd with
  | u8 hu => obtain ⟨n, rfl⟩ := okWide_int hu hv; exact hone _ rfl rfl rfl
  | int hu => obtain ⟨n, rfl⟩ := okWide_int hu hv; exact hone _ rfl rfl rfl
  | bool hu => obtain ⟨n, rfl⟩ := okWide_bool hu hv; exact hone _ rfl rfl rfl
  | str hu => obtain ⟨n, rfl⟩ := okWide_string hu hv; exact hone _ rfl rfl rfl
  | sl hu _ _ => obtain ⟨a, l, c, rfl⟩ := okWide_slice hu hv; exact hone _ rfl rfl rfl
  | st hu _ ha _ => exact hagg _ hu ha
  | rc hr => obtain ⟨fs, hu, _⟩ := hR _ _ hr; exact hagg _ hu rfl
end
/-- A law is called. -/
theorem law_run {P : Program} {f : FuncId} {ps : List Sl} {F : SV ps → BV [] → Option Bool} {out : Bool → SV [.v .bool] × BV []} (hout : ∀ z, (out z).1 = (z, ())) (hs : Sound P GW B0G f ⟨ps, [], [.v .bool], [], Bool, out, F⟩)
    {W : World} {vs : List Value} {x : SV ps} (hg : GW W) (ha : All2 (RepD0 M00 W g0) (lays id ps x) vs) (hf : F x () = some true) : Calls P f vs.toArray W fun e W' => e = .returned (.bool true) ∧ Ext W W' := by
  refine (hs.2 M00 W g0 vs x () true hg (GW_size hg) { args := ha, res := fun r blk h => (by cases h), dom := fun r gx h => (by cases h), inj := fun _ _ _ _ _ h => (by cases h), low := fun _ _ _ h => (by cases h), chg := fun _ _ _ _ h => (by cases h), mlt := fun b o h => h.elim, row := fun _ _ _ h => (by cases h) } hf).mono fun e W' hp => ?_
  obtain ⟨vs', g', he, hE, _, hF, _⟩ := hp
  refine ⟨?_, hE.ext fun b hb => ?_⟩
  · have := hF.args
    rw [hout] at this
    match vs', this with
    | [v], ⟨h1, _⟩ =>
      have h2 := RepV.plain (t := .bool) rfl h1
      have h3 : [v] = [.bool true] := h2
      injection h3 with h3
      rw [he, h3]
      rfl
  · obtain ⟨r, x, h, _⟩ := hb
    cases h
end Go.Proofs.YthlkidohpiebiaaDoor


/- Patterns in the program and in its reference (law 6), in plain Lean. -/
namespace Go.Proofs.YthlkidohpiebiaaDoor
set_option linter.unusedVariables false
set_option linter.unusedSimpArgs false
open Go Go.RowKit
theorem parts_len {x : Str} (h : x.length < 1000000) : (splitC 47 x).length ≤ 1000000 := by
  rw [splitC_len]
  have := List.count_le_length (a := (47 : UInt8)) (l := x)
  omega
theorem parts_le {x : Str} (h : x.length < 1000000) : ∀ q ∈ splitC 47 x, q.length ≤ 1000000 := fun q hq => by
  have := (splitC_mem 47 x q hq).2
  omega
theorem inPart_fin (N : Nat) : ∀ n : Fin 256, blob_inPart 0 (UInt8.ofNat n.1) = ref1_partByte 0 (UInt8.ofNat n.1) := by decide +kernel
theorem inPart_eq (N : Nat) (c : UInt8) : blob_inPart N c = ref1_partByte N c := by
  have h := inPart_fin 0 ⟨c.toNat, c.toNat_lt⟩
  have e : UInt8.ofNat c.toNat = c := by simp
  simp only [e] at h
  exact h
theorem isPart_eq (N : Nat) (x : Str) : blob_isPart N x = ref1_isPart N x := by
  have gen : ∀ (k : Option Bool) (n : Nat) (i : Int), blob_isPart_L0 N x (x.length : Int) k n i = ref1_isPart_L0 N x k n i := by
    intro k n
    induction n with
    | zero => intro i; rfl
    | succ n ih =>
      intro i
      show blob_isPart_L0T N x _ k _ i = ref1_isPart_L0T N x k _ i
      unfold blob_isPart_L0T ref1_isPart_L0T
      simp only [inPart_eq, ih]
  exact gen _ _ _
theorem isPath_eq (N : Nat) (x : Str) : blob_IsPath N x = ref1_IsPath N x := by
  have gen : ∀ (P : List Str) (k : Option Bool) (n : Nat) (i : Int), blob_IsPath_L0 N P (P.length : Int) k n i = ref1_IsPath_L0 N P k n i := by
    intro P k n
    induction n with
    | zero => intro i; rfl
    | succ n ih =>
      intro i
      show blob_IsPath_L0T N P _ k _ i = ref1_IsPath_L0T N P k _ i
      unfold blob_IsPath_L0T ref1_IsPath_L0T
      simp only [isPart_eq, ih]
  unfold blob_IsPath ref1_IsPath ref1_within
  simp only [gen]
  by_cases h1 : (x.length : Int) < 1
  · rw [br_pos h1, br_neg (by omega)]; simp
  · rw [br_neg h1]
    by_cases h2 : (x.length : Int) > 200
    · rw [br_pos h2, br_pos (by omega), decide_eq_false (by omega)]; simp
    · rw [br_neg h2, br_pos (by omega), decide_eq_true (by omega)]; simp
theorem scan_loop {α R : Type} {xs : List α} (ok : α → Bool) {k bad : Option R} {f : Nat → Int → Option R} (hstep : ∀ n i (hi : i < xs.length), f (n + 1) (i : Int) = if ok xs[i] = true then f n ((i + 1 : Nat) : Int) else bad)
    (hend : ∀ n, f (n + 1) (xs.length : Int) = k) : ∀ n, xs.length < n → f n 0 = if xs.all ok = true then k else bad := by
  have gen : ∀ (d n i : Nat), i + d = xs.length → d < n → f n (i : Int) = if (xs.drop i).all ok = true then k else bad := by
    intro d
    induction d with
    | zero =>
      intro n i h hn
      obtain ⟨n, rfl⟩ : ∃ j, n = j + 1 := ⟨n - 1, by omega⟩
      obtain rfl : i = xs.length := by omega
      rw [hend, List.drop_length]; rfl
    | succ d ih =>
      intro n i h hn
      obtain ⟨n, rfl⟩ : ∃ j, n = j + 1 := ⟨n - 1, by omega⟩
      have hi : i < xs.length := by omega
      rw [hstep n i hi, ih n (i + 1) (by omega) (by omega), List.drop_eq_getElem_cons hi, List.all_cons]
      cases ok xs[i] <;> simp
  intro n hn
  have := gen xs.length n 0 (by omega) hn
  simpa using this
def byteB (c : UInt8) : Bool := (ref1_partByte 0 c).getD false
theorem byte_fin : ∀ n : Fin 256, ref1_partByte 0 (UInt8.ofNat n.1) = some (byteB (UInt8.ofNat n.1)) := by decide +kernel
theorem byte_eq (N : Nat) (c : UInt8) : ref1_partByte N c = some (byteB c) := by
  have h := byte_fin ⟨c.toNat, c.toNat_lt⟩
  have e : UInt8.ofNat c.toNat = c := by simp
  simp only [e] at h
  exact h
theorem part_scan {N : Nat} {x : Str} (hx : x.length ≤ 1000000) (k : Option Bool) : ∀ n, x.length < n → ref1_isPart_L0 N x k n 0 = if x.all byteB = true then k else some false := by
  refine scan_loop byteB (fun n i hi => ?_) (fun n => ?_)
  · show ref1_isPart_L0T N x k _ (i : Int) = _
    have hw : IntKind.i64.wrap ((i : Int) + 1) = ((i + 1 : Nat) : Int) := by rw [wrap_id (by omega) (by omega)]; omega
    unfold ref1_isPart_L0T
    rw [br_pos (by omega : (i : Int) < (x.length : Int)), geti_lt x hi, bnd_some, byte_eq, bnd_some, hw]
    cases byteB x[i] <;> simp
  · show ref1_isPart_L0T N x k _ (x.length : Int) = _
    unfold ref1_isPart_L0T
    rw [br_neg (by omega)]
def partP (x : Str) : Bool := x.all byteB && !(x == []) && !(x == [46]) && !(x == [46, 46])
theorem isPart_val {N : Nat} (hN : big ≤ N) {x : Str} (hx : x.length ≤ 1000000) : ref1_isPart N x = some (partP x) := by
  have hb : (18446744073709551616 : Nat) ≤ N := hN
  unfold ref1_isPart partP
  rw [part_scan hx _ N (by omega)]
  cases x.all byteB <;> cases (x == ([] : Str)) <;> cases (x == ([46] : Str)) <;> cases (x == ([46, 46] : Str)) <;> simp
def pathB (x : Str) : Bool := decide (1 ≤ x.length) && (decide (x.length ≤ 200) && (splitC 47 x).all partP)
theorem isPath_val {N : Nat} (hN : big ≤ N) {x : Str} (h : x.length < 1000000) : ref1_IsPath N x = some (pathB x) := by
  have hb : (18446744073709551616 : Nat) ≤ N := hN
  unfold ref1_IsPath ref1_within pathB
  rw [strings_Split_one _ _ (by omega)]
  simp only [bnd_some]
  have hl := parts_len h
  have hP := parts_le h
  generalize splitC 47 x = P at hl hP ⊢
  have h1 : ref1_IsPath_L0 N P (some true) N 0 = if P.all partP = true then some true else some false := by
    refine scan_loop partP (fun n i hi => ?_) (fun n => ?_) N (by omega)
    · show ref1_IsPath_L0T N P _ _ (i : Int) = _
      have hw : IntKind.i64.wrap ((i : Int) + 1) = ((i + 1 : Nat) : Int) := by rw [wrap_id (by omega) (by omega)]; omega
      unfold ref1_IsPath_L0T
      rw [br_pos (by omega : (i : Int) < (P.length : Int)), geti_lt P hi, bnd_some, hw, isPart_val hN (hP P[i] (List.getElem_mem _)), bnd_some]
      cases partP P[i] <;> simp
    · show ref1_IsPath_L0T N P _ _ (P.length : Int) = _
      unfold ref1_IsPath_L0T
      rw [br_neg (by omega)]
  rw [h1]
  by_cases g0 : 1 ≤ x.length
  · rw [br_pos (by omega : (x.length : Int) ≥ 1), decide_eq_true g0]
    by_cases g1 : x.length ≤ 200
    · rw [decide_eq_true (by omega : (x.length : Int) ≤ 200), decide_eq_true g1]
      cases P.all partP <;> simp
    · rw [decide_eq_false (by omega : ¬ (x.length : Int) ≤ 200), decide_eq_false g1]; simp
  · rw [br_neg (by omega : ¬ (x.length : Int) ≥ 1), decide_eq_false g0]; simp
theorem awake_n (n : Nat) : law1_awake (n + 40) = some true := by kernel_rfl
theorem awake_ok {N : Nat} (hN : big ≤ N) : law1_awake N = some true := by
  have hb : (18446744073709551616 : Nat) ≤ N := hN
  obtain ⟨n, rfl⟩ : ∃ n, N = n + 40 := ⟨N - 40, by omega⟩
  exact awake_n n
theorem isPath_long {N : Nat} {x : Str} (h : ¬ x.length < 1000000) : ref1_IsPath N x = some false := by
  unfold ref1_IsPath ref1_within
  rw [br_pos (by omega), decide_eq_false (by omega)]
  simp
theorem isPath_all {N : Nat} (hN : big ≤ N) (x : Str) : ref1_IsPath N x = some (pathB x) := by
  by_cases h : x.length < 1000000
  · exact isPath_val hN h
  · rw [isPath_long h]; unfold pathB; rw [decide_eq_false (by omega : ¬ x.length ≤ 200)]; simp
end Go.Proofs.YthlkidohpiebiaaDoor


/- What CheckFiles says in the program and in its reference, in plain Lean. -/
namespace Go.Proofs.YthlkidohpiebiaaDoor
set_option linter.unusedVariables false
set_option linter.unusedSimpArgs false
open Go Go.RowKit
abbrev FileT := Str × Bool × List UInt8
theorem exits_map {α β : Type} (g : α → β) (ex : Nat → Option α) : ∀ d i, exits (fun i => (ex i).map g) d i = (exits ex d i).map g
  | 0, _ => rfl
  | d + 1, i => by
    unfold exits
    cases ex i with
    | some z => rfl
    | none => exact exits_map g ex d (i + 1)
theorem exits_any {α : Type} (c : Nat → Bool) (z r : α) (m : Nat) : (exits (fun i => if c i = true then some z else none) m 0).getD r = if (List.range m).any c = true then z else r := by
  cases h : exits (fun i => if c i = true then some z else none) m 0 with
  | none =>
    have h' := exits_none.1 h
    have : (List.range m).any c = false := by
      rw [List.any_eq_false]
      intro j hj hc
      have := h' j (Nat.zero_le _) (by simpa using hj)
      rw [if_pos hc] at this; cases this
    rw [this]; rfl
  | some y =>
    obtain ⟨j, _, h2, h3, _⟩ := exits_some h
    by_cases hc : c j = true
    · rw [if_pos hc] at h3
      have : (List.range m).any c = true := List.any_eq_true.2 ⟨j, by simpa using h2, hc⟩
      rw [this, if_pos rfl]
      exact (Option.some.inj h3).symm
    · rw [if_neg hc] at h3; cases h3
/-- Whether a path lies within one that is there. -/
def clashB (has : Str → Bool) (x : Str) : Bool := (List.range x.length).any fun i => x[i]? == some 47 && has (x.take i)
theorem clash_blob {N : Nat} (hN : big ≤ N) {m : List (Str × Bool)} {has : Str → Bool} (hm : ∀ p, (mget m p).getD (zero .bool) = has p) {x : Str} (hx : x.length ≤ 1000000) : blob_clashes N m x = some (clashB has x) := by
  have hb : (18446744073709551616 : Nat) ≤ N := hN
  unfold blob_clashes clashB
  refine (exit_loop (S := Int) x.length (fun i => (i : Int)) (fun i => if (x[i]? == some 47 && has (x.take i)) = true then some (some true) else none) (f := fun n s => blob_clashes_L0 N m x (x.length : Int) (some false) n s) (r := some false) (fun n i hi => ?_) (fun n => ?_) N (by omega)).trans ?_
  · show blob_clashes_L0T N m x _ _ (blob_clashes_L0 N m x _ _ n) (i : Int) = _
    have hw : IntKind.i64.wrap ((i : Int) + 1) = ((i + 1 : Nat) : Int) := by rw [wrap_id (by omega) (by omega)]; omega
    unfold blob_clashes_L0T
    rw [br_pos (by omega : (i : Int) < (x.length : Int)), geti_lt x hi, bnd_some, hw, slc_take x (Nat.le_of_lt hi), bnd_some, hm, List.getElem?_eq_getElem hi]
    show _ = Option.getD (if ((x[i] == 47) && has (x.take i)) = true then some (some true) else none) _
    cases x[i] == 47 <;> cases has (x.take i) <;> simp
  · show blob_clashes_L0T N m x _ _ _ (x.length : Int) = _
    unfold blob_clashes_L0T
    rw [br_neg (by omega)]
  · rw [exits_any]
    split
    · rename_i h; rw [h]
    · rename_i h; rw [Bool.not_eq_true] at h; rw [h]
theorem clash_ref {N : Nat} (hN : big ≤ N) {l : List FileT} {has : Str → Bool} (hm : ∀ p, ref1_there N l p = some (has p)) {x : Str} (hx : x.length ≤ 1000000) : ref1_inside N l x = some (clashB has x) := by
  have hb : (18446744073709551616 : Nat) ≤ N := hN
  unfold ref1_inside clashB
  refine (exit_loop (S := Int) x.length (fun i => (i : Int)) (fun i => if (x[i]? == some 47 && has (x.take i)) = true then some (some true) else none) (f := fun n s => ref1_inside_L0 N l x (some false) n s) (r := some false) (fun n i hi => ?_) (fun n => ?_) N (by omega)).trans ?_
  · show ref1_inside_L0T N l x _ (ref1_inside_L0 N l x _ n) (i : Int) = _
    have hw : IntKind.i64.wrap ((i : Int) + 1) = ((i + 1 : Nat) : Int) := by rw [wrap_id (by omega) (by omega)]; omega
    unfold ref1_inside_L0T
    rw [br_pos (by omega : (i : Int) < (x.length : Int)), geti_lt x hi, bnd_some, hw, slc_take x (Nat.le_of_lt hi), bnd_some, hm, bnd_some, List.getElem?_eq_getElem hi]
    show _ = Option.getD (if ((x[i] == 47) && has (x.take i)) = true then some (some true) else none) _
    cases x[i] == 47 <;> cases has (x.take i) <;> simp
  · show ref1_inside_L0T N l x _ _ (x.length : Int) = _
    unfold ref1_inside_L0T
    rw [br_neg (by omega)]
  · rw [exits_any]
    split
    · rename_i h; rw [h]
    · rename_i h; rw [Bool.not_eq_true] at h; rw [h]
def hasB {α : Type} (l : List (Str × α)) (p : Str) : Bool := l.any fun x => p == x.1
theorem hasB_iff {α : Type} {l : List (Str × α)} {p : Str} : hasB l p = true ↔ ∃ x ∈ l, x.1 = p := by
  unfold hasB
  rw [List.any_eq_true]
  exact ⟨fun ⟨x, h1, h2⟩ => ⟨x, h1, (eq_of_beq h2).symm⟩, fun ⟨x, h1, h2⟩ => ⟨x, h1, by rw [h2]; exact beq_self_eq_true _⟩⟩
theorem mid {a b : Nat} (ha : a ≤ 1000000) (hb : b ≤ 1000000) : IntKind.i64.wrap (Int.tdiv (IntKind.i64.wrap ((a : Int) + (b : Int))) 2) = (((a + b) / 2 : Nat) : Int) := by
  have h : ((a + b : Nat) : Int).tdiv 2 = (((a + b) / 2 : Nat) : Int) := (Int.ofNat_tdiv (a + b) 2).symm
  rw [wrap_id (n := (a : Int) + (b : Int)) (by omega) (by omega), show ((a : Int) + (b : Int)) = ((a + b : Nat) : Int) by omega, h]
  exact wrap_id (by omega) (by omega)
theorem there_eq {N : Nat} (hN : big ≤ N) {l : List FileT} (hl : l.length ≤ 1000000) (ha : Asc l) (p : Str) : ref1_there N l p = some (hasB l p) := by
  have hb : (18446744073709551616 : Nat) ≤ N := hN
  unfold ref1_there
  let lt : Nat → Bool := fun j => match l[j]? with | some x => decide (x.1 < p) | none => false
  have ltv : ∀ j (h : j < l.length), lt j = decide (l[j].1 < p) := fun j h => by show (match l[j]? with | some x => decide (x.1 < p) | none => false) = _; rw [List.getElem?_eq_getElem h]
  have ord : ∀ i j (hi : i < l.length) (hj : j < l.length), i < j → l[i].1 < l[j].1 := fun i j hi hj h => List.pairwise_iff_getElem.1 ha i j hi hj h
  obtain ⟨c, h1, h2, h3, h4⟩ := bsearch (f := fun n a b => ref1_there_L0 N l p (fun o0_5 => br (decide (o0_5 < (l.length : Int))) (bnd (geti l o0_5) fun t34 => some (t34.1 == p)) (some false)) n a b) l.length lt (fun i j hij hj h => by
      rw [ltv j hj, decide_eq_true_eq] at h
      rw [ltv i (by omega), decide_eq_true_eq]
      rcases Nat.eq_or_lt_of_le hij with rfl | hij
      · exact h
      · exact List.lt_trans (ord i j (by omega) hj hij) h) (k := fun o => br (decide ((o : Int) < (l.length : Int))) (bnd (geti l (o : Int)) fun t34 => some (t34.1 == p)) (some false)) (fun n lo hi h1 h2 => by
      show ref1_there_L0T N l p _ (ref1_there_L0 N l p _ n) (lo : Int) (hi : Int) = _
      have hm : (lo + hi) / 2 < l.length := by omega
      have hw : IntKind.i64.wrap ((((lo + hi) / 2 : Nat) : Int) + 1) = (((lo + hi) / 2 + 1 : Nat) : Int) := by rw [wrap_id (by omega) (by omega)]; omega
      unfold ref1_there_L0T
      rw [br_pos (by omega : (lo : Int) < (hi : Int)), show ((2 : Int) == 0) = false from rfl, br_false, mid (by omega) (by omega), geti_lt l hm, bnd_some, hw, less_eq, ltv _ hm, br_eq_ite]) (fun n lo h => by
      show ref1_there_L0T N l p _ _ (lo : Int) (lo : Int) = _
      unfold ref1_there_L0T
      rw [br_neg (by omega)])
  refine (h4 N (by omega)).trans ?_
  by_cases hc : c < l.length
  · rw [br_pos (by omega : (c : Int) < (l.length : Int)), geti_lt l hc, bnd_some]
    congr 1
    cases h : hasB l p with
    | true =>
      obtain ⟨x, hx, e⟩ := hasB_iff.1 h
      obtain ⟨j, hj, rfl⟩ := List.getElem_of_mem hx
      have hcj : c ≤ j := by
        apply Classical.byContradiction
        intro hn
        have := h2 j (by omega)
        rw [ltv j hj, decide_eq_true_eq, e] at this
        exact List.lt_irrefl _ this
      have : j = c := by
        rcases Nat.eq_or_lt_of_le hcj with h | h
        · exact h.symm
        · have h5 := ord c j hc hj h
          have h6 := h3 c (Nat.le_refl _) hc
          rw [ltv c hc, decide_eq_false_iff_not, ← e] at h6
          exact absurd h5 h6
      subst this
      rw [e]; exact beq_self_eq_true _
    | false =>
      cases h5 : l[c].1 == p with
      | false => rfl
      | true =>
        rw [hasB_iff.2 ⟨l[c], List.getElem_mem _, eq_of_beq h5⟩] at h; cases h
  · rw [br_neg (by omega)]
    congr 1
    cases h : hasB l p with
    | false => rfl
    | true =>
      obtain ⟨x, hx, e⟩ := hasB_iff.1 h
      obtain ⟨j, hj, rfl⟩ := List.getElem_of_mem hx
      have := h2 j (by omega)
      rw [ltv j hj, decide_eq_true_eq, e] at this
      exact absurd this (List.lt_irrefl _)
/-- What is wrong at the i-th file. -/
def scanX (l : List FileT) (i : Nat) : Option Int := match l[i]? with
  | some x => if pathB x.1 = true then (if x.2.2.length ≤ 100000 then (if i = 0 then none else match l[i - 1]? with
    | some y => if y.1 < x.1 then none else some 8
    | none => none) else some 2) else some 3
  | none => none
/-- How many bytes the first i files have. -/
def totF (l : List FileT) : Nat → Int
  | 0 => 0
  | i + 1 => IntKind.i64.wrap (totF l i + match l[i]? with | some x => (x.2.2.length : Int) | none => 0)
theorem totF_succ {l : List FileT} {i : Nat} (h : i < l.length) : totF l (i + 1) = IntKind.i64.wrap (totF l i + (l[i].2.2.length : Int)) := by
  show IntKind.i64.wrap (totF l i + match l[i]? with | some x => (x.2.2.length : Int) | none => 0) = _
  rw [List.getElem?_eq_getElem h]
/-- What CheckFiles says. -/
def filesS (l : List FileT) : Int := if l.length ≤ 1000 then ((exits (scanX l) l.length 0).getD (if l.all (fun x => !clashB (hasB l) x.1) = true then (if totF l l.length > 2000000 then 2 else 0) else 12)) else 2
structure OkF (l : List FileT) : Prop where
  path : ∀ x ∈ l, pathB x.1 = true
  few : ∀ x ∈ l, x.2.2.length ≤ 100000
  asc : Asc l
theorem pathB_len {x : Str} (h : pathB x = true) : 1 ≤ x.length ∧ x.length ≤ 200 := by
  unfold pathB at h
  simp only [Bool.and_eq_true, decide_eq_true_eq] at h
  exact ⟨h.1, h.2.1⟩
theorem scan_ok (l : List FileT) : exits (scanX l) l.length 0 = none ↔ OkF l := by
  rw [exits_none]
  have key : ∀ i (hi : i < l.length), scanX l i = none ↔ pathB l[i].1 = true ∧ l[i].2.2.length ≤ 100000 ∧ ∀ y, i ≠ 0 → l[i - 1]? = some y → y.1 < l[i].1 := by
    intro i hi
    unfold scanX
    rw [List.getElem?_eq_getElem hi]
    show (if pathB l[i].1 = true then _ else _) = none ↔ _
    by_cases h1 : pathB l[i].1 = true
    · rw [if_pos h1]
      by_cases h2 : l[i].2.2.length ≤ 100000
      · rw [if_pos h2]
        by_cases h3 : i = 0
        · rw [if_pos h3]
          exact ⟨fun _ => ⟨h1, h2, fun y h _ => absurd h3 h⟩, fun _ => rfl⟩
        · rw [if_neg h3, List.getElem?_eq_getElem (by omega : i - 1 < l.length)]
          show (if _ then _ else _) = none ↔ _
          by_cases h4 : l[i - 1].1 < l[i].1
          · rw [if_pos h4]
            exact ⟨fun _ => ⟨h1, h2, fun y _ h => by rw [← Option.some.inj h]; exact h4⟩, fun _ => rfl⟩
          · rw [if_neg h4]
            exact ⟨fun h => (by cases h), fun h => absurd (h.2.2 _ h3 rfl) h4⟩
      · rw [if_neg h2]
        exact ⟨fun h => (by cases h), fun h => absurd h.2.1 h2⟩
    · rw [if_neg h1]
      exact ⟨fun h => (by cases h), fun h => absurd h.1 h1⟩
  constructor
  · intro h
    have h' : ∀ i (hi : i < l.length), _ := fun i hi => (key i hi).1 (h i (Nat.zero_le _) (by omega))
    refine ⟨fun x hx => ?_, fun x hx => ?_, (asc_iff l).1 fun i hi => (h' i hi).2.2⟩
    · obtain ⟨i, hi, rfl⟩ := List.getElem_of_mem hx; exact (h' i hi).1
    · obtain ⟨i, hi, rfl⟩ := List.getElem_of_mem hx; exact (h' i hi).2.1
  · intro h i _ hi
    have hi : i < l.length := by omega
    exact (key i hi).2 ⟨h.path _ (List.getElem_mem _), h.few _ (List.getElem_mem _), (asc_iff l).2 h.asc i hi⟩
theorem blob_CheckFiles_eq {N : Nat} (hN : big ≤ N) (l : List FileT) : blob_CheckFiles N l = some (filesS l) := by
  have hb : (18446744073709551616 : Nat) ≤ N := hN
  unfold blob_CheckFiles filesS
  by_cases h0 : l.length ≤ 1000
  case neg => rw [br_pos (by omega : (l.length : Int) > 1000), if_neg h0]
  rw [br_neg (by omega : ¬ (l.length : Int) > 1000), if_pos h0]
  refine (exit_loop (S := Int × Int × List (Str × Bool)) l.length (fun i => (totF l i, (i : Int), keysM ((l.take i).map (·.1)) [])) (fun i => (scanX l i).map some) (f := fun n s => blob_CheckFiles_L0 N l l (l.length : Int) _ n s.1 s.2.1 s.2.2) (r := blob_CheckFiles_L1 N l (l.length : Int) (keysM ((l.take l.length).map (·.1)) []) (br (decide (totF l l.length > 2000000)) (some 2) (some 0)) N 0) (fun n i hi => ?_) (fun n => ?_) N (by omega)).trans ?_
  · show blob_CheckFiles_L0T N l l _ _ (blob_CheckFiles_L0 N l l _ _ n) (totF l i) (i : Int) _ = _
    have hw : IntKind.i64.wrap ((i : Int) + 1) = ((i + 1 : Nat) : Int) := by rw [wrap_id (by omega) (by omega)]; omega
    have e2 : keysM ((l.take (i + 1)).map (·.1)) [] = mset (keysM ((l.take i).map (·.1)) []) l[i].1 true := by rw [List.take_succ_eq_append_getElem hi, List.map_append]; exact keysM_snoc _ _ _
    show _ = (Option.map some (scanX l i)).getD (blob_CheckFiles_L0 N l l _ _ n (totF l (i + 1)) ((i + 1 : Nat) : Int) (keysM ((l.take (i + 1)).map (·.1)) []))
    unfold blob_CheckFiles_L0T
    rw [br_pos (by omega : (i : Int) < (l.length : Int)), geti_lt l hi, bnd_some, isPath_eq, isPath_all hN, bnd_some, hw, e2, totF_succ hi]
    unfold scanX
    rw [List.getElem?_eq_getElem hi]
    dsimp only
    by_cases h1 : pathB l[i].1 = true
    · rw [h1, if_pos rfl, Bool.not_true, br_false]
      by_cases h2 : l[i].2.2.length ≤ 100000
      · rw [br_neg (by omega : ¬ (l[i].2.2.length : Int) > 100000), if_pos h2]
        by_cases h3 : i = 0
        · rw [br_neg (by omega : ¬ (i : Int) > 0), if_pos h3]; rfl
        · have hp : IntKind.i64.wrap ((i : Int) - 1) = ((i - 1 : Nat) : Int) := by rw [wrap_id (by omega) (by omega)]; omega
          rw [br_pos (by omega : (i : Int) > 0), if_neg h3, hp, geti_lt l (by omega : i - 1 < l.length), bnd_some, List.getElem?_eq_getElem (by omega : i - 1 < l.length), le_not]
          dsimp only
          by_cases h4 : l[i - 1].1 < l[i].1
          · rw [if_pos h4, decide_eq_true h4]; simp
          · rw [if_neg h4, decide_eq_false h4]; simp
      · rw [br_pos (by omega : (l[i].2.2.length : Int) > 100000), if_neg h2]; simp
    · rw [if_neg h1]
      rw [Bool.not_eq_true] at h1
      rw [h1]; simp
  · show blob_CheckFiles_L0T N l l _ _ _ _ (l.length : Int) _ = _
    unfold blob_CheckFiles_L0T
    rw [br_neg (by omega)]
  · rw [exits_map]
    cases h : exits (scanX l) l.length 0 with
    | some z => rfl
    | none =>
      have ok := (scan_ok l).1 h
      show blob_CheckFiles_L1 N l _ _ _ N 0 = some (if _ then _ else _)
      rw [scan_loop (xs := l) (fun x => !clashB (hasB l) x.1) (k := br (decide (totF l l.length > 2000000)) (some 2) (some 0)) (bad := some 12) (f := fun n i => blob_CheckFiles_L1 N l _ _ _ n i) (fun n i hi => ?_) (fun n => ?_) N (by omega)]
      · by_cases h5 : totF l l.length > 2000000
        · rw [br_pos h5, if_pos h5]; split <;> rfl
        · rw [br_neg h5, if_neg h5]; split <;> rfl
      · show blob_CheckFiles_L1T N l _ _ _ (blob_CheckFiles_L1 N l _ _ _ n) (i : Int) = _
        have hw : IntKind.i64.wrap ((i : Int) + 1) = ((i + 1 : Nat) : Int) := by rw [wrap_id (by omega) (by omega)]; omega
        have hlen := pathB_len (ok.path l[i] (List.getElem_mem _))
        unfold blob_CheckFiles_L1T
        rw [br_pos (by omega : (i : Int) < (l.length : Int)), geti_lt l hi, bnd_some, clash_blob hN (has := hasB l) (fun p => ?_) (by omega), bnd_some, hw]
        · cases clashB (hasB l) l[i].1 <;> simp
        · rw [keysM_get, List.take_length, List.any_map]
          show _ = l.any _
          cases h6 : l.any ((fun x => p == x) ∘ fun x => x.1) with
          | true => exact h6.symm
          | false => exact h6.symm
      · show blob_CheckFiles_L1T N l _ _ _ _ (l.length : Int) = _
        unfold blob_CheckFiles_L1T
        rw [br_neg (by omega)]
theorem ref_CheckFiles_eq {N : Nat} (hN : big ≤ N) (l : List FileT) : ref1_CheckFiles N l = some (filesS l) := by
  have hb : (18446744073709551616 : Nat) ≤ N := hN
  unfold ref1_CheckFiles filesS
  by_cases h0 : l.length ≤ 1000
  case neg => rw [br_pos (by omega : (l.length : Int) > 1000), if_neg h0]
  rw [br_neg (by omega : ¬ (l.length : Int) > 1000), if_pos h0]
  refine (exit_loop (S := Int × Int) l.length (fun i => (totF l i, (i : Int))) (fun i => (scanX l i).map some) (f := fun n s => ref1_CheckFiles_L0 N l _ n s.1 s.2) (r := ref1_CheckFiles_L1 N l (br (decide (totF l l.length > 2000000)) (some 2) (some 0)) N 0) (fun n i hi => ?_) (fun n => ?_) N (by omega)).trans ?_
  · show ref1_CheckFiles_L0T N l _ (ref1_CheckFiles_L0 N l _ n) (totF l i) (i : Int) = _
    have hw : IntKind.i64.wrap ((i : Int) + 1) = ((i + 1 : Nat) : Int) := by rw [wrap_id (by omega) (by omega)]; omega
    show _ = (Option.map some (scanX l i)).getD (ref1_CheckFiles_L0 N l _ n (totF l (i + 1)) ((i + 1 : Nat) : Int))
    unfold ref1_CheckFiles_L0T
    simp only [geti_lt l hi, bnd_some]
    rw [br_pos (by omega : (i : Int) < (l.length : Int)), isPath_all hN, bnd_some, hw, totF_succ hi]
    unfold scanX
    rw [List.getElem?_eq_getElem hi]
    dsimp only
    by_cases h1 : pathB l[i].1 = true
    · rw [h1, if_pos rfl, Bool.not_true, br_false]
      by_cases h2 : l[i].2.2.length ≤ 100000
      · rw [br_neg (by omega : ¬ (l[i].2.2.length : Int) > 100000), if_pos h2]
        by_cases h3 : i = 0
        · rw [br_neg (by omega : ¬ (i : Int) > 0), if_pos h3]; rfl
        · have hp : IntKind.i64.wrap ((i : Int) - 1) = ((i - 1 : Nat) : Int) := by rw [wrap_id (by omega) (by omega)]; omega
          rw [br_pos (by omega : (i : Int) > 0), if_neg h3, hp, geti_lt l (by omega : i - 1 < l.length), bnd_some, List.getElem?_eq_getElem (by omega : i - 1 < l.length), le_not]
          dsimp only
          by_cases h4 : l[i - 1].1 < l[i].1
          · rw [if_pos h4, decide_eq_true h4]; simp
          · rw [if_neg h4, decide_eq_false h4]; simp
      · rw [br_pos (by omega : (l[i].2.2.length : Int) > 100000), if_neg h2]; simp
    · rw [if_neg h1]
      rw [Bool.not_eq_true] at h1
      rw [h1]; simp
  · show ref1_CheckFiles_L0T N l _ _ _ (l.length : Int) = _
    unfold ref1_CheckFiles_L0T
    rw [br_neg (by omega)]
  · rw [exits_map]
    cases h : exits (scanX l) l.length 0 with
    | some z => rfl
    | none =>
      have ok := (scan_ok l).1 h
      show ref1_CheckFiles_L1 N l _ N 0 = some (if _ then _ else _)
      rw [scan_loop (xs := l) (fun x => !clashB (hasB l) x.1) (k := br (decide (totF l l.length > 2000000)) (some 2) (some 0)) (bad := some 12) (f := fun n i => ref1_CheckFiles_L1 N l _ n i) (fun n i hi => ?_) (fun n => ?_) N (by omega)]
      · by_cases h5 : totF l l.length > 2000000
        · rw [br_pos h5, if_pos h5]; split <;> rfl
        · rw [br_neg h5, if_neg h5]; split <;> rfl
      · show ref1_CheckFiles_L1T N l _ (ref1_CheckFiles_L1 N l _ n) (i : Int) = _
        have hw : IntKind.i64.wrap ((i : Int) + 1) = ((i + 1 : Nat) : Int) := by rw [wrap_id (by omega) (by omega)]; omega
        have hlen := pathB_len (ok.path l[i] (List.getElem_mem _))
        unfold ref1_CheckFiles_L1T
        rw [br_pos (by omega : (i : Int) < (l.length : Int)), geti_lt l hi, bnd_some, clash_ref hN (has := hasB l) (fun p => there_eq hN (by omega) ok.asc p) (by omega), bnd_some, hw]
        cases clashB (hasB l) l[i].1 <;> simp
      · show ref1_CheckFiles_L1T N l _ _ (l.length : Int) = _
        unfold ref1_CheckFiles_L1T
        rw [br_neg (by omega)]
/-- What is known of right files. -/
structure FilesOk (l : List FileT) : Prop where
  len : l.length ≤ 1000
  ok : OkF l
  calm : ∀ x ∈ l, clashB (hasB l) x.1 = false
  tot : ¬ totF l l.length > 2000000
theorem files_iff (l : List FileT) : filesS l = 0 ↔ FilesOk l := by
  unfold filesS
  constructor
  · intro h
    by_cases h0 : l.length ≤ 1000
    case neg => rw [if_neg h0] at h; cases h
    rw [if_pos h0] at h
    cases hx : exits (scanX l) l.length 0 with
    | some z =>
      rw [hx] at h
      obtain ⟨j, _, h2, h3, _⟩ := exits_some hx
      have h : z = 0 := h
      subst h
      unfold scanX at h3
      split at h3
      · split at h3
        · split at h3
          · split at h3
            · cases h3
            · split at h3
              · split at h3 <;> cases h3
              · cases h3
          · cases h3
        · cases h3
      · cases h3
    | none =>
      rw [hx] at h
      have ok := (scan_ok l).1 hx
      have h : (if l.all (fun x => !clashB (hasB l) x.1) = true then (if totF l l.length > 2000000 then (2 : Int) else 0) else 12) = 0 := h
      split at h
      · rename_i h1
        split at h
        · cases h
        · rename_i h2
          exact ⟨h0, ok, fun x hx => by have := List.all_eq_true.1 h1 x hx; simpa using this, h2⟩
      · cases h
  · intro h
    rw [if_pos h.len, (scan_ok l).2 h.ok, if_pos (List.all_eq_true.2 fun x hx => by simp [h.calm x hx]), if_neg h.tot]; rfl
end Go.Proofs.YthlkidohpiebiaaDoor

