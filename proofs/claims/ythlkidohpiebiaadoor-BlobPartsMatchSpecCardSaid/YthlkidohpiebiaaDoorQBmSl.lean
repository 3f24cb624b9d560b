/- What functions of the program compute, as plain functions (printed). -/
import Derived.Test.YthlkidohpiebiaaDoorQBnF5
import Derived.Test.YthlkidohpiebiaaDoorQSlc
import Derived.Shelf.SlGeneric
import Derived.Shelf.SlSortCmp.WholeK
import Derived.Shelf.SlSortCmp.NoneTotal
import Derived.Ground.SlsfProg
import Derived.Test.YthlkidohpiebiaaDoorProg
import Derived.Test.YthlkidohpiebiaaDoorQBnF2
namespace Go.Proofs.YthlkidohpiebiaaDoor
open Go Go.RowKit
set_option maxRecDepth 100000
set_option linter.unusedVariables false
noncomputable section
def slices_Clone_api_File (_N : Nat) (x0 : List (Str × Bool × List UInt8)) : Option (List (Str × Bool × List UInt8)) :=
  br ((x0).isEmpty)
    (both
      (some ([] : List (Str × Bool × List UInt8)))
      (br (decide ((([] : List (Str × Bool × List UInt8)).length + x0.length) * (24 * Ty.sz (.pr .str (.pr .bool (.sl .u8)))) ≤ 140737488355328))
        (some (([] : List (Str × Bool × List UInt8)) ++ x0))
        none))
    (br (decide ((([] : List (Str × Bool × List UInt8)).length + x0.length) * (24 * Ty.sz (.pr .str (.pr .bool (.sl .u8)))) ≤ 140737488355328))
      (some (([] : List (Str × Bool × List UInt8)) ++ x0))
      none)
abbrev slices_Clone_api_File_sg (f : SV [.v (.sl (.pr .str (.pr .bool (.sl .u8))))] → BV [] → Option (List (Str × Bool × List UInt8))) : AF := { ps := [.v (.sl (.pr .str (.pr .bool (.sl .u8))))], bs := [], rs := [.row 0], cs := [.row 34 (.pr .str (.pr .bool (.sl .u8))) true], R := List (Str × Bool × List UInt8), out := fun z => (((), ()), (z, ())), f := f }
abbrev slices_Clone_api_File_pk : SV [.row 0] → BV [.row 34 (.pr .str (.pr .bool (.sl .u8))) true] → (List (Str × Bool × List UInt8)) := fun _ y => y.1
def slices_Clone_api_File_fn (_N : Nat) : FuncId → Option Tmp → Option AF := fun f _ =>
  match f with
    | _ => none
theorem slices_Clone_api_File_fn_ok (N : Nat) : ∀ f q F, slices_Clone_api_File_fn N f q = some F → Sound Tryd.prog GW B0G f F := by
  intro f q F h
  unfold slices_Clone_api_File_fn at h
  split at h
  · cases h
def slices_Clone_api_File_h : Nat → Hint := fun i =>
  match i with
  | _ => ⟨[], [], [], [], [], []⟩
abbrev slices_Clone_api_File_E (N : Nat) : Env := mkE slices_Clone_api_File_h (slices_Clone_api_File_fn N) (fun i => match i with | 2 => true | 5 => true | _ => false) (fun _ => false)
noncomputable def slices_Clone_api_File_LP (N : Nat) : Nat → Code → St → (Ex → St → Option (List (Str × Bool × List UInt8))) → Option (List (Str × Bool × List UInt8)) := fun i c =>
  match i with
  | i => fun st k => iter (slices_Clone_api_File_h i) (exec (slices_Clone_api_File_E N) N c i) N st k
theorem slices_Clone_api_File_core (N : Nat) (x : SV [.v (.sl (.pr .str (.pr .bool (.sl .u8))))]) (y : BV []) : runL (slices_Clone_api_File_E N) Tryd.f94 (slices_Clone_api_File_sg fun x _ => slices_Clone_api_File N x.1) slices_Clone_api_File_pk (slices_Clone_api_File_LP N) x y = slices_Clone_api_File N x.1 := by kernel_rfl
theorem slices_Clone_api_File_sound (N : Nat) : Sound Tryd.prog GW B0G 94 (slices_Clone_api_File_sg fun x _ => slices_Clone_api_File N x.1) :=
  runD_sound (mkE_ok slices_Clone_api_File_h (slices_Clone_api_File_fn N) _ _ (slices_Clone_api_File_fn_ok N)) Tryd.func94 rfl Tryd.call94 (slices_Clone_api_File_sg fun x _ => slices_Clone_api_File N x.1) slices_Clone_api_File_pk (fun _ _ => rfl) N (fun x y _ h => ((runL_eq (slices_Clone_api_File_E N) N Tryd.f94 (slices_Clone_api_File_sg fun x _ => slices_Clone_api_File N x.1) slices_Clone_api_File_pk (slices_Clone_api_File_LP N) (show LoopsOk (slices_Clone_api_File_LP N) (slices_Clone_api_File_E N) N (resD (slices_Clone_api_File_E N) Tryd.f94 (slices_Clone_api_File_sg fun x _ => slices_Clone_api_File N x.1) slices_Clone_api_File_pk) [] from trivial) x y).trans (slices_Clone_api_File_core N x y)).trans h)
def slices_Clone_byte_byte (_N : Nat) (x0 : List UInt8) : Option (List UInt8) :=
  br ((x0).isEmpty)
    (both
      (some ([] : List UInt8))
      (br (decide ((([] : List UInt8).length + x0.length) * (24 * Ty.sz .u8) ≤ 140737488355328))
        (some (([] : List UInt8) ++ x0))
        none))
    (br (decide ((([] : List UInt8).length + x0.length) * (24 * Ty.sz .u8) ≤ 140737488355328))
      (some (([] : List UInt8) ++ x0))
      none)
abbrev slices_Clone_byte_byte_sg (f : SV [.v (.sl .u8)] → BV [] → Option (List UInt8)) : AF := { ps := [.v (.sl .u8)], bs := [], rs := [.row 0], cs := [.row 5 .u8 true], R := List UInt8, out := fun z => (((), ()), (z, ())), f := f }
abbrev slices_Clone_byte_byte_pk : SV [.row 0] → BV [.row 5 .u8 true] → (List UInt8) := fun _ y => y.1
def slices_Clone_byte_byte_fn (_N : Nat) : FuncId → Option Tmp → Option AF := fun f _ =>
  match f with
    | _ => none
theorem slices_Clone_byte_byte_fn_ok (N : Nat) : ∀ f q F, slices_Clone_byte_byte_fn N f q = some F → Sound Tryd.prog GW B0G f F := by
  intro f q F h
  unfold slices_Clone_byte_byte_fn at h
  split at h
  · cases h
def slices_Clone_byte_byte_h : Nat → Hint := fun i =>
  match i with
  | _ => ⟨[], [], [], [], [], []⟩
abbrev slices_Clone_byte_byte_E (N : Nat) : Env := mkE slices_Clone_byte_byte_h (slices_Clone_byte_byte_fn N) (fun i => match i with | 2 => true | 5 => true | _ => false) (fun _ => false)
noncomputable def slices_Clone_byte_byte_LP (N : Nat) : Nat → Code → St → (Ex → St → Option (List UInt8)) → Option (List UInt8) := fun i c =>
  match i with
  | i => fun st k => iter (slices_Clone_byte_byte_h i) (exec (slices_Clone_byte_byte_E N) N c i) N st k
theorem slices_Clone_byte_byte_core (N : Nat) (x : SV [.v (.sl .u8)]) (y : BV []) : runL (slices_Clone_byte_byte_E N) Tryd.f95 (slices_Clone_byte_byte_sg fun x _ => slices_Clone_byte_byte N x.1) slices_Clone_byte_byte_pk (slices_Clone_byte_byte_LP N) x y = slices_Clone_byte_byte N x.1 := by kernel_rfl
theorem slices_Clone_byte_byte_sound (N : Nat) : Sound Tryd.prog GW B0G 95 (slices_Clone_byte_byte_sg fun x _ => slices_Clone_byte_byte N x.1) :=
  runD_sound (mkE_ok slices_Clone_byte_byte_h (slices_Clone_byte_byte_fn N) _ _ (slices_Clone_byte_byte_fn_ok N)) Tryd.func95 rfl Tryd.call95 (slices_Clone_byte_byte_sg fun x _ => slices_Clone_byte_byte N x.1) slices_Clone_byte_byte_pk (fun _ _ => rfl) N (fun x y _ h => ((runL_eq (slices_Clone_byte_byte_E N) N Tryd.f95 (slices_Clone_byte_byte_sg fun x _ => slices_Clone_byte_byte N x.1) slices_Clone_byte_byte_pk (slices_Clone_byte_byte_LP N) (show LoopsOk (slices_Clone_byte_byte_LP N) (slices_Clone_byte_byte_E N) N (resD (slices_Clone_byte_byte_E N) Tryd.f95 (slices_Clone_byte_byte_sg fun x _ => slices_Clone_byte_byte N x.1) slices_Clone_byte_byte_pk) [] from trivial) x y).trans (slices_Clone_byte_byte_core N x y)).trans h)
def blob_Own_L0T (N : Nat) (c8 : Int) (k0 : (List (Str × Bool × List UInt8)) → Option (List (Str × Bool × List UInt8))) (self : Int → (List (Str × Bool × List UInt8)) → Option (List (Str × Bool × List UInt8))) (s9 : Int) (w100600 : List (Str × Bool × List UInt8)) : Option (List (Str × Bool × List UInt8)) :=
  br (decide (s9 < c8))
    (br (decide (0 ≤ s9 ∧ s9 < (w100600.length : Int)))
      (bnd (geti w100600 s9) fun t18 =>
      bnd (slices_Clone_byte_byte N t18.2.2) fun t19 =>
      br (decide (0 ≤ s9 ∧ s9 < (w100600.length : Int)))
        (bnd (geti w100600 s9) fun u =>
        self (IntKind.i64.wrap (s9 + (1 : Int))) (seti w100600 s9 (u.1, (u.2.1, t19))))
        none)
      none)
    (k0 w100600)
def blob_Own_L0 (N : Nat) (c8 : Int) (k0 : (List (Str × Bool × List UInt8)) → Option (List (Str × Bool × List UInt8))) : Nat → Int → (List (Str × Bool × List UInt8)) → Option (List (Str × Bool × List UInt8))
  | 0, _, _ => none
  | n + 1, s9, w100600 => blob_Own_L0T N c8 k0 (blob_Own_L0 N c8 k0 n) s9 w100600
def blob_Own (N : Nat) (x0 : List (Str × Bool × List UInt8)) : Option (List (Str × Bool × List UInt8)) :=
  bnd (slices_Clone_api_File N x0) fun t6 =>
  blob_Own_L0 N (t6.length : Int) (fun o0_w100600 =>
      some o0_w100600) N (0 : Int) t6
abbrev blob_Own_sg (f : SV [.v (.sl (.pr .str (.pr .bool (.sl .u8))))] → BV [] → Option (List (Str × Bool × List UInt8))) : AF := { ps := [.v (.sl (.pr .str (.pr .bool (.sl .u8))))], bs := [], rs := [.row 0], cs := [.row 34 (.pr .str (.pr .bool (.sl .u8))) true], R := List (Str × Bool × List UInt8), out := fun z => (((), ()), (z, ())), f := f }
abbrev blob_Own_pk : SV [.row 0] → BV [.row 34 (.pr .str (.pr .bool (.sl .u8))) true] → (List (Str × Bool × List UInt8)) := fun _ y => y.1
def blob_Own_fn (N : Nat) : FuncId → Option Tmp → Option AF := fun f _ =>
  match f with
    | 94 => some (slices_Clone_api_File_sg fun x _ => slices_Clone_api_File N x.1)
    | 95 => some (slices_Clone_byte_byte_sg fun x _ => slices_Clone_byte_byte N x.1)
    | _ => none
theorem blob_Own_fn_ok (N : Nat) : ∀ f q F, blob_Own_fn N f q = some F → Sound Tryd.prog GW B0G f F := by
  intro f q F h
  unfold blob_Own_fn at h
  split at h
  · cases h; exact slices_Clone_api_File_sound N
  · cases h; exact slices_Clone_byte_byte_sound N
  · cases h
def blob_Own_h : Nat → Hint := fun i =>
  match i with
  | 0 => ⟨[], [3, 8, 9], [100600], [3], [100600], []⟩
  | _ => ⟨[], [], [], [], [], []⟩
abbrev blob_Own_E (N : Nat) : Env := mkE blob_Own_h (blob_Own_fn N) (fun _ => false) (fun _ => false)
abbrev blob_Own_L0_fs : List (Nat × Sl) := [(3, .row 100600), (8, .v (.int .i64)), (9, .v (.int .i64))]
abbrev blob_Own_L0_bs : List (Nat × Sb) := [(100600, .row 34 (.pr .str (.pr .bool (.sl .u8))) true)]
def blob_Own_L0_hd (c8 : Int) (s9 : Int) (w100600 : List (Str × Bool × List UInt8)) : St := ⟨24, [(3, .row 100600), (8, .v (.int .i64) c8), (9, .v (.int .i64) s9)], [(100600, .row 34 (.pr .str (.pr .bool (.sl .u8))) true w100600)]⟩
def blob_Own_L0_tl0 (_c8 : Int) (o0_w100600 : List (Str × Bool × List UInt8)) : St := ⟨24, [(3, .row 100600)], [(100600, .row 34 (.pr .str (.pr .bool (.sl .u8))) true o0_w100600)]⟩
def blob_Own_L0_G (N : Nat) (c8 : Int) (s9 : Int) (w100600 : List (Str × Bool × List UInt8)) (k : Ex → St → Option (List (Str × Bool × List UInt8))) : Option (List (Str × Bool × List UInt8)) :=
  blob_Own_L0 N c8 (fun o0_w100600 => k (.exit 0) (blob_Own_L0_tl0 c8 o0_w100600)) N s9 w100600
abbrev blob_Own_L0_F (N : Nat) : FV blob_Own_L0_fs → HV blob_Own_L0_bs → (Ex → St → Option (List (Str × Bool × List UInt8))) → Option (List (Str × Bool × List UInt8)) := fun x y k => blob_Own_L0_G N x.2.1 x.2.2.1 y.1 k
noncomputable def blob_Own_LP (N : Nat) : Nat → Code → St → (Ex → St → Option (List (Str × Bool × List UInt8))) → Option (List (Str × Bool × List UInt8)) := fun i c =>
  match i with
  | 0 => (LPc 24 blob_Own_L0_fs blob_Own_L0_bs (blob_Own_L0_F N) (fun st k => iter (blob_Own_h 0) (exec (blob_Own_E N) N c 0) N st k))
  | i => fun st k => iter (blob_Own_h i) (exec (blob_Own_E N) N c i) N st k
theorem blob_Own_L0_step (N : Nat) (c8 : Int) (KX : Nat → St → Option (List (Str × Bool × List UInt8))) (I : St → Option (List (Str × Bool × List UInt8))) (s9 : Int) (w100600 : List (Str × Bool × List UInt8)) :
    execL (blob_Own_LP N) (blob_Own_E N) (cAt (bodyOf Tryd.f58) [true, true, false, true, false, false]) 0 (blob_Own_L0_hd c8 s9 w100600) (roundK (blob_Own_h 0) I KX (resD (blob_Own_E N) Tryd.f58 (blob_Own_sg fun x _ => blob_Own N x.1) blob_Own_pk)) = blob_Own_L0T N c8 (fun o0_w100600 => KX 0 (blob_Own_L0_tl0 c8 o0_w100600)) (fun s9 w100600 => I (blob_Own_L0_hd c8 s9 w100600)) s9 w100600 := by kernel_rfl
theorem blob_Own_L0_ok (N : Nat) : ∀ x y k, (∀ st, k .ret st = (resD (blob_Own_E N) Tryd.f58 (blob_Own_sg fun x _ => blob_Own N x.1) blob_Own_pk) st) → iter (blob_Own_h 0) (exec (blob_Own_E N) N (cAt (bodyOf Tryd.f58) [true, true, false, true, false, false]) 0) N ⟨24, unF blob_Own_L0_fs x, unH blob_Own_L0_bs y⟩ k = blob_Own_L0_F N x y k := fun x y k hk =>
  iter_link (S := (Int) × (List (Str × Bool × List UInt8)) × Unit) (blob_Own_h 0) _ (execL (blob_Own_LP N) (blob_Own_E N) (cAt (bodyOf Tryd.f58) [true, true, false, true, false, false]) 0) (resD (blob_Own_E N) Tryd.f58 (blob_Own_sg fun x _ => blob_Own N x.1) blob_Own_pk) (fun st k hk => execL_eq _ _ N _ (cAt (bodyOf Tryd.f58) [true, true, false, true, false, false]) 0 (show LoopsOk (blob_Own_LP N) (blob_Own_E N) N (resD (blob_Own_E N) Tryd.f58 (blob_Own_sg fun x _ => blob_Own N x.1) blob_Own_pk) [] from trivial) st k hk) (fun s => blob_Own_L0_hd x.2.1 s.1 s.2.1) k hk
    (fun self s => blob_Own_L0T N x.2.1 (fun o0_w100600 => k (.exit 0) (blob_Own_L0_tl0 x.2.1 o0_w100600)) (fun s9 w100600 => self (s9, w100600, ())) s.1 s.2.1) (fun n s => blob_Own_L0 N x.2.1 (fun o0_w100600 => k (.exit 0) (blob_Own_L0_tl0 x.2.1 o0_w100600)) n s.1 s.2.1) (fun _ => rfl) (fun _ _ => rfl)
    (fun I s => blob_Own_L0_step N x.2.1 (fun j => k (.exit j)) I s.1 s.2.1) N (x.2.2.1, y.1, ())
theorem blob_Own_lp0 (N : Nat) : ∀ st k, (∀ st, k .ret st = (resD (blob_Own_E N) Tryd.f58 (blob_Own_sg fun x _ => blob_Own N x.1) blob_Own_pk) st) → blob_Own_LP N 0 (cAt (bodyOf Tryd.f58) [true, true, false, true, false, false]) st k = iter (Env.hint (blob_Own_E N) 0) (exec (blob_Own_E N) N (cAt (bodyOf Tryd.f58) [true, true, false, true, false, false]) 0) N st k := fun st k hk => LPc_eq 24 blob_Own_L0_fs blob_Own_L0_bs _ _ (resD (blob_Own_E N) Tryd.f58 (blob_Own_sg fun x _ => blob_Own N x.1) blob_Own_pk) (blob_Own_L0_ok N) _ st k hk (rfl)
theorem blob_Own_core (N : Nat) (x : SV [.v (.sl (.pr .str (.pr .bool (.sl .u8))))]) (y : BV []) : runL (blob_Own_E N) Tryd.f58 (blob_Own_sg fun x _ => blob_Own N x.1) blob_Own_pk (blob_Own_LP N) x y = blob_Own N x.1 := by kernel_rfl
theorem blob_Own_sound (N : Nat) : Sound Tryd.prog GW B0G 58 (blob_Own_sg fun x _ => blob_Own N x.1) :=
  runD_sound (mkE_ok blob_Own_h (blob_Own_fn N) _ _ (blob_Own_fn_ok N)) Tryd.func58 rfl Tryd.call58 (blob_Own_sg fun x _ => blob_Own N x.1) blob_Own_pk (fun _ _ => rfl) N (fun x y _ h => ((runL_eq (blob_Own_E N) N Tryd.f58 (blob_Own_sg fun x _ => blob_Own N x.1) blob_Own_pk (blob_Own_LP N) (show LoopsOk (blob_Own_LP N) (blob_Own_E N) N (resD (blob_Own_E N) Tryd.f58 (blob_Own_sg fun x _ => blob_Own N x.1) blob_Own_pk) [(0, (cAt (bodyOf Tryd.f58) [true, true, false, true, false, false]))] from ⟨blob_Own_lp0 N, trivial⟩) x y).trans (blob_Own_core N x y)).trans h)
def stringslite_HasPrefix (_N : Nat) (x0 : Str) (x1 : Str) : Option Bool :=
  br (decide ((x0.length : Int) ≥ (x1.length : Int)))
    (bnd (slc x0 (0 : Int) (x1.length : Int)) fun t14 =>
    some (t14 == x1))
    (some false)
abbrev stringslite_HasPrefix_sg (f : SV [.v .str, .v .str] → BV [] → Option (Bool)) : AF := { ps := [.v .str, .v .str], bs := [], rs := [.v .bool], cs := [], R := Bool, out := fun z => ((z, ()), ()), f := f }
abbrev stringslite_HasPrefix_pk : SV [.v .bool] → BV [] → Bool := fun x _ => x.1
def stringslite_HasPrefix_fn (_N : Nat) : FuncId → Option Tmp → Option AF := fun f _ =>
  match f with
    | _ => none
theorem stringslite_HasPrefix_fn_ok (N : Nat) : ∀ f q F, stringslite_HasPrefix_fn N f q = some F → Sound Tryd.prog GW B0G f F := by
  intro f q F h
  unfold stringslite_HasPrefix_fn at h
  split at h
  · cases h
def stringslite_HasPrefix_h : Nat → Hint := fun i =>
  match i with
  | _ => ⟨[], [], [], [], [], []⟩
abbrev stringslite_HasPrefix_E (N : Nat) : Env := mkE stringslite_HasPrefix_h (stringslite_HasPrefix_fn N) (fun _ => false) (fun _ => false)
noncomputable def stringslite_HasPrefix_LP (N : Nat) : Nat → Code → St → (Ex → St → Option Bool) → Option Bool := fun i c =>
  match i with
  | i => fun st k => iter (stringslite_HasPrefix_h i) (exec (stringslite_HasPrefix_E N) N c i) N st k
theorem stringslite_HasPrefix_core (N : Nat) (x : SV [.v .str, .v .str]) (y : BV []) : runL (stringslite_HasPrefix_E N) Tryd.f99 (stringslite_HasPrefix_sg fun x _ => stringslite_HasPrefix N x.1 x.2.1) stringslite_HasPrefix_pk (stringslite_HasPrefix_LP N) x y = stringslite_HasPrefix N x.1 x.2.1 := by kernel_rfl
theorem stringslite_HasPrefix_sound (N : Nat) : Sound Tryd.prog GW B0G 99 (stringslite_HasPrefix_sg fun x _ => stringslite_HasPrefix N x.1 x.2.1) :=
  runD_sound (mkE_ok stringslite_HasPrefix_h (stringslite_HasPrefix_fn N) _ _ (stringslite_HasPrefix_fn_ok N)) Tryd.func99 rfl Tryd.call99 (stringslite_HasPrefix_sg fun x _ => stringslite_HasPrefix N x.1 x.2.1) stringslite_HasPrefix_pk (fun _ _ => rfl) N (fun x y _ h => ((runL_eq (stringslite_HasPrefix_E N) N Tryd.f99 (stringslite_HasPrefix_sg fun x _ => stringslite_HasPrefix N x.1 x.2.1) stringslite_HasPrefix_pk (stringslite_HasPrefix_LP N) (show LoopsOk (stringslite_HasPrefix_LP N) (stringslite_HasPrefix_E N) N (resD (stringslite_HasPrefix_E N) Tryd.f99 (stringslite_HasPrefix_sg fun x _ => stringslite_HasPrefix N x.1 x.2.1) stringslite_HasPrefix_pk) [] from trivial) x y).trans (stringslite_HasPrefix_core N x y)).trans h)
def strings_HasPrefix (N : Nat) (x0 : Str) (x1 : Str) : Option Bool :=
  bnd (stringslite_HasPrefix N x0 x1) fun t7 =>
  some t7
abbrev strings_HasPrefix_sg (f : SV [.v .str, .v .str] → BV [] → Option (Bool)) : AF := { ps := [.v .str, .v .str], bs := [], rs := [.v .bool], cs := [], R := Bool, out := fun z => ((z, ()), ()), f := f }
abbrev strings_HasPrefix_pk : SV [.v .bool] → BV [] → Bool := fun x _ => x.1
def strings_HasPrefix_fn (N : Nat) : FuncId → Option Tmp → Option AF := fun f _ =>
  match f with
    | 99 => some (stringslite_HasPrefix_sg fun x _ => stringslite_HasPrefix N x.1 x.2.1)
    | _ => none
theorem strings_HasPrefix_fn_ok (N : Nat) : ∀ f q F, strings_HasPrefix_fn N f q = some F → Sound Tryd.prog GW B0G f F := by
  intro f q F h
  unfold strings_HasPrefix_fn at h
  split at h
  · cases h; exact stringslite_HasPrefix_sound N
  · cases h
def strings_HasPrefix_h : Nat → Hint := fun i =>
  match i with
  | _ => ⟨[], [], [], [], [], []⟩
abbrev strings_HasPrefix_E (N : Nat) : Env := mkE strings_HasPrefix_h (strings_HasPrefix_fn N) (fun _ => false) (fun _ => false)
noncomputable def strings_HasPrefix_LP (N : Nat) : Nat → Code → St → (Ex → St → Option Bool) → Option Bool := fun i c =>
  match i with
  | i => fun st k => iter (strings_HasPrefix_h i) (exec (strings_HasPrefix_E N) N c i) N st k
theorem strings_HasPrefix_core (N : Nat) (x : SV [.v .str, .v .str]) (y : BV []) : runL (strings_HasPrefix_E N) Tryd.f66 (strings_HasPrefix_sg fun x _ => strings_HasPrefix N x.1 x.2.1) strings_HasPrefix_pk (strings_HasPrefix_LP N) x y = strings_HasPrefix N x.1 x.2.1 := by kernel_rfl
theorem strings_HasPrefix_sound (N : Nat) : Sound Tryd.prog GW B0G 66 (strings_HasPrefix_sg fun x _ => strings_HasPrefix N x.1 x.2.1) :=
  runD_sound (mkE_ok strings_HasPrefix_h (strings_HasPrefix_fn N) _ _ (strings_HasPrefix_fn_ok N)) Tryd.func66 rfl Tryd.call66 (strings_HasPrefix_sg fun x _ => strings_HasPrefix N x.1 x.2.1) strings_HasPrefix_pk (fun _ _ => rfl) N (fun x y _ h => ((runL_eq (strings_HasPrefix_E N) N Tryd.f66 (strings_HasPrefix_sg fun x _ => strings_HasPrefix N x.1 x.2.1) strings_HasPrefix_pk (strings_HasPrefix_LP N) (show LoopsOk (strings_HasPrefix_LP N) (strings_HasPrefix_E N) N (resD (strings_HasPrefix_E N) Tryd.f66 (strings_HasPrefix_sg fun x _ => strings_HasPrefix N x.1 x.2.1) strings_HasPrefix_pk) [] from trivial) x y).trans (strings_HasPrefix_core N x y)).trans h)
def blob_Within (N : Nat) (x0 : Str) (x1 : Str) : Option Bool :=
  br (decide (x1.length + ([47] : Str).length ≤ 9223372036854775807))
    (bnd (strings_HasPrefix N x0 (x1 ++ ([47] : Str))) fun t8 =>
    some t8)
    none
abbrev blob_Within_sg (f : SV [.v .str, .v .str] → BV [] → Option (Bool)) : AF := { ps := [.v .str, .v .str], bs := [], rs := [.v .bool], cs := [], R := Bool, out := fun z => ((z, ()), ()), f := f }
abbrev blob_Within_pk : SV [.v .bool] → BV [] → Bool := fun x _ => x.1
def blob_Within_fn (N : Nat) : FuncId → Option Tmp → Option AF := fun f _ =>
  match f with
    | 66 => some (strings_HasPrefix_sg fun x _ => strings_HasPrefix N x.1 x.2.1)
    | _ => none
theorem blob_Within_fn_ok (N : Nat) : ∀ f q F, blob_Within_fn N f q = some F → Sound Tryd.prog GW B0G f F := by
  intro f q F h
  unfold blob_Within_fn at h
  split at h
  · cases h; exact strings_HasPrefix_sound N
  · cases h
def blob_Within_h : Nat → Hint := fun i =>
  match i with
  | _ => ⟨[], [], [], [], [], []⟩
abbrev blob_Within_E (N : Nat) : Env := mkE blob_Within_h (blob_Within_fn N) (fun _ => false) (fun _ => false)
noncomputable def blob_Within_LP (N : Nat) : Nat → Code → St → (Ex → St → Option Bool) → Option Bool := fun i c =>
  match i with
  | i => fun st k => iter (blob_Within_h i) (exec (blob_Within_E N) N c i) N st k
theorem blob_Within_core (N : Nat) (x : SV [.v .str, .v .str]) (y : BV []) : runL (blob_Within_E N) Tryd.f59 (blob_Within_sg fun x _ => blob_Within N x.1 x.2.1) blob_Within_pk (blob_Within_LP N) x y = blob_Within N x.1 x.2.1 := by kernel_rfl
theorem blob_Within_sound (N : Nat) : Sound Tryd.prog GW B0G 59 (blob_Within_sg fun x _ => blob_Within N x.1 x.2.1) :=
  runD_sound (mkE_ok blob_Within_h (blob_Within_fn N) _ _ (blob_Within_fn_ok N)) Tryd.func59 rfl Tryd.call59 (blob_Within_sg fun x _ => blob_Within N x.1 x.2.1) blob_Within_pk (fun _ _ => rfl) N (fun x y _ h => ((runL_eq (blob_Within_E N) N Tryd.f59 (blob_Within_sg fun x _ => blob_Within N x.1 x.2.1) blob_Within_pk (blob_Within_LP N) (show LoopsOk (blob_Within_LP N) (blob_Within_E N) N (resD (blob_Within_E N) Tryd.f59 (blob_Within_sg fun x _ => blob_Within N x.1 x.2.1) blob_Within_pk) [] from trivial) x y).trans (blob_Within_core N x y)).trans h)
def blob_At_L0T (N : Nat) (x1 : Str) (c20 : Int) (t19 : List (Str × Bool × List UInt8)) (k0 : (List (Str × Bool × List UInt8)) → Option (Int × List (Str × Bool × List UInt8))) (self : Int → (List (Str × Bool × List UInt8)) → Option (Int × List (Str × Bool × List UInt8))) (s21 : Int) (w1007 : List (Str × Bool × List UInt8)) : Option (Int × List (Str × Bool × List UInt8)) :=
  br (decide (s21 < c20))
    (br (decide (0 ≤ s21 ∧ s21 < (t19.length : Int)))
      (bnd (geti t19 s21) fun t24 =>
      bnd (blob_Within N t24.1 x1) fun t28 =>
      br (t28)
        (bnd (slc t24.1 (IntKind.i64.wrap ((x1.length : Int) + (1 : Int))) (t24.1.length : Int)) fun t34 =>
        br (decide ((w1007.length + [(t34, t24.2)].length) * (24 * Ty.sz (.pr .str (.pr .bool (.sl .u8)))) ≤ 140737488355328))
          (self (IntKind.i64.wrap (s21 + (1 : Int))) (w1007 ++ [(t34, t24.2)]))
          none)
        (self (IntKind.i64.wrap (s21 + (1 : Int))) w1007))
      none)
    (k0 w1007)
def blob_At_L0 (N : Nat) (x1 : Str) (c20 : Int) (t19 : List (Str × Bool × List UInt8)) (k0 : (List (Str × Bool × List UInt8)) → Option (Int × List (Str × Bool × List UInt8))) : Nat → Int → (List (Str × Bool × List UInt8)) → Option (Int × List (Str × Bool × List UInt8))
  | 0, _, _ => none
  | n + 1, s21, w1007 => blob_At_L0T N x1 c20 t19 k0 (blob_At_L0 N x1 c20 t19 k0 n) s21 w1007
def blob_At (N : Nat) (x0 : List (Str × Bool × List UInt8)) (x1 : Str) : Option (Int × List (Str × Bool × List UInt8)) :=
  bnd (blob_CheckFiles N x0) fun t11 =>
  br (t11 != (0 : Int))
    (some (t11, ([] : List (Str × Bool × List UInt8))))
    (bnd (blob_IsPath N x1) fun t16 =>
    br (!t16)
      (some ((3 : Int), ([] : List (Str × Bool × List UInt8))))
      (bnd (blob_Own N x0) fun t19 =>
      blob_At_L0 N x1 (t19.length : Int) t19 (fun o0_w1007 =>
          some ((0 : Int), o0_w1007)) N (0 : Int) ([] : List (Str × Bool × List UInt8))))
abbrev blob_At_sg (f : SV [.v (.sl (.pr .str (.pr .bool (.sl .u8)))), .v .str] → BV [] → Option (Int × List (Str × Bool × List UInt8))) : AF := { ps := [.v (.sl (.pr .str (.pr .bool (.sl .u8)))), .v .str], bs := [], rs := [.row 0, .v (.int .i64)], cs := [.row 34 (.pr .str (.pr .bool (.sl .u8))) false], R := Int × List (Str × Bool × List UInt8), out := fun z => (((), z.1, ()), (z.2, ())), f := f }
abbrev blob_At_pk : SV [.row 0, .v (.int .i64)] → BV [.row 34 (.pr .str (.pr .bool (.sl .u8))) false] → (Int × List (Str × Bool × List UInt8)) := fun x y => (x.2.1, y.1)
def blob_At_fn (N : Nat) : FuncId → Option Tmp → Option AF := fun f _ =>
  match f with
    | 35 => some (blob_CheckFiles_sg fun x _ => blob_CheckFiles N x.1)
    | 38 => some (blob_IsPath_sg fun x _ => blob_IsPath N x.1)
    | 58 => some (blob_Own_sg fun x _ => blob_Own N x.1)
    | 59 => some (blob_Within_sg fun x _ => blob_Within N x.1 x.2.1)
    | _ => none
theorem blob_At_fn_ok (N : Nat) : ∀ f q F, blob_At_fn N f q = some F → Sound Tryd.prog GW B0G f F := by
  intro f q F h
  unfold blob_At_fn at h
  split at h
  · cases h; exact blob_CheckFiles_sound N
  · cases h; exact blob_IsPath_sound N
  · cases h; exact blob_Own_sound N
  · cases h; exact blob_Within_sound N
  · cases h
def blob_At_h : Nat → Hint := fun i =>
  match i with
  | 0 => ⟨[], [1, 7, 19, 20, 21], [1007, 101900], [7], [1007], []⟩
  | _ => ⟨[], [], [], [], [], []⟩
abbrev blob_At_E (N : Nat) : Env := mkE blob_At_h (blob_At_fn N) (fun _ => false) (fun _ => false)
abbrev blob_At_L0_fs : List (Nat × Sl) := [(1, .v .str), (7, .row 1007), (19, .row 101900), (20, .v (.int .i64)), (21, .v (.int .i64))]
abbrev blob_At_L0_bs : List (Nat × Sb) := [(1007, .row 34 (.pr .str (.pr .bool (.sl .u8))) false), (101900, .row 34 (.pr .str (.pr .bool (.sl .u8))) true)]
def blob_At_L0_hd (x1 : Str) (c20 : Int) (t19 : List (Str × Bool × List UInt8)) (s21 : Int) (w1007 : List (Str × Bool × List UInt8)) : St := ⟨42, [(1, .v .str x1), (7, .row 1007), (19, .row 101900), (20, .v (.int .i64) c20), (21, .v (.int .i64) s21)], [(1007, .row 34 (.pr .str (.pr .bool (.sl .u8))) false w1007), (101900, .row 34 (.pr .str (.pr .bool (.sl .u8))) true t19)]⟩
def blob_At_L0_tl0 (_x1 : Str) (_c20 : Int) (_t19 : List (Str × Bool × List UInt8)) (o0_w1007 : List (Str × Bool × List UInt8)) : St := ⟨42, [(7, .row 1007)], [(1007, .row 34 (.pr .str (.pr .bool (.sl .u8))) false o0_w1007)]⟩
def blob_At_L0_G (N : Nat) (x1 : Str) (c20 : Int) (t19 : List (Str × Bool × List UInt8)) (s21 : Int) (w1007 : List (Str × Bool × List UInt8)) (k : Ex → St → Option (Int × List (Str × Bool × List UInt8))) : Option (Int × List (Str × Bool × List UInt8)) :=
  blob_At_L0 N x1 c20 t19 (fun o0_w1007 => k (.exit 0) (blob_At_L0_tl0 x1 c20 t19 o0_w1007)) N s21 w1007
abbrev blob_At_L0_F (N : Nat) : FV blob_At_L0_fs → HV blob_At_L0_bs → (Ex → St → Option (Int × List (Str × Bool × List UInt8))) → Option (Int × List (Str × Bool × List UInt8)) := fun x y k => blob_At_L0_G N x.1 x.2.2.2.1 y.2.1 x.2.2.2.2.1 y.1 k
noncomputable def blob_At_LP (N : Nat) : Nat → Code → St → (Ex → St → Option (Int × List (Str × Bool × List UInt8))) → Option (Int × List (Str × Bool × List UInt8)) := fun i c =>
  match i with
  | 0 => (LPc 42 blob_At_L0_fs blob_At_L0_bs (blob_At_L0_F N) (fun st k => iter (blob_At_h 0) (exec (blob_At_E N) N c 0) N st k))
  | i => fun st k => iter (blob_At_h i) (exec (blob_At_E N) N c i) N st k
theorem blob_At_L0_step (N : Nat) (x1 : Str) (c20 : Int) (t19 : List (Str × Bool × List UInt8)) (KX : Nat → St → Option (Int × List (Str × Bool × List UInt8))) (I : St → Option (Int × List (Str × Bool × List UInt8))) (s21 : Int) (w1007 : List (Str × Bool × List UInt8)) :
    execL (blob_At_LP N) (blob_At_E N) (cAt (bodyOf Tryd.f26) [true, true, true, true, false, true, false, false]) 0 (blob_At_L0_hd x1 c20 t19 s21 w1007) (roundK (blob_At_h 0) I KX (resD (blob_At_E N) Tryd.f26 (blob_At_sg fun x _ => blob_At N x.1 x.2.1) blob_At_pk)) = blob_At_L0T N x1 c20 t19 (fun o0_w1007 => KX 0 (blob_At_L0_tl0 x1 c20 t19 o0_w1007)) (fun s21 w1007 => I (blob_At_L0_hd x1 c20 t19 s21 w1007)) s21 w1007 := by kernel_rfl
theorem blob_At_L0_ok (N : Nat) : ∀ x y k, (∀ st, k .ret st = (resD (blob_At_E N) Tryd.f26 (blob_At_sg fun x _ => blob_At N x.1 x.2.1) blob_At_pk) st) → iter (blob_At_h 0) (exec (blob_At_E N) N (cAt (bodyOf Tryd.f26) [true, true, true, true, false, true, false, false]) 0) N ⟨42, unF blob_At_L0_fs x, unH blob_At_L0_bs y⟩ k = blob_At_L0_F N x y k := fun x y k hk =>
  iter_link (S := (Int) × (List (Str × Bool × List UInt8)) × Unit) (blob_At_h 0) _ (execL (blob_At_LP N) (blob_At_E N) (cAt (bodyOf Tryd.f26) [true, true, true, true, false, true, false, false]) 0) (resD (blob_At_E N) Tryd.f26 (blob_At_sg fun x _ => blob_At N x.1 x.2.1) blob_At_pk) (fun st k hk => execL_eq _ _ N _ (cAt (bodyOf Tryd.f26) [true, true, true, true, false, true, false, false]) 0 (show LoopsOk (blob_At_LP N) (blob_At_E N) N (resD (blob_At_E N) Tryd.f26 (blob_At_sg fun x _ => blob_At N x.1 x.2.1) blob_At_pk) [] from trivial) st k hk) (fun s => blob_At_L0_hd x.1 x.2.2.2.1 y.2.1 s.1 s.2.1) k hk
    (fun self s => blob_At_L0T N x.1 x.2.2.2.1 y.2.1 (fun o0_w1007 => k (.exit 0) (blob_At_L0_tl0 x.1 x.2.2.2.1 y.2.1 o0_w1007)) (fun s21 w1007 => self (s21, w1007, ())) s.1 s.2.1) (fun n s => blob_At_L0 N x.1 x.2.2.2.1 y.2.1 (fun o0_w1007 => k (.exit 0) (blob_At_L0_tl0 x.1 x.2.2.2.1 y.2.1 o0_w1007)) n s.1 s.2.1) (fun _ => rfl) (fun _ _ => rfl)
    (fun I s => blob_At_L0_step N x.1 x.2.2.2.1 y.2.1 (fun j => k (.exit j)) I s.1 s.2.1) N (x.2.2.2.2.1, y.1, ())
theorem blob_At_lp0 (N : Nat) : ∀ st k, (∀ st, k .ret st = (resD (blob_At_E N) Tryd.f26 (blob_At_sg fun x _ => blob_At N x.1 x.2.1) blob_At_pk) st) → blob_At_LP N 0 (cAt (bodyOf Tryd.f26) [true, true, true, true, false, true, false, false]) st k = iter (Env.hint (blob_At_E N) 0) (exec (blob_At_E N) N (cAt (bodyOf Tryd.f26) [true, true, true, true, false, true, false, false]) 0) N st k := fun st k hk => LPc_eq 42 blob_At_L0_fs blob_At_L0_bs _ _ (resD (blob_At_E N) Tryd.f26 (blob_At_sg fun x _ => blob_At N x.1 x.2.1) blob_At_pk) (blob_At_L0_ok N) _ st k hk (rfl)
theorem blob_At_core (N : Nat) (x : SV [.v (.sl (.pr .str (.pr .bool (.sl .u8)))), .v .str]) (y : BV []) : runL (blob_At_E N) Tryd.f26 (blob_At_sg fun x _ => blob_At N x.1 x.2.1) blob_At_pk (blob_At_LP N) x y = blob_At N x.1 x.2.1 := by kernel_rfl
theorem blob_At_sound (N : Nat) : Sound Tryd.prog GW B0G 26 (blob_At_sg fun x _ => blob_At N x.1 x.2.1) :=
  runD_sound (mkE_ok blob_At_h (blob_At_fn N) _ _ (blob_At_fn_ok N)) Tryd.func26 rfl Tryd.call26 (blob_At_sg fun x _ => blob_At N x.1 x.2.1) blob_At_pk (fun _ _ => rfl) N (fun x y _ h => ((runL_eq (blob_At_E N) N Tryd.f26 (blob_At_sg fun x _ => blob_At N x.1 x.2.1) blob_At_pk (blob_At_LP N) (show LoopsOk (blob_At_LP N) (blob_At_E N) N (resD (blob_At_E N) Tryd.f26 (blob_At_sg fun x _ => blob_At N x.1 x.2.1) blob_At_pk) [(0, (cAt (bodyOf Tryd.f26) [true, true, true, true, false, true, false, false]))] from ⟨blob_At_lp0 N, trivial⟩) x y).trans (blob_At_core N x y)).trans h)
def ref1_Lies (N : Nat) (x0 : Str) (x1 : Str) : Option Bool :=
  br (decide (x1.length + ([47] : Str).length ≤ 9223372036854775807))
    (bnd (strings_HasPrefix N x0 (x1 ++ ([47] : Str))) fun t8 =>
    some t8)
    none
abbrev ref1_Lies_sg (f : SV [.v .str, .v .str] → BV [] → Option (Bool)) : AF := { ps := [.v .str, .v .str], bs := [], rs := [.v .bool], cs := [], R := Bool, out := fun z => ((z, ()), ()), f := f }
abbrev ref1_Lies_pk : SV [.v .bool] → BV [] → Bool := fun x _ => x.1
def ref1_Lies_fn (N : Nat) : FuncId → Option Tmp → Option AF := fun f _ =>
  match f with
    | 66 => some (strings_HasPrefix_sg fun x _ => strings_HasPrefix N x.1 x.2.1)
    | _ => none
theorem ref1_Lies_fn_ok (N : Nat) : ∀ f q F, ref1_Lies_fn N f q = some F → Sound Tryd.prog GW B0G f F := by
  intro f q F h
  unfold ref1_Lies_fn at h
  split at h
  · cases h; exact strings_HasPrefix_sound N
  · cases h
def ref1_Lies_h : Nat → Hint := fun i =>
  match i with
  | _ => ⟨[], [], [], [], [], []⟩
abbrev ref1_Lies_E (N : Nat) : Env := mkE ref1_Lies_h (ref1_Lies_fn N) (fun _ => false) (fun _ => false)
noncomputable def ref1_Lies_LP (N : Nat) : Nat → Code → St → (Ex → St → Option Bool) → Option Bool := fun i c =>
  match i with
  | i => fun st k => iter (ref1_Lies_h i) (exec (ref1_Lies_E N) N c i) N st k
theorem ref1_Lies_core (N : Nat) (x : SV [.v .str, .v .str]) (y : BV []) : runL (ref1_Lies_E N) Tryd.f30 (ref1_Lies_sg fun x _ => ref1_Lies N x.1 x.2.1) ref1_Lies_pk (ref1_Lies_LP N) x y = ref1_Lies N x.1 x.2.1 := by kernel_rfl
theorem ref1_Lies_sound (N : Nat) : Sound Tryd.prog GW B0G 30 (ref1_Lies_sg fun x _ => ref1_Lies N x.1 x.2.1) :=
  runD_sound (mkE_ok ref1_Lies_h (ref1_Lies_fn N) _ _ (ref1_Lies_fn_ok N)) Tryd.func30 rfl Tryd.call30 (ref1_Lies_sg fun x _ => ref1_Lies N x.1 x.2.1) ref1_Lies_pk (fun _ _ => rfl) N (fun x y _ h => ((runL_eq (ref1_Lies_E N) N Tryd.f30 (ref1_Lies_sg fun x _ => ref1_Lies N x.1 x.2.1) ref1_Lies_pk (ref1_Lies_LP N) (show LoopsOk (ref1_Lies_LP N) (ref1_Lies_E N) N (resD (ref1_Lies_E N) Tryd.f30 (ref1_Lies_sg fun x _ => ref1_Lies N x.1 x.2.1) ref1_Lies_pk) [] from trivial) x y).trans (ref1_Lies_core N x y)).trans h)
def ref1_copied (_N : Nat) (x0 : Str × Bool × List UInt8) (x1 : Str) : Option (Str × Bool × List UInt8) :=
  br (decide (x0.2.2.length * (24 * Ty.sz .u8) ≤ 140737488355328))
    (some (x1, x0.2))
    none
abbrev ref1_copied_sg (f : SV [.v (.pr .str (.pr .bool (.sl .u8))), .v .str] → BV [] → Option (Str × Bool × List UInt8)) : AF := { ps := [.v (.pr .str (.pr .bool (.sl .u8))), .v .str], bs := [], rs := [.v (.pr .str (.pr .bool (.sl .u8)))], cs := [], R := Str × Bool × List UInt8, out := fun z => ((z, ()), ()), f := f }
abbrev ref1_copied_pk : SV [.v (.pr .str (.pr .bool (.sl .u8)))] → BV [] → (Str × Bool × List UInt8) := fun x _ => x.1
def ref1_copied_fn (_N : Nat) : FuncId → Option Tmp → Option AF := fun f _ =>
  match f with
    | _ => none
theorem ref1_copied_fn_ok (N : Nat) : ∀ f q F, ref1_copied_fn N f q = some F → Sound Tryd.prog GW B0G f F := by
  intro f q F h
  unfold ref1_copied_fn at h
  split at h
  · cases h
def ref1_copied_h : Nat → Hint := fun i =>
  match i with
  | _ => ⟨[], [], [], [], [], []⟩
abbrev ref1_copied_E (N : Nat) : Env := mkE ref1_copied_h (ref1_copied_fn N) (fun _ => false) (fun _ => false)
noncomputable def ref1_copied_LP (N : Nat) : Nat → Code → St → (Ex → St → Option (Str × Bool × List UInt8)) → Option (Str × Bool × List UInt8) := fun i c =>
  match i with
  | i => fun st k => iter (ref1_copied_h i) (exec (ref1_copied_E N) N c i) N st k
theorem ref1_copied_core (N : Nat) (x : SV [.v (.pr .str (.pr .bool (.sl .u8))), .v .str]) (y : BV []) : runL (ref1_copied_E N) Tryd.f64 (ref1_copied_sg fun x _ => ref1_copied N x.1 x.2.1) ref1_copied_pk (ref1_copied_LP N) x y = ref1_copied N x.1 x.2.1 := by kernel_rfl
theorem ref1_copied_sound (N : Nat) : Sound Tryd.prog GW B0G 64 (ref1_copied_sg fun x _ => ref1_copied N x.1 x.2.1) :=
  runD_sound (mkE_ok ref1_copied_h (ref1_copied_fn N) _ _ (ref1_copied_fn_ok N)) Tryd.func64 rfl Tryd.call64 (ref1_copied_sg fun x _ => ref1_copied N x.1 x.2.1) ref1_copied_pk (fun _ _ => rfl) N (fun x y _ h => ((runL_eq (ref1_copied_E N) N Tryd.f64 (ref1_copied_sg fun x _ => ref1_copied N x.1 x.2.1) ref1_copied_pk (ref1_copied_LP N) (show LoopsOk (ref1_copied_LP N) (ref1_copied_E N) N (resD (ref1_copied_E N) Tryd.f64 (ref1_copied_sg fun x _ => ref1_copied N x.1 x.2.1) ref1_copied_pk) [] from trivial) x y).trans (ref1_copied_core N x y)).trans h)
def ref1_AtOf_L0T (N : Nat) (x0 : List (Str × Bool × List UInt8)) (x1 : Str) (k0 : (List (Str × Bool × List UInt8)) → Option (List (Str × Bool × List UInt8))) (self : Int → (List (Str × Bool × List UInt8)) → Option (List (Str × Bool × List UInt8))) (s6 : Int) (w1005 : List (Str × Bool × List UInt8)) : Option (List (Str × Bool × List UInt8)) :=
  br (decide (s6 < (x0.length : Int)))
    (bnd (geti x0 s6) fun t15 =>
    bnd (ref1_Lies N t15.1 x1) fun t19 =>
    br (t19)
      (bnd (geti x0 s6) fun t23 =>
      bnd (geti x0 s6) fun t27 =>
      bnd (slc t27.1 (IntKind.i64.wrap ((x1.length : Int) + (1 : Int))) (t27.1.length : Int)) fun t33 =>
      bnd (ref1_copied N t23 t33) fun t34 =>
      br (decide ((w1005.length + [t34].length) * (24 * Ty.sz (.pr .str (.pr .bool (.sl .u8)))) ≤ 140737488355328))
        (self (IntKind.i64.wrap (s6 + (1 : Int))) (w1005 ++ [t34]))
        none)
      (self (IntKind.i64.wrap (s6 + (1 : Int))) w1005))
    (k0 w1005)
def ref1_AtOf_L0 (N : Nat) (x0 : List (Str × Bool × List UInt8)) (x1 : Str) (k0 : (List (Str × Bool × List UInt8)) → Option (List (Str × Bool × List UInt8))) : Nat → Int → (List (Str × Bool × List UInt8)) → Option (List (Str × Bool × List UInt8))
  | 0, _, _ => none
  | n + 1, s6, w1005 => ref1_AtOf_L0T N x0 x1 k0 (ref1_AtOf_L0 N x0 x1 k0 n) s6 w1005
def ref1_AtOf (N : Nat) (x0 : List (Str × Bool × List UInt8)) (x1 : Str) : Option (List (Str × Bool × List UInt8)) :=
  ref1_AtOf_L0 N x0 x1 (fun o0_w1005 =>
      some o0_w1005) N (0 : Int) ([] : List (Str × Bool × List UInt8))
abbrev ref1_AtOf_sg (f : SV [.v (.sl (.pr .str (.pr .bool (.sl .u8)))), .v .str] → BV [] → Option (List (Str × Bool × List UInt8))) : AF := { ps := [.v (.sl (.pr .str (.pr .bool (.sl .u8)))), .v .str], bs := [], rs := [.row 0], cs := [.row 34 (.pr .str (.pr .bool (.sl .u8))) false], R := List (Str × Bool × List UInt8), out := fun z => (((), ()), (z, ())), f := f }
abbrev ref1_AtOf_pk : SV [.row 0] → BV [.row 34 (.pr .str (.pr .bool (.sl .u8))) false] → (List (Str × Bool × List UInt8)) := fun _ y => y.1
def ref1_AtOf_fn (N : Nat) : FuncId → Option Tmp → Option AF := fun f _ =>
  match f with
    | 30 => some (ref1_Lies_sg fun x _ => ref1_Lies N x.1 x.2.1)
    | 64 => some (ref1_copied_sg fun x _ => ref1_copied N x.1 x.2.1)
    | _ => none
theorem ref1_AtOf_fn_ok (N : Nat) : ∀ f q F, ref1_AtOf_fn N f q = some F → Sound Tryd.prog GW B0G f F := by
  intro f q F h
  unfold ref1_AtOf_fn at h
  split at h
  · cases h; exact ref1_Lies_sound N
  · cases h; exact ref1_copied_sound N
  · cases h
def ref1_AtOf_h : Nat → Hint := fun i =>
  match i with
  | 0 => ⟨[], [0, 1, 5, 6], [1005], [5], [1005], []⟩
  | 100006 => ⟨[], [], [], [], [], []⟩
  | _ => ⟨[], [], [], [], [], []⟩
abbrev ref1_AtOf_E (N : Nat) : Env := mkE ref1_AtOf_h (ref1_AtOf_fn N) (fun _ => false) (fun _ => false)
abbrev ref1_AtOf_L0_fs : List (Nat × Sl) := [(0, .v (.sl (.pr .str (.pr .bool (.sl .u8))))), (1, .v .str), (5, .row 1005), (6, .v (.int .i64))]
abbrev ref1_AtOf_L0_bs : List (Nat × Sb) := [(1005, .row 34 (.pr .str (.pr .bool (.sl .u8))) false)]
def ref1_AtOf_L0_hd (x0 : List (Str × Bool × List UInt8)) (x1 : Str) (s6 : Int) (w1005 : List (Str × Bool × List UInt8)) : St := ⟨38, [(0, .v (.sl (.pr .str (.pr .bool (.sl .u8)))) x0), (1, .v .str x1), (5, .row 1005), (6, .v (.int .i64) s6)], [(1005, .row 34 (.pr .str (.pr .bool (.sl .u8))) false w1005)]⟩
def ref1_AtOf_L0_tl0 (_x0 : List (Str × Bool × List UInt8)) (_x1 : Str) (o0_w1005 : List (Str × Bool × List UInt8)) : St := ⟨38, [(5, .row 1005)], [(1005, .row 34 (.pr .str (.pr .bool (.sl .u8))) false o0_w1005)]⟩
def ref1_AtOf_L0_G (N : Nat) (x0 : List (Str × Bool × List UInt8)) (x1 : Str) (s6 : Int) (w1005 : List (Str × Bool × List UInt8)) (k : Ex → St → Option (List (Str × Bool × List UInt8))) : Option (List (Str × Bool × List UInt8)) :=
  ref1_AtOf_L0 N x0 x1 (fun o0_w1005 => k (.exit 0) (ref1_AtOf_L0_tl0 x0 x1 o0_w1005)) N s6 w1005
abbrev ref1_AtOf_L0_F (N : Nat) : FV ref1_AtOf_L0_fs → HV ref1_AtOf_L0_bs → (Ex → St → Option (List (Str × Bool × List UInt8))) → Option (List (Str × Bool × List UInt8)) := fun x y k => ref1_AtOf_L0_G N x.1 x.2.1 x.2.2.2.1 y.1 k
noncomputable def ref1_AtOf_LP (N : Nat) : Nat → Code → St → (Ex → St → Option (List (Str × Bool × List UInt8))) → Option (List (Str × Bool × List UInt8)) := fun i c =>
  match i with
  | 0 => (LPc 38 ref1_AtOf_L0_fs ref1_AtOf_L0_bs (ref1_AtOf_L0_F N) (fun st k => iter (ref1_AtOf_h 0) (exec (ref1_AtOf_E N) N c 0) N st k))
  | i => fun st k => iter (ref1_AtOf_h i) (exec (ref1_AtOf_E N) N c i) N st k
theorem ref1_AtOf_L0_step (N : Nat) (x0 : List (Str × Bool × List UInt8)) (x1 : Str) (KX : Nat → St → Option (List (Str × Bool × List UInt8))) (I : St → Option (List (Str × Bool × List UInt8))) (s6 : Int) (w1005 : List (Str × Bool × List UInt8)) :
    execL (ref1_AtOf_LP N) (ref1_AtOf_E N) (cAt (bodyOf Tryd.f60) [true, true, false, true, false, false]) 0 (ref1_AtOf_L0_hd x0 x1 s6 w1005) (roundK (ref1_AtOf_h 0) I KX (resD (ref1_AtOf_E N) Tryd.f60 (ref1_AtOf_sg fun x _ => ref1_AtOf N x.1 x.2.1) ref1_AtOf_pk)) = ref1_AtOf_L0T N x0 x1 (fun o0_w1005 => KX 0 (ref1_AtOf_L0_tl0 x0 x1 o0_w1005)) (fun s6 w1005 => I (ref1_AtOf_L0_hd x0 x1 s6 w1005)) s6 w1005 := by kernel_rfl
theorem ref1_AtOf_L0_ok (N : Nat) : ∀ x y k, (∀ st, k .ret st = (resD (ref1_AtOf_E N) Tryd.f60 (ref1_AtOf_sg fun x _ => ref1_AtOf N x.1 x.2.1) ref1_AtOf_pk) st) → iter (ref1_AtOf_h 0) (exec (ref1_AtOf_E N) N (cAt (bodyOf Tryd.f60) [true, true, false, true, false, false]) 0) N ⟨38, unF ref1_AtOf_L0_fs x, unH ref1_AtOf_L0_bs y⟩ k = ref1_AtOf_L0_F N x y k := fun x y k hk =>
  iter_link (S := (Int) × (List (Str × Bool × List UInt8)) × Unit) (ref1_AtOf_h 0) _ (execL (ref1_AtOf_LP N) (ref1_AtOf_E N) (cAt (bodyOf Tryd.f60) [true, true, false, true, false, false]) 0) (resD (ref1_AtOf_E N) Tryd.f60 (ref1_AtOf_sg fun x _ => ref1_AtOf N x.1 x.2.1) ref1_AtOf_pk) (fun st k hk => execL_eq _ _ N _ (cAt (bodyOf Tryd.f60) [true, true, false, true, false, false]) 0 (show LoopsOk (ref1_AtOf_LP N) (ref1_AtOf_E N) N (resD (ref1_AtOf_E N) Tryd.f60 (ref1_AtOf_sg fun x _ => ref1_AtOf N x.1 x.2.1) ref1_AtOf_pk) [] from trivial) st k hk) (fun s => ref1_AtOf_L0_hd x.1 x.2.1 s.1 s.2.1) k hk
    (fun self s => ref1_AtOf_L0T N x.1 x.2.1 (fun o0_w1005 => k (.exit 0) (ref1_AtOf_L0_tl0 x.1 x.2.1 o0_w1005)) (fun s6 w1005 => self (s6, w1005, ())) s.1 s.2.1) (fun n s => ref1_AtOf_L0 N x.1 x.2.1 (fun o0_w1005 => k (.exit 0) (ref1_AtOf_L0_tl0 x.1 x.2.1 o0_w1005)) n s.1 s.2.1) (fun _ => rfl) (fun _ _ => rfl)
    (fun I s => ref1_AtOf_L0_step N x.1 x.2.1 (fun j => k (.exit j)) I s.1 s.2.1) N (x.2.2.2.1, y.1, ())
theorem ref1_AtOf_lp0 (N : Nat) : ∀ st k, (∀ st, k .ret st = (resD (ref1_AtOf_E N) Tryd.f60 (ref1_AtOf_sg fun x _ => ref1_AtOf N x.1 x.2.1) ref1_AtOf_pk) st) → ref1_AtOf_LP N 0 (cAt (bodyOf Tryd.f60) [true, true, false, true, false, false]) st k = iter (Env.hint (ref1_AtOf_E N) 0) (exec (ref1_AtOf_E N) N (cAt (bodyOf Tryd.f60) [true, true, false, true, false, false]) 0) N st k := fun st k hk => LPc_eq 38 ref1_AtOf_L0_fs ref1_AtOf_L0_bs _ _ (resD (ref1_AtOf_E N) Tryd.f60 (ref1_AtOf_sg fun x _ => ref1_AtOf N x.1 x.2.1) ref1_AtOf_pk) (ref1_AtOf_L0_ok N) _ st k hk (rfl)
theorem ref1_AtOf_core (N : Nat) (x : SV [.v (.sl (.pr .str (.pr .bool (.sl .u8)))), .v .str]) (y : BV []) : runL (ref1_AtOf_E N) Tryd.f60 (ref1_AtOf_sg fun x _ => ref1_AtOf N x.1 x.2.1) ref1_AtOf_pk (ref1_AtOf_LP N) x y = ref1_AtOf N x.1 x.2.1 := by kernel_rfl
theorem ref1_AtOf_sound (N : Nat) : Sound Tryd.prog GW B0G 60 (ref1_AtOf_sg fun x _ => ref1_AtOf N x.1 x.2.1) :=
  runD_sound (mkE_ok ref1_AtOf_h (ref1_AtOf_fn N) _ _ (ref1_AtOf_fn_ok N)) Tryd.func60 rfl Tryd.call60 (ref1_AtOf_sg fun x _ => ref1_AtOf N x.1 x.2.1) ref1_AtOf_pk (fun _ _ => rfl) N (fun x y _ h => ((runL_eq (ref1_AtOf_E N) N Tryd.f60 (ref1_AtOf_sg fun x _ => ref1_AtOf N x.1 x.2.1) ref1_AtOf_pk (ref1_AtOf_LP N) (show LoopsOk (ref1_AtOf_LP N) (ref1_AtOf_E N) N (resD (ref1_AtOf_E N) Tryd.f60 (ref1_AtOf_sg fun x _ => ref1_AtOf N x.1 x.2.1) ref1_AtOf_pk) [(0, (cAt (bodyOf Tryd.f60) [true, true, false, true, false, false]))] from ⟨ref1_AtOf_lp0 N, trivial⟩) x y).trans (ref1_AtOf_core N x y)).trans h)
def ref1_At (N : Nat) (x0 : List (Str × Bool × List UInt8)) (x1 : Str) : Option (Int × List (Str × Bool × List UInt8)) :=
  bnd (ref1_CheckFiles N x0) fun t8 =>
  br (t8 != (0 : Int))
    (some (t8, ([] : List (Str × Bool × List UInt8))))
    (bnd (ref1_IsPath N x1) fun t13 =>
    br (!t13)
      (some ((3 : Int), ([] : List (Str × Bool × List UInt8))))
      (bnd (ref1_AtOf N x0 x1) fun t17 =>
      some ((0 : Int), t17)))
abbrev ref1_At_sg (f : SV [.v (.sl (.pr .str (.pr .bool (.sl .u8)))), .v .str] → BV [] → Option (Int × List (Str × Bool × List UInt8))) : AF := { ps := [.v (.sl (.pr .str (.pr .bool (.sl .u8)))), .v .str], bs := [], rs := [.row 0, .v (.int .i64)], cs := [.row 34 (.pr .str (.pr .bool (.sl .u8))) false], R := Int × List (Str × Bool × List UInt8), out := fun z => (((), z.1, ()), (z.2, ())), f := f }
abbrev ref1_At_pk : SV [.row 0, .v (.int .i64)] → BV [.row 34 (.pr .str (.pr .bool (.sl .u8))) false] → (Int × List (Str × Bool × List UInt8)) := fun x y => (x.2.1, y.1)
def ref1_At_fn (N : Nat) : FuncId → Option Tmp → Option AF := fun f _ =>
  match f with
    | 36 => some (ref1_CheckFiles_sg fun x _ => ref1_CheckFiles N x.1)
    | 40 => some (ref1_IsPath_sg fun x _ => ref1_IsPath N x.1)
    | 60 => some (ref1_AtOf_sg fun x _ => ref1_AtOf N x.1 x.2.1)
    | _ => none
theorem ref1_At_fn_ok (N : Nat) : ∀ f q F, ref1_At_fn N f q = some F → Sound Tryd.prog GW B0G f F := by
  intro f q F h
  unfold ref1_At_fn at h
  split at h
  · cases h; exact ref1_CheckFiles_sound N
  · cases h; exact ref1_IsPath_sound N
  · cases h; exact ref1_AtOf_sound N
  · cases h
def ref1_At_h : Nat → Hint := fun i =>
  match i with
  | _ => ⟨[], [], [], [], [], []⟩
abbrev ref1_At_E (N : Nat) : Env := mkE ref1_At_h (ref1_At_fn N) (fun _ => false) (fun _ => false)
noncomputable def ref1_At_LP (N : Nat) : Nat → Code → St → (Ex → St → Option (Int × List (Str × Bool × List UInt8))) → Option (Int × List (Str × Bool × List UInt8)) := fun i c =>
  match i with
  | i => fun st k => iter (ref1_At_h i) (exec (ref1_At_E N) N c i) N st k
theorem ref1_At_core (N : Nat) (x : SV [.v (.sl (.pr .str (.pr .bool (.sl .u8)))), .v .str]) (y : BV []) : runL (ref1_At_E N) Tryd.f27 (ref1_At_sg fun x _ => ref1_At N x.1 x.2.1) ref1_At_pk (ref1_At_LP N) x y = ref1_At N x.1 x.2.1 := by kernel_rfl
theorem ref1_At_sound (N : Nat) : Sound Tryd.prog GW B0G 27 (ref1_At_sg fun x _ => ref1_At N x.1 x.2.1) :=
  runD_sound (mkE_ok ref1_At_h (ref1_At_fn N) _ _ (ref1_At_fn_ok N)) Tryd.func27 rfl Tryd.call27 (ref1_At_sg fun x _ => ref1_At N x.1 x.2.1) ref1_At_pk (fun _ _ => rfl) N (fun x y _ h => ((runL_eq (ref1_At_E N) N Tryd.f27 (ref1_At_sg fun x _ => ref1_At N x.1 x.2.1) ref1_At_pk (ref1_At_LP N) (show LoopsOk (ref1_At_LP N) (ref1_At_E N) N (resD (ref1_At_E N) Tryd.f27 (ref1_At_sg fun x _ => ref1_At N x.1 x.2.1) ref1_At_pk) [] from trivial) x y).trans (ref1_At_core N x y)).trans h)
def blob_Put_1 (N : Nat) (x0 : Str × Bool × List UInt8) (x1 : Str) : Option Bool :=
  br (x0.1 == x1)
    (some true)
    (bnd (blob_Within N x0.1 x1) fun t12 =>
    some t12)
abbrev blob_Put_1_sg (f : SV [.v (.pr .str (.pr .bool (.sl .u8))), .v (.ptr .str)] → BV [] → Option (Bool)) : AF := { ps := [.v (.pr .str (.pr .bool (.sl .u8))), .v (.ptr .str)], bs := [], rs := [.v .bool], cs := [], R := Bool, out := fun z => ((z, ()), ()), f := f }
abbrev blob_Put_1_pk : SV [.v .bool] → BV [] → Bool := fun x _ => x.1
def blob_Put_1_fn (N : Nat) : FuncId → Option Tmp → Option AF := fun f _ =>
  match f with
    | 59 => some (blob_Within_sg fun x _ => blob_Within N x.1 x.2.1)
    | _ => none
theorem blob_Put_1_fn_ok (N : Nat) : ∀ f q F, blob_Put_1_fn N f q = some F → Sound Tryd.prog GW B0G f F := by
  intro f q F h
  unfold blob_Put_1_fn at h
  split at h
  · cases h; exact blob_Within_sound N
  · cases h
def blob_Put_1_h : Nat → Hint := fun i =>
  match i with
  | _ => ⟨[], [], [], [], [], []⟩
abbrev blob_Put_1_E (N : Nat) : Env := mkE blob_Put_1_h (blob_Put_1_fn N) (fun _ => false) (fun _ => false)
noncomputable def blob_Put_1_LP (N : Nat) : Nat → Code → St → (Ex → St → Option Bool) → Option Bool := fun i c =>
  match i with
  | i => fun st k => iter (blob_Put_1_h i) (exec (blob_Put_1_E N) N c i) N st k
theorem blob_Put_1_core (N : Nat) (x : SV [.v (.pr .str (.pr .bool (.sl .u8))), .v (.ptr .str)]) (y : BV []) : runL (blob_Put_1_E N) Tryd.f62 (blob_Put_1_sg fun x _ => blob_Put_1 N x.1 x.2.1) blob_Put_1_pk (blob_Put_1_LP N) x y = blob_Put_1 N x.1 x.2.1 := by kernel_rfl
theorem blob_Put_1_sound (N : Nat) : Sound Tryd.prog GW B0G 62 (blob_Put_1_sg fun x _ => blob_Put_1 N x.1 x.2.1) :=
  runD_sound (mkE_ok blob_Put_1_h (blob_Put_1_fn N) _ _ (blob_Put_1_fn_ok N)) Tryd.func62 rfl Tryd.call62 (blob_Put_1_sg fun x _ => blob_Put_1 N x.1 x.2.1) blob_Put_1_pk (fun _ _ => rfl) N (fun x y _ h => ((runL_eq (blob_Put_1_E N) N Tryd.f62 (blob_Put_1_sg fun x _ => blob_Put_1 N x.1 x.2.1) blob_Put_1_pk (blob_Put_1_LP N) (show LoopsOk (blob_Put_1_LP N) (blob_Put_1_E N) N (resD (blob_Put_1_E N) Tryd.f62 (blob_Put_1_sg fun x _ => blob_Put_1 N x.1 x.2.1) blob_Put_1_pk) [] from trivial) x y).trans (blob_Put_1_core N x y)).trans h)
def slices_IndexFunc_api_File_L0T (N : Nat) (x0 : List (Str × Bool × List UInt8)) (x1 : Str × Unit) (c7 : Int) (k0 : Option Int) (self : Int → Option Int) (s8 : Int) : Option Int :=
  br (decide (s8 < c7))
    (bnd (geti x0 s8) fun t14 =>
    bnd (blob_Put_1 N t14 x1.1) fun t16 =>
    br (t16)
      (some s8)
      (self (IntKind.i64.wrap (s8 + (1 : Int)))))
    (k0)
def slices_IndexFunc_api_File_L0 (N : Nat) (x0 : List (Str × Bool × List UInt8)) (x1 : Str × Unit) (c7 : Int) (k0 : Option Int) : Nat → Int → Option Int
  | 0, _ => none
  | n + 1, s8 => slices_IndexFunc_api_File_L0T N x0 x1 c7 k0 (slices_IndexFunc_api_File_L0 N x0 x1 c7 k0 n) s8
def slices_IndexFunc_api_File (N : Nat) (x0 : List (Str × Bool × List UInt8)) (x1 : Str × Unit) : Option Int :=
  slices_IndexFunc_api_File_L0 N x0 x1 (x0.length : Int) (some (-1 : Int)) N (0 : Int)
abbrev slices_IndexFunc_api_File_sg (f : SV [.v (.sl (.pr .str (.pr .bool (.sl .u8)))), .v (.clo 62 (.pr (.ptr .str) .un))] → BV [] → Option (Int)) : AF := { ps := [.v (.sl (.pr .str (.pr .bool (.sl .u8)))), .v (.clo 62 (.pr (.ptr .str) .un))], bs := [], rs := [.v (.int .i64)], cs := [], R := Int, out := fun z => ((z, ()), ()), f := f }
abbrev slices_IndexFunc_api_File_pk : SV [.v (.int .i64)] → BV [] → Int := fun x _ => x.1
def slices_IndexFunc_api_File_fn (N : Nat) : FuncId → Option Tmp → Option AF := fun f _ =>
  match f with
    | 62 => some (blob_Put_1_sg fun x _ => blob_Put_1 N x.1 x.2.1)
    | _ => none
theorem slices_IndexFunc_api_File_fn_ok (N : Nat) : ∀ f q F, slices_IndexFunc_api_File_fn N f q = some F → Sound Tryd.prog GW B0G f F := by
  intro f q F h
  unfold slices_IndexFunc_api_File_fn at h
  split at h
  · cases h; exact blob_Put_1_sound N
  · cases h
def slices_IndexFunc_api_File_h : Nat → Hint := fun i =>
  match i with
  | 0 => ⟨[], [0, 1, 7, 8], [], [], [], []⟩
  | _ => ⟨[], [], [], [], [], []⟩
abbrev slices_IndexFunc_api_File_E (N : Nat) : Env := mkE slices_IndexFunc_api_File_h (slices_IndexFunc_api_File_fn N) (fun _ => false) (fun _ => false)
abbrev slices_IndexFunc_api_File_L0_fs : List (Nat × Sl) := [(0, .v (.sl (.pr .str (.pr .bool (.sl .u8))))), (1, .v (.clo 62 (.pr (.ptr .str) .un))), (7, .v (.int .i64)), (8, .v (.int .i64))]
abbrev slices_IndexFunc_api_File_L0_bs : List (Nat × Sb) := []
def slices_IndexFunc_api_File_L0_hd (x0 : List (Str × Bool × List UInt8)) (x1 : Str × Unit) (c7 : Int) (s8 : Int) : St := ⟨19, [(0, .v (.sl (.pr .str (.pr .bool (.sl .u8)))) x0), (1, .v (.clo 62 (.pr (.ptr .str) .un)) x1), (7, .v (.int .i64) c7), (8, .v (.int .i64) s8)], []⟩
def slices_IndexFunc_api_File_L0_tl0 (_x0 : List (Str × Bool × List UInt8)) (_x1 : Str × Unit) (_c7 : Int) : St := ⟨19, [], []⟩
def slices_IndexFunc_api_File_L0_G (N : Nat) (x0 : List (Str × Bool × List UInt8)) (x1 : Str × Unit) (c7 : Int) (s8 : Int) (k : Ex → St → Option Int) : Option Int :=
  slices_IndexFunc_api_File_L0 N x0 x1 c7 (k (.exit 0) (slices_IndexFunc_api_File_L0_tl0 x0 x1 c7)) N s8
abbrev slices_IndexFunc_api_File_L0_F (N : Nat) : FV slices_IndexFunc_api_File_L0_fs → HV slices_IndexFunc_api_File_L0_bs → (Ex → St → Option Int) → Option Int := fun x _ k => slices_IndexFunc_api_File_L0_G N x.1 x.2.1 x.2.2.1 x.2.2.2.1 k
noncomputable def slices_IndexFunc_api_File_LP (N : Nat) : Nat → Code → St → (Ex → St → Option Int) → Option Int := fun i c =>
  match i with
  | 0 => (LPc 19 slices_IndexFunc_api_File_L0_fs slices_IndexFunc_api_File_L0_bs (slices_IndexFunc_api_File_L0_F N) (fun st k => iter (slices_IndexFunc_api_File_h 0) (exec (slices_IndexFunc_api_File_E N) N c 0) N st k))
  | i => fun st k => iter (slices_IndexFunc_api_File_h i) (exec (slices_IndexFunc_api_File_E N) N c i) N st k
theorem slices_IndexFunc_api_File_L0_step (N : Nat) (x0 : List (Str × Bool × List UInt8)) (x1 : Str × Unit) (c7 : Int) (KX : Nat → St → Option Int) (I : St → Option Int) (s8 : Int) :
    execL (slices_IndexFunc_api_File_LP N) (slices_IndexFunc_api_File_E N) (cAt (bodyOf Tryd.f96) [true, false, true, false, false]) 0 (slices_IndexFunc_api_File_L0_hd x0 x1 c7 s8) (roundK (slices_IndexFunc_api_File_h 0) I KX (resD (slices_IndexFunc_api_File_E N) Tryd.f96 (slices_IndexFunc_api_File_sg fun x _ => slices_IndexFunc_api_File N x.1 x.2.1) slices_IndexFunc_api_File_pk)) = slices_IndexFunc_api_File_L0T N x0 x1 c7 (KX 0 (slices_IndexFunc_api_File_L0_tl0 x0 x1 c7)) (fun s8 => I (slices_IndexFunc_api_File_L0_hd x0 x1 c7 s8)) s8 := by kernel_rfl
theorem slices_IndexFunc_api_File_L0_ok (N : Nat) : ∀ x y k, (∀ st, k .ret st = (resD (slices_IndexFunc_api_File_E N) Tryd.f96 (slices_IndexFunc_api_File_sg fun x _ => slices_IndexFunc_api_File N x.1 x.2.1) slices_IndexFunc_api_File_pk) st) → iter (slices_IndexFunc_api_File_h 0) (exec (slices_IndexFunc_api_File_E N) N (cAt (bodyOf Tryd.f96) [true, false, true, false, false]) 0) N ⟨19, unF slices_IndexFunc_api_File_L0_fs x, unH slices_IndexFunc_api_File_L0_bs y⟩ k = slices_IndexFunc_api_File_L0_F N x y k := fun x _ k hk =>
  iter_link (S := (Int) × Unit) (slices_IndexFunc_api_File_h 0) _ (execL (slices_IndexFunc_api_File_LP N) (slices_IndexFunc_api_File_E N) (cAt (bodyOf Tryd.f96) [true, false, true, false, false]) 0) (resD (slices_IndexFunc_api_File_E N) Tryd.f96 (slices_IndexFunc_api_File_sg fun x _ => slices_IndexFunc_api_File N x.1 x.2.1) slices_IndexFunc_api_File_pk) (fun st k hk => execL_eq _ _ N _ (cAt (bodyOf Tryd.f96) [true, false, true, false, false]) 0 (show LoopsOk (slices_IndexFunc_api_File_LP N) (slices_IndexFunc_api_File_E N) N (resD (slices_IndexFunc_api_File_E N) Tryd.f96 (slices_IndexFunc_api_File_sg fun x _ => slices_IndexFunc_api_File N x.1 x.2.1) slices_IndexFunc_api_File_pk) [] from trivial) st k hk) (fun s => slices_IndexFunc_api_File_L0_hd x.1 x.2.1 x.2.2.1 s.1) k hk
    (fun self s => slices_IndexFunc_api_File_L0T N x.1 x.2.1 x.2.2.1 (k (.exit 0) (slices_IndexFunc_api_File_L0_tl0 x.1 x.2.1 x.2.2.1)) (fun s8 => self (s8, ())) s.1) (fun n s => slices_IndexFunc_api_File_L0 N x.1 x.2.1 x.2.2.1 (k (.exit 0) (slices_IndexFunc_api_File_L0_tl0 x.1 x.2.1 x.2.2.1)) n s.1) (fun _ => rfl) (fun _ _ => rfl)
    (fun I s => slices_IndexFunc_api_File_L0_step N x.1 x.2.1 x.2.2.1 (fun j => k (.exit j)) I s.1) N (x.2.2.2.1, ())
theorem slices_IndexFunc_api_File_lp0 (N : Nat) : ∀ st k, (∀ st, k .ret st = (resD (slices_IndexFunc_api_File_E N) Tryd.f96 (slices_IndexFunc_api_File_sg fun x _ => slices_IndexFunc_api_File N x.1 x.2.1) slices_IndexFunc_api_File_pk) st) → slices_IndexFunc_api_File_LP N 0 (cAt (bodyOf Tryd.f96) [true, false, true, false, false]) st k = iter (Env.hint (slices_IndexFunc_api_File_E N) 0) (exec (slices_IndexFunc_api_File_E N) N (cAt (bodyOf Tryd.f96) [true, false, true, false, false]) 0) N st k := fun st k hk => LPc_eq 19 slices_IndexFunc_api_File_L0_fs slices_IndexFunc_api_File_L0_bs _ _ (resD (slices_IndexFunc_api_File_E N) Tryd.f96 (slices_IndexFunc_api_File_sg fun x _ => slices_IndexFunc_api_File N x.1 x.2.1) slices_IndexFunc_api_File_pk) (slices_IndexFunc_api_File_L0_ok N) _ st k hk (rfl)
theorem slices_IndexFunc_api_File_core (N : Nat) (x : SV [.v (.sl (.pr .str (.pr .bool (.sl .u8)))), .v (.clo 62 (.pr (.ptr .str) .un))]) (y : BV []) : runL (slices_IndexFunc_api_File_E N) Tryd.f96 (slices_IndexFunc_api_File_sg fun x _ => slices_IndexFunc_api_File N x.1 x.2.1) slices_IndexFunc_api_File_pk (slices_IndexFunc_api_File_LP N) x y = slices_IndexFunc_api_File N x.1 x.2.1 := by kernel_rfl
theorem slices_IndexFunc_api_File_sound (N : Nat) : Sound Tryd.prog GW B0G 96 (slices_IndexFunc_api_File_sg fun x _ => slices_IndexFunc_api_File N x.1 x.2.1) :=
  runD_sound (mkE_ok slices_IndexFunc_api_File_h (slices_IndexFunc_api_File_fn N) _ _ (slices_IndexFunc_api_File_fn_ok N)) Tryd.func96 rfl Tryd.call96 (slices_IndexFunc_api_File_sg fun x _ => slices_IndexFunc_api_File N x.1 x.2.1) slices_IndexFunc_api_File_pk (fun _ _ => rfl) N (fun x y _ h => ((runL_eq (slices_IndexFunc_api_File_E N) N Tryd.f96 (slices_IndexFunc_api_File_sg fun x _ => slices_IndexFunc_api_File N x.1 x.2.1) slices_IndexFunc_api_File_pk (slices_IndexFunc_api_File_LP N) (show LoopsOk (slices_IndexFunc_api_File_LP N) (slices_IndexFunc_api_File_E N) N (resD (slices_IndexFunc_api_File_E N) Tryd.f96 (slices_IndexFunc_api_File_sg fun x _ => slices_IndexFunc_api_File N x.1 x.2.1) slices_IndexFunc_api_File_pk) [(0, (cAt (bodyOf Tryd.f96) [true, false, true, false, false]))] from ⟨slices_IndexFunc_api_File_lp0 N, trivial⟩) x y).trans (slices_IndexFunc_api_File_core N x y)).trans h)
def slices_DeleteFunc_api_File_L0T (N : Nat) (x1 : Str × Unit) (k0 : Int → (List (Str × Bool × List UInt8)) → Option (List (Str × Bool × List UInt8))) (self : Int → Int → (List (Str × Bool × List UInt8)) → Option (List (Str × Bool × List UInt8))) (s5 : Int) (s6 : Int) (w0_1 : List (Str × Bool × List UInt8)) : Option (List (Str × Bool × List UInt8)) :=
  br (decide (s6 < (w0_1.length : Int)))
    (br (decide (0 ≤ s6 ∧ s6 < (w0_1.length : Int)))
      (bnd (geti w0_1 s6) fun t25 =>
      bnd (blob_Put_1 N t25 x1.1) fun t28 =>
      br (!t28)
        (br (decide (0 ≤ s5 ∧ s5 < (w0_1.length : Int)))
          (bnd (geti w0_1 s5) fun _ =>
          self (IntKind.i64.wrap (s5 + (1 : Int))) (IntKind.i64.wrap (s6 + (1 : Int))) (seti w0_1 s5 t25))
          none)
        (self s5 (IntKind.i64.wrap (s6 + (1 : Int))) w0_1))
      none)
    (k0 s5 w0_1)
def slices_DeleteFunc_api_File_L0 (N : Nat) (x1 : Str × Unit) (k0 : Int → (List (Str × Bool × List UInt8)) → Option (List (Str × Bool × List UInt8))) : Nat → Int → Int → (List (Str × Bool × List UInt8)) → Option (List (Str × Bool × List UInt8))
  | 0, _, _, _ => none
  | n + 1, s5, s6, w0_1 => slices_DeleteFunc_api_File_L0T N x1 k0 (slices_DeleteFunc_api_File_L0 N x1 k0 n) s5 s6 w0_1
def slices_DeleteFunc_api_File (N : Nat) (x1 : Str × Unit) (w0 : List (Str × Bool × List UInt8)) : Option (List (Str × Bool × List UInt8)) :=
  bnd (slices_IndexFunc_api_File N w0 x1) fun t10 =>
  br (t10 == (-1 : Int))
    (some w0)
    (slices_DeleteFunc_api_File_L0 N x1 (fun o0_5 o0_w0 =>
        br (decide (0 ≤ o0_5 ∧ o0_5 ≤ (o0_w0.length : Int) ∧ 0 < o0_w0.length))
          (br (decide (0 ≤ o0_5 ∧ o0_5 ≤ ((clr o0_w0 o0_5 (zero (.pr .str (.pr .bool (.sl .u8))))).length : Int)))
            (some (cut (clr o0_w0 o0_5 (zero (.pr .str (.pr .bool (.sl .u8))))) o0_5))
            none)
          none) N t10 (IntKind.i64.wrap (t10 + (1 : Int))) w0)
abbrev slices_DeleteFunc_api_File_sg (f : SV [.row 0, .v (.clo 62 (.pr (.ptr .str) .un))] → BV [.row 34 (.pr .str (.pr .bool (.sl .u8))) true] → Option (List (Str × Bool × List UInt8))) : AF := { ps := [.row 0, .v (.clo 62 (.pr (.ptr .str) .un))], bs := [.row 34 (.pr .str (.pr .bool (.sl .u8))) true], rs := [.row 0], cs := [.row 34 (.pr .str (.pr .bool (.sl .u8))) true], R := List (Str × Bool × List UInt8), out := fun z => (((), ()), (z, ())), f := f }
abbrev slices_DeleteFunc_api_File_pk : SV [.row 0] → BV [.row 34 (.pr .str (.pr .bool (.sl .u8))) true] → (List (Str × Bool × List UInt8)) := fun _ y => y.1
def slices_DeleteFunc_api_File_fn (N : Nat) : FuncId → Option Tmp → Option AF := fun f _ =>
  match f with
    | 62 => some (blob_Put_1_sg fun x _ => blob_Put_1 N x.1 x.2.1)
    | 96 => some (slices_IndexFunc_api_File_sg fun x _ => slices_IndexFunc_api_File N x.1 x.2.1)
    | _ => none
theorem slices_DeleteFunc_api_File_fn_ok (N : Nat) : ∀ f q F, slices_DeleteFunc_api_File_fn N f q = some F → Sound Tryd.prog GW B0G f F := by
  intro f q F h
  unfold slices_DeleteFunc_api_File_fn at h
  split at h
  · cases h; exact blob_Put_1_sound N
  · cases h; exact slices_IndexFunc_api_File_sound N
  · cases h
def slices_DeleteFunc_api_File_h : Nat → Hint := fun i =>
  match i with
  | 0 => ⟨[], [0, 1, 5, 6], [0], [0, 5], [0], []⟩
  | _ => ⟨[], [], [], [], [], []⟩
abbrev slices_DeleteFunc_api_File_E (N : Nat) : Env := mkE slices_DeleteFunc_api_File_h (slices_DeleteFunc_api_File_fn N) (fun i => match i with | 4 => true | _ => false) (fun _ => false)
abbrev slices_DeleteFunc_api_File_L0_fs : List (Nat × Sl) := [(0, .row 0), (1, .v (.clo 62 (.pr (.ptr .str) .un))), (5, .v (.int .i64)), (6, .v (.int .i64))]
abbrev slices_DeleteFunc_api_File_L0_bs : List (Nat × Sb) := [(0, .row 34 (.pr .str (.pr .bool (.sl .u8))) true)]
def slices_DeleteFunc_api_File_L0_hd (x1 : Str × Unit) (s5 : Int) (s6 : Int) (w0_1 : List (Str × Bool × List UInt8)) : St := ⟨42, [(0, .row 0), (1, .v (.clo 62 (.pr (.ptr .str) .un)) x1), (5, .v (.int .i64) s5), (6, .v (.int .i64) s6)], [(0, .row 34 (.pr .str (.pr .bool (.sl .u8))) true w0_1)]⟩
def slices_DeleteFunc_api_File_L0_tl0 (_x1 : Str × Unit) (o0_5 : Int) (o0_w0 : List (Str × Bool × List UInt8)) : St := ⟨42, [(0, .row 0), (5, .v (.int .i64) o0_5)], [(0, .row 34 (.pr .str (.pr .bool (.sl .u8))) true o0_w0)]⟩
def slices_DeleteFunc_api_File_L0_G (N : Nat) (x1 : Str × Unit) (s5 : Int) (s6 : Int) (w0_1 : List (Str × Bool × List UInt8)) (k : Ex → St → Option (List (Str × Bool × List UInt8))) : Option (List (Str × Bool × List UInt8)) :=
  slices_DeleteFunc_api_File_L0 N x1 (fun o0_5 o0_w0 => k (.exit 0) (slices_DeleteFunc_api_File_L0_tl0 x1 o0_5 o0_w0)) N s5 s6 w0_1
abbrev slices_DeleteFunc_api_File_L0_F (N : Nat) : FV slices_DeleteFunc_api_File_L0_fs → HV slices_DeleteFunc_api_File_L0_bs → (Ex → St → Option (List (Str × Bool × List UInt8))) → Option (List (Str × Bool × List UInt8)) := fun x y k => slices_DeleteFunc_api_File_L0_G N x.2.1 x.2.2.1 x.2.2.2.1 y.1 k
noncomputable def slices_DeleteFunc_api_File_LP (N : Nat) : Nat → Code → St → (Ex → St → Option (List (Str × Bool × List UInt8))) → Option (List (Str × Bool × List UInt8)) := fun i c =>
  match i with
  | 0 => (LPc 42 slices_DeleteFunc_api_File_L0_fs slices_DeleteFunc_api_File_L0_bs (slices_DeleteFunc_api_File_L0_F N) (fun st k => iter (slices_DeleteFunc_api_File_h 0) (exec (slices_DeleteFunc_api_File_E N) N c 0) N st k))
  | i => fun st k => iter (slices_DeleteFunc_api_File_h i) (exec (slices_DeleteFunc_api_File_E N) N c i) N st k
theorem slices_DeleteFunc_api_File_L0_step (N : Nat) (x1 : Str × Unit) (KX : Nat → St → Option (List (Str × Bool × List UInt8))) (I : St → Option (List (Str × Bool × List UInt8))) (s5 : Int) (s6 : Int) (w0_1 : List (Str × Bool × List UInt8)) :
    execL (slices_DeleteFunc_api_File_LP N) (slices_DeleteFunc_api_File_E N) (cAt (bodyOf Tryd.f61) [true, true, true, false, true, false, false]) 0 (slices_DeleteFunc_api_File_L0_hd x1 s5 s6 w0_1) (roundK (slices_DeleteFunc_api_File_h 0) I KX (resD (slices_DeleteFunc_api_File_E N) Tryd.f61 (slices_DeleteFunc_api_File_sg fun x y => slices_DeleteFunc_api_File N x.2.1 y.1) slices_DeleteFunc_api_File_pk)) = slices_DeleteFunc_api_File_L0T N x1 (fun o0_5 o0_w0 => KX 0 (slices_DeleteFunc_api_File_L0_tl0 x1 o0_5 o0_w0)) (fun s5 s6 w0_1 => I (slices_DeleteFunc_api_File_L0_hd x1 s5 s6 w0_1)) s5 s6 w0_1 := by kernel_rfl
theorem slices_DeleteFunc_api_File_L0_ok (N : Nat) : ∀ x y k, (∀ st, k .ret st = (resD (slices_DeleteFunc_api_File_E N) Tryd.f61 (slices_DeleteFunc_api_File_sg fun x y => slices_DeleteFunc_api_File N x.2.1 y.1) slices_DeleteFunc_api_File_pk) st) → iter (slices_DeleteFunc_api_File_h 0) (exec (slices_DeleteFunc_api_File_E N) N (cAt (bodyOf Tryd.f61) [true, true, true, false, true, false, false]) 0) N ⟨42, unF slices_DeleteFunc_api_File_L0_fs x, unH slices_DeleteFunc_api_File_L0_bs y⟩ k = slices_DeleteFunc_api_File_L0_F N x y k := fun x y k hk =>
  iter_link (S := (Int) × (Int) × (List (Str × Bool × List UInt8)) × Unit) (slices_DeleteFunc_api_File_h 0) _ (execL (slices_DeleteFunc_api_File_LP N) (slices_DeleteFunc_api_File_E N) (cAt (bodyOf Tryd.f61) [true, true, true, false, true, false, false]) 0) (resD (slices_DeleteFunc_api_File_E N) Tryd.f61 (slices_DeleteFunc_api_File_sg fun x y => slices_DeleteFunc_api_File N x.2.1 y.1) slices_DeleteFunc_api_File_pk) (fun st k hk => execL_eq _ _ N _ (cAt (bodyOf Tryd.f61) [true, true, true, false, true, false, false]) 0 (show LoopsOk (slices_DeleteFunc_api_File_LP N) (slices_DeleteFunc_api_File_E N) N (resD (slices_DeleteFunc_api_File_E N) Tryd.f61 (slices_DeleteFunc_api_File_sg fun x y => slices_DeleteFunc_api_File N x.2.1 y.1) slices_DeleteFunc_api_File_pk) [] from trivial) st k hk) (fun s => slices_DeleteFunc_api_File_L0_hd x.2.1 s.1 s.2.1 s.2.2.1) k hk
    (fun self s => slices_DeleteFunc_api_File_L0T N x.2.1 (fun o0_5 o0_w0 => k (.exit 0) (slices_DeleteFunc_api_File_L0_tl0 x.2.1 o0_5 o0_w0)) (fun s5 s6 w0_1 => self (s5, s6, w0_1, ())) s.1 s.2.1 s.2.2.1) (fun n s => slices_DeleteFunc_api_File_L0 N x.2.1 (fun o0_5 o0_w0 => k (.exit 0) (slices_DeleteFunc_api_File_L0_tl0 x.2.1 o0_5 o0_w0)) n s.1 s.2.1 s.2.2.1) (fun _ => rfl) (fun _ _ => rfl)
    (fun I s => slices_DeleteFunc_api_File_L0_step N x.2.1 (fun j => k (.exit j)) I s.1 s.2.1 s.2.2.1) N (x.2.2.1, x.2.2.2.1, y.1, ())
theorem slices_DeleteFunc_api_File_lp0 (N : Nat) : ∀ st k, (∀ st, k .ret st = (resD (slices_DeleteFunc_api_File_E N) Tryd.f61 (slices_DeleteFunc_api_File_sg fun x y => slices_DeleteFunc_api_File N x.2.1 y.1) slices_DeleteFunc_api_File_pk) st) → slices_DeleteFunc_api_File_LP N 0 (cAt (bodyOf Tryd.f61) [true, true, true, false, true, false, false]) st k = iter (Env.hint (slices_DeleteFunc_api_File_E N) 0) (exec (slices_DeleteFunc_api_File_E N) N (cAt (bodyOf Tryd.f61) [true, true, true, false, true, false, false]) 0) N st k := fun st k hk => LPc_eq 42 slices_DeleteFunc_api_File_L0_fs slices_DeleteFunc_api_File_L0_bs _ _ (resD (slices_DeleteFunc_api_File_E N) Tryd.f61 (slices_DeleteFunc_api_File_sg fun x y => slices_DeleteFunc_api_File N x.2.1 y.1) slices_DeleteFunc_api_File_pk) (slices_DeleteFunc_api_File_L0_ok N) _ st k hk (rfl)
theorem slices_DeleteFunc_api_File_core (N : Nat) (x : SV [.row 0, .v (.clo 62 (.pr (.ptr .str) .un))]) (y : BV [.row 34 (.pr .str (.pr .bool (.sl .u8))) true]) : runL (slices_DeleteFunc_api_File_E N) Tryd.f61 (slices_DeleteFunc_api_File_sg fun x y => slices_DeleteFunc_api_File N x.2.1 y.1) slices_DeleteFunc_api_File_pk (slices_DeleteFunc_api_File_LP N) x y = slices_DeleteFunc_api_File N x.2.1 y.1 := by kernel_rfl
theorem slices_DeleteFunc_api_File_sound (N : Nat) : Sound Tryd.prog GW B0G 61 (slices_DeleteFunc_api_File_sg fun x y => slices_DeleteFunc_api_File N x.2.1 y.1) :=
  runD_sound (mkE_ok slices_DeleteFunc_api_File_h (slices_DeleteFunc_api_File_fn N) _ _ (slices_DeleteFunc_api_File_fn_ok N)) Tryd.func61 rfl Tryd.call61 (slices_DeleteFunc_api_File_sg fun x y => slices_DeleteFunc_api_File N x.2.1 y.1) slices_DeleteFunc_api_File_pk (fun _ _ => rfl) N (fun x y _ h => ((runL_eq (slices_DeleteFunc_api_File_E N) N Tryd.f61 (slices_DeleteFunc_api_File_sg fun x y => slices_DeleteFunc_api_File N x.2.1 y.1) slices_DeleteFunc_api_File_pk (slices_DeleteFunc_api_File_LP N) (show LoopsOk (slices_DeleteFunc_api_File_LP N) (slices_DeleteFunc_api_File_E N) N (resD (slices_DeleteFunc_api_File_E N) Tryd.f61 (slices_DeleteFunc_api_File_sg fun x y => slices_DeleteFunc_api_File N x.2.1 y.1) slices_DeleteFunc_api_File_pk) [(0, (cAt (bodyOf Tryd.f61) [true, true, true, false, true, false, false]))] from ⟨slices_DeleteFunc_api_File_lp0 N, trivial⟩) x y).trans (slices_DeleteFunc_api_File_core N x y)).trans h)
end
end Go.Proofs.YthlkidohpiebiaaDoor


/- slices.SortFunc of structs by their first field, a name that each has but once, out of the kit's contract: it turns a row of its caller's. For any program. -/
namespace Go.Proofs.YthlkidohpiebiaaDoor
set_option linter.unusedVariables false
set_option linter.unusedSimpArgs false
open Go Go.RowKit Go.Shelf Go.Sort
/-- A name, and n further cells. -/
def KC (n : Nat) : Type := { p : Str × List Value // p.2.length = n ∧ ∀ v ∈ p.2, v.oneCell' = true }
instance (n : Nat) : Inhabited (KC n) := ⟨⟨([], List.replicate n (.bool false)), by simp, fun v hv => by rw [List.eq_of_mem_replicate hv]; rfl⟩⟩
def encK {n : Nat} (x : KC n) : List Value := .string ⟨x.1.1.toArray⟩ :: x.1.2
theorem encK_len {n : Nat} (x : KC n) : (encK x).length = n + 1 := by unfold encK; rw [List.length_cons, x.2.1]
theorem encK_one {n : Nat} (x : KC n) : ∀ v ∈ encK x, v.oneCell' = true := fun v hv => by
  rcases List.mem_cons.1 hv with rfl | h
  · rfl
  · exact x.2.2 v h
theorem less_isK : ∀ (x y : List UInt8), Op.bytesLess x y = decide (x < y)
  | [], [] => by simp [Op.bytesLess]
  | _ :: _, [] => by simp [Op.bytesLess]
  | [], _ :: _ => by simp [Op.bytesLess]
  | a :: x, b :: y => by
    rw [Op.bytesLess, less_isK x y]
    simp only [List.cons_lt_cons_iff]
    by_cases h1 : a < b <;> by_cases h2 : a = b <;> by_cases h3 : x < y <;> simp [h1, h2, h3]
def cfK {n : Nat} (x y : KC n) : Int := if Op.bytesLess x.1.1 y.1.1 = true then -1 else if x.1.1 = y.1.1 then 0 else 1
theorem lt_cfK {n : Nat} (x y : KC n) : ltOf cfK x y = decide (x.1.1 < y.1.1) := by
  unfold ltOf cfK
  rw [less_isK]
  by_cases h : x.1.1 < y.1.1
  · simp [h]
  · by_cases h2 : x.1.1 = y.1.1
    · simp [h2, str_lt_irrefl y.1.1]
    · simp [h, h2]
theorem swo_cfK {n : Nat} : Sort.SWO (ltOf (cfK (n := n))) where
  irrefl x := by rw [lt_cfK]; exact decide_eq_false (str_lt_irrefl _)
  trans x y z h1 h2 := by
    rw [lt_cfK] at *
    simp only [decide_eq_true_eq] at *
    exact str_lt_trans h1 h2
  ntrans x y z h1 h2 := by
    rw [lt_cfK] at *
    simp only [decide_eq_false_iff_not] at *
    exact fun h => absurd (List.le_trans (List.not_lt.1 h2) (List.not_lt.1 h1)) (List.not_le.2 h)
theorem flat_listK {n : Nat} {ks : List (KC n)} : ∀ t, t < ks.length * (n + 1) → (flatK encK (n + 1) ks.toArray).toList[t]? = (encK (ks[t / (n + 1)]?.getD default))[t % (n + 1)]? := fun t ht => by
  have hs : t < (flatK encK (n + 1) ks.toArray).size := by rw [size_flatK]; simpa using ht
  have hi : t / (n + 1) < ks.length := Nat.div_lt_of_lt_mul (by rw [Nat.mul_comm]; exact ht)
  have h2 : t % (n + 1) < n + 1 := Nat.mod_lt _ (Nat.zero_lt_succ n)
  rw [Array.getElem?_toList, Array.getElem?_eq_getElem hs, ← getElem!_pos _ t hs, get_flatK _ _ _ _ (by simpa using ht)]
  rw [List.getElem?_eq_getElem hi]
  have e1 : ks.toArray[t / (n + 1)]! = ks[t / (n + 1)] := by simp [hi]
  rw [e1]
  have hl : t % (n + 1) < (encK ks[t / (n + 1)]).length := by rw [encK_len]; exact h2
  rw [getElem!_pos (encK ks[t / (n + 1)]) (t % (n + 1)) hl, Option.getD_some, List.getElem?_eq_getElem hl]
theorem flat_part {n : Nat} (ks : List (KC n)) {i : Nat} (h : i < ks.length) : ((flatK encK (n + 1) ks.toArray).toList.drop (i * (n + 1))).take (n + 1) = encK ks[i] := by
  apply List.ext_getElem?
  intro t
  rw [List.getElem?_take]
  by_cases ht : t < n + 1
  · have hlt : i * (n + 1) + t < ks.length * (n + 1) := by
      have : (i + 1) * (n + 1) ≤ ks.length * (n + 1) := Nat.mul_le_mul_right _ h
      rw [Nat.succ_mul] at this
      omega
    rw [if_pos ht, List.getElem?_drop, flat_listK _ hlt]
    have e1 : (i * (n + 1) + t) / (n + 1) = i := by rw [Nat.mul_comm, Nat.mul_add_div (Nat.zero_lt_succ n), Nat.div_eq_of_lt ht, Nat.add_zero]
    have e2 : (i * (n + 1) + t) % (n + 1) = t := by rw [Nat.mul_comm, Nat.mul_add_mod, Nat.mod_eq_of_lt ht]
    rw [e1, e2, List.getElem?_eq_getElem h, Option.getD_some]
  · rw [if_neg ht, List.getElem?_eq_none (by rw [encK_len]; omega)]
/-- A thing, and its cells. -/
def RepK (M : Nat → Nat → Prop) (w : World) (t : Ty) (x : Str × t.den) (c : KC t.sz) : Prop := c.1.1 = x.1 ∧ RepC M w t x.2 c.1.2
theorem els_split {M : Nat → Nat → Prop} {w : World} {t : Ty} : ∀ {xs : List (Str × t.den)} {cs : List Value}, cs.length = xs.length * (t.sz + 1) → Els M w (.pr .str t) xs cs → ∃ ks : List (KC t.sz), All2 (RepK M w t) xs ks ∧ cs = (flatK encK (t.sz + 1) ks.toArray).toList := by
  intro xs cs hl h
  have h1 : ∀ i (hi : i < xs.length), ∃ c : KC t.sz, RepK M w t xs[i] c ∧ (cs.drop (i * (t.sz + 1))).take (t.sz + 1) = encK c := fun i hi => by
    have h2 := h i hi
    have hsz : (Ty.pr .str t).sz = t.sz + 1 := by show 1 + t.sz = _; omega
    rw [hsz] at h2
    obtain ⟨c1, c2, e, h3, h4⟩ := h2
    rw [show c1 = [Value.string ⟨xs[i].1.toArray⟩] from h3] at e
    exact ⟨⟨(xs[i].1, c2), RepC.len t _ _ h4, RepC.one t _ _ h4⟩, ⟨rfl, h4⟩, e⟩
  let ks : List (KC t.sz) := (List.range xs.length).map fun i => if hi : i < xs.length then (h1 i hi).choose else default
  have hkl : ks.length = xs.length := by simp [ks]
  have hk : ∀ i (hi : i < xs.length), ks[i]'(by rw [hkl]; exact hi) = (h1 i hi).choose := fun i hi => by simp [ks, hi]
  refine ⟨ks, ?_, ?_⟩
  · have gen : ∀ (l : List (Str × t.den)) (m : List (KC t.sz)), l.length = m.length → (∀ i (hi : i < l.length) (hj : i < m.length), RepK M w t l[i] m[i]) → All2 (RepK M w t) l m := by
      intro l
      induction l with
      | nil => intro m hm _; cases m with | nil => trivial | cons _ _ => cases hm
      | cons a l ih =>
        intro m hm hr
        cases m with
        | nil => cases hm
        | cons b m => exact ⟨hr 0 (by simp) (by simp), ih m (by simpa using hm) fun i hi hj => hr (i + 1) (Nat.succ_lt_succ hi) (Nat.succ_lt_succ hj)⟩
    refine gen xs ks hkl.symm fun i hi hj => ?_
    rw [hk i hi]
    exact (h1 i hi).choose_spec.1
  · apply List.ext_getElem?
    intro u
    by_cases hu : u < xs.length * (t.sz + 1)
    · have hi : u / (t.sz + 1) < xs.length := Nat.div_lt_of_lt_mul (by rw [Nat.mul_comm]; exact hu)
      rw [flat_listK u (by rw [hkl]; exact hu), List.getElem?_eq_getElem (l := ks) (i := u / (t.sz + 1)) (by rw [hkl]; exact hi), Option.getD_some, hk _ hi, ← (h1 _ hi).choose_spec.2, List.getElem?_take, if_pos (Nat.mod_lt _ (Nat.zero_lt_succ _)), List.getElem?_drop]
      congr 1
      rw [Nat.mul_comm]
      exact (Nat.div_add_mod u (t.sz + 1)).symm
    · rw [List.getElem?_eq_none (by omega), List.getElem?_eq_none (by rw [Array.length_toList, size_flatK]; simp only [List.size_toArray]; rw [hkl]; omega)]
theorem els_join {M : Nat → Nat → Prop} {w : World} {t : Ty} {xs : List (Str × t.den)} {ks : List (KC t.sz)} (h : All2 (RepK M w t) xs ks) : Els M w (.pr .str t) xs (flatK encK (t.sz + 1) ks.toArray).toList := fun i hi => by
  have hsz : (Ty.pr .str t).sz = t.sz + 1 := by show 1 + t.sz = _; omega
  rw [hsz]
  have hik : i < ks.length := by rw [← h.len]; exact hi
  rw [flat_part ks hik]
  obtain ⟨c, hc, h1, h2⟩ := h.get (List.getElem?_eq_getElem hi)
  rw [List.getElem?_eq_getElem hik] at hc
  injection hc with hc
  rw [hc]
  exact ⟨[Value.string ⟨xs[i].1.toArray⟩], c.1.2, by unfold encK; rw [h1]; rfl, rfl, h2⟩
def sortK {α : Type} (key : α → Str) (xs : List α) : Option (List α) := if xs.length < 4611686018427387904 ∧ (xs.map key).Nodup then some (xs.mergeSort (leKey key)) else none
theorem sortK_sound {P : Program} {G : World → Prop} {B0 : Nat} {f g : FuncId} {e : TypeId} {t : Ty} (hcall : ∀ (args : Array Value) (w : World), (callFunc f args).run P w = .ok (.enter f args) w)
    (hB : ∀ (b cap : Nat) (d : Array (KC t.sz)) (w : World), HoldsK encK (t.sz + 1) w b 0 d → b < w.heap.size → d.size < 4611686018427387904 → Calls P f #[.slice (some ⟨b, 0, none⟩) d.size cap, .func (.func g) #[] #[]] w fun e w' =>
      e = .returned (.tuple #[]) ∧ ∃ d' m os, PermIn 0 d.size d d' ∧ SortedIn (ltOf cfK) 0 d.size d' ∧ w' = sortWorldK encK (t.sz + 1) w b 0 m d' os)
    (h0 : ∀ w, Calls P f #[.slice none 0 0, .func (.func g) #[] #[]] w fun e w' => e = .returned (.tuple #[]) ∧ w' = w) :
    Sound P G B0 f ⟨[.row 0, .v (.clo g .un)], [.row e (.pr .str t) true], [], [.row e (.pr .str t) true, .none], List (Str × t.den), fun z => ((), (z, ((), ()))), fun x y => sortK (fun p : Str × t.den => p.1) y.1⟩ := by
  have hsz : (Ty.pr .str t).sz = t.sz + 1 := by show 1 + t.sz = _; omega
  refine Sound.ofRowKept (ps := [.v (.clo g .un)]) (t := .pr .str t) (F := fun x xs => sortK (fun p : Str × t.den => p.1) xs) hcall (by rw [hsz]; omega) fun M w g' v0 vs x xs zs cs hG hMl hM hown hels hA hz => ?_
  match vs, hA with
  | [v1], hA =>
    obtain ⟨h1, _⟩ := hA
    have h3 := RepV.plain (t := .clo g .un) rfl h1
    obtain ⟨caps, h4, h5⟩ := h3
    injection h4 with h4
    have h6 : caps = #[] := by
      have : caps.toList = [] := h5
      exact Array.toList_eq_nil_iff.1 this
    subst h6
    rw [h4]
    change sortK (fun p : Str × t.den => p.1) xs = some zs at hz
    unfold sortK at hz
    split at hz
    case isFalse => cases hz
    rename_i hc
    obtain ⟨hbig, hnd⟩ := hc
    injection hz with hz
    have hl : cs.length = xs.length * (t.sz + 1) := by have := hown.1; rw [hsz] at this; exact this
    obtain ⟨ks, hks, hcs⟩ := els_split hl hels
    have hkl : ks.length = xs.length := hks.len.symm
    have hzl : zs.length = xs.length := by rw [← hz]; exact List.length_mergeSort _
    rcases hown.2 with ⟨e1, e2⟩ | ⟨b, cap, cur, e1, _, hg, hle, hmax, hszc, htk⟩
    · have hx0 : xs = [] := List.eq_nil_of_length_eq_zero e2
      subst hx0 e1
      refine (h0 w).mono fun e w' hp => ?_
      obtain ⟨rfl, rfl⟩ := hp
      have hz0 : zs = [] := List.eq_nil_of_length_eq_zero hzl
      subst hz0
      exact ⟨[], rfl, ExtX.refl _ _, ⟨by simp, .inl ⟨rfl, rfl⟩⟩, fun i h => absurd h (Nat.not_lt_zero _)⟩
    · subst e1
      rw [hsz] at hszc
      have htk' : cur.toList.take (xs.length * (t.sz + 1)) = (flatK encK (t.sz + 1) ks.toArray).toList := by
        rw [← hcs, ← htk]
        rw [hsz]
      have hb : b < w.heap.size := by
        apply Classical.byContradiction
        intro hn
        rw [Array.getElem?_eq_none (by omega)] at hg
        cases hg
      have hH : HoldsK encK (t.sz + 1) w b 0 ks.toArray := fun k hk => by
        have hk' : k < xs.length * (t.sz + 1) := by rw [size_flatK] at hk; simpa [hkl] using hk
        have h1 : cur.toList[k]? = some ((flatK encK (t.sz + 1) ks.toArray)[k]!) := by
          have := congrArg (fun l => l[k]?) htk'
          simp only [List.getElem?_take, hk', if_true, Array.getElem?_toList, Array.getElem?_eq_getElem hk] at this
          rw [getElem!_pos _ k hk]
          simpa using this
        refine ⟨?_, by unfold World.frozen?; rw [hg]; simp⟩
        rw [Nat.zero_add]
        unfold World.cell?
        rw [hg]
        simpa using h1
      have hcon := hB b cap ks.toArray w hH hb (by simpa [hkl] using hbig)
      rw [show ks.toArray.size = xs.length from by simp [hkl]] at hcon
      refine hcon.mono fun e w' hp => ?_
      obtain ⟨rfl, d', n, os, ⟨hps, _, hpp⟩, hso, rfl⟩ := hp
      have hps' : d'.size = xs.length := by rw [hps]; simp [hkl]
      have hrel : All2 (RepK M w t) zs d'.toList := by
        rw [← hz]
        refine sort_rel (key := fun p : Str × t.den => p.1) (key' := fun c : KC t.sz => c.1.1) hks (fun x c h => h.1) hnd ?_ ?_
        · have e1 : (d'.extract 0 xs.length) = d' := by rw [← hps']; exact Array.extract_size
          have e2 : (ks.toArray.extract 0 xs.length) = ks.toArray := by rw [show xs.length = ks.toArray.size from by simp [hkl]]; exact Array.extract_size
          rw [e1, e2] at hpp
          simpa using hpp
        · rw [List.pairwise_iff_getElem]
          intro i j hi hj hij
          have := hso i j (Nat.zero_le _) hij (by rw [Array.length_toList] at hj; rw [← hps']; exact hj)
          rw [lt_cfK] at this
          rw [Array.length_toList] at hi hj
          rw [getElem!_pos d' i hi, getElem!_pos d' j hj] at this
          simpa using this
      obtain ⟨dl, rfl⟩ : ∃ dl : List (KC t.sz), d' = dl.toArray := ⟨d'.toList, by simp⟩
      have hrel' : All2 (RepK M w t) zs dl := by simpa using hrel
      have hdl : dl.length = xs.length := by rw [← hrel'.len, hzl]
      refine ⟨(flatK encK (t.sz + 1) dl.toArray).toList, rfl, (sortW_ext id).mono (fun k hk => by simpa [Value.ownBlock] using hk), ⟨by rw [Array.length_toList, size_flatK, hsz]; simp [hdl, hzl], .inr ⟨b, cap, _, by rw [hzl], Nat.zero_le _, sortW_block id hg, by omega, hmax, ?_, ?_⟩⟩, els_join hrel'⟩
      · rw [putCells_size, hsz]; exact hszc
      · have hle' : (flatK encK (t.sz + 1) dl.toArray).toList.length ≤ cur.size := by
          rw [Array.length_toList, size_flatK, hszc]
          simp only [List.size_toArray]
          rw [hdl]
          exact Nat.mul_le_mul_right _ hle
        have h9 := putCells_take id (flatK encK (t.sz + 1) dl.toArray).toList cur hle'
        rw [Array.length_toList, size_flatK, Array.toArray_toList, List.map_id] at h9
        rw [hsz, hzl]
        simpa [hdl] using h9
end Go.Proofs.YthlkidohpiebiaaDoor


/-
  DERIVED: THE SHELF's CONTRACTS AT THIS DUMP, IN PLAIN WORDS (tools/lay-plain.mjs out of 'TrydShelfF.lean', which tools/lay-shelf.mjs wrote): THE SAME DECLARATIONS UNDER THE SAME NAMES: 'import', 'namespace', 'open', 'def', 'theorem' AND NOTHING ELSE: no command of the shelf's: FOR A HAND-IN. Each laying: the table of numbers ('.._ren') and one theorem, a field a fact of the dump's own or the kernel's comparison; each contract: ONE APPLICATION.
-/
namespace Go.Proofs
open Go.Shelf
def Tryd.sortF_ren : Go.Shelf.Ren := ⟨fun | 6 => 97 | 15 => 109 | 14 => 123 | 28 => 137 | 29 => 138 | 20 => 147 | 21 => 148 | 22 => 149 | 23 => 150 | 24 => 151 | 25 => 152 | 26 => 153 | 27 => 154 | 46 => 173 | 47 => 167 | 48 => 168 | 49 => 174 | 50 => 175 | 57 => 183 | n => n, fun | 22 => 28 | 24 => 34 | 25 => 120 | 3 => 3 | 39 => 113 | 0 => 0 | 53 => 156 | 55 => 112 | 4 => 4 | 46 => 149 | 45 => 148 | 50 => 153 | 5 => 5 | 9 => 9 | 66 => 173 | 70 => 177 | 76 => 187 | 77 => 188 | n => n, fun | n => n⟩
theorem Tryd.sortF : Go.Proofs.SlLaysF0.n6 Tryd.prog Tryd.sortF_ren := {
  mixed := by kernel_rfl
  f6 := ⟨Tryd.f97.name, by decide, Tryd.func97.trans (congrArg some (by kernel_rfl))⟩
  f14 := ⟨Tryd.f123.name, by decide, Tryd.func123.trans (congrArg some (by kernel_rfl))⟩
  f15 := Tryd.func109.trans (congrArg some (by kernel_rfl))
  f20 := ⟨Tryd.f147.name, by decide, Tryd.func147.trans (congrArg some (by kernel_rfl))⟩
  f21 := ⟨Tryd.f148.name, by decide, Tryd.func148.trans (congrArg some (by kernel_rfl))⟩
  f22 := ⟨Tryd.f149.name, by decide, Tryd.func149.trans (congrArg some (by kernel_rfl))⟩
  f23 := ⟨Tryd.f150.name, by decide, Tryd.func150.trans (congrArg some (by kernel_rfl))⟩
  f24 := ⟨Tryd.f151.name, by decide, Tryd.func151.trans (congrArg some (by kernel_rfl))⟩
  f25 := ⟨Tryd.f152.name, by decide, Tryd.func152.trans (congrArg some (by kernel_rfl))⟩
  f26 := ⟨Tryd.f153.name, by decide, Tryd.func153.trans (congrArg some (by kernel_rfl))⟩
  f27 := ⟨Tryd.f154.name, by decide, Tryd.func154.trans (congrArg some (by kernel_rfl))⟩
  f28 := Tryd.func137.trans (congrArg some (by kernel_rfl))
  f29 := Tryd.func138.trans (congrArg some (by kernel_rfl))
  f46 := ⟨Tryd.f173.name, by decide, Tryd.func173.trans (congrArg some (by kernel_rfl))⟩
  f47 := Tryd.func167.trans (congrArg some (by kernel_rfl))
  f48 := Tryd.func168.trans (congrArg some (by kernel_rfl))
  f49 := ⟨Tryd.f174.name, by decide, Tryd.func174.trans (congrArg some (by kernel_rfl))⟩
  f50 := ⟨Tryd.f175.name, by decide, Tryd.func175.trans (congrArg some (by kernel_rfl))⟩
  f57 := ⟨Tryd.f183.name, by decide, Tryd.func183.trans (congrArg some (by kernel_rfl))⟩
  t0 := Tryd.underlying0
  a0 := Tryd.isAgg0
  z0 := Tryd.sizeOf0
  v0 := Tryd.zeroValue0
  t3 := Tryd.underlying3
  a3 := Tryd.isAgg3
  z3 := Tryd.sizeOf3
  v3 := Tryd.zeroValue3
  t4 := Tryd.underlying4
  a4 := Tryd.isAgg4
  z4 := Tryd.sizeOf4
  v4 := Tryd.zeroValue4
  t5 := Tryd.underlying5
  a5 := Tryd.isAgg5
  z5 := Tryd.sizeOf5
  v5 := Tryd.zeroValue5
  t9 := Tryd.underlying9
  a9 := Tryd.isAgg9
  z9 := Tryd.sizeOf9
  v9 := Tryd.zeroValue9
  t22 := Tryd.underlying28
  a22 := Tryd.isAgg28
  z22 := Tryd.sizeOf28
  v22 := Tryd.zeroValue28
  t25 := Tryd.underlying120
  a25 := Tryd.isAgg120
  z25 := Tryd.sizeOf120
  v25 := Tryd.zeroValue120
  t39 := Tryd.underlying113
  a39 := Tryd.isAgg113
  z39 := Tryd.sizeOf113
  v39 := Tryd.zeroValue113
  t45 := Tryd.underlying148
  a45 := Tryd.isAgg148
  z45 := Tryd.sizeOf148
  v45 := Tryd.zeroValue148
  t46 := Tryd.underlying149
  a46 := Tryd.isAgg149
  z46 := Tryd.sizeOf149
  v46 := Tryd.zeroValue149
  t50 := Tryd.underlying153
  a50 := Tryd.isAgg153
  z50 := Tryd.sizeOf153
  v50 := Tryd.zeroValue153
  t53 := Tryd.underlying156
  a53 := Tryd.isAgg156
  z53 := Tryd.sizeOf156
  v53 := Tryd.zeroValue156
  t55 := Tryd.underlying112
  a55 := Tryd.isAgg112
  z55 := Tryd.sizeOf112
  v55 := Tryd.zeroValue112
  t66 := Tryd.underlying173
  a66 := Tryd.isAgg173
  z66 := Tryd.sizeOf173
  v66 := Tryd.zeroValue173
  t70 := Tryd.underlying177
  a70 := Tryd.isAgg177
  z70 := Tryd.sizeOf177
  v70 := Tryd.zeroValue177
  t76 := Tryd.underlying187
  a76 := Tryd.isAgg187
  z76 := Tryd.sizeOf187
  v76 := Tryd.zeroValue187
  t77 := Tryd.underlying188
  a77 := Tryd.isAgg188
  z77 := Tryd.sizeOf188
  v77 := Tryd.zeroValue188 }
end Go.Proofs


/- slices.SortFunc of files by their paths, out of the kit's contract: it turns a row of its caller's. -/
namespace Go.Proofs.YthlkidohpiebiaaDoor
set_option linter.unusedVariables false
set_option linter.unusedSimpArgs false
open Go Go.RowKit Go.Shelf Go.Sort
theorem compare_cf : ∀ a b : Str, Lib.compareBytes a b = if Op.bytesLess a b = true then -1 else if a = b then 0 else 1
  | [], [] => by simp [Lib.compareBytes, Op.bytesLess]
  | [], _ :: _ => by simp [Lib.compareBytes, Op.bytesLess]
  | _ :: _, [] => by simp [Lib.compareBytes, Op.bytesLess]
  | a :: x, b :: y => by
    rw [Lib.compareBytes, compare_cf x y, Op.bytesLess]
    by_cases h1 : a < b
    · simp [h1]
    · by_cases h2 : b < a
      · have : a ≠ b := fun e => by subst e; exact h1 h2
        simp [h1, h2, this]
      · have e : a = b := by
          have h3 := UInt8.le_antisymm (UInt8.not_lt.1 h2) (UInt8.not_lt.1 h1)
          exact h3
        subst e
        simp
theorem sorted1_calls (x y : KC 2) (W : World) : Calls Tryd.prog 98 #[.agg (encK x).toArray, .agg (encK y).toArray] W fun e w' => e = .returned (.int .i64 (cfK x y)) ∧ ∃ q os', w' = Sort.grow (W.drewN q) os' := by
  obtain ⟨⟨xs, xc⟩, hx1, hx2⟩ := x
  obtain ⟨⟨ys, yc⟩, hy1, hy2⟩ := y
  match xc, hx1, yc, hy1 with
  | [x1, x2], _, [y1, y2], _ =>
    have e1 : (Value.agg #[.string ⟨xs.toArray⟩, x1, x2]).cells = #[.string ⟨xs.toArray⟩, x1, x2] := rfl
    unfold cfK encK
    dsimp only
    rw [← compare_cf]
    go_enter Tryd.func98, Tryd.ntmps98
    go_wp2_with fail
    refine (Tryd.strings_Compare _ _ _).mono ?_
    rintro e w1 ⟨rfl, rfl⟩
    go_wp2_with fail
    all_goals go_ret
    all_goals exact ⟨by simp_all, 0, _, by rw [Sort.alloc_eq_grow, Sort.alloc_eq_grow, Sort.grow_grow]; rfl⟩
theorem aggF : ∀ w, (isAgg 34).run Tryd.prog w = .ok true w := by
  intro w; kernel_rfl
theorem sizeF : ∀ w, (Go.sizeOf 34).run Tryd.prog w = .ok 3 w := by
  intro w; kernel_rfl
def slices_SortFunc_file (_u : Unit) (xs : List (Str × Bool × List UInt8)) : Option (List (Str × Bool × List UInt8)) := sortK (fun p : Str × Bool × List UInt8 => p.1) xs
theorem slices_SortFunc_file_sound : Sound Tryd.prog GW B0G 97 ⟨[.row 0, .v (.clo 98 .un)], [.row 34 (.pr .str (.pr .bool (.sl .u8))) true], [], [.row 34 (.pr .str (.pr .bool (.sl .u8))) true, .none], List (Str × Bool × List UInt8), fun z => ((), (z, ((), ()))), fun x y => slices_SortFunc_file x.2.1 y.1⟩ :=
  sortK_sound (t := .pr .bool (.sl .u8)) Tryd.call97 (fun b cap d w hH hb hs => by
    have eg : ∀ args w, (callFunc 98 args).run Tryd.prog w = .ok (.enter 98 args) w := Tryd.call98
    exact AnyQ.slices_SortFunc Tryd.sortF 3 aggF sizeF encK encK_len encK_one cfK swo_cfK 98 #[] b 0 cap d w eg (fun _ _ _ _ x y => sorted1_calls x y _) hH hb hs)
    (fun w => AnyF.slices_SortFunc_none Tryd.sortF none 0 _ w)
end Go.Proofs.YthlkidohpiebiaaDoor


