/- What functions of the program compute, as plain functions (printed). -/
import Derived.Test.YthlkidohpiebiaaDoorQBmSl
import Derived.Test.YthlkidohpiebiaaDoorQBnF3
import Derived.Shelf.Strings.SlTrimAscii
import Derived.Lib.Join
import Derived.ProofKit
import Derived.OpenShut
import Derived.ShutString
import Derived.DataReads
import Derived.ChangeShapes
import Derived.WideShapes
namespace Go.Proofs.YthlkidohpiebiaaDoor
open Go Go.RowKit
set_option maxRecDepth 100000
set_option linter.unusedVariables false
noncomputable section
def blob_spotOf (_N : Nat) (x0 : List (Str × (Str × Bool × List UInt8))) (x1 : Str) : Option ((Str × Bool × List UInt8) × Bool) :=
  some ((((mget x0 x1).getD (zero (.pr .str (.pr .bool (.sl .u8))))).1, (((mget x0 x1).getD (zero (.pr .str (.pr .bool (.sl .u8))))).2)), (mget x0 x1).isSome)
abbrev blob_spotOf_sg (f : SV [.v (.mp (.pr .str (.pr .bool (.sl .u8)))), .v .str] → BV [] → Option ((Str × Bool × List UInt8) × Bool)) : AF := { ps := [.v (.mp (.pr .str (.pr .bool (.sl .u8)))), .v .str], bs := [], rs := [.v (.pr (.pr .str (.pr .bool (.sl .u8))) .bool)], cs := [], R := (Str × Bool × List UInt8) × Bool, out := fun z => ((z, ()), ()), f := f }
abbrev blob_spotOf_pk : SV [.v (.pr (.pr .str (.pr .bool (.sl .u8))) .bool)] → BV [] → ((Str × Bool × List UInt8) × Bool) := fun x _ => x.1
def blob_spotOf_fn (_N : Nat) : FuncId → Option Tmp → Option AF := fun f _ =>
  match f with
    | _ => none
theorem blob_spotOf_fn_ok (N : Nat) : ∀ f q F, blob_spotOf_fn N f q = some F → Sound Tryd.prog GW B0G f F := by
  intro f q F h
  unfold blob_spotOf_fn at h
  split at h
  · cases h
def blob_spotOf_h : Nat → Hint := fun i =>
  match i with
  | _ => ⟨[], [], [], [], [], []⟩
abbrev blob_spotOf_E (N : Nat) : Env := mkE blob_spotOf_h (blob_spotOf_fn N) (fun _ => false) (fun _ => false)
noncomputable def blob_spotOf_LP (N : Nat) : Nat → Code → St → (Ex → St → Option ((Str × Bool × List UInt8) × Bool)) → Option ((Str × Bool × List UInt8) × Bool) := fun i c =>
  match i with
  | i => fun st k => iter (blob_spotOf_h i) (exec (blob_spotOf_E N) N c i) N st k
theorem blob_spotOf_core (N : Nat) (x : SV [.v (.mp (.pr .str (.pr .bool (.sl .u8)))), .v .str]) (y : BV []) : runL (blob_spotOf_E N) Tryd.f67 (blob_spotOf_sg fun x _ => blob_spotOf N x.1 x.2.1) blob_spotOf_pk (blob_spotOf_LP N) x y = blob_spotOf N x.1 x.2.1 := by kernel_rfl
theorem blob_spotOf_sound (N : Nat) : Sound Tryd.prog GW B0G 67 (blob_spotOf_sg fun x _ => blob_spotOf N x.1 x.2.1) :=
  runD_sound (mkE_ok blob_spotOf_h (blob_spotOf_fn N) _ _ (blob_spotOf_fn_ok N)) Tryd.func67 rfl Tryd.call67 (blob_spotOf_sg fun x _ => blob_spotOf N x.1 x.2.1) blob_spotOf_pk (fun _ _ => rfl) N (fun x y _ h => ((runL_eq (blob_spotOf_E N) N Tryd.f67 (blob_spotOf_sg fun x _ => blob_spotOf N x.1 x.2.1) blob_spotOf_pk (blob_spotOf_LP N) (show LoopsOk (blob_spotOf_LP N) (blob_spotOf_E N) N (resD (blob_spotOf_E N) Tryd.f67 (blob_spotOf_sg fun x _ => blob_spotOf N x.1 x.2.1) blob_spotOf_pk) [] from trivial) x y).trans (blob_spotOf_core N x y)).trans h)
def blob_Same (_N : Nat) (x0 : Str × Bool × List UInt8) (x1 : Str × Bool × List UInt8) : Option Bool :=
  br (x0.2.1 == x1.2.1)
    (some (x0.2.2 == x1.2.2))
    (some false)
abbrev blob_Same_sg (f : SV [.v (.pr .str (.pr .bool (.sl .u8))), .v (.pr .str (.pr .bool (.sl .u8)))] → BV [] → Option (Bool)) : AF := { ps := [.v (.pr .str (.pr .bool (.sl .u8))), .v (.pr .str (.pr .bool (.sl .u8)))], bs := [], rs := [.v .bool], cs := [], R := Bool, out := fun z => ((z, ()), ()), f := f }
abbrev blob_Same_pk : SV [.v .bool] → BV [] → Bool := fun x _ => x.1
def blob_Same_fn (_N : Nat) : FuncId → Option Tmp → Option AF := fun f _ =>
  match f with
    | _ => none
theorem blob_Same_fn_ok (N : Nat) : ∀ f q F, blob_Same_fn N f q = some F → Sound Tryd.prog GW B0G f F := by
  intro f q F h
  unfold blob_Same_fn at h
  split at h
  · cases h
def blob_Same_h : Nat → Hint := fun i =>
  match i with
  | _ => ⟨[], [], [], [], [], []⟩
abbrev blob_Same_E (N : Nat) : Env := mkE blob_Same_h (blob_Same_fn N) (fun _ => false) (fun _ => false)
noncomputable def blob_Same_LP (N : Nat) : Nat → Code → St → (Ex → St → Option Bool) → Option Bool := fun i c =>
  match i with
  | i => fun st k => iter (blob_Same_h i) (exec (blob_Same_E N) N c i) N st k
theorem blob_Same_core (N : Nat) (x : SV [.v (.pr .str (.pr .bool (.sl .u8))), .v (.pr .str (.pr .bool (.sl .u8)))]) (y : BV []) : runL (blob_Same_E N) Tryd.f100 (blob_Same_sg fun x _ => blob_Same N x.1 x.2.1) blob_Same_pk (blob_Same_LP N) x y = blob_Same N x.1 x.2.1 := by kernel_rfl
theorem blob_Same_sound (N : Nat) : Sound Tryd.prog GW B0G 100 (blob_Same_sg fun x _ => blob_Same N x.1 x.2.1) :=
  runD_sound (mkE_ok blob_Same_h (blob_Same_fn N) _ _ (blob_Same_fn_ok N)) Tryd.func100 rfl Tryd.call100 (blob_Same_sg fun x _ => blob_Same N x.1 x.2.1) blob_Same_pk (fun _ _ => rfl) N (fun x y _ h => ((runL_eq (blob_Same_E N) N Tryd.f100 (blob_Same_sg fun x _ => blob_Same N x.1 x.2.1) blob_Same_pk (blob_Same_LP N) (show LoopsOk (blob_Same_LP N) (blob_Same_E N) N (resD (blob_Same_E N) Tryd.f100 (blob_Same_sg fun x _ => blob_Same N x.1 x.2.1) blob_Same_pk) [] from trivial) x y).trans (blob_Same_core N x y)).trans h)
def blob_spot_same (N : Nat) (x0 : (Str × Bool × List UInt8) × Bool) (x1 : (Str × Bool × List UInt8) × Bool) : Option Bool :=
  br (x0.2 == x1.2)
    (br (!x0.2)
      (some true)
      (bnd (blob_Same N x0.1 x1.1) fun t19 =>
      some t19))
    (some false)
abbrev blob_spot_same_sg (f : SV [.v (.pr (.pr .str (.pr .bool (.sl .u8))) .bool), .v (.pr (.pr .str (.pr .bool (.sl .u8))) .bool)] → BV [] → Option (Bool)) : AF := { ps := [.v (.pr (.pr .str (.pr .bool (.sl .u8))) .bool), .v (.pr (.pr .str (.pr .bool (.sl .u8))) .bool)], bs := [], rs := [.v .bool], cs := [], R := Bool, out := fun z => ((z, ()), ()), f := f }
abbrev blob_spot_same_pk : SV [.v .bool] → BV [] → Bool := fun x _ => x.1
def blob_spot_same_fn (N : Nat) : FuncId → Option Tmp → Option AF := fun f _ =>
  match f with
    | 100 => some (blob_Same_sg fun x _ => blob_Same N x.1 x.2.1)
    | _ => none
theorem blob_spot_same_fn_ok (N : Nat) : ∀ f q F, blob_spot_same_fn N f q = some F → Sound Tryd.prog GW B0G f F := by
  intro f q F h
  unfold blob_spot_same_fn at h
  split at h
  · cases h; exact blob_Same_sound N
  · cases h
def blob_spot_same_h : Nat → Hint := fun i =>
  match i with
  | _ => ⟨[], [], [], [], [], []⟩
abbrev blob_spot_same_E (N : Nat) : Env := mkE blob_spot_same_h (blob_spot_same_fn N) (fun _ => false) (fun _ => false)
noncomputable def blob_spot_same_LP (N : Nat) : Nat → Code → St → (Ex → St → Option Bool) → Option Bool := fun i c =>
  match i with
  | i => fun st k => iter (blob_spot_same_h i) (exec (blob_spot_same_E N) N c i) N st k
theorem blob_spot_same_core (N : Nat) (x : SV [.v (.pr (.pr .str (.pr .bool (.sl .u8))) .bool), .v (.pr (.pr .str (.pr .bool (.sl .u8))) .bool)]) (y : BV []) : runL (blob_spot_same_E N) Tryd.f68 (blob_spot_same_sg fun x _ => blob_spot_same N x.1 x.2.1) blob_spot_same_pk (blob_spot_same_LP N) x y = blob_spot_same N x.1 x.2.1 := by kernel_rfl
theorem blob_spot_same_sound (N : Nat) : Sound Tryd.prog GW B0G 68 (blob_spot_same_sg fun x _ => blob_spot_same N x.1 x.2.1) :=
  runD_sound (mkE_ok blob_spot_same_h (blob_spot_same_fn N) _ _ (blob_spot_same_fn_ok N)) Tryd.func68 rfl Tryd.call68 (blob_spot_same_sg fun x _ => blob_spot_same N x.1 x.2.1) blob_spot_same_pk (fun _ _ => rfl) N (fun x y _ h => ((runL_eq (blob_spot_same_E N) N Tryd.f68 (blob_spot_same_sg fun x _ => blob_spot_same N x.1 x.2.1) blob_spot_same_pk (blob_spot_same_LP N) (show LoopsOk (blob_spot_same_LP N) (blob_spot_same_E N) N (resD (blob_spot_same_E N) Tryd.f68 (blob_spot_same_sg fun x _ => blob_spot_same N x.1 x.2.1) blob_spot_same_pk) [] from trivial) x y).trans (blob_spot_same_core N x y)).trans h)
def blob_Merge_1 (N : Nat) (x0 : Str × Bool × List UInt8) (m2 : List (Str × Bool)) (m3 : List (Str × Bool)) : Option (Bool × (List (Str × Bool)) × List (Str × Bool)) :=
  bnd (blob_clashes N m2 x0.1) fun t8 =>
  br (t8)
    (some (true, (m2, mset m3 x0.1 true)))
    (some (false, (m2, m3)))
abbrev blob_Merge_1_sg (f : SV [.v (.pr .str (.pr .bool (.sl .u8))), .box 0 0, .box 1 0] → BV [.cells [.mref 2], .cells [.mref 3], .map .bool, .map .bool] → Option (Bool × (List (Str × Bool)) × List (Str × Bool))) : AF := { ps := [.v (.pr .str (.pr .bool (.sl .u8))), .box 0 0, .box 1 0], bs := [.cells [.mref 2], .cells [.mref 3], .map .bool, .map .bool], rs := [.v .bool], cs := [.cells [.mref 2], .cells [.mref 3], .map .bool, .map .bool], R := Bool × (List (Str × Bool)) × List (Str × Bool), out := fun z => ((z.1, ()), (((), ()), ((), ()), z.2.1, z.2.2, ())), f := f }
abbrev blob_Merge_1_pk : SV [.v .bool] → BV [.cells [.mref 2], .cells [.mref 3], .map .bool, .map .bool] → (Bool × (List (Str × Bool)) × List (Str × Bool)) := fun x y => (x.1, y.2.2.1, y.2.2.2.1)
def blob_Merge_1_fn (N : Nat) : FuncId → Option Tmp → Option AF := fun f _ =>
  match f with
    | 70 => some (blob_clashes_sg fun x _ => blob_clashes N x.1 x.2.1)
    | _ => none
theorem blob_Merge_1_fn_ok (N : Nat) : ∀ f q F, blob_Merge_1_fn N f q = some F → Sound Tryd.prog GW B0G f F := by
  intro f q F h
  unfold blob_Merge_1_fn at h
  split at h
  · cases h; exact blob_clashes_sound N
  · cases h
def blob_Merge_1_h : Nat → Hint := fun i =>
  match i with
  | _ => ⟨[], [], [], [], [], []⟩
abbrev blob_Merge_1_E (N : Nat) : Env := mkE blob_Merge_1_h (blob_Merge_1_fn N) (fun _ => false) (fun _ => false)
noncomputable def blob_Merge_1_LP (N : Nat) : Nat → Code → St → (Ex → St → Option (Bool × (List (Str × Bool)) × List (Str × Bool))) → Option (Bool × (List (Str × Bool)) × List (Str × Bool)) := fun i c =>
  match i with
  | i => fun st k => iter (blob_Merge_1_h i) (exec (blob_Merge_1_E N) N c i) N st k
theorem blob_Merge_1_core (N : Nat) (x : SV [.v (.pr .str (.pr .bool (.sl .u8))), .box 0 0, .box 1 0]) (y : BV [.cells [.mref 2], .cells [.mref 3], .map .bool, .map .bool]) : runL (blob_Merge_1_E N) Tryd.f69 (blob_Merge_1_sg fun x y => blob_Merge_1 N x.1 y.2.2.1 y.2.2.2.1) blob_Merge_1_pk (blob_Merge_1_LP N) x y = blob_Merge_1 N x.1 y.2.2.1 y.2.2.2.1 := by kernel_rfl
theorem blob_Merge_1_sound (N : Nat) : Sound Tryd.prog GW B0G 69 (blob_Merge_1_sg fun x y => blob_Merge_1 N x.1 y.2.2.1 y.2.2.2.1) :=
  runD_sound (mkE_ok blob_Merge_1_h (blob_Merge_1_fn N) _ _ (blob_Merge_1_fn_ok N)) Tryd.func69 rfl Tryd.call69 (blob_Merge_1_sg fun x y => blob_Merge_1 N x.1 y.2.2.1 y.2.2.2.1) blob_Merge_1_pk (fun _ _ => rfl) N (fun x y _ h => ((runL_eq (blob_Merge_1_E N) N Tryd.f69 (blob_Merge_1_sg fun x y => blob_Merge_1 N x.1 y.2.2.1 y.2.2.2.1) blob_Merge_1_pk (blob_Merge_1_LP N) (show LoopsOk (blob_Merge_1_LP N) (blob_Merge_1_E N) N (resD (blob_Merge_1_E N) Tryd.f69 (blob_Merge_1_sg fun x y => blob_Merge_1 N x.1 y.2.2.1 y.2.2.2.1) blob_Merge_1_pk) [] from trivial) x y).trans (blob_Merge_1_core N x y)).trans h)
def slices_IndexFunc_api_File_2_L0T (N : Nat) (x0 : List (Str × Bool × List UInt8)) (c7 : Int) (k0 : (List (Str × Bool)) → (List (Str × Bool)) → Option (Int × (List (Str × Bool)) × List (Str × Bool))) (self : Int → (List (Str × Bool)) → (List (Str × Bool)) → Option (Int × (List (Str × Bool)) × List (Str × Bool))) (s8 : Int) (m2_1 : List (Str × Bool)) (m3_2 : List (Str × Bool)) : Option (Int × (List (Str × Bool)) × List (Str × Bool)) :=
  br (decide (s8 < c7))
    (bnd (geti x0 s8) fun t14 =>
    bnd (blob_Merge_1 N t14 m2_1 m3_2) fun t16 =>
    br (t16.1)
      (some (s8, t16.2))
      (self (IntKind.i64.wrap (s8 + (1 : Int))) t16.2.1 t16.2.2))
    (k0 m2_1 m3_2)
def slices_IndexFunc_api_File_2_L0 (N : Nat) (x0 : List (Str × Bool × List UInt8)) (c7 : Int) (k0 : (List (Str × Bool)) → (List (Str × Bool)) → Option (Int × (List (Str × Bool)) × List (Str × Bool))) : Nat → Int → (List (Str × Bool)) → (List (Str × Bool)) → Option (Int × (List (Str × Bool)) × List (Str × Bool))
  | 0, _, _, _ => none
  | n + 1, s8, m2_1, m3_2 => slices_IndexFunc_api_File_2_L0T N x0 c7 k0 (slices_IndexFunc_api_File_2_L0 N x0 c7 k0 n) s8 m2_1 m3_2
def slices_IndexFunc_api_File_2 (N : Nat) (x0 : List (Str × Bool × List UInt8)) (m2 : List (Str × Bool)) (m3 : List (Str × Bool)) : Option (Int × (List (Str × Bool)) × List (Str × Bool)) :=
  slices_IndexFunc_api_File_2_L0 N x0 (x0.length : Int) (fun o0_m2 o0_m3 =>
      some ((-1 : Int), (o0_m2, o0_m3))) N (0 : Int) m2 m3
abbrev slices_IndexFunc_api_File_2_sg (f : SV [.v (.sl (.pr .str (.pr .bool (.sl .u8)))), .fnc 69 [0, 1]] → BV [.cells [.mref 2], .cells [.mref 3], .map .bool, .map .bool] → Option (Int × (List (Str × Bool)) × List (Str × Bool))) : AF := { ps := [.v (.sl (.pr .str (.pr .bool (.sl .u8)))), .fnc 69 [0, 1]], bs := [.cells [.mref 2], .cells [.mref 3], .map .bool, .map .bool], rs := [.v (.int .i64)], cs := [.cells [.mref 2], .cells [.mref 3], .map .bool, .map .bool], R := Int × (List (Str × Bool)) × List (Str × Bool), out := fun z => ((z.1, ()), (((), ()), ((), ()), z.2.1, z.2.2, ())), f := f }
abbrev slices_IndexFunc_api_File_2_pk : SV [.v (.int .i64)] → BV [.cells [.mref 2], .cells [.mref 3], .map .bool, .map .bool] → (Int × (List (Str × Bool)) × List (Str × Bool)) := fun x y => (x.1, y.2.2.1, y.2.2.2.1)
def slices_IndexFunc_api_File_2_fn (N : Nat) : FuncId → Option Tmp → Option AF := fun f _ =>
  match f with
    | 69 => some (blob_Merge_1_sg fun x y => blob_Merge_1 N x.1 y.2.2.1 y.2.2.2.1)
    | _ => none
theorem slices_IndexFunc_api_File_2_fn_ok (N : Nat) : ∀ f q F, slices_IndexFunc_api_File_2_fn N f q = some F → Sound Tryd.prog GW B0G f F := by
  intro f q F h
  unfold slices_IndexFunc_api_File_2_fn at h
  split at h
  · cases h; exact blob_Merge_1_sound N
  · cases h
def slices_IndexFunc_api_File_2_h : Nat → Hint := fun i =>
  match i with
  | 0 => ⟨[], [0, 1, 7, 8], [0, 1, 2, 3], [], [0, 1, 2, 3], []⟩
  | _ => ⟨[], [], [], [], [], []⟩
abbrev slices_IndexFunc_api_File_2_E (N : Nat) : Env := mkE slices_IndexFunc_api_File_2_h (slices_IndexFunc_api_File_2_fn N) (fun _ => false) (fun _ => false)
abbrev slices_IndexFunc_api_File_2_L0_fs : List (Nat × Sl) := [(0, .v (.sl (.pr .str (.pr .bool (.sl .u8))))), (1, .fnc 69 [0, 1]), (7, .v (.int .i64)), (8, .v (.int .i64))]
abbrev slices_IndexFunc_api_File_2_L0_bs : List (Nat × Sb) := [(0, .cells [.mref 2]), (1, .cells [.mref 3]), (2, .map .bool), (3, .map .bool)]
def slices_IndexFunc_api_File_2_L0_hd (x0 : List (Str × Bool × List UInt8)) (c7 : Int) (s8 : Int) (m2_1 : List (Str × Bool)) (m3_2 : List (Str × Bool)) : St := ⟨19, [(0, .v (.sl (.pr .str (.pr .bool (.sl .u8)))) x0), (1, .fnc 69 [0, 1]), (7, .v (.int .i64) c7), (8, .v (.int .i64) s8)], [(0, .cells [.mref 2]), (1, .cells [.mref 3]), (2, .map .bool m2_1), (3, .map .bool m3_2)]⟩
def slices_IndexFunc_api_File_2_L0_tl0 (_x0 : List (Str × Bool × List UInt8)) (_c7 : Int) (o0_m2 : List (Str × Bool)) (o0_m3 : List (Str × Bool)) : St := ⟨19, [], [(0, .cells [.mref 2]), (1, .cells [.mref 3]), (2, .map .bool o0_m2), (3, .map .bool o0_m3)]⟩
def slices_IndexFunc_api_File_2_L0_G (N : Nat) (x0 : List (Str × Bool × List UInt8)) (c7 : Int) (s8 : Int) (m2_1 : List (Str × Bool)) (m3_2 : List (Str × Bool)) (k : Ex → St → Option (Int × (List (Str × Bool)) × List (Str × Bool))) : Option (Int × (List (Str × Bool)) × List (Str × Bool)) :=
  slices_IndexFunc_api_File_2_L0 N x0 c7 (fun o0_m2 o0_m3 => k (.exit 0) (slices_IndexFunc_api_File_2_L0_tl0 x0 c7 o0_m2 o0_m3)) N s8 m2_1 m3_2
abbrev slices_IndexFunc_api_File_2_L0_F (N : Nat) : FV slices_IndexFunc_api_File_2_L0_fs → HV slices_IndexFunc_api_File_2_L0_bs → (Ex → St → Option (Int × (List (Str × Bool)) × List (Str × Bool))) → Option (Int × (List (Str × Bool)) × List (Str × Bool)) := fun x y k => slices_IndexFunc_api_File_2_L0_G N x.1 x.2.2.1 x.2.2.2.1 y.2.2.1 y.2.2.2.1 k
noncomputable def slices_IndexFunc_api_File_2_LP (N : Nat) : Nat → Code → St → (Ex → St → Option (Int × (List (Str × Bool)) × List (Str × Bool))) → Option (Int × (List (Str × Bool)) × List (Str × Bool)) := fun i c =>
  match i with
  | 0 => (LPc 19 slices_IndexFunc_api_File_2_L0_fs slices_IndexFunc_api_File_2_L0_bs (slices_IndexFunc_api_File_2_L0_F N) (fun st k => iter (slices_IndexFunc_api_File_2_h 0) (exec (slices_IndexFunc_api_File_2_E N) N c 0) N st k))
  | i => fun st k => iter (slices_IndexFunc_api_File_2_h i) (exec (slices_IndexFunc_api_File_2_E N) N c i) N st k
theorem slices_IndexFunc_api_File_2_L0_step (N : Nat) (x0 : List (Str × Bool × List UInt8)) (c7 : Int) (KX : Nat → St → Option (Int × (List (Str × Bool)) × List (Str × Bool))) (I : St → Option (Int × (List (Str × Bool)) × List (Str × Bool))) (s8 : Int) (m2_1 : List (Str × Bool)) (m3_2 : List (Str × Bool)) :
    execL (slices_IndexFunc_api_File_2_LP N) (slices_IndexFunc_api_File_2_E N) (cAt (bodyOf Tryd.f96) [true, false, true, false, false]) 0 (slices_IndexFunc_api_File_2_L0_hd x0 c7 s8 m2_1 m3_2) (roundK (slices_IndexFunc_api_File_2_h 0) I KX (resD (slices_IndexFunc_api_File_2_E N) Tryd.f96 (slices_IndexFunc_api_File_2_sg fun x y => slices_IndexFunc_api_File_2 N x.1 y.2.2.1 y.2.2.2.1) slices_IndexFunc_api_File_2_pk)) = slices_IndexFunc_api_File_2_L0T N x0 c7 (fun o0_m2 o0_m3 => KX 0 (slices_IndexFunc_api_File_2_L0_tl0 x0 c7 o0_m2 o0_m3)) (fun s8 m2_1 m3_2 => I (slices_IndexFunc_api_File_2_L0_hd x0 c7 s8 m2_1 m3_2)) s8 m2_1 m3_2 := by kernel_rfl
theorem slices_IndexFunc_api_File_2_L0_ok (N : Nat) : ∀ x y k, (∀ st, k .ret st = (resD (slices_IndexFunc_api_File_2_E N) Tryd.f96 (slices_IndexFunc_api_File_2_sg fun x y => slices_IndexFunc_api_File_2 N x.1 y.2.2.1 y.2.2.2.1) slices_IndexFunc_api_File_2_pk) st) → iter (slices_IndexFunc_api_File_2_h 0) (exec (slices_IndexFunc_api_File_2_E N) N (cAt (bodyOf Tryd.f96) [true, false, true, false, false]) 0) N ⟨19, unF slices_IndexFunc_api_File_2_L0_fs x, unH slices_IndexFunc_api_File_2_L0_bs y⟩ k = slices_IndexFunc_api_File_2_L0_F N x y k := fun x y k hk =>
  iter_link (S := (Int) × (List (Str × Bool)) × (List (Str × Bool)) × Unit) (slices_IndexFunc_api_File_2_h 0) _ (execL (slices_IndexFunc_api_File_2_LP N) (slices_IndexFunc_api_File_2_E N) (cAt (bodyOf Tryd.f96) [true, false, true, false, false]) 0) (resD (slices_IndexFunc_api_File_2_E N) Tryd.f96 (slices_IndexFunc_api_File_2_sg fun x y => slices_IndexFunc_api_File_2 N x.1 y.2.2.1 y.2.2.2.1) slices_IndexFunc_api_File_2_pk) (fun st k hk => execL_eq _ _ N _ (cAt (bodyOf Tryd.f96) [true, false, true, false, false]) 0 (show LoopsOk (slices_IndexFunc_api_File_2_LP N) (slices_IndexFunc_api_File_2_E N) N (resD (slices_IndexFunc_api_File_2_E N) Tryd.f96 (slices_IndexFunc_api_File_2_sg fun x y => slices_IndexFunc_api_File_2 N x.1 y.2.2.1 y.2.2.2.1) slices_IndexFunc_api_File_2_pk) [] from trivial) st k hk) (fun s => slices_IndexFunc_api_File_2_L0_hd x.1 x.2.2.1 s.1 s.2.1 s.2.2.1) k hk
    (fun self s => slices_IndexFunc_api_File_2_L0T N x.1 x.2.2.1 (fun o0_m2 o0_m3 => k (.exit 0) (slices_IndexFunc_api_File_2_L0_tl0 x.1 x.2.2.1 o0_m2 o0_m3)) (fun s8 m2_1 m3_2 => self (s8, m2_1, m3_2, ())) s.1 s.2.1 s.2.2.1) (fun n s => slices_IndexFunc_api_File_2_L0 N x.1 x.2.2.1 (fun o0_m2 o0_m3 => k (.exit 0) (slices_IndexFunc_api_File_2_L0_tl0 x.1 x.2.2.1 o0_m2 o0_m3)) n s.1 s.2.1 s.2.2.1) (fun _ => rfl) (fun _ _ => rfl)
    (fun I s => slices_IndexFunc_api_File_2_L0_step N x.1 x.2.2.1 (fun j => k (.exit j)) I s.1 s.2.1 s.2.2.1) N (x.2.2.2.1, y.2.2.1, y.2.2.2.1, ())
theorem slices_IndexFunc_api_File_2_lp0 (N : Nat) : ∀ st k, (∀ st, k .ret st = (resD (slices_IndexFunc_api_File_2_E N) Tryd.f96 (slices_IndexFunc_api_File_2_sg fun x y => slices_IndexFunc_api_File_2 N x.1 y.2.2.1 y.2.2.2.1) slices_IndexFunc_api_File_2_pk) st) → slices_IndexFunc_api_File_2_LP N 0 (cAt (bodyOf Tryd.f96) [true, false, true, false, false]) st k = iter (Env.hint (slices_IndexFunc_api_File_2_E N) 0) (exec (slices_IndexFunc_api_File_2_E N) N (cAt (bodyOf Tryd.f96) [true, false, true, false, false]) 0) N st k := fun st k hk => LPc_eq 19 slices_IndexFunc_api_File_2_L0_fs slices_IndexFunc_api_File_2_L0_bs _ _ (resD (slices_IndexFunc_api_File_2_E N) Tryd.f96 (slices_IndexFunc_api_File_2_sg fun x y => slices_IndexFunc_api_File_2 N x.1 y.2.2.1 y.2.2.2.1) slices_IndexFunc_api_File_2_pk) (slices_IndexFunc_api_File_2_L0_ok N) _ st k hk (rfl)
theorem slices_IndexFunc_api_File_2_core (N : Nat) (x : SV [.v (.sl (.pr .str (.pr .bool (.sl .u8)))), .fnc 69 [0, 1]]) (y : BV [.cells [.mref 2], .cells [.mref 3], .map .bool, .map .bool]) : runL (slices_IndexFunc_api_File_2_E N) Tryd.f96 (slices_IndexFunc_api_File_2_sg fun x y => slices_IndexFunc_api_File_2 N x.1 y.2.2.1 y.2.2.2.1) slices_IndexFunc_api_File_2_pk (slices_IndexFunc_api_File_2_LP N) x y = slices_IndexFunc_api_File_2 N x.1 y.2.2.1 y.2.2.2.1 := by kernel_rfl
theorem slices_IndexFunc_api_File_2_sound (N : Nat) : Sound Tryd.prog GW B0G 96 (slices_IndexFunc_api_File_2_sg fun x y => slices_IndexFunc_api_File_2 N x.1 y.2.2.1 y.2.2.2.1) :=
  runD_sound (mkE_ok slices_IndexFunc_api_File_2_h (slices_IndexFunc_api_File_2_fn N) _ _ (slices_IndexFunc_api_File_2_fn_ok N)) Tryd.func96 rfl Tryd.call96 (slices_IndexFunc_api_File_2_sg fun x y => slices_IndexFunc_api_File_2 N x.1 y.2.2.1 y.2.2.2.1) slices_IndexFunc_api_File_2_pk (fun _ _ => rfl) N (fun x y _ h => ((runL_eq (slices_IndexFunc_api_File_2_E N) N Tryd.f96 (slices_IndexFunc_api_File_2_sg fun x y => slices_IndexFunc_api_File_2 N x.1 y.2.2.1 y.2.2.2.1) slices_IndexFunc_api_File_2_pk (slices_IndexFunc_api_File_2_LP N) (show LoopsOk (slices_IndexFunc_api_File_2_LP N) (slices_IndexFunc_api_File_2_E N) N (resD (slices_IndexFunc_api_File_2_E N) Tryd.f96 (slices_IndexFunc_api_File_2_sg fun x y => slices_IndexFunc_api_File_2 N x.1 y.2.2.1 y.2.2.2.1) slices_IndexFunc_api_File_2_pk) [(0, (cAt (bodyOf Tryd.f96) [true, false, true, false, false]))] from ⟨slices_IndexFunc_api_File_2_lp0 N, trivial⟩) x y).trans (slices_IndexFunc_api_File_2_core N x y)).trans h)
end
end Go.Proofs.YthlkidohpiebiaaDoor


/- What functions of the program compute, as plain functions (printed). -/
namespace Go.Proofs.YthlkidohpiebiaaDoor
open Go Go.RowKit
set_option maxRecDepth 100000
set_option linter.unusedVariables false
noncomputable section
def slices_DeleteFunc_api_File_2_L0T (N : Nat) (k0 : Int → (List (Str × Bool × List UInt8)) → (List (Str × Bool)) → (List (Str × Bool)) → Option (List (Str × Bool × List UInt8) × (List (Str × Bool)) × List (Str × Bool))) (self : Int → Int → (List (Str × Bool × List UInt8)) → (List (Str × Bool)) → (List (Str × Bool)) → Option (List (Str × Bool × List UInt8) × (List (Str × Bool)) × List (Str × Bool))) (s5 : Int) (s6 : Int) (w0_1 : List (Str × Bool × List UInt8)) (m3_2 : List (Str × Bool)) (m4_3 : List (Str × Bool)) : Option (List (Str × Bool × List UInt8) × (List (Str × Bool)) × List (Str × Bool)) :=
  br (decide (s6 < (w0_1.length : Int)))
    (br (decide (0 ≤ s6 ∧ s6 < (w0_1.length : Int)))
      (bnd (geti w0_1 s6) fun t25 =>
      bnd (blob_Merge_1 N t25 m3_2 m4_3) fun t28 =>
      br (!t28.1)
        (br (decide (0 ≤ s5 ∧ s5 < (w0_1.length : Int)))
          (bnd (geti w0_1 s5) fun _ =>
          self (IntKind.i64.wrap (s5 + (1 : Int))) (IntKind.i64.wrap (s6 + (1 : Int))) (seti w0_1 s5 t25) t28.2.1 t28.2.2)
          none)
        (self s5 (IntKind.i64.wrap (s6 + (1 : Int))) w0_1 t28.2.1 t28.2.2))
      none)
    (k0 s5 w0_1 m3_2 m4_3)
def slices_DeleteFunc_api_File_2_L0 (N : Nat) (k0 : Int → (List (Str × Bool × List UInt8)) → (List (Str × Bool)) → (List (Str × Bool)) → Option (List (Str × Bool × List UInt8) × (List (Str × Bool)) × List (Str × Bool))) : Nat → Int → Int → (List (Str × Bool × List UInt8)) → (List (Str × Bool)) → (List (Str × Bool)) → Option (List (Str × Bool × List UInt8) × (List (Str × Bool)) × List (Str × Bool))
  | 0, _, _, _, _, _ => none
  | n + 1, s5, s6, w0_1, m3_2, m4_3 => slices_DeleteFunc_api_File_2_L0T N k0 (slices_DeleteFunc_api_File_2_L0 N k0 n) s5 s6 w0_1 m3_2 m4_3
def slices_DeleteFunc_api_File_2 (N : Nat) (w0 : List (Str × Bool × List UInt8)) (m3 : List (Str × Bool)) (m4 : List (Str × Bool)) : Option (List (Str × Bool × List UInt8) × (List (Str × Bool)) × List (Str × Bool)) :=
  bnd (slices_IndexFunc_api_File_2 N w0 m3 m4) fun t10 =>
  br (t10.1 == (-1 : Int))
    (some (w0, t10.2))
    (slices_DeleteFunc_api_File_2_L0 N (fun o0_5 o0_w0 o0_m3 o0_m4 =>
        br (decide (0 ≤ o0_5 ∧ o0_5 ≤ (o0_w0.length : Int) ∧ 0 < o0_w0.length))
          (br (decide (0 ≤ o0_5 ∧ o0_5 ≤ ((clr o0_w0 o0_5 (zero (.pr .str (.pr .bool (.sl .u8))))).length : Int)))
            (some (cut (clr o0_w0 o0_5 (zero (.pr .str (.pr .bool (.sl .u8))))) o0_5, (o0_m3, o0_m4)))
            none)
          none) N t10.1 (IntKind.i64.wrap (t10.1 + (1 : Int))) w0 t10.2.1 t10.2.2)
abbrev slices_DeleteFunc_api_File_2_sg (f : SV [.row 0, .fnc 69 [1, 2]] → BV [.row 34 (.pr .str (.pr .bool (.sl .u8))) true, .cells [.mref 3], .cells [.mref 4], .map .bool, .map .bool] → Option (List (Str × Bool × List UInt8) × (List (Str × Bool)) × List (Str × Bool))) : AF := { ps := [.row 0, .fnc 69 [1, 2]], bs := [.row 34 (.pr .str (.pr .bool (.sl .u8))) true, .cells [.mref 3], .cells [.mref 4], .map .bool, .map .bool], rs := [.row 0], cs := [.row 34 (.pr .str (.pr .bool (.sl .u8))) true, .cells [.mref 3], .cells [.mref 4], .map .bool, .map .bool], R := List (Str × Bool × List UInt8) × (List (Str × Bool)) × List (Str × Bool), out := fun z => (((), ()), (z.1, ((), ()), ((), ()), z.2.1, z.2.2, ())), f := f }
abbrev slices_DeleteFunc_api_File_2_pk : SV [.row 0] → BV [.row 34 (.pr .str (.pr .bool (.sl .u8))) true, .cells [.mref 3], .cells [.mref 4], .map .bool, .map .bool] → (List (Str × Bool × List UInt8) × (List (Str × Bool)) × List (Str × Bool)) := fun _ y => (y.1, y.2.2.2.1, y.2.2.2.2.1)
def slices_DeleteFunc_api_File_2_fn (N : Nat) : FuncId → Option Tmp → Option AF := fun f _ =>
  match f with
    | 69 => some (blob_Merge_1_sg fun x y => blob_Merge_1 N x.1 y.2.2.1 y.2.2.2.1)
    | 96 => some (slices_IndexFunc_api_File_2_sg fun x y => slices_IndexFunc_api_File_2 N x.1 y.2.2.1 y.2.2.2.1)
    | _ => none
theorem slices_DeleteFunc_api_File_2_fn_ok (N : Nat) : ∀ f q F, slices_DeleteFunc_api_File_2_fn N f q = some F → Sound Tryd.prog GW B0G f F := by
  intro f q F h
  unfold slices_DeleteFunc_api_File_2_fn at h
  split at h
  · cases h; exact blob_Merge_1_sound N
  · cases h; exact slices_IndexFunc_api_File_2_sound N
  · cases h
def slices_DeleteFunc_api_File_2_h : Nat → Hint := fun i =>
  match i with
  | 0 => ⟨[], [0, 1, 5, 6], [0, 1, 2, 3, 4], [0, 5], [0, 1, 2, 3, 4], []⟩
  | _ => ⟨[], [], [], [], [], []⟩
abbrev slices_DeleteFunc_api_File_2_E (N : Nat) : Env := mkE slices_DeleteFunc_api_File_2_h (slices_DeleteFunc_api_File_2_fn N) (fun i => match i with | 4 => true | _ => false) (fun _ => false)
abbrev slices_DeleteFunc_api_File_2_L0_fs : List (Nat × Sl) := [(0, .row 0), (1, .fnc 69 [1, 2]), (5, .v (.int .i64)), (6, .v (.int .i64))]
abbrev slices_DeleteFunc_api_File_2_L0_bs : List (Nat × Sb) := [(0, .row 34 (.pr .str (.pr .bool (.sl .u8))) true), (1, .cells [.mref 3]), (2, .cells [.mref 4]), (3, .map .bool), (4, .map .bool)]
def slices_DeleteFunc_api_File_2_L0_hd (s5 : Int) (s6 : Int) (w0_1 : List (Str × Bool × List UInt8)) (m3_2 : List (Str × Bool)) (m4_3 : List (Str × Bool)) : St := ⟨42, [(0, .row 0), (1, .fnc 69 [1, 2]), (5, .v (.int .i64) s5), (6, .v (.int .i64) s6)], [(0, .row 34 (.pr .str (.pr .bool (.sl .u8))) true w0_1), (1, .cells [.mref 3]), (2, .cells [.mref 4]), (3, .map .bool m3_2), (4, .map .bool m4_3)]⟩
def slices_DeleteFunc_api_File_2_L0_tl0 (o0_5 : Int) (o0_w0 : List (Str × Bool × List UInt8)) (o0_m3 : List (Str × Bool)) (o0_m4 : List (Str × Bool)) : St := ⟨42, [(0, .row 0), (5, .v (.int .i64) o0_5)], [(0, .row 34 (.pr .str (.pr .bool (.sl .u8))) true o0_w0), (1, .cells [.mref 3]), (2, .cells [.mref 4]), (3, .map .bool o0_m3), (4, .map .bool o0_m4)]⟩
def slices_DeleteFunc_api_File_2_L0_G (N : Nat) (s5 : Int) (s6 : Int) (w0_1 : List (Str × Bool × List UInt8)) (m3_2 : List (Str × Bool)) (m4_3 : List (Str × Bool)) (k : Ex → St → Option (List (Str × Bool × List UInt8) × (List (Str × Bool)) × List (Str × Bool))) : Option (List (Str × Bool × List UInt8) × (List (Str × Bool)) × List (Str × Bool)) :=
  slices_DeleteFunc_api_File_2_L0 N (fun o0_5 o0_w0 o0_m3 o0_m4 => k (.exit 0) (slices_DeleteFunc_api_File_2_L0_tl0 o0_5 o0_w0 o0_m3 o0_m4)) N s5 s6 w0_1 m3_2 m4_3
abbrev slices_DeleteFunc_api_File_2_L0_F (N : Nat) : FV slices_DeleteFunc_api_File_2_L0_fs → HV slices_DeleteFunc_api_File_2_L0_bs → (Ex → St → Option (List (Str × Bool × List UInt8) × (List (Str × Bool)) × List (Str × Bool))) → Option (List (Str × Bool × List UInt8) × (List (Str × Bool)) × List (Str × Bool)) := fun x y k => slices_DeleteFunc_api_File_2_L0_G N x.2.2.1 x.2.2.2.1 y.1 y.2.2.2.1 y.2.2.2.2.1 k
noncomputable def slices_DeleteFunc_api_File_2_LP (N : Nat) : Nat → Code → St → (Ex → St → Option (List (Str × Bool × List UInt8) × (List (Str × Bool)) × List (Str × Bool))) → Option (List (Str × Bool × List UInt8) × (List (Str × Bool)) × List (Str × Bool)) := fun i c =>
  match i with
  | 0 => (LPc 42 slices_DeleteFunc_api_File_2_L0_fs slices_DeleteFunc_api_File_2_L0_bs (slices_DeleteFunc_api_File_2_L0_F N) (fun st k => iter (slices_DeleteFunc_api_File_2_h 0) (exec (slices_DeleteFunc_api_File_2_E N) N c 0) N st k))
  | i => fun st k => iter (slices_DeleteFunc_api_File_2_h i) (exec (slices_DeleteFunc_api_File_2_E N) N c i) N st k
theorem slices_DeleteFunc_api_File_2_L0_step (N : Nat) (KX : Nat → St → Option (List (Str × Bool × List UInt8) × (List (Str × Bool)) × List (Str × Bool))) (I : St → Option (List (Str × Bool × List UInt8) × (List (Str × Bool)) × List (Str × Bool))) (s5 : Int) (s6 : Int) (w0_1 : List (Str × Bool × List UInt8)) (m3_2 : List (Str × Bool)) (m4_3 : List (Str × Bool)) :
    execL (slices_DeleteFunc_api_File_2_LP N) (slices_DeleteFunc_api_File_2_E N) (cAt (bodyOf Tryd.f61) [true, true, true, false, true, false, false]) 0 (slices_DeleteFunc_api_File_2_L0_hd s5 s6 w0_1 m3_2 m4_3) (roundK (slices_DeleteFunc_api_File_2_h 0) I KX (resD (slices_DeleteFunc_api_File_2_E N) Tryd.f61 (slices_DeleteFunc_api_File_2_sg fun _ y => slices_DeleteFunc_api_File_2 N y.1 y.2.2.2.1 y.2.2.2.2.1) slices_DeleteFunc_api_File_2_pk)) = slices_DeleteFunc_api_File_2_L0T N (fun o0_5 o0_w0 o0_m3 o0_m4 => KX 0 (slices_DeleteFunc_api_File_2_L0_tl0 o0_5 o0_w0 o0_m3 o0_m4)) (fun s5 s6 w0_1 m3_2 m4_3 => I (slices_DeleteFunc_api_File_2_L0_hd s5 s6 w0_1 m3_2 m4_3)) s5 s6 w0_1 m3_2 m4_3 := by kernel_rfl
theorem slices_DeleteFunc_api_File_2_L0_ok (N : Nat) : ∀ x y k, (∀ st, k .ret st = (resD (slices_DeleteFunc_api_File_2_E N) Tryd.f61 (slices_DeleteFunc_api_File_2_sg fun _ y => slices_DeleteFunc_api_File_2 N y.1 y.2.2.2.1 y.2.2.2.2.1) slices_DeleteFunc_api_File_2_pk) st) → iter (slices_DeleteFunc_api_File_2_h 0) (exec (slices_DeleteFunc_api_File_2_E N) N (cAt (bodyOf Tryd.f61) [true, true, true, false, true, false, false]) 0) N ⟨42, unF slices_DeleteFunc_api_File_2_L0_fs x, unH slices_DeleteFunc_api_File_2_L0_bs y⟩ k = slices_DeleteFunc_api_File_2_L0_F N x y k := fun x y k hk =>
  iter_link (S := (Int) × (Int) × (List (Str × Bool × List UInt8)) × (List (Str × Bool)) × (List (Str × Bool)) × Unit) (slices_DeleteFunc_api_File_2_h 0) _ (execL (slices_DeleteFunc_api_File_2_LP N) (slices_DeleteFunc_api_File_2_E N) (cAt (bodyOf Tryd.f61) [true, true, true, false, true, false, false]) 0) (resD (slices_DeleteFunc_api_File_2_E N) Tryd.f61 (slices_DeleteFunc_api_File_2_sg fun _ y => slices_DeleteFunc_api_File_2 N y.1 y.2.2.2.1 y.2.2.2.2.1) slices_DeleteFunc_api_File_2_pk) (fun st k hk => execL_eq _ _ N _ (cAt (bodyOf Tryd.f61) [true, true, true, false, true, false, false]) 0 (show LoopsOk (slices_DeleteFunc_api_File_2_LP N) (slices_DeleteFunc_api_File_2_E N) N (resD (slices_DeleteFunc_api_File_2_E N) Tryd.f61 (slices_DeleteFunc_api_File_2_sg fun _ y => slices_DeleteFunc_api_File_2 N y.1 y.2.2.2.1 y.2.2.2.2.1) slices_DeleteFunc_api_File_2_pk) [] from trivial) st k hk) (fun s => slices_DeleteFunc_api_File_2_L0_hd s.1 s.2.1 s.2.2.1 s.2.2.2.1 s.2.2.2.2.1) k hk
    (fun self s => slices_DeleteFunc_api_File_2_L0T N (fun o0_5 o0_w0 o0_m3 o0_m4 => k (.exit 0) (slices_DeleteFunc_api_File_2_L0_tl0 o0_5 o0_w0 o0_m3 o0_m4)) (fun s5 s6 w0_1 m3_2 m4_3 => self (s5, s6, w0_1, m3_2, m4_3, ())) s.1 s.2.1 s.2.2.1 s.2.2.2.1 s.2.2.2.2.1) (fun n s => slices_DeleteFunc_api_File_2_L0 N (fun o0_5 o0_w0 o0_m3 o0_m4 => k (.exit 0) (slices_DeleteFunc_api_File_2_L0_tl0 o0_5 o0_w0 o0_m3 o0_m4)) n s.1 s.2.1 s.2.2.1 s.2.2.2.1 s.2.2.2.2.1) (fun _ => rfl) (fun _ _ => rfl)
    (fun I s => slices_DeleteFunc_api_File_2_L0_step N (fun j => k (.exit j)) I s.1 s.2.1 s.2.2.1 s.2.2.2.1 s.2.2.2.2.1) N (x.2.2.1, x.2.2.2.1, y.1, y.2.2.2.1, y.2.2.2.2.1, ())
theorem slices_DeleteFunc_api_File_2_lp0 (N : Nat) : ∀ st k, (∀ st, k .ret st = (resD (slices_DeleteFunc_api_File_2_E N) Tryd.f61 (slices_DeleteFunc_api_File_2_sg fun _ y => slices_DeleteFunc_api_File_2 N y.1 y.2.2.2.1 y.2.2.2.2.1) slices_DeleteFunc_api_File_2_pk) st) → slices_DeleteFunc_api_File_2_LP N 0 (cAt (bodyOf Tryd.f61) [true, true, true, false, true, false, false]) st k = iter (Env.hint (slices_DeleteFunc_api_File_2_E N) 0) (exec (slices_DeleteFunc_api_File_2_E N) N (cAt (bodyOf Tryd.f61) [true, true, true, false, true, false, false]) 0) N st k := fun st k hk => LPc_eq 42 slices_DeleteFunc_api_File_2_L0_fs slices_DeleteFunc_api_File_2_L0_bs _ _ (resD (slices_DeleteFunc_api_File_2_E N) Tryd.f61 (slices_DeleteFunc_api_File_2_sg fun _ y => slices_DeleteFunc_api_File_2 N y.1 y.2.2.2.1 y.2.2.2.2.1) slices_DeleteFunc_api_File_2_pk) (slices_DeleteFunc_api_File_2_L0_ok N) _ st k hk (rfl)
theorem slices_DeleteFunc_api_File_2_core (N : Nat) (x : SV [.row 0, .fnc 69 [1, 2]]) (y : BV [.row 34 (.pr .str (.pr .bool (.sl .u8))) true, .cells [.mref 3], .cells [.mref 4], .map .bool, .map .bool]) : runL (slices_DeleteFunc_api_File_2_E N) Tryd.f61 (slices_DeleteFunc_api_File_2_sg fun _ y => slices_DeleteFunc_api_File_2 N y.1 y.2.2.2.1 y.2.2.2.2.1) slices_DeleteFunc_api_File_2_pk (slices_DeleteFunc_api_File_2_LP N) x y = slices_DeleteFunc_api_File_2 N y.1 y.2.2.2.1 y.2.2.2.2.1 := by kernel_rfl
theorem slices_DeleteFunc_api_File_2_sound (N : Nat) : Sound Tryd.prog GW B0G 61 (slices_DeleteFunc_api_File_2_sg fun _ y => slices_DeleteFunc_api_File_2 N y.1 y.2.2.2.1 y.2.2.2.2.1) :=
  runD_sound (mkE_ok slices_DeleteFunc_api_File_2_h (slices_DeleteFunc_api_File_2_fn N) _ _ (slices_DeleteFunc_api_File_2_fn_ok N)) Tryd.func61 rfl Tryd.call61 (slices_DeleteFunc_api_File_2_sg fun _ y => slices_DeleteFunc_api_File_2 N y.1 y.2.2.2.1 y.2.2.2.2.1) slices_DeleteFunc_api_File_2_pk (fun _ _ => rfl) N (fun x y _ h => ((runL_eq (slices_DeleteFunc_api_File_2_E N) N Tryd.f61 (slices_DeleteFunc_api_File_2_sg fun _ y => slices_DeleteFunc_api_File_2 N y.1 y.2.2.2.1 y.2.2.2.2.1) slices_DeleteFunc_api_File_2_pk (slices_DeleteFunc_api_File_2_LP N) (show LoopsOk (slices_DeleteFunc_api_File_2_LP N) (slices_DeleteFunc_api_File_2_E N) N (resD (slices_DeleteFunc_api_File_2_E N) Tryd.f61 (slices_DeleteFunc_api_File_2_sg fun _ y => slices_DeleteFunc_api_File_2 N y.1 y.2.2.2.1 y.2.2.2.2.1) slices_DeleteFunc_api_File_2_pk) [(0, (cAt (bodyOf Tryd.f61) [true, true, true, false, true, false, false]))] from ⟨slices_DeleteFunc_api_File_2_lp0 N, trivial⟩) x y).trans (slices_DeleteFunc_api_File_2_core N x y)).trans h)
def blob_Merge_L0T (N : Nat) (c31 : Int) (cw1030 : List (List (Str × Bool × List UInt8))) (k0 : Option (List (Str × Bool × List UInt8) × List Str × Int)) (self : Int → Option (List (Str × Bool × List UInt8) × List Str × Int)) (s32 : Int) : Option (List (Str × Bool × List UInt8) × List Str × Int) :=
  br (decide (s32 < c31))
    (bnd (geti cw1030 s32) fun t34 =>
    bnd (blob_CheckFiles N t34) fun t37 =>
    br (t37 != (0 : Int))
      (some (([] : List (Str × Bool × List UInt8)), (([] : List Str), t37)))
      (self (IntKind.i64.wrap (s32 + (1 : Int)))))
    (k0)
def blob_Merge_L0 (N : Nat) (c31 : Int) (cw1030 : List (List (Str × Bool × List UInt8))) (k0 : Option (List (Str × Bool × List UInt8) × List Str × Int)) : Nat → Int → Option (List (Str × Bool × List UInt8) × List Str × Int)
  | 0, _ => none
  | n + 1, s32 => blob_Merge_L0T N c31 cw1030 k0 (blob_Merge_L0 N c31 cw1030 k0 n) s32
def blob_Merge_L1T (N : Nat) (c54 : Int) (t43 : List (Str × (Str × Bool × List UInt8))) (t45 : List (Str × (Str × Bool × List UInt8))) (t47 : List (Str × (Str × Bool × List UInt8))) (t53 : List Str) (k2 : (List (Str × Bool × List UInt8)) → (List (Str × Bool)) → Option (List (Str × Bool × List UInt8) × List Str × Int)) (self : Int → (List (Str × Bool × List UInt8)) → (List (Str × Bool)) → Option (List (Str × Bool × List UInt8) × List Str × Int)) (s55 : Int) (w1016 : List (Str × Bool × List UInt8)) (m1048 : List (Str × Bool)) : Option (List (Str × Bool × List UInt8) × List Str × Int) :=
  br (decide (s55 < c54))
    (bnd (geti t53 s55) fun t57 =>
    bnd (blob_spotOf N t43 t57) fun t61 =>
    bnd (blob_spotOf N t45 t57) fun t64 =>
    bnd (blob_spotOf N t47 t57) fun t67 =>
    bnd (blob_spot_same N t64 t61) fun t71 =>
    br (t71)
      (br (t67.2)
        (br (decide ((w1016.length + [t67.1].length) * (24 * Ty.sz (.pr .str (.pr .bool (.sl .u8)))) ≤ 140737488355328))
          (self (IntKind.i64.wrap (s55 + (1 : Int))) (w1016 ++ [t67.1]) m1048)
          none)
        (self (IntKind.i64.wrap (s55 + (1 : Int))) w1016 m1048))
      (bnd (blob_spot_same N t67 t61) fun t75 =>
      br (!t75)
        (bnd (blob_spot_same N t67 t64) fun t80 =>
        br (!t80)
          (br (t64.2)
            (br (decide ((w1016.length + [t64.1].length) * (24 * Ty.sz (.pr .str (.pr .bool (.sl .u8)))) ≤ 140737488355328))
              (self (IntKind.i64.wrap (s55 + (1 : Int))) (w1016 ++ [t64.1]) (mset m1048 t57 true))
              none)
            (self (IntKind.i64.wrap (s55 + (1 : Int))) w1016 (mset m1048 t57 true)))
          (br (t64.2)
            (br (decide ((w1016.length + [t64.1].length) * (24 * Ty.sz (.pr .str (.pr .bool (.sl .u8)))) ≤ 140737488355328))
              (self (IntKind.i64.wrap (s55 + (1 : Int))) (w1016 ++ [t64.1]) m1048)
              none)
            (self (IntKind.i64.wrap (s55 + (1 : Int))) w1016 m1048)))
        (br (t64.2)
          (br (decide ((w1016.length + [t64.1].length) * (24 * Ty.sz (.pr .str (.pr .bool (.sl .u8)))) ≤ 140737488355328))
            (self (IntKind.i64.wrap (s55 + (1 : Int))) (w1016 ++ [t64.1]) m1048)
            none)
          (self (IntKind.i64.wrap (s55 + (1 : Int))) w1016 m1048))))
    (k2 w1016 m1048)
def blob_Merge_L1 (N : Nat) (c54 : Int) (t43 : List (Str × (Str × Bool × List UInt8))) (t45 : List (Str × (Str × Bool × List UInt8))) (t47 : List (Str × (Str × Bool × List UInt8))) (t53 : List Str) (k2 : (List (Str × Bool × List UInt8)) → (List (Str × Bool)) → Option (List (Str × Bool × List UInt8) × List Str × Int)) : Nat → Int → (List (Str × Bool × List UInt8)) → (List (Str × Bool)) → Option (List (Str × Bool × List UInt8) × List Str × Int)
  | 0, _, _, _ => none
  | n + 1, s55, w1016, m1048 => blob_Merge_L1T N c54 t43 t45 t47 t53 k2 (blob_Merge_L1 N c54 t43 t45 t47 t53 k2 n) s55 w1016 m1048
def blob_Merge_L2T (_N : Nat) (c95 : Int) (o1_w1016 : List (Str × Bool × List UInt8)) (k4 : (List (Str × Bool)) → Option (List (Str × Bool × List UInt8) × List Str × Int)) (self : Int → (List (Str × Bool)) → Option (List (Str × Bool × List UInt8) × List Str × Int)) (s96 : Int) (m1093 : List (Str × Bool)) : Option (List (Str × Bool × List UInt8) × List Str × Int) :=
  br (decide (s96 < c95))
    (br (decide (0 ≤ s96 ∧ s96 < (o1_w1016.length : Int)))
      (bnd (geti o1_w1016 s96) fun t99 =>
      self (IntKind.i64.wrap (s96 + (1 : Int))) (mset m1093 t99.1 true))
      none)
    (k4 m1093)
def blob_Merge_L2 (N : Nat) (c95 : Int) (o1_w1016 : List (Str × Bool × List UInt8)) (k4 : (List (Str × Bool)) → Option (List (Str × Bool × List UInt8) × List Str × Int)) : Nat → Int → (List (Str × Bool)) → Option (List (Str × Bool × List UInt8) × List Str × Int)
  | 0, _, _ => none
  | n + 1, s96, m1093 => blob_Merge_L2T N c95 o1_w1016 k4 (blob_Merge_L2 N c95 o1_w1016 k4 n) s96 m1093
def blob_Merge (N : Nat) (x0 : List (Str × Bool × List UInt8)) (x1 : List (Str × Bool × List UInt8)) (x2 : List (Str × Bool × List UInt8)) : Option (List (Str × Bool × List UInt8) × List Str × Int) :=
  blob_Merge_L0 N ([x0, x1, x2].length : Int) [x0, x1, x2] (bnd (blob_byPath N x0) fun t43 =>
      bnd (blob_byPath N x1) fun t45 =>
      bnd (blob_byPath N x2) fun t47 =>
      bnd (blob_paths N [x0, x1, x2]) fun t53 =>
      blob_Merge_L1 N (t53.length : Int) t43 t45 t47 t53 (fun o1_w1016 o1_m1048 =>
          blob_Merge_L2 N (o1_w1016.length : Int) o1_w1016 (fun o2_m1093 =>
              bnd (slices_DeleteFunc_api_File_2 N o1_w1016 o2_m1093 o1_m1048) fun t106 =>
              bnd (blob_CheckFiles N t106.1) fun t108 =>
              br (t108 != (0 : Int))
                (some (([] : List (Str × Bool × List UInt8)), (([] : List Str), t108)))
                (bnd (blob_Own N t106.1) fun t113 =>
                bnd (maps_Keys_bool t106.2.2) fun t115 =>
                bnd (slices_Sorted_keys t115) fun t116 =>
                some (t113, (t116.2, (0 : Int))))) N (0 : Int) ([] : List (Str × Bool))) N (0 : Int) ([] : List (Str × Bool × List UInt8)) ([] : List (Str × Bool))) N (0 : Int)
abbrev blob_Merge_sg (f : SV [.v (.sl (.pr .str (.pr .bool (.sl .u8)))), .v (.sl (.pr .str (.pr .bool (.sl .u8)))), .v (.sl (.pr .str (.pr .bool (.sl .u8))))] → BV [] → Option (List (Str × Bool × List UInt8) × List Str × Int)) : AF := { ps := [.v (.sl (.pr .str (.pr .bool (.sl .u8)))), .v (.sl (.pr .str (.pr .bool (.sl .u8)))), .v (.sl (.pr .str (.pr .bool (.sl .u8))))], bs := [], rs := [.v (.sl (.pr .str (.pr .bool (.sl .u8)))), .v (.sl .str), .v (.int .i64)], cs := [], R := List (Str × Bool × List UInt8) × List Str × Int, out := fun z => ((z.1, z.2.1, z.2.2, ()), ()), f := f }
abbrev blob_Merge_pk : SV [.v (.sl (.pr .str (.pr .bool (.sl .u8)))), .v (.sl .str), .v (.int .i64)] → BV [] → (List (Str × Bool × List UInt8) × List Str × Int) := fun x _ => (x.1, x.2.1, x.2.2.1)
def blob_Merge_fn (N : Nat) : FuncId → Option Tmp → Option AF := fun f _ =>
  match f with
    | 35 => some (blob_CheckFiles_sg fun x _ => blob_CheckFiles N x.1)
    | 52 => some (blob_byPath_sg fun x _ => blob_byPath N x.1)
    | 53 => some (blob_paths_sg fun x _ => blob_paths N x.1)
    | 58 => some (blob_Own_sg fun x _ => blob_Own N x.1)
    | 61 => some (slices_DeleteFunc_api_File_2_sg fun _ y => slices_DeleteFunc_api_File_2 N y.1 y.2.2.2.1 y.2.2.2.2.1)
    | 67 => some (blob_spotOf_sg fun x _ => blob_spotOf N x.1 x.2.1)
    | 68 => some (blob_spot_same_sg fun x _ => blob_spot_same N x.1 x.2.1)
    | 71 => some (slices_Sorted_keys_sg fun _ y => slices_Sorted_keys y.2.1)
    | 72 => some (maps_Keys_bool_sg fun _ y => maps_Keys_bool y.1)
    | _ => none
theorem blob_Merge_fn_ok (N : Nat) : ∀ f q F, blob_Merge_fn N f q = some F → Sound Tryd.prog GW B0G f F := by
  intro f q F h
  unfold blob_Merge_fn at h
  split at h
  · cases h; exact blob_CheckFiles_sound N
  · cases h; exact blob_byPath_sound N
  · cases h; exact blob_paths_sound N
  · cases h; exact blob_Own_sound N
  · cases h; exact slices_DeleteFunc_api_File_2_sound N
  · cases h; exact blob_spotOf_sound N
  · cases h; exact blob_spot_same_sound N
  · cases h; exact slices_Sorted_keys_sound
  · cases h; exact maps_Keys_bool_sound
  · cases h
def blob_Merge_h : Nat → Hint := fun i =>
  match i with
  | 0 => ⟨[], [0, 1, 2, 30, 31, 32], [1030], [0, 1, 2], [], []⟩
  | 2 => ⟨[], [12, 13, 14, 15, 16, 53, 54, 55], [1015, 1016, 1048, 104300, 104500, 104700, 105300], [15, 16], [1015, 1016, 1048], []⟩
  | 4 => ⟨[], [15, 16, 23, 94, 95, 96], [1015, 1016, 1023, 1048, 1093], [15, 16, 23], [1015, 1016, 1023, 1048, 1093], []⟩
  | 100033 => ⟨[1015, 1048], [], [], [], [], []⟩
  | _ => ⟨[], [], [], [], [], []⟩
abbrev blob_Merge_E (N : Nat) : Env := mkE blob_Merge_h (blob_Merge_fn N) (fun i => match i with | 16 => true | _ => false) (fun i => match i with | 69 => true | _ => false)
abbrev blob_Merge_L0_fs : List (Nat × Sl) := [(0, .v (.sl (.pr .str (.pr .bool (.sl .u8))))), (1, .v (.sl (.pr .str (.pr .bool (.sl .u8))))), (2, .v (.sl (.pr .str (.pr .bool (.sl .u8))))), (30, .row 1030), (31, .v (.int .i64)), (32, .v (.int .i64))]
abbrev blob_Merge_L0_bs : List (Nat × Sb) := [(1030, .row 28 (.sl (.pr .str (.pr .bool (.sl .u8)))) false)]
def blob_Merge_L0_hd (x0 : List (Str × Bool × List UInt8)) (x1 : List (Str × Bool × List UInt8)) (x2 : List (Str × Bool × List UInt8)) (c31 : Int) (cw1030 : List (List (Str × Bool × List UInt8))) (s32 : Int) : St := ⟨117, [(0, .v (.sl (.pr .str (.pr .bool (.sl .u8)))) x0), (1, .v (.sl (.pr .str (.pr .bool (.sl .u8)))) x1), (2, .v (.sl (.pr .str (.pr .bool (.sl .u8)))) x2), (30, .row 1030), (31, .v (.int .i64) c31), (32, .v (.int .i64) s32)], [(1030, .row 28 (.sl (.pr .str (.pr .bool (.sl .u8)))) false cw1030)]⟩
def blob_Merge_L0_tl0 (x0 : List (Str × Bool × List UInt8)) (x1 : List (Str × Bool × List UInt8)) (x2 : List (Str × Bool × List UInt8)) (_c31 : Int) (_cw1030 : List (List (Str × Bool × List UInt8))) : St := ⟨117, [(0, .v (.sl (.pr .str (.pr .bool (.sl .u8)))) x0), (1, .v (.sl (.pr .str (.pr .bool (.sl .u8)))) x1), (2, .v (.sl (.pr .str (.pr .bool (.sl .u8)))) x2)], []⟩
def blob_Merge_L0_G (N : Nat) (x0 : List (Str × Bool × List UInt8)) (x1 : List (Str × Bool × List UInt8)) (x2 : List (Str × Bool × List UInt8)) (c31 : Int) (cw1030 : List (List (Str × Bool × List UInt8))) (s32 : Int) (k : Ex → St → Option (List (Str × Bool × List UInt8) × List Str × Int)) : Option (List (Str × Bool × List UInt8) × List Str × Int) :=
  blob_Merge_L0 N c31 cw1030 (k (.exit 0) (blob_Merge_L0_tl0 x0 x1 x2 c31 cw1030)) N s32
abbrev blob_Merge_L0_F (N : Nat) : FV blob_Merge_L0_fs → HV blob_Merge_L0_bs → (Ex → St → Option (List (Str × Bool × List UInt8) × List Str × Int)) → Option (List (Str × Bool × List UInt8) × List Str × Int) := fun x y k => blob_Merge_L0_G N x.1 x.2.1 x.2.2.1 x.2.2.2.2.1 y.1 x.2.2.2.2.2.1 k
abbrev blob_Merge_L1_fs : List (Nat × Sl) := [(12, .mref 104300), (13, .mref 104500), (14, .mref 104700), (15, .box 1015 0), (16, .row 1016), (53, .row 105300), (54, .v (.int .i64)), (55, .v (.int .i64))]
abbrev blob_Merge_L1_bs : List (Nat × Sb) := [(1015, .cells [.mref 1048]), (1016, .row 34 (.pr .str (.pr .bool (.sl .u8))) true), (1048, .map .bool), (104300, .map (.pr .str (.pr .bool (.sl .u8)))), (104500, .map (.pr .str (.pr .bool (.sl .u8)))), (104700, .map (.pr .str (.pr .bool (.sl .u8)))), (105300, .row 9 .str false)]
def blob_Merge_L1_hd (c54 : Int) (t43 : List (Str × (Str × Bool × List UInt8))) (t45 : List (Str × (Str × Bool × List UInt8))) (t47 : List (Str × (Str × Bool × List UInt8))) (t53 : List Str) (s55 : Int) (w1016 : List (Str × Bool × List UInt8)) (m1048 : List (Str × Bool)) : St := ⟨117, [(12, .mref 104300), (13, .mref 104500), (14, .mref 104700), (15, .box 1015 0), (16, .row 1016), (53, .row 105300), (54, .v (.int .i64) c54), (55, .v (.int .i64) s55)], [(1015, .cells [.mref 1048]), (1016, .row 34 (.pr .str (.pr .bool (.sl .u8))) true w1016), (1048, .map .bool m1048), (104300, .map (.pr .str (.pr .bool (.sl .u8))) t43), (104500, .map (.pr .str (.pr .bool (.sl .u8))) t45), (104700, .map (.pr .str (.pr .bool (.sl .u8))) t47), (105300, .row 9 .str false t53)]⟩
def blob_Merge_L1_tl2 (_c54 : Int) (_t43 : List (Str × (Str × Bool × List UInt8))) (_t45 : List (Str × (Str × Bool × List UInt8))) (_t47 : List (Str × (Str × Bool × List UInt8))) (_t53 : List Str) (o1_w1016 : List (Str × Bool × List UInt8)) (o1_m1048 : List (Str × Bool)) : St := ⟨117, [(15, .box 1015 0), (16, .row 1016)], [(1015, .cells [.mref 1048]), (1016, .row 34 (.pr .str (.pr .bool (.sl .u8))) true o1_w1016), (1048, .map .bool o1_m1048)]⟩
def blob_Merge_L1_G (N : Nat) (c54 : Int) (t43 : List (Str × (Str × Bool × List UInt8))) (t45 : List (Str × (Str × Bool × List UInt8))) (t47 : List (Str × (Str × Bool × List UInt8))) (t53 : List Str) (s55 : Int) (w1016 : List (Str × Bool × List UInt8)) (m1048 : List (Str × Bool)) (k : Ex → St → Option (List (Str × Bool × List UInt8) × List Str × Int)) : Option (List (Str × Bool × List UInt8) × List Str × Int) :=
  blob_Merge_L1 N c54 t43 t45 t47 t53 (fun o1_w1016 o1_m1048 => k (.exit 2) (blob_Merge_L1_tl2 c54 t43 t45 t47 t53 o1_w1016 o1_m1048)) N s55 w1016 m1048
abbrev blob_Merge_L1_F (N : Nat) : FV blob_Merge_L1_fs → HV blob_Merge_L1_bs → (Ex → St → Option (List (Str × Bool × List UInt8) × List Str × Int)) → Option (List (Str × Bool × List UInt8) × List Str × Int) := fun x y k => blob_Merge_L1_G N x.2.2.2.2.2.2.1 y.2.2.2.1 y.2.2.2.2.1 y.2.2.2.2.2.1 y.2.2.2.2.2.2.1 x.2.2.2.2.2.2.2.1 y.2.1 y.2.2.1 k
abbrev blob_Merge_L2_fs : List (Nat × Sl) := [(15, .box 1015 0), (16, .row 1016), (23, .box 1023 0), (94, .row 1016), (95, .v (.int .i64)), (96, .v (.int .i64))]
abbrev blob_Merge_L2_bs : List (Nat × Sb) := [(1015, .cells [.mref 1048]), (1016, .row 34 (.pr .str (.pr .bool (.sl .u8))) true), (1023, .cells [.mref 1093]), (1048, .map .bool), (1093, .map .bool)]
def blob_Merge_L2_hd (c95 : Int) (o1_w1016 : List (Str × Bool × List UInt8)) (o1_m1048 : List (Str × Bool)) (s96 : Int) (m1093 : List (Str × Bool)) : St := ⟨117, [(15, .box 1015 0), (16, .row 1016), (23, .box 1023 0), (94, .row 1016), (95, .v (.int .i64) c95), (96, .v (.int .i64) s96)], [(1015, .cells [.mref 1048]), (1016, .row 34 (.pr .str (.pr .bool (.sl .u8))) true o1_w1016), (1023, .cells [.mref 1093]), (1048, .map .bool o1_m1048), (1093, .map .bool m1093)]⟩
def blob_Merge_L2_tl4 (_c95 : Int) (o1_w1016 : List (Str × Bool × List UInt8)) (o1_m1048 : List (Str × Bool)) (o2_m1093 : List (Str × Bool)) : St := ⟨117, [(15, .box 1015 0), (16, .row 1016), (23, .box 1023 0)], [(1015, .cells [.mref 1048]), (1016, .row 34 (.pr .str (.pr .bool (.sl .u8))) true o1_w1016), (1023, .cells [.mref 1093]), (1048, .map .bool o1_m1048), (1093, .map .bool o2_m1093)]⟩
def blob_Merge_L2_G (N : Nat) (c95 : Int) (o1_w1016 : List (Str × Bool × List UInt8)) (o1_m1048 : List (Str × Bool)) (s96 : Int) (m1093 : List (Str × Bool)) (k : Ex → St → Option (List (Str × Bool × List UInt8) × List Str × Int)) : Option (List (Str × Bool × List UInt8) × List Str × Int) :=
  blob_Merge_L2 N c95 o1_w1016 (fun o2_m1093 => k (.exit 4) (blob_Merge_L2_tl4 c95 o1_w1016 o1_m1048 o2_m1093)) N s96 m1093
abbrev blob_Merge_L2_F (N : Nat) : FV blob_Merge_L2_fs → HV blob_Merge_L2_bs → (Ex → St → Option (List (Str × Bool × List UInt8) × List Str × Int)) → Option (List (Str × Bool × List UInt8) × List Str × Int) := fun x y k => blob_Merge_L2_G N x.2.2.2.2.1 y.2.1 y.2.2.2.1 x.2.2.2.2.2.1 y.2.2.2.2.1 k
noncomputable def blob_Merge_LP (N : Nat) : Nat → Code → St → (Ex → St → Option (List (Str × Bool × List UInt8) × List Str × Int)) → Option (List (Str × Bool × List UInt8) × List Str × Int) := fun i c =>
  match i with
  | 0 => (LPc 117 blob_Merge_L0_fs blob_Merge_L0_bs (blob_Merge_L0_F N) (fun st k => iter (blob_Merge_h 0) (exec (blob_Merge_E N) N c 0) N st k))
  | 2 => (LPc 117 blob_Merge_L1_fs blob_Merge_L1_bs (blob_Merge_L1_F N) (fun st k => iter (blob_Merge_h 2) (exec (blob_Merge_E N) N c 2) N st k))
  | 4 => (LPc 117 blob_Merge_L2_fs blob_Merge_L2_bs (blob_Merge_L2_F N) (fun st k => iter (blob_Merge_h 4) (exec (blob_Merge_E N) N c 4) N st k))
  | i => fun st k => iter (blob_Merge_h i) (exec (blob_Merge_E N) N c i) N st k
theorem blob_Merge_L2_step (N : Nat) (c95 : Int) (o1_w1016 : List (Str × Bool × List UInt8)) (o1_m1048 : List (Str × Bool)) (KX : Nat → St → Option (List (Str × Bool × List UInt8) × List Str × Int)) (I : St → Option (List (Str × Bool × List UInt8) × List Str × Int)) (s96 : Int) (m1093 : List (Str × Bool)) :
    execL (blob_Merge_LP N) (blob_Merge_E N) (cAt (bodyOf Tryd.f31) [true, true, true, true, true, true, true, false, true, false, false]) 4 (blob_Merge_L2_hd c95 o1_w1016 o1_m1048 s96 m1093) (roundK (blob_Merge_h 4) I KX (resD (blob_Merge_E N) Tryd.f31 (blob_Merge_sg fun x _ => blob_Merge N x.1 x.2.1 x.2.2.1) blob_Merge_pk)) = blob_Merge_L2T N c95 o1_w1016 (fun o2_m1093 => KX 4 (blob_Merge_L2_tl4 c95 o1_w1016 o1_m1048 o2_m1093)) (fun s96 m1093 => I (blob_Merge_L2_hd c95 o1_w1016 o1_m1048 s96 m1093)) s96 m1093 := by kernel_rfl
theorem blob_Merge_L2_ok (N : Nat) : ∀ x y k, (∀ st, k .ret st = (resD (blob_Merge_E N) Tryd.f31 (blob_Merge_sg fun x _ => blob_Merge N x.1 x.2.1 x.2.2.1) blob_Merge_pk) st) → iter (blob_Merge_h 4) (exec (blob_Merge_E N) N (cAt (bodyOf Tryd.f31) [true, true, true, true, true, true, true, false, true, false, false]) 4) N ⟨117, unF blob_Merge_L2_fs x, unH blob_Merge_L2_bs y⟩ k = blob_Merge_L2_F N x y k := fun x y k hk =>
  iter_link (S := (Int) × (List (Str × Bool)) × Unit) (blob_Merge_h 4) _ (execL (blob_Merge_LP N) (blob_Merge_E N) (cAt (bodyOf Tryd.f31) [true, true, true, true, true, true, true, false, true, false, false]) 4) (resD (blob_Merge_E N) Tryd.f31 (blob_Merge_sg fun x _ => blob_Merge N x.1 x.2.1 x.2.2.1) blob_Merge_pk) (fun st k hk => execL_eq _ _ N _ (cAt (bodyOf Tryd.f31) [true, true, true, true, true, true, true, false, true, false, false]) 4 (show LoopsOk (blob_Merge_LP N) (blob_Merge_E N) N (resD (blob_Merge_E N) Tryd.f31 (blob_Merge_sg fun x _ => blob_Merge N x.1 x.2.1 x.2.2.1) blob_Merge_pk) [] from trivial) st k hk) (fun s => blob_Merge_L2_hd x.2.2.2.2.1 y.2.1 y.2.2.2.1 s.1 s.2.1) k hk
    (fun self s => blob_Merge_L2T N x.2.2.2.2.1 y.2.1 (fun o2_m1093 => k (.exit 4) (blob_Merge_L2_tl4 x.2.2.2.2.1 y.2.1 y.2.2.2.1 o2_m1093)) (fun s96 m1093 => self (s96, m1093, ())) s.1 s.2.1) (fun n s => blob_Merge_L2 N x.2.2.2.2.1 y.2.1 (fun o2_m1093 => k (.exit 4) (blob_Merge_L2_tl4 x.2.2.2.2.1 y.2.1 y.2.2.2.1 o2_m1093)) n s.1 s.2.1) (fun _ => rfl) (fun _ _ => rfl)
    (fun I s => blob_Merge_L2_step N x.2.2.2.2.1 y.2.1 y.2.2.2.1 (fun j => k (.exit j)) I s.1 s.2.1) N (x.2.2.2.2.2.1, y.2.2.2.2.1, ())
theorem blob_Merge_lp4 (N : Nat) : ∀ st k, (∀ st, k .ret st = (resD (blob_Merge_E N) Tryd.f31 (blob_Merge_sg fun x _ => blob_Merge N x.1 x.2.1 x.2.2.1) blob_Merge_pk) st) → blob_Merge_LP N 4 (cAt (bodyOf Tryd.f31) [true, true, true, true, true, true, true, false, true, false, false]) st k = iter (Env.hint (blob_Merge_E N) 4) (exec (blob_Merge_E N) N (cAt (bodyOf Tryd.f31) [true, true, true, true, true, true, true, false, true, false, false]) 4) N st k := fun st k hk => LPc_eq 117 blob_Merge_L2_fs blob_Merge_L2_bs _ _ (resD (blob_Merge_E N) Tryd.f31 (blob_Merge_sg fun x _ => blob_Merge N x.1 x.2.1 x.2.2.1) blob_Merge_pk) (blob_Merge_L2_ok N) _ st k hk (rfl)
theorem blob_Merge_L1_step (N : Nat) (c54 : Int) (t43 : List (Str × (Str × Bool × List UInt8))) (t45 : List (Str × (Str × Bool × List UInt8))) (t47 : List (Str × (Str × Bool × List UInt8))) (t53 : List Str) (KX : Nat → St → Option (List (Str × Bool × List UInt8) × List Str × Int)) (I : St → Option (List (Str × Bool × List UInt8) × List Str × Int)) (s55 : Int) (w1016 : List (Str × Bool × List UInt8)) (m1048 : List (Str × Bool)) :
    execL (blob_Merge_LP N) (blob_Merge_E N) (cAt (bodyOf Tryd.f31) [true, true, true, true, true, false, true, false, false]) 2 (blob_Merge_L1_hd c54 t43 t45 t47 t53 s55 w1016 m1048) (roundK (blob_Merge_h 2) I KX (resD (blob_Merge_E N) Tryd.f31 (blob_Merge_sg fun x _ => blob_Merge N x.1 x.2.1 x.2.2.1) blob_Merge_pk)) = blob_Merge_L1T N c54 t43 t45 t47 t53 (fun o1_w1016 o1_m1048 => KX 2 (blob_Merge_L1_tl2 c54 t43 t45 t47 t53 o1_w1016 o1_m1048)) (fun s55 w1016 m1048 => I (blob_Merge_L1_hd c54 t43 t45 t47 t53 s55 w1016 m1048)) s55 w1016 m1048 := by kernel_rfl
theorem blob_Merge_L1_ok (N : Nat) : ∀ x y k, (∀ st, k .ret st = (resD (blob_Merge_E N) Tryd.f31 (blob_Merge_sg fun x _ => blob_Merge N x.1 x.2.1 x.2.2.1) blob_Merge_pk) st) → iter (blob_Merge_h 2) (exec (blob_Merge_E N) N (cAt (bodyOf Tryd.f31) [true, true, true, true, true, false, true, false, false]) 2) N ⟨117, unF blob_Merge_L1_fs x, unH blob_Merge_L1_bs y⟩ k = blob_Merge_L1_F N x y k := fun x y k hk =>
  iter_link (S := (Int) × (List (Str × Bool × List UInt8)) × (List (Str × Bool)) × Unit) (blob_Merge_h 2) _ (execL (blob_Merge_LP N) (blob_Merge_E N) (cAt (bodyOf Tryd.f31) [true, true, true, true, true, false, true, false, false]) 2) (resD (blob_Merge_E N) Tryd.f31 (blob_Merge_sg fun x _ => blob_Merge N x.1 x.2.1 x.2.2.1) blob_Merge_pk) (fun st k hk => execL_eq _ _ N _ (cAt (bodyOf Tryd.f31) [true, true, true, true, true, false, true, false, false]) 2 (show LoopsOk (blob_Merge_LP N) (blob_Merge_E N) N (resD (blob_Merge_E N) Tryd.f31 (blob_Merge_sg fun x _ => blob_Merge N x.1 x.2.1 x.2.2.1) blob_Merge_pk) [] from trivial) st k hk) (fun s => blob_Merge_L1_hd x.2.2.2.2.2.2.1 y.2.2.2.1 y.2.2.2.2.1 y.2.2.2.2.2.1 y.2.2.2.2.2.2.1 s.1 s.2.1 s.2.2.1) k hk
    (fun self s => blob_Merge_L1T N x.2.2.2.2.2.2.1 y.2.2.2.1 y.2.2.2.2.1 y.2.2.2.2.2.1 y.2.2.2.2.2.2.1 (fun o1_w1016 o1_m1048 => k (.exit 2) (blob_Merge_L1_tl2 x.2.2.2.2.2.2.1 y.2.2.2.1 y.2.2.2.2.1 y.2.2.2.2.2.1 y.2.2.2.2.2.2.1 o1_w1016 o1_m1048)) (fun s55 w1016 m1048 => self (s55, w1016, m1048, ())) s.1 s.2.1 s.2.2.1) (fun n s => blob_Merge_L1 N x.2.2.2.2.2.2.1 y.2.2.2.1 y.2.2.2.2.1 y.2.2.2.2.2.1 y.2.2.2.2.2.2.1 (fun o1_w1016 o1_m1048 => k (.exit 2) (blob_Merge_L1_tl2 x.2.2.2.2.2.2.1 y.2.2.2.1 y.2.2.2.2.1 y.2.2.2.2.2.1 y.2.2.2.2.2.2.1 o1_w1016 o1_m1048)) n s.1 s.2.1 s.2.2.1) (fun _ => rfl) (fun _ _ => rfl)
    (fun I s => blob_Merge_L1_step N x.2.2.2.2.2.2.1 y.2.2.2.1 y.2.2.2.2.1 y.2.2.2.2.2.1 y.2.2.2.2.2.2.1 (fun j => k (.exit j)) I s.1 s.2.1 s.2.2.1) N (x.2.2.2.2.2.2.2.1, y.2.1, y.2.2.1, ())
theorem blob_Merge_lp2 (N : Nat) : ∀ st k, (∀ st, k .ret st = (resD (blob_Merge_E N) Tryd.f31 (blob_Merge_sg fun x _ => blob_Merge N x.1 x.2.1 x.2.2.1) blob_Merge_pk) st) → blob_Merge_LP N 2 (cAt (bodyOf Tryd.f31) [true, true, true, true, true, false, true, false, false]) st k = iter (Env.hint (blob_Merge_E N) 2) (exec (blob_Merge_E N) N (cAt (bodyOf Tryd.f31) [true, true, true, true, true, false, true, false, false]) 2) N st k := fun st k hk => LPc_eq 117 blob_Merge_L1_fs blob_Merge_L1_bs _ _ (resD (blob_Merge_E N) Tryd.f31 (blob_Merge_sg fun x _ => blob_Merge N x.1 x.2.1 x.2.2.1) blob_Merge_pk) (blob_Merge_L1_ok N) _ st k hk (rfl)
theorem blob_Merge_L0_step (N : Nat) (x0 : List (Str × Bool × List UInt8)) (x1 : List (Str × Bool × List UInt8)) (x2 : List (Str × Bool × List UInt8)) (c31 : Int) (cw1030 : List (List (Str × Bool × List UInt8))) (KX : Nat → St → Option (List (Str × Bool × List UInt8) × List Str × Int)) (I : St → Option (List (Str × Bool × List UInt8) × List Str × Int)) (s32 : Int) :
    execL (blob_Merge_LP N) (blob_Merge_E N) (cAt (bodyOf Tryd.f31) [true, false, true, false, false]) 0 (blob_Merge_L0_hd x0 x1 x2 c31 cw1030 s32) (roundK (blob_Merge_h 0) I KX (resD (blob_Merge_E N) Tryd.f31 (blob_Merge_sg fun x _ => blob_Merge N x.1 x.2.1 x.2.2.1) blob_Merge_pk)) = blob_Merge_L0T N c31 cw1030 (KX 0 (blob_Merge_L0_tl0 x0 x1 x2 c31 cw1030)) (fun s32 => I (blob_Merge_L0_hd x0 x1 x2 c31 cw1030 s32)) s32 := by kernel_rfl
theorem blob_Merge_L0_ok (N : Nat) : ∀ x y k, (∀ st, k .ret st = (resD (blob_Merge_E N) Tryd.f31 (blob_Merge_sg fun x _ => blob_Merge N x.1 x.2.1 x.2.2.1) blob_Merge_pk) st) → iter (blob_Merge_h 0) (exec (blob_Merge_E N) N (cAt (bodyOf Tryd.f31) [true, false, true, false, false]) 0) N ⟨117, unF blob_Merge_L0_fs x, unH blob_Merge_L0_bs y⟩ k = blob_Merge_L0_F N x y k := fun x y k hk =>
  iter_link (S := (Int) × Unit) (blob_Merge_h 0) _ (execL (blob_Merge_LP N) (blob_Merge_E N) (cAt (bodyOf Tryd.f31) [true, false, true, false, false]) 0) (resD (blob_Merge_E N) Tryd.f31 (blob_Merge_sg fun x _ => blob_Merge N x.1 x.2.1 x.2.2.1) blob_Merge_pk) (fun st k hk => execL_eq _ _ N _ (cAt (bodyOf Tryd.f31) [true, false, true, false, false]) 0 (show LoopsOk (blob_Merge_LP N) (blob_Merge_E N) N (resD (blob_Merge_E N) Tryd.f31 (blob_Merge_sg fun x _ => blob_Merge N x.1 x.2.1 x.2.2.1) blob_Merge_pk) [] from trivial) st k hk) (fun s => blob_Merge_L0_hd x.1 x.2.1 x.2.2.1 x.2.2.2.2.1 y.1 s.1) k hk
    (fun self s => blob_Merge_L0T N x.2.2.2.2.1 y.1 (k (.exit 0) (blob_Merge_L0_tl0 x.1 x.2.1 x.2.2.1 x.2.2.2.2.1 y.1)) (fun s32 => self (s32, ())) s.1) (fun n s => blob_Merge_L0 N x.2.2.2.2.1 y.1 (k (.exit 0) (blob_Merge_L0_tl0 x.1 x.2.1 x.2.2.1 x.2.2.2.2.1 y.1)) n s.1) (fun _ => rfl) (fun _ _ => rfl)
    (fun I s => blob_Merge_L0_step N x.1 x.2.1 x.2.2.1 x.2.2.2.2.1 y.1 (fun j => k (.exit j)) I s.1) N (x.2.2.2.2.2.1, ())
theorem blob_Merge_lp0 (N : Nat) : ∀ st k, (∀ st, k .ret st = (resD (blob_Merge_E N) Tryd.f31 (blob_Merge_sg fun x _ => blob_Merge N x.1 x.2.1 x.2.2.1) blob_Merge_pk) st) → blob_Merge_LP N 0 (cAt (bodyOf Tryd.f31) [true, false, true, false, false]) st k = iter (Env.hint (blob_Merge_E N) 0) (exec (blob_Merge_E N) N (cAt (bodyOf Tryd.f31) [true, false, true, false, false]) 0) N st k := fun st k hk => LPc_eq 117 blob_Merge_L0_fs blob_Merge_L0_bs _ _ (resD (blob_Merge_E N) Tryd.f31 (blob_Merge_sg fun x _ => blob_Merge N x.1 x.2.1 x.2.2.1) blob_Merge_pk) (blob_Merge_L0_ok N) _ st k hk (rfl)
theorem blob_Merge_core (N : Nat) (x : SV [.v (.sl (.pr .str (.pr .bool (.sl .u8)))), .v (.sl (.pr .str (.pr .bool (.sl .u8)))), .v (.sl (.pr .str (.pr .bool (.sl .u8))))]) (y : BV []) : runL (blob_Merge_E N) Tryd.f31 (blob_Merge_sg fun x _ => blob_Merge N x.1 x.2.1 x.2.2.1) blob_Merge_pk (blob_Merge_LP N) x y = blob_Merge N x.1 x.2.1 x.2.2.1 := by kernel_rfl
theorem blob_Merge_sound (N : Nat) : Sound Tryd.prog GW B0G 31 (blob_Merge_sg fun x _ => blob_Merge N x.1 x.2.1 x.2.2.1) :=
  runD_sound (mkE_ok blob_Merge_h (blob_Merge_fn N) _ _ (blob_Merge_fn_ok N)) Tryd.func31 rfl Tryd.call31 (blob_Merge_sg fun x _ => blob_Merge N x.1 x.2.1 x.2.2.1) blob_Merge_pk (fun _ _ => rfl) N (fun x y _ h => ((runL_eq (blob_Merge_E N) N Tryd.f31 (blob_Merge_sg fun x _ => blob_Merge N x.1 x.2.1 x.2.2.1) blob_Merge_pk (blob_Merge_LP N) (show LoopsOk (blob_Merge_LP N) (blob_Merge_E N) N (resD (blob_Merge_E N) Tryd.f31 (blob_Merge_sg fun x _ => blob_Merge N x.1 x.2.1 x.2.2.1) blob_Merge_pk) [(0, (cAt (bodyOf Tryd.f31) [true, false, true, false, false])), (2, (cAt (bodyOf Tryd.f31) [true, true, true, true, true, false, true, false, false])), (4, (cAt (bodyOf Tryd.f31) [true, true, true, true, true, true, true, false, true, false, false]))] from ⟨blob_Merge_lp0 N, blob_Merge_lp2 N, blob_Merge_lp4 N, trivial⟩) x y).trans (blob_Merge_core N x y)).trans h)
def law1_BlobMergesEven (N : Nat) (x0 : List (Str × Bool × List UInt8)) (x1 : List (Str × Bool × List UInt8)) (x2 : List (Str × Bool × List UInt8)) : Option Bool :=
  bnd (blob_Merge N x0 x1 x2) fun t16 =>
  br (t16.2.2 != (0 : Int))
    (br (t16.2.2 == (0 : Int))
      (bnd (law1_awake N) fun t35 =>
      some t35)
      (br ((t16.1.length : Int) == (0 : Int))
        (bnd (law1_awake N) fun t35_1 =>
        some t35_1)
        (some false)))
    (br (decide ((t16.2.1.length : Int) > (0 : Int)))
      (br (t16.2.2 == (0 : Int))
        (bnd (law1_awake N) fun t35_2 =>
        some t35_2)
        (br ((t16.1.length : Int) == (0 : Int))
          (bnd (law1_awake N) fun t35_3 =>
          some t35_3)
          (some false)))
      (bnd (blob_Merge N x0 x2 x1) fun t41 =>
      br (t41.2.2 == (0 : Int))
        (br ((t41.2.1.length : Int) == (0 : Int))
          (bnd (ref1_SameFiles N t16.1 t41.1) fun t55 =>
          br (t55)
            (bnd (law1_awake N) fun t58 =>
            some t58)
            (some false))
          (some false))
        (some false)))
abbrev law1_BlobMergesEven_sg (f : SV [.v (.sl (.pr .str (.pr .bool (.sl .u8)))), .v (.sl (.pr .str (.pr .bool (.sl .u8)))), .v (.sl (.pr .str (.pr .bool (.sl .u8))))] → BV [] → Option (Bool)) : AF := { ps := [.v (.sl (.pr .str (.pr .bool (.sl .u8)))), .v (.sl (.pr .str (.pr .bool (.sl .u8)))), .v (.sl (.pr .str (.pr .bool (.sl .u8))))], bs := [], rs := [.v .bool], cs := [], R := Bool, out := fun z => ((z, ()), ()), f := f }
abbrev law1_BlobMergesEven_pk : SV [.v .bool] → BV [] → Bool := fun x _ => x.1
def law1_BlobMergesEven_fn (N : Nat) : FuncId → Option Tmp → Option AF := fun f _ =>
  match f with
    | 18 => some (law1_awake_sg fun _ _ => law1_awake N)
    | 23 => some (ref1_SameFiles_sg fun x _ => ref1_SameFiles N x.1 x.2.1)
    | 31 => some (blob_Merge_sg fun x _ => blob_Merge N x.1 x.2.1 x.2.2.1)
    | _ => none
theorem law1_BlobMergesEven_fn_ok (N : Nat) : ∀ f q F, law1_BlobMergesEven_fn N f q = some F → Sound Tryd.prog GW B0G f F := by
  intro f q F h
  unfold law1_BlobMergesEven_fn at h
  split at h
  · cases h; exact law1_awake_sound N
  · cases h; exact ref1_SameFiles_sound N
  · cases h; exact blob_Merge_sound N
  · cases h
def law1_BlobMergesEven_h : Nat → Hint := fun i =>
  match i with
  | _ => ⟨[], [], [], [], [], []⟩
abbrev law1_BlobMergesEven_E (N : Nat) : Env := mkE law1_BlobMergesEven_h (law1_BlobMergesEven_fn N) (fun _ => false) (fun _ => false)
noncomputable def law1_BlobMergesEven_LP (N : Nat) : Nat → Code → St → (Ex → St → Option Bool) → Option Bool := fun i c =>
  match i with
  | i => fun st k => iter (law1_BlobMergesEven_h i) (exec (law1_BlobMergesEven_E N) N c i) N st k
theorem law1_BlobMergesEven_core (N : Nat) (x : SV [.v (.sl (.pr .str (.pr .bool (.sl .u8)))), .v (.sl (.pr .str (.pr .bool (.sl .u8)))), .v (.sl (.pr .str (.pr .bool (.sl .u8))))]) (y : BV []) : runL (law1_BlobMergesEven_E N) Tryd.f11 (law1_BlobMergesEven_sg fun x _ => law1_BlobMergesEven N x.1 x.2.1 x.2.2.1) law1_BlobMergesEven_pk (law1_BlobMergesEven_LP N) x y = law1_BlobMergesEven N x.1 x.2.1 x.2.2.1 := by kernel_rfl
theorem law1_BlobMergesEven_sound (N : Nat) : Sound Tryd.prog GW B0G 11 (law1_BlobMergesEven_sg fun x _ => law1_BlobMergesEven N x.1 x.2.1 x.2.2.1) :=
  runD_sound (mkE_ok law1_BlobMergesEven_h (law1_BlobMergesEven_fn N) _ _ (law1_BlobMergesEven_fn_ok N)) Tryd.func11 rfl Tryd.call11 (law1_BlobMergesEven_sg fun x _ => law1_BlobMergesEven N x.1 x.2.1 x.2.2.1) law1_BlobMergesEven_pk (fun _ _ => rfl) N (fun x y _ h => ((runL_eq (law1_BlobMergesEven_E N) N Tryd.f11 (law1_BlobMergesEven_sg fun x _ => law1_BlobMergesEven N x.1 x.2.1 x.2.2.1) law1_BlobMergesEven_pk (law1_BlobMergesEven_LP N) (show LoopsOk (law1_BlobMergesEven_LP N) (law1_BlobMergesEven_E N) N (resD (law1_BlobMergesEven_E N) Tryd.f11 (law1_BlobMergesEven_sg fun x _ => law1_BlobMergesEven N x.1 x.2.1 x.2.2.1) law1_BlobMergesEven_pk) [] from trivial) x y).trans (law1_BlobMergesEven_core N x y)).trans h)
end
end Go.Proofs.YthlkidohpiebiaaDoor


/- strings.Trim and strings.Join, out of the kit's contracts. -/
namespace Go.Proofs.YthlkidohpiebiaaDoor
set_option linter.unusedVariables false
set_option linter.unusedSimpArgs false
open Go Go.RowKit Go.Shelf
end Go.Proofs.YthlkidohpiebiaaDoor



/- Splitting, cutting and joining at one byte. No program in sight. -/
namespace Go.Proofs.YthlkidohpiebiaaDoor
set_option linter.unusedVariables false
set_option linter.unusedSimpArgs false
open Go Go.RowKit
def splitC (c : UInt8) : Str → List Str
  | [] => [[]]
  | b :: s => if b = c then [] :: splitC c s else match splitC c s with
    | x :: xs => (b :: x) :: xs
    | [] => [[b]]
theorem splitC_ne (c : UInt8) (s : Str) : splitC c s ≠ [] := by
  cases s with
  | nil => simp [splitC]
  | cons b s => unfold splitC; split; simp; split <;> simp
theorem indexByte_cons (b c : UInt8) (s : Str) : Lib.indexByte (b :: s) c = if b = c then 0 else if Lib.indexByte s c = -1 then -1 else Lib.indexByte s c + 1 := by
  have h := Lib.indexByte_ge s c
  rw [Lib.indexByte]
  by_cases hb : b = c
  · simp [hb]
  · simp only [beq_iff_eq, hb, if_false]
theorem splitK_one (c : UInt8) : ∀ (s : Str), Lib.splitK [c] 0 (Lib.count s [c]) s = splitC c s
  | [] => by simp [Lib.count_one, Lib.splitK, splitC]
  | b :: s => by
    have ih := splitK_one c s
    by_cases hb : b = c
    · subst hb
      rw [Lib.count_cons_eq, Nat.add_comm, Lib.splitK, Lib.index_one, indexByte_cons]
      simp only [if_true]
      show (_ :: Lib.splitK [b] 0 (Lib.count s [b]) s) = _
      rw [ih]
      simp [splitC]
    · rw [Lib.count_cons_ne _ _ _ hb]
      unfold splitC
      rw [if_neg hb, ← ih]
      cases hk : Lib.count s [c] with
      | zero => simp [Lib.splitK]
      | succ k =>
        rw [Lib.splitK, Lib.splitK, Lib.index_one, Lib.index_one, indexByte_cons, if_neg hb]
        have h0 := Lib.indexByte_ge s c
        by_cases h1 : Lib.indexByte s c = -1
        · simp [h1]
        · have h2 : ∃ n : Nat, Lib.indexByte s c = n := ⟨(Lib.indexByte s c).toNat, by omega⟩
          obtain ⟨n, hn⟩ := h2
          have e : ((n : Int) + 1).toNat = n + 1 := by omega
          have e1 : ¬ ((n : Int) = -1) := by omega
          have e2 : ¬ ((n : Int) + 1 = -1) := by omega
          simp [hn, e, e1, e2, Nat.add_right_comm]
theorem splitS_one (s : Str) (c : UInt8) : splitS s [c] = splitC c s := by
  unfold splitS
  have := Lib.splitB_data ⟨[c].toArray⟩ 0 (Lib.countB ⟨s.toArray⟩ ⟨[c].toArray⟩) ⟨s.toArray⟩
  rw [this]
  exact splitK_one c s
theorem splitC_len (c : UInt8) : ∀ s : Str, (splitC c s).length = s.count c + 1
  | [] => rfl
  | b :: s => by
    have ih := splitC_len c s
    unfold splitC
    by_cases hb : b = c
    · rw [if_pos hb]; simp [hb, ih]
    · rw [if_neg hb, List.count_cons_of_ne hb, ← ih]
      have := splitC_ne c s
      cases h : splitC c s with
      | nil => exact absurd h this
      | cons => rfl
theorem strings_Split_one (s : Str) (c : UInt8) (h : s.length < 4294967281) : strings_Split s [c] = some (splitC c s) := by
  have hc : s.count c ≤ s.length := List.count_le_length
  unfold strings_Split
  rw [splitS_one, splitC_len]
  refine if_pos ⟨h, by simp, ?_, by omega⟩
  show _ = Lib.count s [c] + 1
  rw [Lib.count_one]
theorem splitC_mem (c : UInt8) (s : Str) : ∀ x ∈ splitC c s, c ∉ x ∧ x.length ≤ s.length := by
  induction s with
  | nil => intro x hx; simp [splitC] at hx; subst hx; simp
  | cons b s ih =>
    intro x hx
    unfold splitC at hx
    by_cases hb : b = c
    · rw [if_pos hb] at hx
      rcases List.mem_cons.1 hx with rfl | hx
      · simp
      · have := ih x hx; exact ⟨this.1, by simp; omega⟩
    · rw [if_neg hb] at hx
      cases h : splitC c s with
      | nil => exact absurd h (splitC_ne c s)
      | cons y ys =>
        rw [h] at hx ih
        rcases List.mem_cons.1 hx with rfl | hx
        · have := ih y (by simp)
          refine ⟨fun hm => ?_, by simp; omega⟩
          rcases List.mem_cons.1 hm with e | hm
          · exact hb e.symm
          · exact this.1 hm
        · have := ih x (List.mem_cons_of_mem _ hx); exact ⟨this.1, by simp; omega⟩
end Go.Proofs.YthlkidohpiebiaaDoor


/- The arguments of a law, as the statement's reading hands them over, as data of the machine: any type. -/
namespace Go.Proofs.YthlkidohpiebiaaDoor
set_option linter.unusedVariables false
set_option linter.unusedSimpArgs false
open Go Go.RowKit Go.ChangeShapes Go.WideShapes
/-- Nothing is longer than Go lets it be. -/
def FitG (RR : (i : RC) → i.den → Prop) : (t : Ty) → t.den → Prop
  | .u8, _ => True
  | .int k, x => (Lit.int k x).wf = true
  | .bool, _ => True
  | .str, x => x.length ≤ maxLen
  | .sl t, xs => xs.length ≤ maxLen ∧ ∀ x ∈ xs, FitG RR t x
  | .pr a b, x => FitG RR a x.1 ∧ FitG RR b x.2
  | .un, _ => True
  | .mp _, _ => True
  | .ptr _, _ => True
  | .np _, _ => True
  | .clo _ _, _ => True
  | .rc i, x => RR i x
def FitR (i : RC) (x : i.den) : Prop := ∀ RR : (i : RC) → i.den → Prop, (∀ j y, FitG RR j.body (j.un y) → RR j y) → RR i x
def Fit : (t : Ty) → t.den → Prop := FitG FitR
theorem FitG.mono {RR RR' : (i : RC) → i.den → Prop} (hR : ∀ i x, RR i x → RR' i x) : ∀ (t : Ty) (x : t.den), FitG RR t x → FitG RR' t x
  | .u8, _, h => h
  | .int _, _, h => h
  | .bool, _, h => h
  | .str, _, h => h
  | .sl t, _, h => ⟨h.1, fun x hx => FitG.mono hR t x (h.2 x hx)⟩
  | .pr a b, _, h => ⟨FitG.mono hR a _ h.1, FitG.mono hR b _ h.2⟩
  | .un, _, h => h
  | .mp _, _, h => h
  | .ptr _, _, h => h
  | .np _, _, h => h
  | .clo _ _, _, h => h
  | .rc i, x, h => hR i x h
theorem FitR.intro {i : RC} {x : i.den} (h : Fit i.body (i.un x)) : FitR i x :=
  fun RR hc => hc i x (FitG.mono (fun j y hy => hy RR hc) _ _ h)
theorem FitR.elim {i : RC} {x : i.den} (h : FitR i x) : Fit i.body (i.un x) :=
  h (fun j y => Fit j.body (j.un y)) fun _ _ hy => FitG.mono (fun _ _ h => FitR.intro h) _ _ hy
mutual
/-- A type of the program is this one, down to its parts. -/
inductive Deep (P : Program) (R : RC → Option TypeId) : Ty → TypeId → Prop where
  | u8 {T : TypeId} : P.underlying T = some (.int .u8) → Deep P R .u8 T
  | int {T : TypeId} {k : IntKind} : P.underlying T = some (.int k) → Deep P R (.int k) T
  | bool {T : TypeId} : P.underlying T = some .bool → Deep P R .bool T
  | str {T : TypeId} : P.underlying T = some .string → Deep P R .str T
  | sl {T e : TypeId} {t : Ty} : P.underlying T = some (.slice e) → P.cellsOf e = t.sz → Deep P R t e → Deep P R (.sl t) T
  | st {T : TypeId} {t : Ty} {fs : Array Field} : P.underlying T = some (.struct fs) → P.cellsOf T = t.sz → t.isAgg = true → DeepF P R t fs.toList 0 → Deep P R t T
  | rc {T : TypeId} {i : RC} : R i = some T → Deep P R (.rc i) T
/-- The same, of fields from a place on. -/
inductive DeepF (P : Program) (R : RC → Option TypeId) : Ty → List Field → Nat → Prop where
  | nil {o : Nat} : DeepF P R .un [] o
  | one {t : Ty} {f : Field} {o : Nat} : f.offset = o → P.cellsOf f.type = t.sz → Deep P R t f.type → DeepF P R t [f] o
  | single {t : Ty} {f : Field} {o : Nat} : f.offset = o → P.cellsOf f.type = t.sz → Deep P R t f.type → DeepF P R (.pr t .un) [f] o
  | cons {a b : Ty} {f : Field} {fs : List Field} {o : Nat} : f.offset = o → P.cellsOf f.type = a.sz → Deep P R a f.type → DeepF P R b fs (o + a.sz) → DeepF P R (.pr a b) (f :: fs) o
end
def RcOk (P : Program) (R : RC → Option TypeId) : Prop := ∀ i T, R i = some T → ∃ fs, P.underlying T = some (.struct fs) ∧ P.cellsOf T = i.sz ∧ DeepF P R i.body fs.toList 0
abbrev M00 : Nat → Nat → Prop := fun _ _ => False
section
variable {H : Type} {enc : TypeId × Value → H} {P : Program} {w : World} {spare : Nat → Bool} {held : Bool} {R : RC → Option TypeId}
theorem choose_list {α : Type} {p : Nat → α → Prop} : ∀ n, (∀ i, i < n → ∃ x, p i x) → ∃ l : List α, l.length = n ∧ ∀ i (h : i < l.length), p i l[i]
  | 0, _ => ⟨[], rfl, fun i h => absurd h (Nat.not_lt_zero _)⟩
  | n + 1, h => by
    obtain ⟨l, hl, hp⟩ := choose_list n fun i hi => h i (Nat.lt_succ_of_lt hi)
    obtain ⟨x, hx⟩ := h n (Nat.lt_succ_self _)
    refine ⟨l ++ [x], by simp [hl], fun i hi => ?_⟩
    rcases Nat.lt_or_ge i l.length with h' | h'
    · rw [List.getElem_append_left h']; exact hp i h'
    · have : i = l.length := by simp at hi; omega
      subst this
      simp [hl, hx]
theorem pl_of_cells {a : Addr} {n : Nat} {cs : List Value} (h : w.cells? 0 a n = some cs) : Pl M00 w a cs := by
  intro j u hu
  refine ⟨?_, id⟩
  unfold World.cells? at h
  rw [if_pos (Nat.zero_le _)] at h
  have hl := mapM_some_length h
  have hj : j < n := by
    rcases Nat.lt_or_ge j cs.length with h' | h'
    · rw [hl, List.length_range] at h'; exact h'
    · rw [List.getElem?_eq_none h'] at hu; cases hu
  have := mapM_some_get h j j (by rw [List.getElem?_range hj])
  rw [this]; exact hu
/-- What fields read as. -/
theorem fields_rep {fuel : Nat} {cs : List Value}
    (ih : ∀ (t : Ty) (T : TypeId) (cs : List Value) (x : DataW H × List MemPlace), Deep P R t T → DataW.trod enc P w 0 spare held fuel T cs = some x → ∃ d : t.den, RepC M00 w t d cs ∧ Fit t d) :
    ∀ (fs : List Field) (t : Ty) (o : Nat) (xs : List (DataW H × List MemPlace)), DeepF P R t fs o →
      (fs.mapM fun f => DataW.trod enc P w 0 spare held fuel f.type ((cs.drop f.offset).take (P.cellsOf f.type))) = some xs → ∃ d : t.den, RepC M00 w t d ((cs.drop o).take t.sz) ∧ Fit t d := by
  intro fs
  induction fs with
  | nil =>
    intro t o xs hd _
    cases hd
    exact ⟨(), List.take_zero, trivial⟩
  | cons f fs hfs =>
    intro t o xs hd hm
    have hhead : ∃ y, DataW.trod enc P w 0 spare held fuel f.type ((cs.drop f.offset).take (P.cellsOf f.type)) = some y := by
      have := mapM_some_get hm 0 f rfl
      cases hx : xs[0]? with
      | none =>
        have hl := mapM_some_length hm
        rw [List.getElem?_eq_none_iff] at hx
        simp at hl; omega
      | some y => exact ⟨y, this.trans hx⟩
    have htail : ∃ ys, (fs.mapM fun f => DataW.trod enc P w 0 spare held fuel f.type ((cs.drop f.offset).take (P.cellsOf f.type))) = some ys := by
      rw [List.mapM_cons] at hm
      obtain ⟨y, hy⟩ := hhead
      rw [hy] at hm
      cases hys : (fs.mapM fun f => DataW.trod enc P w 0 spare held fuel f.type ((cs.drop f.offset).take (P.cellsOf f.type))) with
      | none => rw [hys] at hm; cases hm
      | some ys => exact ⟨ys, rfl⟩
    obtain ⟨y, hy⟩ := hhead
    obtain ⟨ys, hys⟩ := htail
    cases hd with
    | one ho hc h1 =>
      rw [ho, hc] at hy
      exact ih _ _ _ _ h1 hy
    | single ho hc h1 =>
      rw [ho, hc] at hy
      obtain ⟨d, hd1, hd2⟩ := ih _ _ _ _ h1 hy
      exact ⟨(d, ()), ⟨_, [], (List.append_nil _).symm, hd1, rfl⟩, hd2, trivial⟩
    | @cons a b _ _ _ ho hc h1 h2 =>
      rw [ho, hc] at hy
      obtain ⟨d, hd1, hd2⟩ := ih _ _ _ _ h1 hy
      obtain ⟨e, he1, he2⟩ := hfs _ _ _ h2 hys
      refine ⟨(d, e), ⟨_, _, ?_, hd1, he1⟩, hd2, he2⟩
      show (cs.drop o).take (a.sz + b.sz) = _
      rw [List.take_add, List.drop_drop]
theorem trod_rep (hR : RcOk P R) : ∀ (fuel : Nat) (t : Ty) (T : TypeId) (cs : List Value) (x : DataW H × List MemPlace), Deep P R t T → DataW.trod enc P w 0 spare held fuel T cs = some x →
    ∃ d : t.den, RepC M00 w t d cs ∧ Fit t d := by
  intro fuel
  induction fuel with
  | zero => intro t T cs x _ h; cases h
  | succ fuel ih =>
    intro t T cs x hd h
    have hstruct : ∀ (t : Ty) (fs : Array Field), P.underlying T = some (.struct fs) → P.cellsOf T = t.sz → DeepF P R t fs.toList 0 → ∃ d : t.den, RepC M00 w t d cs ∧ Fit t d := fun t fs hu hc hf => by
      unfold DataW.trod at h
      simp only [hu] at h
      split at h
      · rename_i hl
        cases hm : (fs.toList.mapM fun f => DataW.trod enc P w 0 spare held fuel f.type ((cs.drop f.offset).take (P.cellsOf f.type))) with
        | none => rw [hm] at h; cases h
        | some xs =>
          obtain ⟨d, h1, h2⟩ := fields_rep ih fs.toList t 0 xs hf hm
          rw [List.drop_zero, List.take_of_length_le (by omega)] at h1
          exact ⟨d, h1, h2⟩
      · cases h
    cases hd with
    | u8 hu =>
      have hx : ∃ n, cs = [.int .u8 n] ∧ (Lit.int .u8 n).wf = true := by
        unfold DataW.trod at h
        split at h <;> simp_all
      obtain ⟨n, rfl, hn⟩ := hx
      refine ⟨UInt8.ofNat n.toNat, ?_, trivial⟩
      show [Value.int .u8 n] = [Value.int .u8 (UInt8.ofNat n.toNat).toNat]
      simp [Lit.wf, IntKind.min, IntKind.max, IntKind.signed, IntKind.bits] at hn
      have : ((UInt8.ofNat n.toNat).toNat : Int) = n := by simp; omega
      rw [this]
    | @int _ k hu =>
      have hx : ∃ n, cs = [.int k n] ∧ (Lit.int k n).wf = true := by
        unfold DataW.trod at h
        split at h <;> simp_all
      obtain ⟨n, rfl, hn⟩ := hx
      exact ⟨n, rfl, hn⟩
    | bool hu =>
      have hx : ∃ b, cs = [.bool b] := by
        unfold DataW.trod at h
        split at h <;> simp_all
      obtain ⟨b, rfl⟩ := hx
      exact ⟨b, rfl, trivial⟩
    | str hu =>
      have hx : ∃ s : ByteArray, cs = [.string s] ∧ s.size ≤ maxLen := by
        unfold DataW.trod at h
        split at h <;> simp_all
      obtain ⟨s, rfl, hn⟩ := hx
      refine ⟨s.data.toList, ?_, ?_⟩
      · show [Value.string s] = [Value.string ⟨s.data.toList.toArray⟩]
        simp
      · show s.data.toList.length ≤ maxLen
        simpa using hn
    | @sl _ e t hu hc he =>
      have hx : cs = [.slice none 0 0] ∨ ∃ a len cap, cs = [.slice (some a) len cap] ∧ len ≤ cap ∧ cap ≤ maxLen ∧
          ∀ i, i < len → ∃ y, (w.cells? 0 (a.add (i * P.cellsOf e)) (P.cellsOf e)).bind (DataW.trod enc P w 0 spare held fuel e) = some y := by
        unfold DataW.trod at h
        split at h
        all_goals try (simp_all; done)
        · rename_i hu2
          rw [hu] at hu2
          cases hu2
          simp only at h
          split at h
          · rename_i hb
            right
            refine ⟨_, _, _, rfl, hb.2.1, hb.2.2, fun i hi => ?_⟩
            cases hm : ((List.range _).mapM fun i => (w.cells? 0 (Addr.add _ (i * P.cellsOf e)) (P.cellsOf e)).bind (DataW.trod enc P w 0 spare held fuel e)) with
            | none => rw [hm] at h; cases h
            | some ys =>
              have h1 := mapM_some_get hm i i (by rw [List.getElem?_range hi])
              have hl := mapM_some_length hm
              rw [List.length_range] at hl
              exact ⟨ys[i]'(by omega), h1.trans (List.getElem?_eq_getElem (by omega))⟩
          · cases h
      rcases hx with rfl | ⟨a, len, cap, rfl, h1, h2, h3⟩
      · exact ⟨[], ⟨none, 0, rfl, Nat.le_refl _, Nat.zero_le _, fun i h => absurd h (Nat.not_lt_zero _)⟩, Nat.zero_le _, fun x h => by cases h⟩
      · have hall : ∀ i, i < len → ∃ d : t.den, (∃ es, RepC M00 w t d es ∧ Pl M00 w (a.add (i * t.sz)) es) ∧ Fit t d := fun i hi => by
          obtain ⟨y, hy⟩ := h3 i hi
          rw [hc] at hy
          cases hcs : w.cells? 0 (a.add (i * t.sz)) t.sz with
          | none => rw [hcs] at hy; cases hy
          | some es =>
            rw [hcs] at hy
            obtain ⟨d, hd1, hd2⟩ := ih _ _ _ _ he hy
            exact ⟨d, ⟨es, hd1, pl_of_cells hcs⟩, hd2⟩
        obtain ⟨l, hl, hp⟩ := choose_list len hall
        refine ⟨l, ⟨some a, cap, ?_, by omega, h2, fun i hi => ?_⟩, ?_, fun x hx => ?_⟩
        · rw [hl]
        · obtain ⟨⟨es, e1, e2⟩, _⟩ := hp i hi
          exact ⟨a, es, rfl, e1, e2⟩
        · show l.length ≤ maxLen; omega
        · obtain ⟨i, hi, rfl⟩ := List.getElem_of_mem hx
          exact (hp i hi).2
    | st hu hc ha hf => exact hstruct t _ hu hc hf
    | rc hr =>
      obtain ⟨fs, hu, hc, hf⟩ := hR _ _ hr
      rename_i i
      obtain ⟨d, h1, h2⟩ := hstruct i.body fs hu (by rw [hc, RC.sz_body]) hf
      refine ⟨i.mk d, RepC.rc.2 (by rw [RC.un_mk]; exact h1), FitR.intro (by rw [RC.un_mk]; exact h2)⟩
/-- An argument. -/
theorem arg_open (hR : RcOk P R) {r : Reach} {base : Nat} {t : Ty} {T : TypeId} {v : Value} {d : DataW H} {p : List MemPlace} (hd : Deep P R t T) (hv : Value.okWide P w r base T v) (h : DataW.Trod enc P w 0 spare held T v d p) :
    ∃ x : t.den, RepV M00 w t x v ∧ Fit t x := by
  obtain ⟨fuel, hf⟩ := h
  obtain ⟨x, h1, h2⟩ := trod_rep hR fuel t T _ _ hd hf
  refine ⟨x, ⟨_, h1, ?_⟩, h2⟩
  have hagg : ∀ fs, P.underlying T = some (.struct fs) → t.isAgg = true → v = mkV t v.cells.toList := fun fs hu ha => by
    obtain ⟨cs, rfl, _⟩ := okWide_struct hu hv
    rw [mkV_agg ha]
    simp [Value.cells]
  have hone : ∀ c : Value, v = c → c.cells = #[c] → t.isAgg = false → v = mkV t v.cells.toList := fun c e hc ha => by
    subst e
    rw [hc, mkV_plain ha]
  cases hd with
  | u8 hu => obtain ⟨n, rfl⟩ := okWide_int hu hv; exact hone _ rfl rfl rfl
  | int hu => obtain ⟨n, rfl⟩ := okWide_int hu hv; exact hone _ rfl rfl rfl
  | bool hu => obtain ⟨n, rfl⟩ := okWide_bool hu hv; exact hone _ rfl rfl rfl
  | str hu => obtain ⟨n, rfl⟩ := okWide_string hu hv; exact hone _ rfl rfl rfl
  | sl hu _ _ => obtain ⟨a, l, c, rfl⟩ := okWide_slice hu hv; exact hone _ rfl rfl rfl
  | st hu _ ha _ => exact hagg _ hu ha
  | rc hr => obtain ⟨fs, hu, _⟩ := hR _ _ hr; exact hagg _ hu rfl
end
/-- A law is called. -/
theorem law_run {P : Program} {f : FuncId} {ps : List Sl} {F : SV ps → BV [] → Option Bool} {out : Bool → SV [.v .bool] × BV []} (hout : ∀ z, (out z).1 = (z, ())) (hs : Sound P GW B0G f ⟨ps, [], [.v .bool], [], Bool, out, F⟩)
    {W : World} {vs : List Value} {x : SV ps} (hg : GW W) (ha : All2 (RepD0 M00 W g0) (lays id ps x) vs) (hf : F x () = some true) : Calls P f vs.toArray W fun e W' => e = .returned (.bool true) ∧ Ext W W' := by
  refine (hs.2 M00 W g0 vs x () true hg (GW_size hg) { args := ha, res := fun r blk h => (by cases h), dom := fun r gx h => (by cases h), inj := fun _ _ _ _ _ h => (by cases h), low := fun _ _ _ h => (by cases h), chg := fun _ _ _ _ h => (by cases h), mlt := fun b o h => h.elim, row := fun _ _ _ h => (by cases h) } hf).mono fun e W' hp => ?_
  obtain ⟨vs', g', he, hE, _, hF, _⟩ := hp
  refine ⟨?_, hE.ext fun b hb => ?_⟩
  · have := hF.args
    rw [hout] at this
    match vs', this with
    | [v], ⟨h1, _⟩ =>
      have h2 := RepV.plain (t := .bool) rfl h1
      have h3 : [v] = [.bool true] := h2
      injection h3 with h3
      rw [he, h3]
      rfl
  · obtain ⟨r, x, h, _⟩ := hb
    cases h
end Go.Proofs.YthlkidohpiebiaaDoor

