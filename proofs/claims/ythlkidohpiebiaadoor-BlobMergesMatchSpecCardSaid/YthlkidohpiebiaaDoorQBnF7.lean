/- What functions of the program compute, as plain functions (printed). -/
import Derived.Test.YthlkidohpiebiaaDoorQBnF4
import Derived.Test.YthlkidohpiebiaaDoorQBmMk
import Derived.Test.YthlkidohpiebiaaDoorQSlc
import Derived.Shelf.SlGeneric
import Derived.Shelf.SlSortCmp.WholeK
import Derived.Shelf.SlSortCmp.NoneTotal
import Derived.Ground.SlsfProg
import Derived.Test.YthlkidohpiebiaaDoorProg
import Derived.Test.YthlkidohpiebiaaDoorQBnF2
namespace Go.Proofs.YthlkidohpiebiaaDoor
open Go Go.RowKit
set_option maxRecDepth 100000
set_option linter.unusedVariables false
noncomputable section
def bytes_Equal (_N : Nat) (x0 : List UInt8) (x1 : List UInt8) : Option Bool :=
  some (x0 == x1)
abbrev bytes_Equal_sg (f : SV [.v (.sl .u8), .v (.sl .u8)] → BV [] → Option (Bool)) : AF := { ps := [.v (.sl .u8), .v (.sl .u8)], bs := [], rs := [.v .bool], cs := [], R := Bool, out := fun z => ((z, ()), ()), f := f }
abbrev bytes_Equal_pk : SV [.v .bool] → BV [] → Bool := fun x _ => x.1
def bytes_Equal_fn (_N : Nat) : FuncId → Option Tmp → Option AF := fun f _ =>
  match f with
    | _ => none
theorem bytes_Equal_fn_ok (N : Nat) : ∀ f q F, bytes_Equal_fn N f q = some F → Sound Tryd.prog GW B0G f F := by
  intro f q F h
  unfold bytes_Equal_fn at h
  split at h
  · cases h
def bytes_Equal_h : Nat → Hint := fun i =>
  match i with
  | _ => ⟨[], [], [], [], [], []⟩
abbrev bytes_Equal_E (N : Nat) : Env := mkE bytes_Equal_h (bytes_Equal_fn N) (fun _ => false) (fun _ => false)
noncomputable def bytes_Equal_LP (N : Nat) : Nat → Code → St → (Ex → St → Option Bool) → Option Bool := fun i c =>
  match i with
  | i => fun st k => iter (bytes_Equal_h i) (exec (bytes_Equal_E N) N c i) N st k
theorem bytes_Equal_core (N : Nat) (x : SV [.v (.sl .u8), .v (.sl .u8)]) (y : BV []) : runL (bytes_Equal_E N) Tryd.f57 (bytes_Equal_sg fun x _ => bytes_Equal N x.1 x.2.1) bytes_Equal_pk (bytes_Equal_LP N) x y = bytes_Equal N x.1 x.2.1 := by kernel_rfl
theorem bytes_Equal_sound (N : Nat) : Sound Tryd.prog GW B0G 57 (bytes_Equal_sg fun x _ => bytes_Equal N x.1 x.2.1) :=
  runD_sound (mkE_ok bytes_Equal_h (bytes_Equal_fn N) _ _ (bytes_Equal_fn_ok N)) Tryd.func57 rfl Tryd.call57 (bytes_Equal_sg fun x _ => bytes_Equal N x.1 x.2.1) bytes_Equal_pk (fun _ _ => rfl) N (fun x y _ h => ((runL_eq (bytes_Equal_E N) N Tryd.f57 (bytes_Equal_sg fun x _ => bytes_Equal N x.1 x.2.1) bytes_Equal_pk (bytes_Equal_LP N) (show LoopsOk (bytes_Equal_LP N) (bytes_Equal_E N) N (resD (bytes_Equal_E N) Tryd.f57 (bytes_Equal_sg fun x _ => bytes_Equal N x.1 x.2.1) bytes_Equal_pk) [] from trivial) x y).trans (bytes_Equal_core N x y)).trans h)
def ref1_SameFile (N : Nat) (x0 : Str × Bool × List UInt8) (x1 : Str × Bool × List UInt8) : Option Bool :=
  br (x0.1 == x1.1)
    (br (x0.2.1 == x1.2.1)
      (bnd (bytes_Equal N x0.2.2 x1.2.2) fun t22 =>
      some t22)
      (some false))
    (some false)
abbrev ref1_SameFile_sg (f : SV [.v (.pr .str (.pr .bool (.sl .u8))), .v (.pr .str (.pr .bool (.sl .u8)))] → BV [] → Option (Bool)) : AF := { ps := [.v (.pr .str (.pr .bool (.sl .u8))), .v (.pr .str (.pr .bool (.sl .u8)))], bs := [], rs := [.v .bool], cs := [], R := Bool, out := fun z => ((z, ()), ()), f := f }
abbrev ref1_SameFile_pk : SV [.v .bool] → BV [] → Bool := fun x _ => x.1
def ref1_SameFile_fn (N : Nat) : FuncId → Option Tmp → Option AF := fun f _ =>
  match f with
    | 57 => some (bytes_Equal_sg fun x _ => bytes_Equal N x.1 x.2.1)
    | _ => none
theorem ref1_SameFile_fn_ok (N : Nat) : ∀ f q F, ref1_SameFile_fn N f q = some F → Sound Tryd.prog GW B0G f F := by
  intro f q F h
  unfold ref1_SameFile_fn at h
  split at h
  · cases h; exact bytes_Equal_sound N
  · cases h
def ref1_SameFile_h : Nat → Hint := fun i =>
  match i with
  | _ => ⟨[], [], [], [], [], []⟩
abbrev ref1_SameFile_E (N : Nat) : Env := mkE ref1_SameFile_h (ref1_SameFile_fn N) (fun _ => false) (fun _ => false)
noncomputable def ref1_SameFile_LP (N : Nat) : Nat → Code → St → (Ex → St → Option Bool) → Option Bool := fun i c =>
  match i with
  | i => fun st k => iter (ref1_SameFile_h i) (exec (ref1_SameFile_E N) N c i) N st k
theorem ref1_SameFile_core (N : Nat) (x : SV [.v (.pr .str (.pr .bool (.sl .u8))), .v (.pr .str (.pr .bool (.sl .u8)))]) (y : BV []) : runL (ref1_SameFile_E N) Tryd.f54 (ref1_SameFile_sg fun x _ => ref1_SameFile N x.1 x.2.1) ref1_SameFile_pk (ref1_SameFile_LP N) x y = ref1_SameFile N x.1 x.2.1 := by kernel_rfl
theorem ref1_SameFile_sound (N : Nat) : Sound Tryd.prog GW B0G 54 (ref1_SameFile_sg fun x _ => ref1_SameFile N x.1 x.2.1) :=
  runD_sound (mkE_ok ref1_SameFile_h (ref1_SameFile_fn N) _ _ (ref1_SameFile_fn_ok N)) Tryd.func54 rfl Tryd.call54 (ref1_SameFile_sg fun x _ => ref1_SameFile N x.1 x.2.1) ref1_SameFile_pk (fun _ _ => rfl) N (fun x y _ h => ((runL_eq (ref1_SameFile_E N) N Tryd.f54 (ref1_SameFile_sg fun x _ => ref1_SameFile N x.1 x.2.1) ref1_SameFile_pk (ref1_SameFile_LP N) (show LoopsOk (ref1_SameFile_LP N) (ref1_SameFile_E N) N (resD (ref1_SameFile_E N) Tryd.f54 (ref1_SameFile_sg fun x _ => ref1_SameFile N x.1 x.2.1) ref1_SameFile_pk) [] from trivial) x y).trans (ref1_SameFile_core N x y)).trans h)
def ref1_SameFiles_L0T (N : Nat) (x0 : List (Str × Bool × List UInt8)) (x1 : List (Str × Bool × List UInt8)) (k0 : Option Bool) (self : Int → Option Bool) (s5 : Int) : Option Bool :=
  br (decide (s5 < (x0.length : Int)))
    (bnd (geti x0 s5) fun t19 =>
    bnd (geti x1 s5) fun t23 =>
    bnd (ref1_SameFile N t19 t23) fun t25 =>
    br (!t25)
      (some false)
      (self (IntKind.i64.wrap (s5 + (1 : Int)))))
    (k0)
def ref1_SameFiles_L0 (N : Nat) (x0 : List (Str × Bool × List UInt8)) (x1 : List (Str × Bool × List UInt8)) (k0 : Option Bool) : Nat → Int → Option Bool
  | 0, _ => none
  | n + 1, s5 => ref1_SameFiles_L0T N x0 x1 k0 (ref1_SameFiles_L0 N x0 x1 k0 n) s5
def ref1_SameFiles (N : Nat) (x0 : List (Str × Bool × List UInt8)) (x1 : List (Str × Bool × List UInt8)) : Option Bool :=
  br ((x0.length : Int) != (x1.length : Int))
    (some false)
    (ref1_SameFiles_L0 N x0 x1 (some true) N (0 : Int))
abbrev ref1_SameFiles_sg (f : SV [.v (.sl (.pr .str (.pr .bool (.sl .u8)))), .v (.sl (.pr .str (.pr .bool (.sl .u8))))] → BV [] → Option (Bool)) : AF := { ps := [.v (.sl (.pr .str (.pr .bool (.sl .u8)))), .v (.sl (.pr .str (.pr .bool (.sl .u8))))], bs := [], rs := [.v .bool], cs := [], R := Bool, out := fun z => ((z, ()), ()), f := f }
abbrev ref1_SameFiles_pk : SV [.v .bool] → BV [] → Bool := fun x _ => x.1
def ref1_SameFiles_fn (N : Nat) : FuncId → Option Tmp → Option AF := fun f _ =>
  match f with
    | 54 => some (ref1_SameFile_sg fun x _ => ref1_SameFile N x.1 x.2.1)
    | _ => none
theorem ref1_SameFiles_fn_ok (N : Nat) : ∀ f q F, ref1_SameFiles_fn N f q = some F → Sound Tryd.prog GW B0G f F := by
  intro f q F h
  unfold ref1_SameFiles_fn at h
  split at h
  · cases h; exact ref1_SameFile_sound N
  · cases h
def ref1_SameFiles_h : Nat → Hint := fun i =>
  match i with
  | 0 => ⟨[], [0, 1, 5], [], [], [], []⟩
  | _ => ⟨[], [], [], [], [], []⟩
abbrev ref1_SameFiles_E (N : Nat) : Env := mkE ref1_SameFiles_h (ref1_SameFiles_fn N) (fun _ => false) (fun _ => false)
abbrev ref1_SameFiles_L0_fs : List (Nat × Sl) := [(0, .v (.sl (.pr .str (.pr .bool (.sl .u8))))), (1, .v (.sl (.pr .str (.pr .bool (.sl .u8))))), (5, .v (.int .i64))]
abbrev ref1_SameFiles_L0_bs : List (Nat × Sb) := []
def ref1_SameFiles_L0_hd (x0 : List (Str × Bool × List UInt8)) (x1 : List (Str × Bool × List UInt8)) (s5 : Int) : St := ⟨27, [(0, .v (.sl (.pr .str (.pr .bool (.sl .u8)))) x0), (1, .v (.sl (.pr .str (.pr .bool (.sl .u8)))) x1), (5, .v (.int .i64) s5)], []⟩
def ref1_SameFiles_L0_tl0 (_x0 : List (Str × Bool × List UInt8)) (_x1 : List (Str × Bool × List UInt8)) : St := ⟨27, [], []⟩
def ref1_SameFiles_L0_G (N : Nat) (x0 : List (Str × Bool × List UInt8)) (x1 : List (Str × Bool × List UInt8)) (s5 : Int) (k : Ex → St → Option Bool) : Option Bool :=
  ref1_SameFiles_L0 N x0 x1 (k (.exit 0) (ref1_SameFiles_L0_tl0 x0 x1)) N s5
abbrev ref1_SameFiles_L0_F (N : Nat) : FV ref1_SameFiles_L0_fs → HV ref1_SameFiles_L0_bs → (Ex → St → Option Bool) → Option Bool := fun x _ k => ref1_SameFiles_L0_G N x.1 x.2.1 x.2.2.1 k
noncomputable def ref1_SameFiles_LP (N : Nat) : Nat → Code → St → (Ex → St → Option Bool) → Option Bool := fun i c =>
  match i with
  | 0 => (LPc 27 ref1_SameFiles_L0_fs ref1_SameFiles_L0_bs (ref1_SameFiles_L0_F N) (fun st k => iter (ref1_SameFiles_h 0) (exec (ref1_SameFiles_E N) N c 0) N st k))
  | i => fun st k => iter (ref1_SameFiles_h i) (exec (ref1_SameFiles_E N) N c i) N st k
theorem ref1_SameFiles_L0_step (N : Nat) (x0 : List (Str × Bool × List UInt8)) (x1 : List (Str × Bool × List UInt8)) (KX : Nat → St → Option Bool) (I : St → Option Bool) (s5 : Int) :
    execL (ref1_SameFiles_LP N) (ref1_SameFiles_E N) (cAt (bodyOf Tryd.f23) [true, true, false, true, false, false]) 0 (ref1_SameFiles_L0_hd x0 x1 s5) (roundK (ref1_SameFiles_h 0) I KX (resD (ref1_SameFiles_E N) Tryd.f23 (ref1_SameFiles_sg fun x _ => ref1_SameFiles N x.1 x.2.1) ref1_SameFiles_pk)) = ref1_SameFiles_L0T N x0 x1 (KX 0 (ref1_SameFiles_L0_tl0 x0 x1)) (fun s5 => I (ref1_SameFiles_L0_hd x0 x1 s5)) s5 := by kernel_rfl
theorem ref1_SameFiles_L0_ok (N : Nat) : ∀ x y k, (∀ st, k .ret st = (resD (ref1_SameFiles_E N) Tryd.f23 (ref1_SameFiles_sg fun x _ => ref1_SameFiles N x.1 x.2.1) ref1_SameFiles_pk) st) → iter (ref1_SameFiles_h 0) (exec (ref1_SameFiles_E N) N (cAt (bodyOf Tryd.f23) [true, true, false, true, false, false]) 0) N ⟨27, unF ref1_SameFiles_L0_fs x, unH ref1_SameFiles_L0_bs y⟩ k = ref1_SameFiles_L0_F N x y k := fun x _ k hk =>
  iter_link (S := (Int) × Unit) (ref1_SameFiles_h 0) _ (execL (ref1_SameFiles_LP N) (ref1_SameFiles_E N) (cAt (bodyOf Tryd.f23) [true, true, false, true, false, false]) 0) (resD (ref1_SameFiles_E N) Tryd.f23 (ref1_SameFiles_sg fun x _ => ref1_SameFiles N x.1 x.2.1) ref1_SameFiles_pk) (fun st k hk => execL_eq _ _ N _ (cAt (bodyOf Tryd.f23) [true, true, false, true, false, false]) 0 (show LoopsOk (ref1_SameFiles_LP N) (ref1_SameFiles_E N) N (resD (ref1_SameFiles_E N) Tryd.f23 (ref1_SameFiles_sg fun x _ => ref1_SameFiles N x.1 x.2.1) ref1_SameFiles_pk) [] from trivial) st k hk) (fun s => ref1_SameFiles_L0_hd x.1 x.2.1 s.1) k hk
    (fun self s => ref1_SameFiles_L0T N x.1 x.2.1 (k (.exit 0) (ref1_SameFiles_L0_tl0 x.1 x.2.1)) (fun s5 => self (s5, ())) s.1) (fun n s => ref1_SameFiles_L0 N x.1 x.2.1 (k (.exit 0) (ref1_SameFiles_L0_tl0 x.1 x.2.1)) n s.1) (fun _ => rfl) (fun _ _ => rfl)
    (fun I s => ref1_SameFiles_L0_step N x.1 x.2.1 (fun j => k (.exit j)) I s.1) N (x.2.2.1, ())
theorem ref1_SameFiles_lp0 (N : Nat) : ∀ st k, (∀ st, k .ret st = (resD (ref1_SameFiles_E N) Tryd.f23 (ref1_SameFiles_sg fun x _ => ref1_SameFiles N x.1 x.2.1) ref1_SameFiles_pk) st) → ref1_SameFiles_LP N 0 (cAt (bodyOf Tryd.f23) [true, true, false, true, false, false]) st k = iter (Env.hint (ref1_SameFiles_E N) 0) (exec (ref1_SameFiles_E N) N (cAt (bodyOf Tryd.f23) [true, true, false, true, false, false]) 0) N st k := fun st k hk => LPc_eq 27 ref1_SameFiles_L0_fs ref1_SameFiles_L0_bs _ _ (resD (ref1_SameFiles_E N) Tryd.f23 (ref1_SameFiles_sg fun x _ => ref1_SameFiles N x.1 x.2.1) ref1_SameFiles_pk) (ref1_SameFiles_L0_ok N) _ st k hk (rfl)
theorem ref1_SameFiles_core (N : Nat) (x : SV [.v (.sl (.pr .str (.pr .bool (.sl .u8)))), .v (.sl (.pr .str (.pr .bool (.sl .u8))))]) (y : BV []) : runL (ref1_SameFiles_E N) Tryd.f23 (ref1_SameFiles_sg fun x _ => ref1_SameFiles N x.1 x.2.1) ref1_SameFiles_pk (ref1_SameFiles_LP N) x y = ref1_SameFiles N x.1 x.2.1 := by kernel_rfl
theorem ref1_SameFiles_sound (N : Nat) : Sound Tryd.prog GW B0G 23 (ref1_SameFiles_sg fun x _ => ref1_SameFiles N x.1 x.2.1) :=
  runD_sound (mkE_ok ref1_SameFiles_h (ref1_SameFiles_fn N) _ _ (ref1_SameFiles_fn_ok N)) Tryd.func23 rfl Tryd.call23 (ref1_SameFiles_sg fun x _ => ref1_SameFiles N x.1 x.2.1) ref1_SameFiles_pk (fun _ _ => rfl) N (fun x y _ h => ((runL_eq (ref1_SameFiles_E N) N Tryd.f23 (ref1_SameFiles_sg fun x _ => ref1_SameFiles N x.1 x.2.1) ref1_SameFiles_pk (ref1_SameFiles_LP N) (show LoopsOk (ref1_SameFiles_LP N) (ref1_SameFiles_E N) N (resD (ref1_SameFiles_E N) Tryd.f23 (ref1_SameFiles_sg fun x _ => ref1_SameFiles N x.1 x.2.1) ref1_SameFiles_pk) [(0, (cAt (bodyOf Tryd.f23) [true, true, false, true, false, false]))] from ⟨ref1_SameFiles_lp0 N, trivial⟩) x y).trans (ref1_SameFiles_core N x y)).trans h)
def ref1_put_L0T (_N : Nat) (x0 : List Str) (x1 : Str) (k0 : Int → Option (List Str)) (self : Int → Option (List Str)) (s5 : Int) : Option (List Str) :=
  br (decide (s5 > (0 : Int)))
    (bnd (geti x0 (IntKind.i64.wrap (s5 - (1 : Int)))) fun t15 =>
    br (!(Op.bytesLess t15 x1 || t15 == x1))
      (self (IntKind.i64.wrap (s5 - (1 : Int))))
      (k0 s5))
    (k0 s5)
def ref1_put_L0 (N : Nat) (x0 : List Str) (x1 : Str) (k0 : Int → Option (List Str)) : Nat → Int → Option (List Str)
  | 0, _ => none
  | n + 1, s5 => ref1_put_L0T N x0 x1 k0 (ref1_put_L0 N x0 x1 k0 n) s5
def ref1_put (N : Nat) (x0 : List Str) (x1 : Str) : Option (List Str) :=
  ref1_put_L0 N x0 x1 (fun o0_5 =>
      br (decide (o0_5 > (0 : Int)))
        (bnd (geti x0 (IntKind.i64.wrap (o0_5 - (1 : Int)))) fun t28 =>
        br (t28 == x1)
          (some x0)
          (bnd (slc x0 (0 : Int) o0_5) fun t37 =>
          br (decide ((([] : List Str).length + t37.length) * (24 * Ty.sz .str) ≤ 140737488355328))
            (br (decide (((([] : List Str) ++ t37).length + [x1].length) * (24 * Ty.sz .str) ≤ 140737488355328))
              (bnd (slc x0 o0_5 (x0.length : Int)) fun t46 =>
              br (decide ((((([] : List Str) ++ t37) ++ [x1]).length + t46.length) * (24 * Ty.sz .str) ≤ 140737488355328))
                (some (((([] : List Str) ++ t37) ++ [x1]) ++ t46))
                none)
              none)
            none))
        (bnd (slc x0 (0 : Int) o0_5) fun t37_1 =>
        br (decide ((([] : List Str).length + t37_1.length) * (24 * Ty.sz .str) ≤ 140737488355328))
          (br (decide (((([] : List Str) ++ t37_1).length + [x1].length) * (24 * Ty.sz .str) ≤ 140737488355328))
            (bnd (slc x0 o0_5 (x0.length : Int)) fun t46_2 =>
            br (decide ((((([] : List Str) ++ t37_1) ++ [x1]).length + t46_2.length) * (24 * Ty.sz .str) ≤ 140737488355328))
              (some (((([] : List Str) ++ t37_1) ++ [x1]) ++ t46_2))
              none)
            none)
          none)) N (x0.length : Int)
abbrev ref1_put_sg (f : SV [.v (.sl .str), .v .str] → BV [] → Option (List Str)) : AF := { ps := [.v (.sl .str), .v .str], bs := [], rs := [.v (.sl .str)], cs := [], R := List Str, out := fun z => ((z, ()), ()), f := f }
abbrev ref1_put_pk : SV [.v (.sl .str)] → BV [] → (List Str) := fun x _ => x.1
def ref1_put_fn (_N : Nat) : FuncId → Option Tmp → Option AF := fun f _ =>
  match f with
    | _ => none
theorem ref1_put_fn_ok (N : Nat) : ∀ f q F, ref1_put_fn N f q = some F → Sound Tryd.prog GW B0G f F := by
  intro f q F h
  unfold ref1_put_fn at h
  split at h
  · cases h
def ref1_put_h : Nat → Hint := fun i =>
  match i with
  | 0 => ⟨[], [0, 1, 5], [], [0, 1, 5], [], []⟩
  | _ => ⟨[], [], [], [], [], []⟩
abbrev ref1_put_E (N : Nat) : Env := mkE ref1_put_h (ref1_put_fn N) (fun _ => false) (fun _ => false)
abbrev ref1_put_L0_fs : List (Nat × Sl) := [(0, .v (.sl .str)), (1, .v .str), (5, .v (.int .i64))]
abbrev ref1_put_L0_bs : List (Nat × Sb) := []
def ref1_put_L0_hd (x0 : List Str) (x1 : Str) (s5 : Int) : St := ⟨48, [(0, .v (.sl .str) x0), (1, .v .str x1), (5, .v (.int .i64) s5)], []⟩
def ref1_put_L0_tl0 (x0 : List Str) (x1 : Str) (o0_5 : Int) : St := ⟨48, [(0, .v (.sl .str) x0), (1, .v .str x1), (5, .v (.int .i64) o0_5)], []⟩
def ref1_put_L0_G (N : Nat) (x0 : List Str) (x1 : Str) (s5 : Int) (k : Ex → St → Option (List Str)) : Option (List Str) :=
  ref1_put_L0 N x0 x1 (fun o0_5 => k (.exit 0) (ref1_put_L0_tl0 x0 x1 o0_5)) N s5
abbrev ref1_put_L0_F (N : Nat) : FV ref1_put_L0_fs → HV ref1_put_L0_bs → (Ex → St → Option (List Str)) → Option (List Str) := fun x _ k => ref1_put_L0_G N x.1 x.2.1 x.2.2.1 k
noncomputable def ref1_put_LP (N : Nat) : Nat → Code → St → (Ex → St → Option (List Str)) → Option (List Str) := fun i c =>
  match i with
  | 0 => (LPc 48 ref1_put_L0_fs ref1_put_L0_bs (ref1_put_L0_F N) (fun st k => iter (ref1_put_h 0) (exec (ref1_put_E N) N c 0) N st k))
  | i => fun st k => iter (ref1_put_h i) (exec (ref1_put_E N) N c i) N st k
theorem ref1_put_L0_step (N : Nat) (x0 : List Str) (x1 : Str) (KX : Nat → St → Option (List Str)) (I : St → Option (List Str)) (s5 : Int) :
    execL (ref1_put_LP N) (ref1_put_E N) (cAt (bodyOf Tryd.f74) [true, true, false, false, false]) 0 (ref1_put_L0_hd x0 x1 s5) (roundK (ref1_put_h 0) I KX (resD (ref1_put_E N) Tryd.f74 (ref1_put_sg fun x _ => ref1_put N x.1 x.2.1) ref1_put_pk)) = ref1_put_L0T N x0 x1 (fun o0_5 => KX 0 (ref1_put_L0_tl0 x0 x1 o0_5)) (fun s5 => I (ref1_put_L0_hd x0 x1 s5)) s5 := by kernel_rfl
theorem ref1_put_L0_ok (N : Nat) : ∀ x y k, (∀ st, k .ret st = (resD (ref1_put_E N) Tryd.f74 (ref1_put_sg fun x _ => ref1_put N x.1 x.2.1) ref1_put_pk) st) → iter (ref1_put_h 0) (exec (ref1_put_E N) N (cAt (bodyOf Tryd.f74) [true, true, false, false, false]) 0) N ⟨48, unF ref1_put_L0_fs x, unH ref1_put_L0_bs y⟩ k = ref1_put_L0_F N x y k := fun x _ k hk =>
  iter_link (S := (Int) × Unit) (ref1_put_h 0) _ (execL (ref1_put_LP N) (ref1_put_E N) (cAt (bodyOf Tryd.f74) [true, true, false, false, false]) 0) (resD (ref1_put_E N) Tryd.f74 (ref1_put_sg fun x _ => ref1_put N x.1 x.2.1) ref1_put_pk) (fun st k hk => execL_eq _ _ N _ (cAt (bodyOf Tryd.f74) [true, true, false, false, false]) 0 (show LoopsOk (ref1_put_LP N) (ref1_put_E N) N (resD (ref1_put_E N) Tryd.f74 (ref1_put_sg fun x _ => ref1_put N x.1 x.2.1) ref1_put_pk) [] from trivial) st k hk) (fun s => ref1_put_L0_hd x.1 x.2.1 s.1) k hk
    (fun self s => ref1_put_L0T N x.1 x.2.1 (fun o0_5 => k (.exit 0) (ref1_put_L0_tl0 x.1 x.2.1 o0_5)) (fun s5 => self (s5, ())) s.1) (fun n s => ref1_put_L0 N x.1 x.2.1 (fun o0_5 => k (.exit 0) (ref1_put_L0_tl0 x.1 x.2.1 o0_5)) n s.1) (fun _ => rfl) (fun _ _ => rfl)
    (fun I s => ref1_put_L0_step N x.1 x.2.1 (fun j => k (.exit j)) I s.1) N (x.2.2.1, ())
theorem ref1_put_lp0 (N : Nat) : ∀ st k, (∀ st, k .ret st = (resD (ref1_put_E N) Tryd.f74 (ref1_put_sg fun x _ => ref1_put N x.1 x.2.1) ref1_put_pk) st) → ref1_put_LP N 0 (cAt (bodyOf Tryd.f74) [true, true, false, false, false]) st k = iter (Env.hint (ref1_put_E N) 0) (exec (ref1_put_E N) N (cAt (bodyOf Tryd.f74) [true, true, false, false, false]) 0) N st k := fun st k hk => LPc_eq 48 ref1_put_L0_fs ref1_put_L0_bs _ _ (resD (ref1_put_E N) Tryd.f74 (ref1_put_sg fun x _ => ref1_put N x.1 x.2.1) ref1_put_pk) (ref1_put_L0_ok N) _ st k hk (rfl)
theorem ref1_put_core (N : Nat) (x : SV [.v (.sl .str), .v .str]) (y : BV []) : runL (ref1_put_E N) Tryd.f74 (ref1_put_sg fun x _ => ref1_put N x.1 x.2.1) ref1_put_pk (ref1_put_LP N) x y = ref1_put N x.1 x.2.1 := by kernel_rfl
theorem ref1_put_sound (N : Nat) : Sound Tryd.prog GW B0G 74 (ref1_put_sg fun x _ => ref1_put N x.1 x.2.1) :=
  runD_sound (mkE_ok ref1_put_h (ref1_put_fn N) _ _ (ref1_put_fn_ok N)) Tryd.func74 rfl Tryd.call74 (ref1_put_sg fun x _ => ref1_put N x.1 x.2.1) ref1_put_pk (fun _ _ => rfl) N (fun x y _ h => ((runL_eq (ref1_put_E N) N Tryd.f74 (ref1_put_sg fun x _ => ref1_put N x.1 x.2.1) ref1_put_pk (ref1_put_LP N) (show LoopsOk (ref1_put_LP N) (ref1_put_E N) N (resD (ref1_put_E N) Tryd.f74 (ref1_put_sg fun x _ => ref1_put N x.1 x.2.1) ref1_put_pk) [(0, (cAt (bodyOf Tryd.f74) [true, true, false, false, false]))] from ⟨ref1_put_lp0 N, trivial⟩) x y).trans (ref1_put_core N x y)).trans h)
def ref1_paths_L0T (N : Nat) (x0 : List (Str × Bool × List UInt8)) (k0 : (List Str) → Option (List Str)) (self : (List Str) → Int → Option (List Str)) (s7 : List Str) (s8 : Int) : Option (List Str) :=
  br (decide (s8 < (x0.length : Int)))
    (bnd (geti x0 s8) fun t20 =>
    bnd (ref1_put N s7 t20.1) fun t23 =>
    self t23 (IntKind.i64.wrap (s8 + (1 : Int))))
    (k0 s7)
def ref1_paths_L0 (N : Nat) (x0 : List (Str × Bool × List UInt8)) (k0 : (List Str) → Option (List Str)) : Nat → (List Str) → Int → Option (List Str)
  | 0, _, _ => none
  | n + 1, s7, s8 => ref1_paths_L0T N x0 k0 (ref1_paths_L0 N x0 k0 n) s7 s8
def ref1_paths_L1T (N : Nat) (x1 : List (Str × Bool × List UInt8)) (k2 : (List Str) → Option (List Str)) (self : (List Str) → Int → Option (List Str)) (s7_1 : List Str) (s9 : Int) : Option (List Str) :=
  br (decide (s9 < (x1.length : Int)))
    (bnd (geti x1 s9) fun t33 =>
    bnd (ref1_put N s7_1 t33.1) fun t36 =>
    self t36 (IntKind.i64.wrap (s9 + (1 : Int))))
    (k2 s7_1)
def ref1_paths_L1 (N : Nat) (x1 : List (Str × Bool × List UInt8)) (k2 : (List Str) → Option (List Str)) : Nat → (List Str) → Int → Option (List Str)
  | 0, _, _ => none
  | n + 1, s7_1, s9 => ref1_paths_L1T N x1 k2 (ref1_paths_L1 N x1 k2 n) s7_1 s9
def ref1_paths_L2T (N : Nat) (x2 : List (Str × Bool × List UInt8)) (k4 : (List Str) → Option (List Str)) (self : (List Str) → Int → Option (List Str)) (s7_2 : List Str) (s10 : Int) : Option (List Str) :=
  br (decide (s10 < (x2.length : Int)))
    (bnd (geti x2 s10) fun t46 =>
    bnd (ref1_put N s7_2 t46.1) fun t49 =>
    self t49 (IntKind.i64.wrap (s10 + (1 : Int))))
    (k4 s7_2)
def ref1_paths_L2 (N : Nat) (x2 : List (Str × Bool × List UInt8)) (k4 : (List Str) → Option (List Str)) : Nat → (List Str) → Int → Option (List Str)
  | 0, _, _ => none
  | n + 1, s7_2, s10 => ref1_paths_L2T N x2 k4 (ref1_paths_L2 N x2 k4 n) s7_2 s10
def ref1_paths (N : Nat) (x0 : List (Str × Bool × List UInt8)) (x1 : List (Str × Bool × List UInt8)) (x2 : List (Str × Bool × List UInt8)) : Option (List Str) :=
  ref1_paths_L0 N x0 (fun o0_7 =>
      ref1_paths_L1 N x1 (fun o1_7 =>
          ref1_paths_L2 N x2 (fun o2_7 =>
              some o2_7) N o1_7 (0 : Int)) N o0_7 (0 : Int)) N ([] : List Str) (0 : Int)
abbrev ref1_paths_sg (f : SV [.v (.sl (.pr .str (.pr .bool (.sl .u8)))), .v (.sl (.pr .str (.pr .bool (.sl .u8)))), .v (.sl (.pr .str (.pr .bool (.sl .u8))))] → BV [] → Option (List Str)) : AF := { ps := [.v (.sl (.pr .str (.pr .bool (.sl .u8)))), .v (.sl (.pr .str (.pr .bool (.sl .u8)))), .v (.sl (.pr .str (.pr .bool (.sl .u8))))], bs := [], rs := [.v (.sl .str)], cs := [], R := List Str, out := fun z => ((z, ()), ()), f := f }
abbrev ref1_paths_pk : SV [.v (.sl .str)] → BV [] → (List Str) := fun x _ => x.1
def ref1_paths_fn (N : Nat) : FuncId → Option Tmp → Option AF := fun f _ =>
  match f with
    | 74 => some (ref1_put_sg fun x _ => ref1_put N x.1 x.2.1)
    | _ => none
theorem ref1_paths_fn_ok (N : Nat) : ∀ f q F, ref1_paths_fn N f q = some F → Sound Tryd.prog GW B0G f F := by
  intro f q F h
  unfold ref1_paths_fn at h
  split at h
  · cases h; exact ref1_put_sound N
  · cases h
def ref1_paths_h : Nat → Hint := fun i =>
  match i with
  | 0 => ⟨[7], [0, 1, 2, 7, 8], [], [1, 2, 7], [], []⟩
  | 2 => ⟨[], [1, 2, 7, 9], [], [2, 7], [], []⟩
  | 4 => ⟨[], [2, 7, 10], [], [7], [], []⟩
  | _ => ⟨[], [], [], [], [], []⟩
abbrev ref1_paths_E (N : Nat) : Env := mkE ref1_paths_h (ref1_paths_fn N) (fun _ => false) (fun _ => false)
abbrev ref1_paths_L0_fs : List (Nat × Sl) := [(0, .v (.sl (.pr .str (.pr .bool (.sl .u8))))), (1, .v (.sl (.pr .str (.pr .bool (.sl .u8))))), (2, .v (.sl (.pr .str (.pr .bool (.sl .u8))))), (7, .v (.sl .str)), (8, .v (.int .i64))]
abbrev ref1_paths_L0_bs : List (Nat × Sb) := []
def ref1_paths_L0_hd (x0 : List (Str × Bool × List UInt8)) (x1 : List (Str × Bool × List UInt8)) (x2 : List (Str × Bool × List UInt8)) (s7 : List Str) (s8 : Int) : St := ⟨51, [(0, .v (.sl (.pr .str (.pr .bool (.sl .u8)))) x0), (1, .v (.sl (.pr .str (.pr .bool (.sl .u8)))) x1), (2, .v (.sl (.pr .str (.pr .bool (.sl .u8)))) x2), (7, .v (.sl .str) s7), (8, .v (.int .i64) s8)], []⟩
def ref1_paths_L0_tl0 (_x0 : List (Str × Bool × List UInt8)) (x1 : List (Str × Bool × List UInt8)) (x2 : List (Str × Bool × List UInt8)) (o0_7 : List Str) : St := ⟨51, [(1, .v (.sl (.pr .str (.pr .bool (.sl .u8)))) x1), (2, .v (.sl (.pr .str (.pr .bool (.sl .u8)))) x2), (7, .v (.sl .str) o0_7)], []⟩
def ref1_paths_L0_G (N : Nat) (x0 : List (Str × Bool × List UInt8)) (x1 : List (Str × Bool × List UInt8)) (x2 : List (Str × Bool × List UInt8)) (s7 : List Str) (s8 : Int) (k : Ex → St → Option (List Str)) : Option (List Str) :=
  ref1_paths_L0 N x0 (fun o0_7 => k (.exit 0) (ref1_paths_L0_tl0 x0 x1 x2 o0_7)) N s7 s8
abbrev ref1_paths_L0_F (N : Nat) : FV ref1_paths_L0_fs → HV ref1_paths_L0_bs → (Ex → St → Option (List Str)) → Option (List Str) := fun x _ k => ref1_paths_L0_G N x.1 x.2.1 x.2.2.1 x.2.2.2.1 x.2.2.2.2.1 k
abbrev ref1_paths_L1_fs : List (Nat × Sl) := [(1, .v (.sl (.pr .str (.pr .bool (.sl .u8))))), (2, .v (.sl (.pr .str (.pr .bool (.sl .u8))))), (7, .v (.sl .str)), (9, .v (.int .i64))]
abbrev ref1_paths_L1_bs : List (Nat × Sb) := []
def ref1_paths_L1_hd (x1 : List (Str × Bool × List UInt8)) (x2 : List (Str × Bool × List UInt8)) (s7_1 : List Str) (s9 : Int) : St := ⟨51, [(1, .v (.sl (.pr .str (.pr .bool (.sl .u8)))) x1), (2, .v (.sl (.pr .str (.pr .bool (.sl .u8)))) x2), (7, .v (.sl .str) s7_1), (9, .v (.int .i64) s9)], []⟩
def ref1_paths_L1_tl2 (_x1 : List (Str × Bool × List UInt8)) (x2 : List (Str × Bool × List UInt8)) (o1_7 : List Str) : St := ⟨51, [(2, .v (.sl (.pr .str (.pr .bool (.sl .u8)))) x2), (7, .v (.sl .str) o1_7)], []⟩
def ref1_paths_L1_G (N : Nat) (x1 : List (Str × Bool × List UInt8)) (x2 : List (Str × Bool × List UInt8)) (s7_1 : List Str) (s9 : Int) (k : Ex → St → Option (List Str)) : Option (List Str) :=
  ref1_paths_L1 N x1 (fun o1_7 => k (.exit 2) (ref1_paths_L1_tl2 x1 x2 o1_7)) N s7_1 s9
abbrev ref1_paths_L1_F (N : Nat) : FV ref1_paths_L1_fs → HV ref1_paths_L1_bs → (Ex → St → Option (List Str)) → Option (List Str) := fun x _ k => ref1_paths_L1_G N x.1 x.2.1 x.2.2.1 x.2.2.2.1 k
abbrev ref1_paths_L2_fs : List (Nat × Sl) := [(2, .v (.sl (.pr .str (.pr .bool (.sl .u8))))), (7, .v (.sl .str)), (10, .v (.int .i64))]
abbrev ref1_paths_L2_bs : List (Nat × Sb) := []
def ref1_paths_L2_hd (x2 : List (Str × Bool × List UInt8)) (s7_2 : List Str) (s10 : Int) : St := ⟨51, [(2, .v (.sl (.pr .str (.pr .bool (.sl .u8)))) x2), (7, .v (.sl .str) s7_2), (10, .v (.int .i64) s10)], []⟩
def ref1_paths_L2_tl4 (_x2 : List (Str × Bool × List UInt8)) (o2_7 : List Str) : St := ⟨51, [(7, .v (.sl .str) o2_7)], []⟩
def ref1_paths_L2_G (N : Nat) (x2 : List (Str × Bool × List UInt8)) (s7_2 : List Str) (s10 : Int) (k : Ex → St → Option (List Str)) : Option (List Str) :=
  ref1_paths_L2 N x2 (fun o2_7 => k (.exit 4) (ref1_paths_L2_tl4 x2 o2_7)) N s7_2 s10
abbrev ref1_paths_L2_F (N : Nat) : FV ref1_paths_L2_fs → HV ref1_paths_L2_bs → (Ex → St → Option (List Str)) → Option (List Str) := fun x _ k => ref1_paths_L2_G N x.1 x.2.1 x.2.2.1 k
noncomputable def ref1_paths_LP (N : Nat) : Nat → Code → St → (Ex → St → Option (List Str)) → Option (List Str) := fun i c =>
  match i with
  | 0 => (LPc 51 ref1_paths_L0_fs ref1_paths_L0_bs (ref1_paths_L0_F N) (fun st k => iter (ref1_paths_h 0) (exec (ref1_paths_E N) N c 0) N st k))
  | 2 => (LPc 51 ref1_paths_L1_fs ref1_paths_L1_bs (ref1_paths_L1_F N) (fun st k => iter (ref1_paths_h 2) (exec (ref1_paths_E N) N c 2) N st k))
  | 4 => (LPc 51 ref1_paths_L2_fs ref1_paths_L2_bs (ref1_paths_L2_F N) (fun st k => iter (ref1_paths_h 4) (exec (ref1_paths_E N) N c 4) N st k))
  | i => fun st k => iter (ref1_paths_h i) (exec (ref1_paths_E N) N c i) N st k
theorem ref1_paths_L2_step (N : Nat) (x2 : List (Str × Bool × List UInt8)) (KX : Nat → St → Option (List Str)) (I : St → Option (List Str)) (s7_2 : List Str) (s10 : Int) :
    execL (ref1_paths_LP N) (ref1_paths_E N) (cAt (bodyOf Tryd.f55) [true, true, true, true, false, true, false, false]) 4 (ref1_paths_L2_hd x2 s7_2 s10) (roundK (ref1_paths_h 4) I KX (resD (ref1_paths_E N) Tryd.f55 (ref1_paths_sg fun x _ => ref1_paths N x.1 x.2.1 x.2.2.1) ref1_paths_pk)) = ref1_paths_L2T N x2 (fun o2_7 => KX 4 (ref1_paths_L2_tl4 x2 o2_7)) (fun s7_2 s10 => I (ref1_paths_L2_hd x2 s7_2 s10)) s7_2 s10 := by kernel_rfl
theorem ref1_paths_L2_ok (N : Nat) : ∀ x y k, (∀ st, k .ret st = (resD (ref1_paths_E N) Tryd.f55 (ref1_paths_sg fun x _ => ref1_paths N x.1 x.2.1 x.2.2.1) ref1_paths_pk) st) → iter (ref1_paths_h 4) (exec (ref1_paths_E N) N (cAt (bodyOf Tryd.f55) [true, true, true, true, false, true, false, false]) 4) N ⟨51, unF ref1_paths_L2_fs x, unH ref1_paths_L2_bs y⟩ k = ref1_paths_L2_F N x y k := fun x _ k hk =>
  iter_link (S := (List Str) × (Int) × Unit) (ref1_paths_h 4) _ (execL (ref1_paths_LP N) (ref1_paths_E N) (cAt (bodyOf Tryd.f55) [true, true, true, true, false, true, false, false]) 4) (resD (ref1_paths_E N) Tryd.f55 (ref1_paths_sg fun x _ => ref1_paths N x.1 x.2.1 x.2.2.1) ref1_paths_pk) (fun st k hk => execL_eq _ _ N _ (cAt (bodyOf Tryd.f55) [true, true, true, true, false, true, false, false]) 4 (show LoopsOk (ref1_paths_LP N) (ref1_paths_E N) N (resD (ref1_paths_E N) Tryd.f55 (ref1_paths_sg fun x _ => ref1_paths N x.1 x.2.1 x.2.2.1) ref1_paths_pk) [] from trivial) st k hk) (fun s => ref1_paths_L2_hd x.1 s.1 s.2.1) k hk
    (fun self s => ref1_paths_L2T N x.1 (fun o2_7 => k (.exit 4) (ref1_paths_L2_tl4 x.1 o2_7)) (fun s7_2 s10 => self (s7_2, s10, ())) s.1 s.2.1) (fun n s => ref1_paths_L2 N x.1 (fun o2_7 => k (.exit 4) (ref1_paths_L2_tl4 x.1 o2_7)) n s.1 s.2.1) (fun _ => rfl) (fun _ _ => rfl)
    (fun I s => ref1_paths_L2_step N x.1 (fun j => k (.exit j)) I s.1 s.2.1) N (x.2.1, x.2.2.1, ())
theorem ref1_paths_lp4 (N : Nat) : ∀ st k, (∀ st, k .ret st = (resD (ref1_paths_E N) Tryd.f55 (ref1_paths_sg fun x _ => ref1_paths N x.1 x.2.1 x.2.2.1) ref1_paths_pk) st) → ref1_paths_LP N 4 (cAt (bodyOf Tryd.f55) [true, true, true, true, false, true, false, false]) st k = iter (Env.hint (ref1_paths_E N) 4) (exec (ref1_paths_E N) N (cAt (bodyOf Tryd.f55) [true, true, true, true, false, true, false, false]) 4) N st k := fun st k hk => LPc_eq 51 ref1_paths_L2_fs ref1_paths_L2_bs _ _ (resD (ref1_paths_E N) Tryd.f55 (ref1_paths_sg fun x _ => ref1_paths N x.1 x.2.1 x.2.2.1) ref1_paths_pk) (ref1_paths_L2_ok N) _ st k hk (rfl)
theorem ref1_paths_L1_step (N : Nat) (x1 : List (Str × Bool × List UInt8)) (x2 : List (Str × Bool × List UInt8)) (KX : Nat → St → Option (List Str)) (I : St → Option (List Str)) (s7_1 : List Str) (s9 : Int) :
    execL (ref1_paths_LP N) (ref1_paths_E N) (cAt (bodyOf Tryd.f55) [true, true, true, false, true, false, false]) 2 (ref1_paths_L1_hd x1 x2 s7_1 s9) (roundK (ref1_paths_h 2) I KX (resD (ref1_paths_E N) Tryd.f55 (ref1_paths_sg fun x _ => ref1_paths N x.1 x.2.1 x.2.2.1) ref1_paths_pk)) = ref1_paths_L1T N x1 (fun o1_7 => KX 2 (ref1_paths_L1_tl2 x1 x2 o1_7)) (fun s7_1 s9 => I (ref1_paths_L1_hd x1 x2 s7_1 s9)) s7_1 s9 := by kernel_rfl
theorem ref1_paths_L1_ok (N : Nat) : ∀ x y k, (∀ st, k .ret st = (resD (ref1_paths_E N) Tryd.f55 (ref1_paths_sg fun x _ => ref1_paths N x.1 x.2.1 x.2.2.1) ref1_paths_pk) st) → iter (ref1_paths_h 2) (exec (ref1_paths_E N) N (cAt (bodyOf Tryd.f55) [true, true, true, false, true, false, false]) 2) N ⟨51, unF ref1_paths_L1_fs x, unH ref1_paths_L1_bs y⟩ k = ref1_paths_L1_F N x y k := fun x _ k hk =>
  iter_link (S := (List Str) × (Int) × Unit) (ref1_paths_h 2) _ (execL (ref1_paths_LP N) (ref1_paths_E N) (cAt (bodyOf Tryd.f55) [true, true, true, false, true, false, false]) 2) (resD (ref1_paths_E N) Tryd.f55 (ref1_paths_sg fun x _ => ref1_paths N x.1 x.2.1 x.2.2.1) ref1_paths_pk) (fun st k hk => execL_eq _ _ N _ (cAt (bodyOf Tryd.f55) [true, true, true, false, true, false, false]) 2 (show LoopsOk (ref1_paths_LP N) (ref1_paths_E N) N (resD (ref1_paths_E N) Tryd.f55 (ref1_paths_sg fun x _ => ref1_paths N x.1 x.2.1 x.2.2.1) ref1_paths_pk) [] from trivial) st k hk) (fun s => ref1_paths_L1_hd x.1 x.2.1 s.1 s.2.1) k hk
    (fun self s => ref1_paths_L1T N x.1 (fun o1_7 => k (.exit 2) (ref1_paths_L1_tl2 x.1 x.2.1 o1_7)) (fun s7_1 s9 => self (s7_1, s9, ())) s.1 s.2.1) (fun n s => ref1_paths_L1 N x.1 (fun o1_7 => k (.exit 2) (ref1_paths_L1_tl2 x.1 x.2.1 o1_7)) n s.1 s.2.1) (fun _ => rfl) (fun _ _ => rfl)
    (fun I s => ref1_paths_L1_step N x.1 x.2.1 (fun j => k (.exit j)) I s.1 s.2.1) N (x.2.2.1, x.2.2.2.1, ())
theorem ref1_paths_lp2 (N : Nat) : ∀ st k, (∀ st, k .ret st = (resD (ref1_paths_E N) Tryd.f55 (ref1_paths_sg fun x _ => ref1_paths N x.1 x.2.1 x.2.2.1) ref1_paths_pk) st) → ref1_paths_LP N 2 (cAt (bodyOf Tryd.f55) [true, true, true, false, true, false, false]) st k = iter (Env.hint (ref1_paths_E N) 2) (exec (ref1_paths_E N) N (cAt (bodyOf Tryd.f55) [true, true, true, false, true, false, false]) 2) N st k := fun st k hk => LPc_eq 51 ref1_paths_L1_fs ref1_paths_L1_bs _ _ (resD (ref1_paths_E N) Tryd.f55 (ref1_paths_sg fun x _ => ref1_paths N x.1 x.2.1 x.2.2.1) ref1_paths_pk) (ref1_paths_L1_ok N) _ st k hk (rfl)
theorem ref1_paths_L0_step (N : Nat) (x0 : List (Str × Bool × List UInt8)) (x1 : List (Str × Bool × List UInt8)) (x2 : List (Str × Bool × List UInt8)) (KX : Nat → St → Option (List Str)) (I : St → Option (List Str)) (s7 : List Str) (s8 : Int) :
    execL (ref1_paths_LP N) (ref1_paths_E N) (cAt (bodyOf Tryd.f55) [true, true, false, true, false, false]) 0 (ref1_paths_L0_hd x0 x1 x2 s7 s8) (roundK (ref1_paths_h 0) I KX (resD (ref1_paths_E N) Tryd.f55 (ref1_paths_sg fun x _ => ref1_paths N x.1 x.2.1 x.2.2.1) ref1_paths_pk)) = ref1_paths_L0T N x0 (fun o0_7 => KX 0 (ref1_paths_L0_tl0 x0 x1 x2 o0_7)) (fun s7 s8 => I (ref1_paths_L0_hd x0 x1 x2 s7 s8)) s7 s8 := by kernel_rfl
theorem ref1_paths_L0_ok (N : Nat) : ∀ x y k, (∀ st, k .ret st = (resD (ref1_paths_E N) Tryd.f55 (ref1_paths_sg fun x _ => ref1_paths N x.1 x.2.1 x.2.2.1) ref1_paths_pk) st) → iter (ref1_paths_h 0) (exec (ref1_paths_E N) N (cAt (bodyOf Tryd.f55) [true, true, false, true, false, false]) 0) N ⟨51, unF ref1_paths_L0_fs x, unH ref1_paths_L0_bs y⟩ k = ref1_paths_L0_F N x y k := fun x _ k hk =>
  iter_link (S := (List Str) × (Int) × Unit) (ref1_paths_h 0) _ (execL (ref1_paths_LP N) (ref1_paths_E N) (cAt (bodyOf Tryd.f55) [true, true, false, true, false, false]) 0) (resD (ref1_paths_E N) Tryd.f55 (ref1_paths_sg fun x _ => ref1_paths N x.1 x.2.1 x.2.2.1) ref1_paths_pk) (fun st k hk => execL_eq _ _ N _ (cAt (bodyOf Tryd.f55) [true, true, false, true, false, false]) 0 (show LoopsOk (ref1_paths_LP N) (ref1_paths_E N) N (resD (ref1_paths_E N) Tryd.f55 (ref1_paths_sg fun x _ => ref1_paths N x.1 x.2.1 x.2.2.1) ref1_paths_pk) [] from trivial) st k hk) (fun s => ref1_paths_L0_hd x.1 x.2.1 x.2.2.1 s.1 s.2.1) k hk
    (fun self s => ref1_paths_L0T N x.1 (fun o0_7 => k (.exit 0) (ref1_paths_L0_tl0 x.1 x.2.1 x.2.2.1 o0_7)) (fun s7 s8 => self (s7, s8, ())) s.1 s.2.1) (fun n s => ref1_paths_L0 N x.1 (fun o0_7 => k (.exit 0) (ref1_paths_L0_tl0 x.1 x.2.1 x.2.2.1 o0_7)) n s.1 s.2.1) (fun _ => rfl) (fun _ _ => rfl)
    (fun I s => ref1_paths_L0_step N x.1 x.2.1 x.2.2.1 (fun j => k (.exit j)) I s.1 s.2.1) N (x.2.2.2.1, x.2.2.2.2.1, ())
theorem ref1_paths_lp0 (N : Nat) : ∀ st k, (∀ st, k .ret st = (resD (ref1_paths_E N) Tryd.f55 (ref1_paths_sg fun x _ => ref1_paths N x.1 x.2.1 x.2.2.1) ref1_paths_pk) st) → ref1_paths_LP N 0 (cAt (bodyOf Tryd.f55) [true, true, false, true, false, false]) st k = iter (Env.hint (ref1_paths_E N) 0) (exec (ref1_paths_E N) N (cAt (bodyOf Tryd.f55) [true, true, false, true, false, false]) 0) N st k := fun st k hk => LPc_eq 51 ref1_paths_L0_fs ref1_paths_L0_bs _ _ (resD (ref1_paths_E N) Tryd.f55 (ref1_paths_sg fun x _ => ref1_paths N x.1 x.2.1 x.2.2.1) ref1_paths_pk) (ref1_paths_L0_ok N) _ st k hk (rfl)
theorem ref1_paths_core (N : Nat) (x : SV [.v (.sl (.pr .str (.pr .bool (.sl .u8)))), .v (.sl (.pr .str (.pr .bool (.sl .u8)))), .v (.sl (.pr .str (.pr .bool (.sl .u8))))]) (y : BV []) : runL (ref1_paths_E N) Tryd.f55 (ref1_paths_sg fun x _ => ref1_paths N x.1 x.2.1 x.2.2.1) ref1_paths_pk (ref1_paths_LP N) x y = ref1_paths N x.1 x.2.1 x.2.2.1 := by kernel_rfl
theorem ref1_paths_sound (N : Nat) : Sound Tryd.prog GW B0G 55 (ref1_paths_sg fun x _ => ref1_paths N x.1 x.2.1 x.2.2.1) :=
  runD_sound (mkE_ok ref1_paths_h (ref1_paths_fn N) _ _ (ref1_paths_fn_ok N)) Tryd.func55 rfl Tryd.call55 (ref1_paths_sg fun x _ => ref1_paths N x.1 x.2.1 x.2.2.1) ref1_paths_pk (fun _ _ => rfl) N (fun x y _ h => ((runL_eq (ref1_paths_E N) N Tryd.f55 (ref1_paths_sg fun x _ => ref1_paths N x.1 x.2.1 x.2.2.1) ref1_paths_pk (ref1_paths_LP N) (show LoopsOk (ref1_paths_LP N) (ref1_paths_E N) N (resD (ref1_paths_E N) Tryd.f55 (ref1_paths_sg fun x _ => ref1_paths N x.1 x.2.1 x.2.2.1) ref1_paths_pk) [(0, (cAt (bodyOf Tryd.f55) [true, true, false, true, false, false])), (2, (cAt (bodyOf Tryd.f55) [true, true, true, false, true, false, false])), (4, (cAt (bodyOf Tryd.f55) [true, true, true, true, false, true, false, false]))] from ⟨ref1_paths_lp0 N, ref1_paths_lp2 N, ref1_paths_lp4 N, trivial⟩) x y).trans (ref1_paths_core N x y)).trans h)
def ref1_find_L0T (_N : Nat) (x0 : List (Str × Bool × List UInt8)) (x1 : Str) (k0 : Option ((Str × Bool × List UInt8) × Bool)) (self : Int → Option ((Str × Bool × List UInt8) × Bool)) (s6 : Int) : Option ((Str × Bool × List UInt8) × Bool) :=
  br (decide (s6 < (x0.length : Int)))
    (bnd (geti x0 s6) fun t15 =>
    br (t15.1 == x1)
      (bnd (geti x0 s6) fun t22 =>
      some (t22, true))
      (self (IntKind.i64.wrap (s6 + (1 : Int)))))
    (k0)
def ref1_find_L0 (N : Nat) (x0 : List (Str × Bool × List UInt8)) (x1 : Str) (k0 : Option ((Str × Bool × List UInt8) × Bool)) : Nat → Int → Option ((Str × Bool × List UInt8) × Bool)
  | 0, _ => none
  | n + 1, s6 => ref1_find_L0T N x0 x1 k0 (ref1_find_L0 N x0 x1 k0 n) s6
def ref1_find (N : Nat) (x0 : List (Str × Bool × List UInt8)) (x1 : Str) : Option ((Str × Bool × List UInt8) × Bool) :=
  ref1_find_L0 N x0 x1 (some ((([] : Str), (false, ([] : List UInt8))), false)) N (0 : Int)
abbrev ref1_find_sg (f : SV [.v (.sl (.pr .str (.pr .bool (.sl .u8)))), .v .str] → BV [] → Option ((Str × Bool × List UInt8) × Bool)) : AF := { ps := [.v (.sl (.pr .str (.pr .bool (.sl .u8)))), .v .str], bs := [], rs := [.v (.pr .str (.pr .bool (.sl .u8))), .v .bool], cs := [], R := (Str × Bool × List UInt8) × Bool, out := fun z => ((z.1, z.2, ()), ()), f := f }
abbrev ref1_find_pk : SV [.v (.pr .str (.pr .bool (.sl .u8))), .v .bool] → BV [] → ((Str × Bool × List UInt8) × Bool) := fun x _ => (x.1, x.2.1)
def ref1_find_fn (_N : Nat) : FuncId → Option Tmp → Option AF := fun f _ =>
  match f with
    | _ => none
theorem ref1_find_fn_ok (N : Nat) : ∀ f q F, ref1_find_fn N f q = some F → Sound Tryd.prog GW B0G f F := by
  intro f q F h
  unfold ref1_find_fn at h
  split at h
  · cases h
def ref1_find_h : Nat → Hint := fun i =>
  match i with
  | 0 => ⟨[], [0, 1, 4, 6], [1004], [4], [1004], []⟩
  | _ => ⟨[], [], [], [], [], []⟩
abbrev ref1_find_E (N : Nat) : Env := mkE ref1_find_h (ref1_find_fn N) (fun _ => false) (fun _ => false)
abbrev ref1_find_L0_fs : List (Nat × Sl) := [(0, .v (.sl (.pr .str (.pr .bool (.sl .u8))))), (1, .v .str), (4, .box 1004 0), (6, .v (.int .i64))]
abbrev ref1_find_L0_bs : List (Nat × Sb) := [(1004, .cells [.v .str, .v .bool, .nilS])]
def ref1_find_L0_hd (x0 : List (Str × Bool × List UInt8)) (x1 : Str) (c1004_0 : Str) (c1004_1 : Bool) (s6 : Int) : St := ⟨25, [(0, .v (.sl (.pr .str (.pr .bool (.sl .u8)))) x0), (1, .v .str x1), (4, .box 1004 0), (6, .v (.int .i64) s6)], [(1004, .cells [.v .str c1004_0, .v .bool c1004_1, .nilS])]⟩
def ref1_find_L0_tl0 (_x0 : List (Str × Bool × List UInt8)) (_x1 : Str) (c1004_0 : Str) (c1004_1 : Bool) : St := ⟨25, [(4, .box 1004 0)], [(1004, .cells [.v .str c1004_0, .v .bool c1004_1, .nilS])]⟩
def ref1_find_L0_G (N : Nat) (x0 : List (Str × Bool × List UInt8)) (x1 : Str) (c1004_0 : Str) (c1004_1 : Bool) (s6 : Int) (k : Ex → St → Option ((Str × Bool × List UInt8) × Bool)) : Option ((Str × Bool × List UInt8) × Bool) :=
  ref1_find_L0 N x0 x1 (k (.exit 0) (ref1_find_L0_tl0 x0 x1 c1004_0 c1004_1)) N s6
abbrev ref1_find_L0_F (N : Nat) : FV ref1_find_L0_fs → HV ref1_find_L0_bs → (Ex → St → Option ((Str × Bool × List UInt8) × Bool)) → Option ((Str × Bool × List UInt8) × Bool) := fun x y k => ref1_find_L0_G N x.1 x.2.1 y.1.1 y.1.2.1 x.2.2.2.1 k
noncomputable def ref1_find_LP (N : Nat) : Nat → Code → St → (Ex → St → Option ((Str × Bool × List UInt8) × Bool)) → Option ((Str × Bool × List UInt8) × Bool) := fun i c =>
  match i with
  | 0 => (LPc 25 ref1_find_L0_fs ref1_find_L0_bs (ref1_find_L0_F N) (fun st k => iter (ref1_find_h 0) (exec (ref1_find_E N) N c 0) N st k))
  | i => fun st k => iter (ref1_find_h i) (exec (ref1_find_E N) N c i) N st k
theorem ref1_find_L0_step (N : Nat) (x0 : List (Str × Bool × List UInt8)) (x1 : Str) (c1004_0 : Str) (c1004_1 : Bool) (KX : Nat → St → Option ((Str × Bool × List UInt8) × Bool)) (I : St → Option ((Str × Bool × List UInt8) × Bool)) (s6 : Int) :
    execL (ref1_find_LP N) (ref1_find_E N) (cAt (bodyOf Tryd.f56) [true, false, true, false, false]) 0 (ref1_find_L0_hd x0 x1 c1004_0 c1004_1 s6) (roundK (ref1_find_h 0) I KX (resD (ref1_find_E N) Tryd.f56 (ref1_find_sg fun x _ => ref1_find N x.1 x.2.1) ref1_find_pk)) = ref1_find_L0T N x0 x1 (KX 0 (ref1_find_L0_tl0 x0 x1 c1004_0 c1004_1)) (fun s6 => I (ref1_find_L0_hd x0 x1 c1004_0 c1004_1 s6)) s6 := by kernel_rfl
theorem ref1_find_L0_ok (N : Nat) : ∀ x y k, (∀ st, k .ret st = (resD (ref1_find_E N) Tryd.f56 (ref1_find_sg fun x _ => ref1_find N x.1 x.2.1) ref1_find_pk) st) → iter (ref1_find_h 0) (exec (ref1_find_E N) N (cAt (bodyOf Tryd.f56) [true, false, true, false, false]) 0) N ⟨25, unF ref1_find_L0_fs x, unH ref1_find_L0_bs y⟩ k = ref1_find_L0_F N x y k := fun x y k hk =>
  iter_link (S := (Int) × Unit) (ref1_find_h 0) _ (execL (ref1_find_LP N) (ref1_find_E N) (cAt (bodyOf Tryd.f56) [true, false, true, false, false]) 0) (resD (ref1_find_E N) Tryd.f56 (ref1_find_sg fun x _ => ref1_find N x.1 x.2.1) ref1_find_pk) (fun st k hk => execL_eq _ _ N _ (cAt (bodyOf Tryd.f56) [true, false, true, false, false]) 0 (show LoopsOk (ref1_find_LP N) (ref1_find_E N) N (resD (ref1_find_E N) Tryd.f56 (ref1_find_sg fun x _ => ref1_find N x.1 x.2.1) ref1_find_pk) [] from trivial) st k hk) (fun s => ref1_find_L0_hd x.1 x.2.1 y.1.1 y.1.2.1 s.1) k hk
    (fun self s => ref1_find_L0T N x.1 x.2.1 (k (.exit 0) (ref1_find_L0_tl0 x.1 x.2.1 y.1.1 y.1.2.1)) (fun s6 => self (s6, ())) s.1) (fun n s => ref1_find_L0 N x.1 x.2.1 (k (.exit 0) (ref1_find_L0_tl0 x.1 x.2.1 y.1.1 y.1.2.1)) n s.1) (fun _ => rfl) (fun _ _ => rfl)
    (fun I s => ref1_find_L0_step N x.1 x.2.1 y.1.1 y.1.2.1 (fun j => k (.exit j)) I s.1) N (x.2.2.2.1, ())
theorem ref1_find_lp0 (N : Nat) : ∀ st k, (∀ st, k .ret st = (resD (ref1_find_E N) Tryd.f56 (ref1_find_sg fun x _ => ref1_find N x.1 x.2.1) ref1_find_pk) st) → ref1_find_LP N 0 (cAt (bodyOf Tryd.f56) [true, false, true, false, false]) st k = iter (Env.hint (ref1_find_E N) 0) (exec (ref1_find_E N) N (cAt (bodyOf Tryd.f56) [true, false, true, false, false]) 0) N st k := fun st k hk => LPc_eq 25 ref1_find_L0_fs ref1_find_L0_bs _ _ (resD (ref1_find_E N) Tryd.f56 (ref1_find_sg fun x _ => ref1_find N x.1 x.2.1) ref1_find_pk) (ref1_find_L0_ok N) _ st k hk (rfl)
theorem ref1_find_core (N : Nat) (x : SV [.v (.sl (.pr .str (.pr .bool (.sl .u8)))), .v .str]) (y : BV []) : runL (ref1_find_E N) Tryd.f56 (ref1_find_sg fun x _ => ref1_find N x.1 x.2.1) ref1_find_pk (ref1_find_LP N) x y = ref1_find N x.1 x.2.1 := by kernel_rfl
theorem ref1_find_sound (N : Nat) : Sound Tryd.prog GW B0G 56 (ref1_find_sg fun x _ => ref1_find N x.1 x.2.1) :=
  runD_sound (mkE_ok ref1_find_h (ref1_find_fn N) _ _ (ref1_find_fn_ok N)) Tryd.func56 rfl Tryd.call56 (ref1_find_sg fun x _ => ref1_find N x.1 x.2.1) ref1_find_pk (fun _ _ => rfl) N (fun x y _ h => ((runL_eq (ref1_find_E N) N Tryd.f56 (ref1_find_sg fun x _ => ref1_find N x.1 x.2.1) ref1_find_pk (ref1_find_LP N) (show LoopsOk (ref1_find_LP N) (ref1_find_E N) N (resD (ref1_find_E N) Tryd.f56 (ref1_find_sg fun x _ => ref1_find N x.1 x.2.1) ref1_find_pk) [(0, (cAt (bodyOf Tryd.f56) [true, false, true, false, false]))] from ⟨ref1_find_lp0 N, trivial⟩) x y).trans (ref1_find_core N x y)).trans h)
end
end Go.Proofs.YthlkidohpiebiaaDoor


/- What functions of the program compute, as plain functions (printed). -/
namespace Go.Proofs.YthlkidohpiebiaaDoor
open Go Go.RowKit
set_option maxRecDepth 100000
set_option linter.unusedVariables false
noncomputable section
def slices_Clone_api_File (_N : Nat) (x0 : List (Str × Bool × List UInt8)) : Option (List (Str × Bool × List UInt8)) :=
  br ((x0).isEmpty)
    (both
      (some ([] : List (Str × Bool × List UInt8)))
      (br (decide ((([] : List (Str × Bool × List UInt8)).length + x0.length) * (24 * Ty.sz (.pr .str (.pr .bool (.sl .u8)))) ≤ 140737488355328))
        (some (([] : List (Str × Bool × List UInt8)) ++ x0))
        none))
    (br (decide ((([] : List (Str × Bool × List UInt8)).length + x0.length) * (24 * Ty.sz (.pr .str (.pr .bool (.sl .u8)))) ≤ 140737488355328))
      (some (([] : List (Str × Bool × List UInt8)) ++ x0))
      none)
abbrev slices_Clone_api_File_sg (f : SV [.v (.sl (.pr .str (.pr .bool (.sl .u8))))] → BV [] → Option (List (Str × Bool × List UInt8))) : AF := { ps := [.v (.sl (.pr .str (.pr .bool (.sl .u8))))], bs := [], rs := [.row 0], cs := [.row 34 (.pr .str (.pr .bool (.sl .u8))) true], R := List (Str × Bool × List UInt8), out := fun z => (((), ()), (z, ())), f := f }
abbrev slices_Clone_api_File_pk : SV [.row 0] → BV [.row 34 (.pr .str (.pr .bool (.sl .u8))) true] → (List (Str × Bool × List UInt8)) := fun _ y => y.1
def slices_Clone_api_File_fn (_N : Nat) : FuncId → Option Tmp → Option AF := fun f _ =>
  match f with
    | _ => none
theorem slices_Clone_api_File_fn_ok (N : Nat) : ∀ f q F, slices_Clone_api_File_fn N f q = some F → Sound Tryd.prog GW B0G f F := by
  intro f q F h
  unfold slices_Clone_api_File_fn at h
  split at h
  · cases h
def slices_Clone_api_File_h : Nat → Hint := fun i =>
  match i with
  | _ => ⟨[], [], [], [], [], []⟩
abbrev slices_Clone_api_File_E (N : Nat) : Env := mkE slices_Clone_api_File_h (slices_Clone_api_File_fn N) (fun i => match i with | 2 => true | 5 => true | _ => false) (fun _ => false)
noncomputable def slices_Clone_api_File_LP (N : Nat) : Nat → Code → St → (Ex → St → Option (List (Str × Bool × List UInt8))) → Option (List (Str × Bool × List UInt8)) := fun i c =>
  match i with
  | i => fun st k => iter (slices_Clone_api_File_h i) (exec (slices_Clone_api_File_E N) N c i) N st k
theorem slices_Clone_api_File_core (N : Nat) (x : SV [.v (.sl (.pr .str (.pr .bool (.sl .u8))))]) (y : BV []) : runL (slices_Clone_api_File_E N) Tryd.f94 (slices_Clone_api_File_sg fun x _ => slices_Clone_api_File N x.1) slices_Clone_api_File_pk (slices_Clone_api_File_LP N) x y = slices_Clone_api_File N x.1 := by kernel_rfl
theorem slices_Clone_api_File_sound (N : Nat) : Sound Tryd.prog GW B0G 94 (slices_Clone_api_File_sg fun x _ => slices_Clone_api_File N x.1) :=
  runD_sound (mkE_ok slices_Clone_api_File_h (slices_Clone_api_File_fn N) _ _ (slices_Clone_api_File_fn_ok N)) Tryd.func94 rfl Tryd.call94 (slices_Clone_api_File_sg fun x _ => slices_Clone_api_File N x.1) slices_Clone_api_File_pk (fun _ _ => rfl) N (fun x y _ h => ((runL_eq (slices_Clone_api_File_E N) N Tryd.f94 (slices_Clone_api_File_sg fun x _ => slices_Clone_api_File N x.1) slices_Clone_api_File_pk (slices_Clone_api_File_LP N) (show LoopsOk (slices_Clone_api_File_LP N) (slices_Clone_api_File_E N) N (resD (slices_Clone_api_File_E N) Tryd.f94 (slices_Clone_api_File_sg fun x _ => slices_Clone_api_File N x.1) slices_Clone_api_File_pk) [] from trivial) x y).trans (slices_Clone_api_File_core N x y)).trans h)
def slices_Clone_byte_byte (_N : Nat) (x0 : List UInt8) : Option (List UInt8) :=
  br ((x0).isEmpty)
    (both
      (some ([] : List UInt8))
      (br (decide ((([] : List UInt8).length + x0.length) * (24 * Ty.sz .u8) ≤ 140737488355328))
        (some (([] : List UInt8) ++ x0))
        none))
    (br (decide ((([] : List UInt8).length + x0.length) * (24 * Ty.sz .u8) ≤ 140737488355328))
      (some (([] : List UInt8) ++ x0))
      none)
abbrev slices_Clone_byte_byte_sg (f : SV [.v (.sl .u8)] → BV [] → Option (List UInt8)) : AF := { ps := [.v (.sl .u8)], bs := [], rs := [.row 0], cs := [.row 5 .u8 true], R := List UInt8, out := fun z => (((), ()), (z, ())), f := f }
abbrev slices_Clone_byte_byte_pk : SV [.row 0] → BV [.row 5 .u8 true] → (List UInt8) := fun _ y => y.1
def slices_Clone_byte_byte_fn (_N : Nat) : FuncId → Option Tmp → Option AF := fun f _ =>
  match f with
    | _ => none
theorem slices_Clone_byte_byte_fn_ok (N : Nat) : ∀ f q F, slices_Clone_byte_byte_fn N f q = some F → Sound Tryd.prog GW B0G f F := by
  intro f q F h
  unfold slices_Clone_byte_byte_fn at h
  split at h
  · cases h
def slices_Clone_byte_byte_h : Nat → Hint := fun i =>
  match i with
  | _ => ⟨[], [], [], [], [], []⟩
abbrev slices_Clone_byte_byte_E (N : Nat) : Env := mkE slices_Clone_byte_byte_h (slices_Clone_byte_byte_fn N) (fun i => match i with | 2 => true | 5 => true | _ => false) (fun _ => false)
noncomputable def slices_Clone_byte_byte_LP (N : Nat) : Nat → Code → St → (Ex → St → Option (List UInt8)) → Option (List UInt8) := fun i c =>
  match i with
  | i => fun st k => iter (slices_Clone_byte_byte_h i) (exec (slices_Clone_byte_byte_E N) N c i) N st k
theorem slices_Clone_byte_byte_core (N : Nat) (x : SV [.v (.sl .u8)]) (y : BV []) : runL (slices_Clone_byte_byte_E N) Tryd.f95 (slices_Clone_byte_byte_sg fun x _ => slices_Clone_byte_byte N x.1) slices_Clone_byte_byte_pk (slices_Clone_byte_byte_LP N) x y = slices_Clone_byte_byte N x.1 := by kernel_rfl
theorem slices_Clone_byte_byte_sound (N : Nat) : Sound Tryd.prog GW B0G 95 (slices_Clone_byte_byte_sg fun x _ => slices_Clone_byte_byte N x.1) :=
  runD_sound (mkE_ok slices_Clone_byte_byte_h (slices_Clone_byte_byte_fn N) _ _ (slices_Clone_byte_byte_fn_ok N)) Tryd.func95 rfl Tryd.call95 (slices_Clone_byte_byte_sg fun x _ => slices_Clone_byte_byte N x.1) slices_Clone_byte_byte_pk (fun _ _ => rfl) N (fun x y _ h => ((runL_eq (slices_Clone_byte_byte_E N) N Tryd.f95 (slices_Clone_byte_byte_sg fun x _ => slices_Clone_byte_byte N x.1) slices_Clone_byte_byte_pk (slices_Clone_byte_byte_LP N) (show LoopsOk (slices_Clone_byte_byte_LP N) (slices_Clone_byte_byte_E N) N (resD (slices_Clone_byte_byte_E N) Tryd.f95 (slices_Clone_byte_byte_sg fun x _ => slices_Clone_byte_byte N x.1) slices_Clone_byte_byte_pk) [] from trivial) x y).trans (slices_Clone_byte_byte_core N x y)).trans h)
def blob_Own_L0T (N : Nat) (c8 : Int) (k0 : (List (Str × Bool × List UInt8)) → Option (List (Str × Bool × List UInt8))) (self : Int → (List (Str × Bool × List UInt8)) → Option (List (Str × Bool × List UInt8))) (s9 : Int) (w100600 : List (Str × Bool × List UInt8)) : Option (List (Str × Bool × List UInt8)) :=
  br (decide (s9 < c8))
    (br (decide (0 ≤ s9 ∧ s9 < (w100600.length : Int)))
      (bnd (geti w100600 s9) fun t18 =>
      bnd (slices_Clone_byte_byte N t18.2.2) fun t19 =>
      br (decide (0 ≤ s9 ∧ s9 < (w100600.length : Int)))
        (bnd (geti w100600 s9) fun u =>
        self (IntKind.i64.wrap (s9 + (1 : Int))) (seti w100600 s9 (u.1, (u.2.1, t19))))
        none)
      none)
    (k0 w100600)
def blob_Own_L0 (N : Nat) (c8 : Int) (k0 : (List (Str × Bool × List UInt8)) → Option (List (Str × Bool × List UInt8))) : Nat → Int → (List (Str × Bool × List UInt8)) → Option (List (Str × Bool × List UInt8))
  | 0, _, _ => none
  | n + 1, s9, w100600 => blob_Own_L0T N c8 k0 (blob_Own_L0 N c8 k0 n) s9 w100600
def blob_Own (N : Nat) (x0 : List (Str × Bool × List UInt8)) : Option (List (Str × Bool × List UInt8)) :=
  bnd (slices_Clone_api_File N x0) fun t6 =>
  blob_Own_L0 N (t6.length : Int) (fun o0_w100600 =>
      some o0_w100600) N (0 : Int) t6
abbrev blob_Own_sg (f : SV [.v (.sl (.pr .str (.pr .bool (.sl .u8))))] → BV [] → Option (List (Str × Bool × List UInt8))) : AF := { ps := [.v (.sl (.pr .str (.pr .bool (.sl .u8))))], bs := [], rs := [.row 0], cs := [.row 34 (.pr .str (.pr .bool (.sl .u8))) true], R := List (Str × Bool × List UInt8), out := fun z => (((), ()), (z, ())), f := f }
abbrev blob_Own_pk : SV [.row 0] → BV [.row 34 (.pr .str (.pr .bool (.sl .u8))) true] → (List (Str × Bool × List UInt8)) := fun _ y => y.1
def blob_Own_fn (N : Nat) : FuncId → Option Tmp → Option AF := fun f _ =>
  match f with
    | 94 => some (slices_Clone_api_File_sg fun x _ => slices_Clone_api_File N x.1)
    | 95 => some (slices_Clone_byte_byte_sg fun x _ => slices_Clone_byte_byte N x.1)
    | _ => none
theorem blob_Own_fn_ok (N : Nat) : ∀ f q F, blob_Own_fn N f q = some F → Sound Tryd.prog GW B0G f F := by
  intro f q F h
  unfold blob_Own_fn at h
  split at h
  · cases h; exact slices_Clone_api_File_sound N
  · cases h; exact slices_Clone_byte_byte_sound N
  · cases h
def blob_Own_h : Nat → Hint := fun i =>
  match i with
  | 0 => ⟨[], [3, 8, 9], [100600], [3], [100600], []⟩
  | _ => ⟨[], [], [], [], [], []⟩
abbrev blob_Own_E (N : Nat) : Env := mkE blob_Own_h (blob_Own_fn N) (fun _ => false) (fun _ => false)
abbrev blob_Own_L0_fs : List (Nat × Sl) := [(3, .row 100600), (8, .v (.int .i64)), (9, .v (.int .i64))]
abbrev blob_Own_L0_bs : List (Nat × Sb) := [(100600, .row 34 (.pr .str (.pr .bool (.sl .u8))) true)]
def blob_Own_L0_hd (c8 : Int) (s9 : Int) (w100600 : List (Str × Bool × List UInt8)) : St := ⟨24, [(3, .row 100600), (8, .v (.int .i64) c8), (9, .v (.int .i64) s9)], [(100600, .row 34 (.pr .str (.pr .bool (.sl .u8))) true w100600)]⟩
def blob_Own_L0_tl0 (_c8 : Int) (o0_w100600 : List (Str × Bool × List UInt8)) : St := ⟨24, [(3, .row 100600)], [(100600, .row 34 (.pr .str (.pr .bool (.sl .u8))) true o0_w100600)]⟩
def blob_Own_L0_G (N : Nat) (c8 : Int) (s9 : Int) (w100600 : List (Str × Bool × List UInt8)) (k : Ex → St → Option (List (Str × Bool × List UInt8))) : Option (List (Str × Bool × List UInt8)) :=
  blob_Own_L0 N c8 (fun o0_w100600 => k (.exit 0) (blob_Own_L0_tl0 c8 o0_w100600)) N s9 w100600
abbrev blob_Own_L0_F (N : Nat) : FV blob_Own_L0_fs → HV blob_Own_L0_bs → (Ex → St → Option (List (Str × Bool × List UInt8))) → Option (List (Str × Bool × List UInt8)) := fun x y k => blob_Own_L0_G N x.2.1 x.2.2.1 y.1 k
noncomputable def blob_Own_LP (N : Nat) : Nat → Code → St → (Ex → St → Option (List (Str × Bool × List UInt8))) → Option (List (Str × Bool × List UInt8)) := fun i c =>
  match i with
  | 0 => (LPc 24 blob_Own_L0_fs blob_Own_L0_bs (blob_Own_L0_F N) (fun st k => iter (blob_Own_h 0) (exec (blob_Own_E N) N c 0) N st k))
  | i => fun st k => iter (blob_Own_h i) (exec (blob_Own_E N) N c i) N st k
theorem blob_Own_L0_step (N : Nat) (c8 : Int) (KX : Nat → St → Option (List (Str × Bool × List UInt8))) (I : St → Option (List (Str × Bool × List UInt8))) (s9 : Int) (w100600 : List (Str × Bool × List UInt8)) :
    execL (blob_Own_LP N) (blob_Own_E N) (cAt (bodyOf Tryd.f58) [true, true, false, true, false, false]) 0 (blob_Own_L0_hd c8 s9 w100600) (roundK (blob_Own_h 0) I KX (resD (blob_Own_E N) Tryd.f58 (blob_Own_sg fun x _ => blob_Own N x.1) blob_Own_pk)) = blob_Own_L0T N c8 (fun o0_w100600 => KX 0 (blob_Own_L0_tl0 c8 o0_w100600)) (fun s9 w100600 => I (blob_Own_L0_hd c8 s9 w100600)) s9 w100600 := by kernel_rfl
theorem blob_Own_L0_ok (N : Nat) : ∀ x y k, (∀ st, k .ret st = (resD (blob_Own_E N) Tryd.f58 (blob_Own_sg fun x _ => blob_Own N x.1) blob_Own_pk) st) → iter (blob_Own_h 0) (exec (blob_Own_E N) N (cAt (bodyOf Tryd.f58) [true, true, false, true, false, false]) 0) N ⟨24, unF blob_Own_L0_fs x, unH blob_Own_L0_bs y⟩ k = blob_Own_L0_F N x y k := fun x y k hk =>
  iter_link (S := (Int) × (List (Str × Bool × List UInt8)) × Unit) (blob_Own_h 0) _ (execL (blob_Own_LP N) (blob_Own_E N) (cAt (bodyOf Tryd.f58) [true, true, false, true, false, false]) 0) (resD (blob_Own_E N) Tryd.f58 (blob_Own_sg fun x _ => blob_Own N x.1) blob_Own_pk) (fun st k hk => execL_eq _ _ N _ (cAt (bodyOf Tryd.f58) [true, true, false, true, false, false]) 0 (show LoopsOk (blob_Own_LP N) (blob_Own_E N) N (resD (blob_Own_E N) Tryd.f58 (blob_Own_sg fun x _ => blob_Own N x.1) blob_Own_pk) [] from trivial) st k hk) (fun s => blob_Own_L0_hd x.2.1 s.1 s.2.1) k hk
    (fun self s => blob_Own_L0T N x.2.1 (fun o0_w100600 => k (.exit 0) (blob_Own_L0_tl0 x.2.1 o0_w100600)) (fun s9 w100600 => self (s9, w100600, ())) s.1 s.2.1) (fun n s => blob_Own_L0 N x.2.1 (fun o0_w100600 => k (.exit 0) (blob_Own_L0_tl0 x.2.1 o0_w100600)) n s.1 s.2.1) (fun _ => rfl) (fun _ _ => rfl)
    (fun I s => blob_Own_L0_step N x.2.1 (fun j => k (.exit j)) I s.1 s.2.1) N (x.2.2.1, y.1, ())
theorem blob_Own_lp0 (N : Nat) : ∀ st k, (∀ st, k .ret st = (resD (blob_Own_E N) Tryd.f58 (blob_Own_sg fun x _ => blob_Own N x.1) blob_Own_pk) st) → blob_Own_LP N 0 (cAt (bodyOf Tryd.f58) [true, true, false, true, false, false]) st k = iter (Env.hint (blob_Own_E N) 0) (exec (blob_Own_E N) N (cAt (bodyOf Tryd.f58) [true, true, false, true, false, false]) 0) N st k := fun st k hk => LPc_eq 24 blob_Own_L0_fs blob_Own_L0_bs _ _ (resD (blob_Own_E N) Tryd.f58 (blob_Own_sg fun x _ => blob_Own N x.1) blob_Own_pk) (blob_Own_L0_ok N) _ st k hk (rfl)
theorem blob_Own_core (N : Nat) (x : SV [.v (.sl (.pr .str (.pr .bool (.sl .u8))))]) (y : BV []) : runL (blob_Own_E N) Tryd.f58 (blob_Own_sg fun x _ => blob_Own N x.1) blob_Own_pk (blob_Own_LP N) x y = blob_Own N x.1 := by kernel_rfl
theorem blob_Own_sound (N : Nat) : Sound Tryd.prog GW B0G 58 (blob_Own_sg fun x _ => blob_Own N x.1) :=
  runD_sound (mkE_ok blob_Own_h (blob_Own_fn N) _ _ (blob_Own_fn_ok N)) Tryd.func58 rfl Tryd.call58 (blob_Own_sg fun x _ => blob_Own N x.1) blob_Own_pk (fun _ _ => rfl) N (fun x y _ h => ((runL_eq (blob_Own_E N) N Tryd.f58 (blob_Own_sg fun x _ => blob_Own N x.1) blob_Own_pk (blob_Own_LP N) (show LoopsOk (blob_Own_LP N) (blob_Own_E N) N (resD (blob_Own_E N) Tryd.f58 (blob_Own_sg fun x _ => blob_Own N x.1) blob_Own_pk) [(0, (cAt (bodyOf Tryd.f58) [true, true, false, true, false, false]))] from ⟨blob_Own_lp0 N, trivial⟩) x y).trans (blob_Own_core N x y)).trans h)
def ref1_copied (_N : Nat) (x0 : Str × Bool × List UInt8) (x1 : Str) : Option (Str × Bool × List UInt8) :=
  br (decide (x0.2.2.length * (24 * Ty.sz .u8) ≤ 140737488355328))
    (some (x1, x0.2))
    none
abbrev ref1_copied_sg (f : SV [.v (.pr .str (.pr .bool (.sl .u8))), .v .str] → BV [] → Option (Str × Bool × List UInt8)) : AF := { ps := [.v (.pr .str (.pr .bool (.sl .u8))), .v .str], bs := [], rs := [.v (.pr .str (.pr .bool (.sl .u8)))], cs := [], R := Str × Bool × List UInt8, out := fun z => ((z, ()), ()), f := f }
abbrev ref1_copied_pk : SV [.v (.pr .str (.pr .bool (.sl .u8)))] → BV [] → (Str × Bool × List UInt8) := fun x _ => x.1
def ref1_copied_fn (_N : Nat) : FuncId → Option Tmp → Option AF := fun f _ =>
  match f with
    | _ => none
theorem ref1_copied_fn_ok (N : Nat) : ∀ f q F, ref1_copied_fn N f q = some F → Sound Tryd.prog GW B0G f F := by
  intro f q F h
  unfold ref1_copied_fn at h
  split at h
  · cases h
def ref1_copied_h : Nat → Hint := fun i =>
  match i with
  | _ => ⟨[], [], [], [], [], []⟩
abbrev ref1_copied_E (N : Nat) : Env := mkE ref1_copied_h (ref1_copied_fn N) (fun _ => false) (fun _ => false)
noncomputable def ref1_copied_LP (N : Nat) : Nat → Code → St → (Ex → St → Option (Str × Bool × List UInt8)) → Option (Str × Bool × List UInt8) := fun i c =>
  match i with
  | i => fun st k => iter (ref1_copied_h i) (exec (ref1_copied_E N) N c i) N st k
theorem ref1_copied_core (N : Nat) (x : SV [.v (.pr .str (.pr .bool (.sl .u8))), .v .str]) (y : BV []) : runL (ref1_copied_E N) Tryd.f64 (ref1_copied_sg fun x _ => ref1_copied N x.1 x.2.1) ref1_copied_pk (ref1_copied_LP N) x y = ref1_copied N x.1 x.2.1 := by kernel_rfl
theorem ref1_copied_sound (N : Nat) : Sound Tryd.prog GW B0G 64 (ref1_copied_sg fun x _ => ref1_copied N x.1 x.2.1) :=
  runD_sound (mkE_ok ref1_copied_h (ref1_copied_fn N) _ _ (ref1_copied_fn_ok N)) Tryd.func64 rfl Tryd.call64 (ref1_copied_sg fun x _ => ref1_copied N x.1 x.2.1) ref1_copied_pk (fun _ _ => rfl) N (fun x y _ h => ((runL_eq (ref1_copied_E N) N Tryd.f64 (ref1_copied_sg fun x _ => ref1_copied N x.1 x.2.1) ref1_copied_pk (ref1_copied_LP N) (show LoopsOk (ref1_copied_LP N) (ref1_copied_E N) N (resD (ref1_copied_E N) Tryd.f64 (ref1_copied_sg fun x _ => ref1_copied N x.1 x.2.1) ref1_copied_pk) [] from trivial) x y).trans (ref1_copied_core N x y)).trans h)
end
end Go.Proofs.YthlkidohpiebiaaDoor


/- slices.SortFunc of structs by their first field, a name that each has but once, out of the kit's contract: it turns a row of its caller's. For any program. -/
namespace Go.Proofs.YthlkidohpiebiaaDoor
set_option linter.unusedVariables false
set_option linter.unusedSimpArgs false
open Go Go.RowKit Go.Shelf Go.Sort
/-- A name, and n further cells. -/
def KC (n : Nat) : Type := { p : Str × List Value // p.2.length = n ∧ ∀ v ∈ p.2, v.oneCell' = true }
instance (n : Nat) : Inhabited (KC n) := ⟨⟨([], List.replicate n (.bool false)), by simp, fun v hv => by rw [List.eq_of_mem_replicate hv]; rfl⟩⟩
end Go.Proofs.YthlkidohpiebiaaDoor


/-
  DERIVED: THE SHELF's CONTRACTS AT THIS DUMP, IN PLAIN WORDS (tools/lay-plain.mjs out of 'TrydShelfF.lean', which tools/lay-shelf.mjs wrote): THE SAME DECLARATIONS UNDER THE SAME NAMES: 'import', 'namespace', 'open', 'def', 'theorem' AND NOTHING ELSE: no command of the shelf's: FOR A HAND-IN. Each laying: the table of numbers ('.._ren') and one theorem, a field a fact of the dump's own or the kernel's comparison; each contract: ONE APPLICATION.
-/
namespace Go.Proofs
open Go.Shelf
end Go.Proofs


/- slices.SortFunc of files by their paths, out of the kit's contract: it turns a row of its caller's. -/
namespace Go.Proofs.YthlkidohpiebiaaDoor
set_option linter.unusedVariables false
set_option linter.unusedSimpArgs false
open Go Go.RowKit Go.Shelf Go.Sort
end Go.Proofs.YthlkidohpiebiaaDoor



/- What functions of the program compute, as plain functions (printed). -/
namespace Go.Proofs.YthlkidohpiebiaaDoor
open Go Go.RowKit
set_option maxRecDepth 100000
set_option linter.unusedVariables false
noncomputable section
def blob_spotOf (_N : Nat) (x0 : List (Str × (Str × Bool × List UInt8))) (x1 : Str) : Option ((Str × Bool × List UInt8) × Bool) :=
  some ((((mget x0 x1).getD (zero (.pr .str (.pr .bool (.sl .u8))))).1, (((mget x0 x1).getD (zero (.pr .str (.pr .bool (.sl .u8))))).2)), (mget x0 x1).isSome)
abbrev blob_spotOf_sg (f : SV [.v (.mp (.pr .str (.pr .bool (.sl .u8)))), .v .str] → BV [] → Option ((Str × Bool × List UInt8) × Bool)) : AF := { ps := [.v (.mp (.pr .str (.pr .bool (.sl .u8)))), .v .str], bs := [], rs := [.v (.pr (.pr .str (.pr .bool (.sl .u8))) .bool)], cs := [], R := (Str × Bool × List UInt8) × Bool, out := fun z => ((z, ()), ()), f := f }
abbrev blob_spotOf_pk : SV [.v (.pr (.pr .str (.pr .bool (.sl .u8))) .bool)] → BV [] → ((Str × Bool × List UInt8) × Bool) := fun x _ => x.1
def blob_spotOf_fn (_N : Nat) : FuncId → Option Tmp → Option AF := fun f _ =>
  match f with
    | _ => none
theorem blob_spotOf_fn_ok (N : Nat) : ∀ f q F, blob_spotOf_fn N f q = some F → Sound Tryd.prog GW B0G f F := by
  intro f q F h
  unfold blob_spotOf_fn at h
  split at h
  · cases h
def blob_spotOf_h : Nat → Hint := fun i =>
  match i with
  | _ => ⟨[], [], [], [], [], []⟩
abbrev blob_spotOf_E (N : Nat) : Env := mkE blob_spotOf_h (blob_spotOf_fn N) (fun _ => false) (fun _ => false)
noncomputable def blob_spotOf_LP (N : Nat) : Nat → Code → St → (Ex → St → Option ((Str × Bool × List UInt8) × Bool)) → Option ((Str × Bool × List UInt8) × Bool) := fun i c =>
  match i with
  | i => fun st k => iter (blob_spotOf_h i) (exec (blob_spotOf_E N) N c i) N st k
theorem blob_spotOf_core (N : Nat) (x : SV [.v (.mp (.pr .str (.pr .bool (.sl .u8)))), .v .str]) (y : BV []) : runL (blob_spotOf_E N) Tryd.f67 (blob_spotOf_sg fun x _ => blob_spotOf N x.1 x.2.1) blob_spotOf_pk (blob_spotOf_LP N) x y = blob_spotOf N x.1 x.2.1 := by kernel_rfl
theorem blob_spotOf_sound (N : Nat) : Sound Tryd.prog GW B0G 67 (blob_spotOf_sg fun x _ => blob_spotOf N x.1 x.2.1) :=
  runD_sound (mkE_ok blob_spotOf_h (blob_spotOf_fn N) _ _ (blob_spotOf_fn_ok N)) Tryd.func67 rfl Tryd.call67 (blob_spotOf_sg fun x _ => blob_spotOf N x.1 x.2.1) blob_spotOf_pk (fun _ _ => rfl) N (fun x y _ h => ((runL_eq (blob_spotOf_E N) N Tryd.f67 (blob_spotOf_sg fun x _ => blob_spotOf N x.1 x.2.1) blob_spotOf_pk (blob_spotOf_LP N) (show LoopsOk (blob_spotOf_LP N) (blob_spotOf_E N) N (resD (blob_spotOf_E N) Tryd.f67 (blob_spotOf_sg fun x _ => blob_spotOf N x.1 x.2.1) blob_spotOf_pk) [] from trivial) x y).trans (blob_spotOf_core N x y)).trans h)
def blob_Same (_N : Nat) (x0 : Str × Bool × List UInt8) (x1 : Str × Bool × List UInt8) : Option Bool :=
  br (x0.2.1 == x1.2.1)
    (some (x0.2.2 == x1.2.2))
    (some false)
abbrev blob_Same_sg (f : SV [.v (.pr .str (.pr .bool (.sl .u8))), .v (.pr .str (.pr .bool (.sl .u8)))] → BV [] → Option (Bool)) : AF := { ps := [.v (.pr .str (.pr .bool (.sl .u8))), .v (.pr .str (.pr .bool (.sl .u8)))], bs := [], rs := [.v .bool], cs := [], R := Bool, out := fun z => ((z, ()), ()), f := f }
abbrev blob_Same_pk : SV [.v .bool] → BV [] → Bool := fun x _ => x.1
def blob_Same_fn (_N : Nat) : FuncId → Option Tmp → Option AF := fun f _ =>
  match f with
    | _ => none
theorem blob_Same_fn_ok (N : Nat) : ∀ f q F, blob_Same_fn N f q = some F → Sound Tryd.prog GW B0G f F := by
  intro f q F h
  unfold blob_Same_fn at h
  split at h
  · cases h
def blob_Same_h : Nat → Hint := fun i =>
  match i with
  | _ => ⟨[], [], [], [], [], []⟩
abbrev blob_Same_E (N : Nat) : Env := mkE blob_Same_h (blob_Same_fn N) (fun _ => false) (fun _ => false)
noncomputable def blob_Same_LP (N : Nat) : Nat → Code → St → (Ex → St → Option Bool) → Option Bool := fun i c =>
  match i with
  | i => fun st k => iter (blob_Same_h i) (exec (blob_Same_E N) N c i) N st k
theorem blob_Same_core (N : Nat) (x : SV [.v (.pr .str (.pr .bool (.sl .u8))), .v (.pr .str (.pr .bool (.sl .u8)))]) (y : BV []) : runL (blob_Same_E N) Tryd.f100 (blob_Same_sg fun x _ => blob_Same N x.1 x.2.1) blob_Same_pk (blob_Same_LP N) x y = blob_Same N x.1 x.2.1 := by kernel_rfl
theorem blob_Same_sound (N : Nat) : Sound Tryd.prog GW B0G 100 (blob_Same_sg fun x _ => blob_Same N x.1 x.2.1) :=
  runD_sound (mkE_ok blob_Same_h (blob_Same_fn N) _ _ (blob_Same_fn_ok N)) Tryd.func100 rfl Tryd.call100 (blob_Same_sg fun x _ => blob_Same N x.1 x.2.1) blob_Same_pk (fun _ _ => rfl) N (fun x y _ h => ((runL_eq (blob_Same_E N) N Tryd.f100 (blob_Same_sg fun x _ => blob_Same N x.1 x.2.1) blob_Same_pk (blob_Same_LP N) (show LoopsOk (blob_Same_LP N) (blob_Same_E N) N (resD (blob_Same_E N) Tryd.f100 (blob_Same_sg fun x _ => blob_Same N x.1 x.2.1) blob_Same_pk) [] from trivial) x y).trans (blob_Same_core N x y)).trans h)
def blob_spot_same (N : Nat) (x0 : (Str × Bool × List UInt8) × Bool) (x1 : (Str × Bool × List UInt8) × Bool) : Option Bool :=
  br (x0.2 == x1.2)
    (br (!x0.2)
      (some true)
      (bnd (blob_Same N x0.1 x1.1) fun t19 =>
      some t19))
    (some false)
abbrev blob_spot_same_sg (f : SV [.v (.pr (.pr .str (.pr .bool (.sl .u8))) .bool), .v (.pr (.pr .str (.pr .bool (.sl .u8))) .bool)] → BV [] → Option (Bool)) : AF := { ps := [.v (.pr (.pr .str (.pr .bool (.sl .u8))) .bool), .v (.pr (.pr .str (.pr .bool (.sl .u8))) .bool)], bs := [], rs := [.v .bool], cs := [], R := Bool, out := fun z => ((z, ()), ()), f := f }
abbrev blob_spot_same_pk : SV [.v .bool] → BV [] → Bool := fun x _ => x.1
def blob_spot_same_fn (N : Nat) : FuncId → Option Tmp → Option AF := fun f _ =>
  match f with
    | 100 => some (blob_Same_sg fun x _ => blob_Same N x.1 x.2.1)
    | _ => none
theorem blob_spot_same_fn_ok (N : Nat) : ∀ f q F, blob_spot_same_fn N f q = some F → Sound Tryd.prog GW B0G f F := by
  intro f q F h
  unfold blob_spot_same_fn at h
  split at h
  · cases h; exact blob_Same_sound N
  · cases h
def blob_spot_same_h : Nat → Hint := fun i =>
  match i with
  | _ => ⟨[], [], [], [], [], []⟩
abbrev blob_spot_same_E (N : Nat) : Env := mkE blob_spot_same_h (blob_spot_same_fn N) (fun _ => false) (fun _ => false)
noncomputable def blob_spot_same_LP (N : Nat) : Nat → Code → St → (Ex → St → Option Bool) → Option Bool := fun i c =>
  match i with
  | i => fun st k => iter (blob_spot_same_h i) (exec (blob_spot_same_E N) N c i) N st k
theorem blob_spot_same_core (N : Nat) (x : SV [.v (.pr (.pr .str (.pr .bool (.sl .u8))) .bool), .v (.pr (.pr .str (.pr .bool (.sl .u8))) .bool)]) (y : BV []) : runL (blob_spot_same_E N) Tryd.f68 (blob_spot_same_sg fun x _ => blob_spot_same N x.1 x.2.1) blob_spot_same_pk (blob_spot_same_LP N) x y = blob_spot_same N x.1 x.2.1 := by kernel_rfl
theorem blob_spot_same_sound (N : Nat) : Sound Tryd.prog GW B0G 68 (blob_spot_same_sg fun x _ => blob_spot_same N x.1 x.2.1) :=
  runD_sound (mkE_ok blob_spot_same_h (blob_spot_same_fn N) _ _ (blob_spot_same_fn_ok N)) Tryd.func68 rfl Tryd.call68 (blob_spot_same_sg fun x _ => blob_spot_same N x.1 x.2.1) blob_spot_same_pk (fun _ _ => rfl) N (fun x y _ h => ((runL_eq (blob_spot_same_E N) N Tryd.f68 (blob_spot_same_sg fun x _ => blob_spot_same N x.1 x.2.1) blob_spot_same_pk (blob_spot_same_LP N) (show LoopsOk (blob_spot_same_LP N) (blob_spot_same_E N) N (resD (blob_spot_same_E N) Tryd.f68 (blob_spot_same_sg fun x _ => blob_spot_same N x.1 x.2.1) blob_spot_same_pk) [] from trivial) x y).trans (blob_spot_same_core N x y)).trans h)
def blob_Merge_1 (N : Nat) (x0 : Str × Bool × List UInt8) (m2 : List (Str × Bool)) (m3 : List (Str × Bool)) : Option (Bool × (List (Str × Bool)) × List (Str × Bool)) :=
  bnd (blob_clashes N m2 x0.1) fun t8 =>
  br (t8)
    (some (true, (m2, mset m3 x0.1 true)))
    (some (false, (m2, m3)))
abbrev blob_Merge_1_sg (f : SV [.v (.pr .str (.pr .bool (.sl .u8))), .box 0 0, .box 1 0] → BV [.cells [.mref 2], .cells [.mref 3], .map .bool, .map .bool] → Option (Bool × (List (Str × Bool)) × List (Str × Bool))) : AF := { ps := [.v (.pr .str (.pr .bool (.sl .u8))), .box 0 0, .box 1 0], bs := [.cells [.mref 2], .cells [.mref 3], .map .bool, .map .bool], rs := [.v .bool], cs := [.cells [.mref 2], .cells [.mref 3], .map .bool, .map .bool], R := Bool × (List (Str × Bool)) × List (Str × Bool), out := fun z => ((z.1, ()), (((), ()), ((), ()), z.2.1, z.2.2, ())), f := f }
abbrev blob_Merge_1_pk : SV [.v .bool] → BV [.cells [.mref 2], .cells [.mref 3], .map .bool, .map .bool] → (Bool × (List (Str × Bool)) × List (Str × Bool)) := fun x y => (x.1, y.2.2.1, y.2.2.2.1)
def blob_Merge_1_fn (N : Nat) : FuncId → Option Tmp → Option AF := fun f _ =>
  match f with
    | 70 => some (blob_clashes_sg fun x _ => blob_clashes N x.1 x.2.1)
    | _ => none
theorem blob_Merge_1_fn_ok (N : Nat) : ∀ f q F, blob_Merge_1_fn N f q = some F → Sound Tryd.prog GW B0G f F := by
  intro f q F h
  unfold blob_Merge_1_fn at h
  split at h
  · cases h; exact blob_clashes_sound N
  · cases h
def blob_Merge_1_h : Nat → Hint := fun i =>
  match i with
  | _ => ⟨[], [], [], [], [], []⟩
abbrev blob_Merge_1_E (N : Nat) : Env := mkE blob_Merge_1_h (blob_Merge_1_fn N) (fun _ => false) (fun _ => false)
noncomputable def blob_Merge_1_LP (N : Nat) : Nat → Code → St → (Ex → St → Option (Bool × (List (Str × Bool)) × List (Str × Bool))) → Option (Bool × (List (Str × Bool)) × List (Str × Bool)) := fun i c =>
  match i with
  | i => fun st k => iter (blob_Merge_1_h i) (exec (blob_Merge_1_E N) N c i) N st k
theorem blob_Merge_1_core (N : Nat) (x : SV [.v (.pr .str (.pr .bool (.sl .u8))), .box 0 0, .box 1 0]) (y : BV [.cells [.mref 2], .cells [.mref 3], .map .bool, .map .bool]) : runL (blob_Merge_1_E N) Tryd.f69 (blob_Merge_1_sg fun x y => blob_Merge_1 N x.1 y.2.2.1 y.2.2.2.1) blob_Merge_1_pk (blob_Merge_1_LP N) x y = blob_Merge_1 N x.1 y.2.2.1 y.2.2.2.1 := by kernel_rfl
theorem blob_Merge_1_sound (N : Nat) : Sound Tryd.prog GW B0G 69 (blob_Merge_1_sg fun x y => blob_Merge_1 N x.1 y.2.2.1 y.2.2.2.1) :=
  runD_sound (mkE_ok blob_Merge_1_h (blob_Merge_1_fn N) _ _ (blob_Merge_1_fn_ok N)) Tryd.func69 rfl Tryd.call69 (blob_Merge_1_sg fun x y => blob_Merge_1 N x.1 y.2.2.1 y.2.2.2.1) blob_Merge_1_pk (fun _ _ => rfl) N (fun x y _ h => ((runL_eq (blob_Merge_1_E N) N Tryd.f69 (blob_Merge_1_sg fun x y => blob_Merge_1 N x.1 y.2.2.1 y.2.2.2.1) blob_Merge_1_pk (blob_Merge_1_LP N) (show LoopsOk (blob_Merge_1_LP N) (blob_Merge_1_E N) N (resD (blob_Merge_1_E N) Tryd.f69 (blob_Merge_1_sg fun x y => blob_Merge_1 N x.1 y.2.2.1 y.2.2.2.1) blob_Merge_1_pk) [] from trivial) x y).trans (blob_Merge_1_core N x y)).trans h)
def slices_IndexFunc_api_File_2_L0T (N : Nat) (x0 : List (Str × Bool × List UInt8)) (c7 : Int) (k0 : (List (Str × Bool)) → (List (Str × Bool)) → Option (Int × (List (Str × Bool)) × List (Str × Bool))) (self : Int → (List (Str × Bool)) → (List (Str × Bool)) → Option (Int × (List (Str × Bool)) × List (Str × Bool))) (s8 : Int) (m2_1 : List (Str × Bool)) (m3_2 : List (Str × Bool)) : Option (Int × (List (Str × Bool)) × List (Str × Bool)) :=
  br (decide (s8 < c7))
    (bnd (geti x0 s8) fun t14 =>
    bnd (blob_Merge_1 N t14 m2_1 m3_2) fun t16 =>
    br (t16.1)
      (some (s8, t16.2))
      (self (IntKind.i64.wrap (s8 + (1 : Int))) t16.2.1 t16.2.2))
    (k0 m2_1 m3_2)
def slices_IndexFunc_api_File_2_L0 (N : Nat) (x0 : List (Str × Bool × List UInt8)) (c7 : Int) (k0 : (List (Str × Bool)) → (List (Str × Bool)) → Option (Int × (List (Str × Bool)) × List (Str × Bool))) : Nat → Int → (List (Str × Bool)) → (List (Str × Bool)) → Option (Int × (List (Str × Bool)) × List (Str × Bool))
  | 0, _, _, _ => none
  | n + 1, s8, m2_1, m3_2 => slices_IndexFunc_api_File_2_L0T N x0 c7 k0 (slices_IndexFunc_api_File_2_L0 N x0 c7 k0 n) s8 m2_1 m3_2
def slices_IndexFunc_api_File_2 (N : Nat) (x0 : List (Str × Bool × List UInt8)) (m2 : List (Str × Bool)) (m3 : List (Str × Bool)) : Option (Int × (List (Str × Bool)) × List (Str × Bool)) :=
  slices_IndexFunc_api_File_2_L0 N x0 (x0.length : Int) (fun o0_m2 o0_m3 =>
      some ((-1 : Int), (o0_m2, o0_m3))) N (0 : Int) m2 m3
abbrev slices_IndexFunc_api_File_2_sg (f : SV [.v (.sl (.pr .str (.pr .bool (.sl .u8)))), .fnc 69 [0, 1]] → BV [.cells [.mref 2], .cells [.mref 3], .map .bool, .map .bool] → Option (Int × (List (Str × Bool)) × List (Str × Bool))) : AF := { ps := [.v (.sl (.pr .str (.pr .bool (.sl .u8)))), .fnc 69 [0, 1]], bs := [.cells [.mref 2], .cells [.mref 3], .map .bool, .map .bool], rs := [.v (.int .i64)], cs := [.cells [.mref 2], .cells [.mref 3], .map .bool, .map .bool], R := Int × (List (Str × Bool)) × List (Str × Bool), out := fun z => ((z.1, ()), (((), ()), ((), ()), z.2.1, z.2.2, ())), f := f }
abbrev slices_IndexFunc_api_File_2_pk : SV [.v (.int .i64)] → BV [.cells [.mref 2], .cells [.mref 3], .map .bool, .map .bool] → (Int × (List (Str × Bool)) × List (Str × Bool)) := fun x y => (x.1, y.2.2.1, y.2.2.2.1)
def slices_IndexFunc_api_File_2_fn (N : Nat) : FuncId → Option Tmp → Option AF := fun f _ =>
  match f with
    | 69 => some (blob_Merge_1_sg fun x y => blob_Merge_1 N x.1 y.2.2.1 y.2.2.2.1)
    | _ => none
theorem slices_IndexFunc_api_File_2_fn_ok (N : Nat) : ∀ f q F, slices_IndexFunc_api_File_2_fn N f q = some F → Sound Tryd.prog GW B0G f F := by
  intro f q F h
  unfold slices_IndexFunc_api_File_2_fn at h
  split at h
  · cases h; exact blob_Merge_1_sound N
  · cases h
def slices_IndexFunc_api_File_2_h : Nat → Hint := fun i =>
  match i with
  | 0 => ⟨[], [0, 1, 7, 8], [0, 1, 2, 3], [], [0, 1, 2, 3], []⟩
  | _ => ⟨[], [], [], [], [], []⟩
abbrev slices_IndexFunc_api_File_2_E (N : Nat) : Env := mkE slices_IndexFunc_api_File_2_h (slices_IndexFunc_api_File_2_fn N) (fun _ => false) (fun _ => false)
abbrev slices_IndexFunc_api_File_2_L0_fs : List (Nat × Sl) := [(0, .v (.sl (.pr .str (.pr .bool (.sl .u8))))), (1, .fnc 69 [0, 1]), (7, .v (.int .i64)), (8, .v (.int .i64))]
abbrev slices_IndexFunc_api_File_2_L0_bs : List (Nat × Sb) := [(0, .cells [.mref 2]), (1, .cells [.mref 3]), (2, .map .bool), (3, .map .bool)]
def slices_IndexFunc_api_File_2_L0_hd (x0 : List (Str × Bool × List UInt8)) (c7 : Int) (s8 : Int) (m2_1 : List (Str × Bool)) (m3_2 : List (Str × Bool)) : St := ⟨19, [(0, .v (.sl (.pr .str (.pr .bool (.sl .u8)))) x0), (1, .fnc 69 [0, 1]), (7, .v (.int .i64) c7), (8, .v (.int .i64) s8)], [(0, .cells [.mref 2]), (1, .cells [.mref 3]), (2, .map .bool m2_1), (3, .map .bool m3_2)]⟩
def slices_IndexFunc_api_File_2_L0_tl0 (_x0 : List (Str × Bool × List UInt8)) (_c7 : Int) (o0_m2 : List (Str × Bool)) (o0_m3 : List (Str × Bool)) : St := ⟨19, [], [(0, .cells [.mref 2]), (1, .cells [.mref 3]), (2, .map .bool o0_m2), (3, .map .bool o0_m3)]⟩
def slices_IndexFunc_api_File_2_L0_G (N : Nat) (x0 : List (Str × Bool × List UInt8)) (c7 : Int) (s8 : Int) (m2_1 : List (Str × Bool)) (m3_2 : List (Str × Bool)) (k : Ex → St → Option (Int × (List (Str × Bool)) × List (Str × Bool))) : Option (Int × (List (Str × Bool)) × List (Str × Bool)) :=
  slices_IndexFunc_api_File_2_L0 N x0 c7 (fun o0_m2 o0_m3 => k (.exit 0) (slices_IndexFunc_api_File_2_L0_tl0 x0 c7 o0_m2 o0_m3)) N s8 m2_1 m3_2
abbrev slices_IndexFunc_api_File_2_L0_F (N : Nat) : FV slices_IndexFunc_api_File_2_L0_fs → HV slices_IndexFunc_api_File_2_L0_bs → (Ex → St → Option (Int × (List (Str × Bool)) × List (Str × Bool))) → Option (Int × (List (Str × Bool)) × List (Str × Bool)) := fun x y k => slices_IndexFunc_api_File_2_L0_G N x.1 x.2.2.1 x.2.2.2.1 y.2.2.1 y.2.2.2.1 k
noncomputable def slices_IndexFunc_api_File_2_LP (N : Nat) : Nat → Code → St → (Ex → St → Option (Int × (List (Str × Bool)) × List (Str × Bool))) → Option (Int × (List (Str × Bool)) × List (Str × Bool)) := fun i c =>
  match i with
  | 0 => (LPc 19 slices_IndexFunc_api_File_2_L0_fs slices_IndexFunc_api_File_2_L0_bs (slices_IndexFunc_api_File_2_L0_F N) (fun st k => iter (slices_IndexFunc_api_File_2_h 0) (exec (slices_IndexFunc_api_File_2_E N) N c 0) N st k))
  | i => fun st k => iter (slices_IndexFunc_api_File_2_h i) (exec (slices_IndexFunc_api_File_2_E N) N c i) N st k
theorem slices_IndexFunc_api_File_2_L0_step (N : Nat) (x0 : List (Str × Bool × List UInt8)) (c7 : Int) (KX : Nat → St → Option (Int × (List (Str × Bool)) × List (Str × Bool))) (I : St → Option (Int × (List (Str × Bool)) × List (Str × Bool))) (s8 : Int) (m2_1 : List (Str × Bool)) (m3_2 : List (Str × Bool)) :
    execL (slices_IndexFunc_api_File_2_LP N) (slices_IndexFunc_api_File_2_E N) (cAt (bodyOf Tryd.f96) [true, false, true, false, false]) 0 (slices_IndexFunc_api_File_2_L0_hd x0 c7 s8 m2_1 m3_2) (roundK (slices_IndexFunc_api_File_2_h 0) I KX (resD (slices_IndexFunc_api_File_2_E N) Tryd.f96 (slices_IndexFunc_api_File_2_sg fun x y => slices_IndexFunc_api_File_2 N x.1 y.2.2.1 y.2.2.2.1) slices_IndexFunc_api_File_2_pk)) = slices_IndexFunc_api_File_2_L0T N x0 c7 (fun o0_m2 o0_m3 => KX 0 (slices_IndexFunc_api_File_2_L0_tl0 x0 c7 o0_m2 o0_m3)) (fun s8 m2_1 m3_2 => I (slices_IndexFunc_api_File_2_L0_hd x0 c7 s8 m2_1 m3_2)) s8 m2_1 m3_2 := by kernel_rfl
theorem slices_IndexFunc_api_File_2_L0_ok (N : Nat) : ∀ x y k, (∀ st, k .ret st = (resD (slices_IndexFunc_api_File_2_E N) Tryd.f96 (slices_IndexFunc_api_File_2_sg fun x y => slices_IndexFunc_api_File_2 N x.1 y.2.2.1 y.2.2.2.1) slices_IndexFunc_api_File_2_pk) st) → iter (slices_IndexFunc_api_File_2_h 0) (exec (slices_IndexFunc_api_File_2_E N) N (cAt (bodyOf Tryd.f96) [true, false, true, false, false]) 0) N ⟨19, unF slices_IndexFunc_api_File_2_L0_fs x, unH slices_IndexFunc_api_File_2_L0_bs y⟩ k = slices_IndexFunc_api_File_2_L0_F N x y k := fun x y k hk =>
  iter_link (S := (Int) × (List (Str × Bool)) × (List (Str × Bool)) × Unit) (slices_IndexFunc_api_File_2_h 0) _ (execL (slices_IndexFunc_api_File_2_LP N) (slices_IndexFunc_api_File_2_E N) (cAt (bodyOf Tryd.f96) [true, false, true, false, false]) 0) (resD (slices_IndexFunc_api_File_2_E N) Tryd.f96 (slices_IndexFunc_api_File_2_sg fun x y => slices_IndexFunc_api_File_2 N x.1 y.2.2.1 y.2.2.2.1) slices_IndexFunc_api_File_2_pk) (fun st k hk => execL_eq _ _ N _ (cAt (bodyOf Tryd.f96) [true, false, true, false, false]) 0 (show LoopsOk (slices_IndexFunc_api_File_2_LP N) (slices_IndexFunc_api_File_2_E N) N (resD (slices_IndexFunc_api_File_2_E N) Tryd.f96 (slices_IndexFunc_api_File_2_sg fun x y => slices_IndexFunc_api_File_2 N x.1 y.2.2.1 y.2.2.2.1) slices_IndexFunc_api_File_2_pk) [] from trivial) st k hk) (fun s => slices_IndexFunc_api_File_2_L0_hd x.1 x.2.2.1 s.1 s.2.1 s.2.2.1) k hk
    (fun self s => slices_IndexFunc_api_File_2_L0T N x.1 x.2.2.1 (fun o0_m2 o0_m3 => k (.exit 0) (slices_IndexFunc_api_File_2_L0_tl0 x.1 x.2.2.1 o0_m2 o0_m3)) (fun s8 m2_1 m3_2 => self (s8, m2_1, m3_2, ())) s.1 s.2.1 s.2.2.1) (fun n s => slices_IndexFunc_api_File_2_L0 N x.1 x.2.2.1 (fun o0_m2 o0_m3 => k (.exit 0) (slices_IndexFunc_api_File_2_L0_tl0 x.1 x.2.2.1 o0_m2 o0_m3)) n s.1 s.2.1 s.2.2.1) (fun _ => rfl) (fun _ _ => rfl)
    (fun I s => slices_IndexFunc_api_File_2_L0_step N x.1 x.2.2.1 (fun j => k (.exit j)) I s.1 s.2.1 s.2.2.1) N (x.2.2.2.1, y.2.2.1, y.2.2.2.1, ())
theorem slices_IndexFunc_api_File_2_lp0 (N : Nat) : ∀ st k, (∀ st, k .ret st = (resD (slices_IndexFunc_api_File_2_E N) Tryd.f96 (slices_IndexFunc_api_File_2_sg fun x y => slices_IndexFunc_api_File_2 N x.1 y.2.2.1 y.2.2.2.1) slices_IndexFunc_api_File_2_pk) st) → slices_IndexFunc_api_File_2_LP N 0 (cAt (bodyOf Tryd.f96) [true, false, true, false, false]) st k = iter (Env.hint (slices_IndexFunc_api_File_2_E N) 0) (exec (slices_IndexFunc_api_File_2_E N) N (cAt (bodyOf Tryd.f96) [true, false, true, false, false]) 0) N st k := fun st k hk => LPc_eq 19 slices_IndexFunc_api_File_2_L0_fs slices_IndexFunc_api_File_2_L0_bs _ _ (resD (slices_IndexFunc_api_File_2_E N) Tryd.f96 (slices_IndexFunc_api_File_2_sg fun x y => slices_IndexFunc_api_File_2 N x.1 y.2.2.1 y.2.2.2.1) slices_IndexFunc_api_File_2_pk) (slices_IndexFunc_api_File_2_L0_ok N) _ st k hk (rfl)
theorem slices_IndexFunc_api_File_2_core (N : Nat) (x : SV [.v (.sl (.pr .str (.pr .bool (.sl .u8)))), .fnc 69 [0, 1]]) (y : BV [.cells [.mref 2], .cells [.mref 3], .map .bool, .map .bool]) : runL (slices_IndexFunc_api_File_2_E N) Tryd.f96 (slices_IndexFunc_api_File_2_sg fun x y => slices_IndexFunc_api_File_2 N x.1 y.2.2.1 y.2.2.2.1) slices_IndexFunc_api_File_2_pk (slices_IndexFunc_api_File_2_LP N) x y = slices_IndexFunc_api_File_2 N x.1 y.2.2.1 y.2.2.2.1 := by kernel_rfl
theorem slices_IndexFunc_api_File_2_sound (N : Nat) : Sound Tryd.prog GW B0G 96 (slices_IndexFunc_api_File_2_sg fun x y => slices_IndexFunc_api_File_2 N x.1 y.2.2.1 y.2.2.2.1) :=
  runD_sound (mkE_ok slices_IndexFunc_api_File_2_h (slices_IndexFunc_api_File_2_fn N) _ _ (slices_IndexFunc_api_File_2_fn_ok N)) Tryd.func96 rfl Tryd.call96 (slices_IndexFunc_api_File_2_sg fun x y => slices_IndexFunc_api_File_2 N x.1 y.2.2.1 y.2.2.2.1) slices_IndexFunc_api_File_2_pk (fun _ _ => rfl) N (fun x y _ h => ((runL_eq (slices_IndexFunc_api_File_2_E N) N Tryd.f96 (slices_IndexFunc_api_File_2_sg fun x y => slices_IndexFunc_api_File_2 N x.1 y.2.2.1 y.2.2.2.1) slices_IndexFunc_api_File_2_pk (slices_IndexFunc_api_File_2_LP N) (show LoopsOk (slices_IndexFunc_api_File_2_LP N) (slices_IndexFunc_api_File_2_E N) N (resD (slices_IndexFunc_api_File_2_E N) Tryd.f96 (slices_IndexFunc_api_File_2_sg fun x y => slices_IndexFunc_api_File_2 N x.1 y.2.2.1 y.2.2.2.1) slices_IndexFunc_api_File_2_pk) [(0, (cAt (bodyOf Tryd.f96) [true, false, true, false, false]))] from ⟨slices_IndexFunc_api_File_2_lp0 N, trivial⟩) x y).trans (slices_IndexFunc_api_File_2_core N x y)).trans h)
end
end Go.Proofs.YthlkidohpiebiaaDoor

