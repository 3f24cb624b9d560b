/- What functions of the program compute, as plain functions (printed). -/
import Derived.Test.YthlkidohpiebiaaDoorQBnF2
import Derived.Shelf.SlSortCmp.WholeK
import Derived.Shelf.SlGeneric
import Derived.Shelf.SortM.Plain
import Derived.Shelf.SortM.SortNone
import Derived.Ground.SlgmProg
import Derived.Test.YthlkidohpiebiaaDoorProg
import Derived.Shelf.SlIter.Nil
import Derived.Ground.GgzProg
namespace Go.Proofs.YthlkidohpiebiaaDoor
open Go Go.RowKit
set_option maxRecDepth 100000
set_option linter.unusedVariables false
noncomputable section
def blob_clashes_L0T (_N : Nat) (x0 : List (Str × Bool)) (x1 : Str) (c7 : Int) (k0 : Option Bool) (self : Int → Option Bool) (s8 : Int) : Option Bool :=
  br (decide (s8 < c7))
    (bnd (geti x1 s8) fun t13 =>
    br (t13 == (47 : UInt8))
      (bnd (slc x1 (0 : Int) s8) fun t19 =>
      br ((mget x0 t19).getD (zero .bool))
        (some true)
        (self (IntKind.i64.wrap (s8 + (1 : Int)))))
      (self (IntKind.i64.wrap (s8 + (1 : Int)))))
    (k0)
def blob_clashes_L0 (N : Nat) (x0 : List (Str × Bool)) (x1 : Str) (c7 : Int) (k0 : Option Bool) : Nat → Int → Option Bool
  | 0, _ => none
  | n + 1, s8 => blob_clashes_L0T N x0 x1 c7 k0 (blob_clashes_L0 N x0 x1 c7 k0 n) s8
def blob_clashes (N : Nat) (x0 : List (Str × Bool)) (x1 : Str) : Option Bool :=
  blob_clashes_L0 N x0 x1 (x1.length : Int) (some false) N (0 : Int)
abbrev blob_clashes_sg (f : SV [.v (.mp .bool), .v .str] → BV [] → Option (Bool)) : AF := { ps := [.v (.mp .bool), .v .str], bs := [], rs := [.v .bool], cs := [], R := Bool, out := fun z => ((z, ()), ()), f := f }
abbrev blob_clashes_pk : SV [.v .bool] → BV [] → Bool := fun x _ => x.1
def blob_clashes_fn (_N : Nat) : FuncId → Option Tmp → Option AF := fun f _ =>
  match f with
    | _ => none
theorem blob_clashes_fn_ok (N : Nat) : ∀ f q F, blob_clashes_fn N f q = some F → Sound Tryd.prog GW B0G f F := by
  intro f q F h
  unfold blob_clashes_fn at h
  split at h
  · cases h
def blob_clashes_h : Nat → Hint := fun i =>
  match i with
  | 0 => ⟨[], [0, 1, 7, 8], [], [], [], []⟩
  | _ => ⟨[], [], [], [], [], []⟩
abbrev blob_clashes_E (N : Nat) : Env := mkE blob_clashes_h (blob_clashes_fn N) (fun _ => false) (fun _ => false)
abbrev blob_clashes_L0_fs : List (Nat × Sl) := [(0, .v (.mp .bool)), (1, .v .str), (7, .v (.int .i64)), (8, .v (.int .i64))]
abbrev blob_clashes_L0_bs : List (Nat × Sb) := []
def blob_clashes_L0_hd (x0 : List (Str × Bool)) (x1 : Str) (c7 : Int) (s8 : Int) : St := ⟨23, [(0, .v (.mp .bool) x0), (1, .v .str x1), (7, .v (.int .i64) c7), (8, .v (.int .i64) s8)], []⟩
def blob_clashes_L0_tl0 (_x0 : List (Str × Bool)) (_x1 : Str) (_c7 : Int) : St := ⟨23, [], []⟩
def blob_clashes_L0_G (N : Nat) (x0 : List (Str × Bool)) (x1 : Str) (c7 : Int) (s8 : Int) (k : Ex → St → Option Bool) : Option Bool :=
  blob_clashes_L0 N x0 x1 c7 (k (.exit 0) (blob_clashes_L0_tl0 x0 x1 c7)) N s8
abbrev blob_clashes_L0_F (N : Nat) : FV blob_clashes_L0_fs → HV blob_clashes_L0_bs → (Ex → St → Option Bool) → Option Bool := fun x _ k => blob_clashes_L0_G N x.1 x.2.1 x.2.2.1 x.2.2.2.1 k
noncomputable def blob_clashes_LP (N : Nat) : Nat → Code → St → (Ex → St → Option Bool) → Option Bool := fun i c =>
  match i with
  | 0 => (LPc 23 blob_clashes_L0_fs blob_clashes_L0_bs (blob_clashes_L0_F N) (fun st k => iter (blob_clashes_h 0) (exec (blob_clashes_E N) N c 0) N st k))
  | i => fun st k => iter (blob_clashes_h i) (exec (blob_clashes_E N) N c i) N st k
theorem blob_clashes_L0_step (N : Nat) (x0 : List (Str × Bool)) (x1 : Str) (c7 : Int) (KX : Nat → St → Option Bool) (I : St → Option Bool) (s8 : Int) :
    execL (blob_clashes_LP N) (blob_clashes_E N) (cAt (bodyOf Tryd.f70) [true, false, true, false, false]) 0 (blob_clashes_L0_hd x0 x1 c7 s8) (roundK (blob_clashes_h 0) I KX (resD (blob_clashes_E N) Tryd.f70 (blob_clashes_sg fun x _ => blob_clashes N x.1 x.2.1) blob_clashes_pk)) = blob_clashes_L0T N x0 x1 c7 (KX 0 (blob_clashes_L0_tl0 x0 x1 c7)) (fun s8 => I (blob_clashes_L0_hd x0 x1 c7 s8)) s8 := by kernel_rfl
theorem blob_clashes_L0_ok (N : Nat) : ∀ x y k, (∀ st, k .ret st = (resD (blob_clashes_E N) Tryd.f70 (blob_clashes_sg fun x _ => blob_clashes N x.1 x.2.1) blob_clashes_pk) st) → iter (blob_clashes_h 0) (exec (blob_clashes_E N) N (cAt (bodyOf Tryd.f70) [true, false, true, false, false]) 0) N ⟨23, unF blob_clashes_L0_fs x, unH blob_clashes_L0_bs y⟩ k = blob_clashes_L0_F N x y k := fun x _ k hk =>
  iter_link (S := (Int) × Unit) (blob_clashes_h 0) _ (execL (blob_clashes_LP N) (blob_clashes_E N) (cAt (bodyOf Tryd.f70) [true, false, true, false, false]) 0) (resD (blob_clashes_E N) Tryd.f70 (blob_clashes_sg fun x _ => blob_clashes N x.1 x.2.1) blob_clashes_pk) (fun st k hk => execL_eq _ _ N _ (cAt (bodyOf Tryd.f70) [true, false, true, false, false]) 0 (show LoopsOk (blob_clashes_LP N) (blob_clashes_E N) N (resD (blob_clashes_E N) Tryd.f70 (blob_clashes_sg fun x _ => blob_clashes N x.1 x.2.1) blob_clashes_pk) [] from trivial) st k hk) (fun s => blob_clashes_L0_hd x.1 x.2.1 x.2.2.1 s.1) k hk
    (fun self s => blob_clashes_L0T N x.1 x.2.1 x.2.2.1 (k (.exit 0) (blob_clashes_L0_tl0 x.1 x.2.1 x.2.2.1)) (fun s8 => self (s8, ())) s.1) (fun n s => blob_clashes_L0 N x.1 x.2.1 x.2.2.1 (k (.exit 0) (blob_clashes_L0_tl0 x.1 x.2.1 x.2.2.1)) n s.1) (fun _ => rfl) (fun _ _ => rfl)
    (fun I s => blob_clashes_L0_step N x.1 x.2.1 x.2.2.1 (fun j => k (.exit j)) I s.1) N (x.2.2.2.1, ())
theorem blob_clashes_lp0 (N : Nat) : ∀ st k, (∀ st, k .ret st = (resD (blob_clashes_E N) Tryd.f70 (blob_clashes_sg fun x _ => blob_clashes N x.1 x.2.1) blob_clashes_pk) st) → blob_clashes_LP N 0 (cAt (bodyOf Tryd.f70) [true, false, true, false, false]) st k = iter (Env.hint (blob_clashes_E N) 0) (exec (blob_clashes_E N) N (cAt (bodyOf Tryd.f70) [true, false, true, false, false]) 0) N st k := fun st k hk => LPc_eq 23 blob_clashes_L0_fs blob_clashes_L0_bs _ _ (resD (blob_clashes_E N) Tryd.f70 (blob_clashes_sg fun x _ => blob_clashes N x.1 x.2.1) blob_clashes_pk) (blob_clashes_L0_ok N) _ st k hk (rfl)
theorem blob_clashes_core (N : Nat) (x : SV [.v (.mp .bool), .v .str]) (y : BV []) : runL (blob_clashes_E N) Tryd.f70 (blob_clashes_sg fun x _ => blob_clashes N x.1 x.2.1) blob_clashes_pk (blob_clashes_LP N) x y = blob_clashes N x.1 x.2.1 := by kernel_rfl
theorem blob_clashes_sound (N : Nat) : Sound Tryd.prog GW B0G 70 (blob_clashes_sg fun x _ => blob_clashes N x.1 x.2.1) :=
  runD_sound (mkE_ok blob_clashes_h (blob_clashes_fn N) _ _ (blob_clashes_fn_ok N)) Tryd.func70 rfl Tryd.call70 (blob_clashes_sg fun x _ => blob_clashes N x.1 x.2.1) blob_clashes_pk (fun _ _ => rfl) N (fun x y _ h => ((runL_eq (blob_clashes_E N) N Tryd.f70 (blob_clashes_sg fun x _ => blob_clashes N x.1 x.2.1) blob_clashes_pk (blob_clashes_LP N) (show LoopsOk (blob_clashes_LP N) (blob_clashes_E N) N (resD (blob_clashes_E N) Tryd.f70 (blob_clashes_sg fun x _ => blob_clashes N x.1 x.2.1) blob_clashes_pk) [(0, (cAt (bodyOf Tryd.f70) [true, false, true, false, false]))] from ⟨blob_clashes_lp0 N, trivial⟩) x y).trans (blob_clashes_core N x y)).trans h)
def blob_CheckFiles_L0T (N : Nat) (x0 : List (Str × Bool × List UInt8)) (c13 : List (Str × Bool × List UInt8)) (c14 : Int) (k0 : Int → (List (Str × Bool)) → Option Int) (self : Int → Int → (List (Str × Bool)) → Option Int) (s3 : Int) (s15 : Int) (m1012 : List (Str × Bool)) : Option Int :=
  br (decide (s15 < c14))
    (bnd (geti c13 s15) fun t18 =>
    bnd (blob_IsPath N t18.1) fun t23 =>
    br (!t23)
      (some (3 : Int))
      (br (decide ((t18.2.2.length : Int) > (100000 : Int)))
        (some (2 : Int))
        (br (decide (s15 > (0 : Int)))
          (bnd (geti x0 (IntKind.i64.wrap (s15 - (1 : Int)))) fun t39 =>
          br (Op.bytesLess t18.1 t39.1 || t18.1 == t39.1)
            (some (8 : Int))
            (self (IntKind.i64.wrap (s3 + (t18.2.2.length : Int))) (IntKind.i64.wrap (s15 + (1 : Int))) (mset m1012 t18.1 true)))
          (self (IntKind.i64.wrap (s3 + (t18.2.2.length : Int))) (IntKind.i64.wrap (s15 + (1 : Int))) (mset m1012 t18.1 true)))))
    (k0 s3 m1012)
def blob_CheckFiles_L0 (N : Nat) (x0 : List (Str × Bool × List UInt8)) (c13 : List (Str × Bool × List UInt8)) (c14 : Int) (k0 : Int → (List (Str × Bool)) → Option Int) : Nat → Int → Int → (List (Str × Bool)) → Option Int
  | 0, _, _, _ => none
  | n + 1, s3, s15, m1012 => blob_CheckFiles_L0T N x0 c13 c14 k0 (blob_CheckFiles_L0 N x0 c13 c14 k0 n) s3 s15 m1012
def blob_CheckFiles_L1T (N : Nat) (x0 : List (Str × Bool × List UInt8)) (c54 : Int) (o0_m1012 : List (Str × Bool)) (k3 : Option Int) (self : Int → Option Int) (s55 : Int) : Option Int :=
  br (decide (s55 < c54))
    (bnd (geti x0 s55) fun t57 =>
    bnd (blob_clashes N o0_m1012 t57.1) fun t62 =>
    br (t62)
      (some (12 : Int))
      (self (IntKind.i64.wrap (s55 + (1 : Int)))))
    (k3)
def blob_CheckFiles_L1 (N : Nat) (x0 : List (Str × Bool × List UInt8)) (c54 : Int) (o0_m1012 : List (Str × Bool)) (k3 : Option Int) : Nat → Int → Option Int
  | 0, _ => none
  | n + 1, s55 => blob_CheckFiles_L1T N x0 c54 o0_m1012 k3 (blob_CheckFiles_L1 N x0 c54 o0_m1012 k3 n) s55
def blob_CheckFiles (N : Nat) (x0 : List (Str × Bool × List UInt8)) : Option Int :=
  br (decide ((x0.length : Int) > (1000 : Int)))
    (some (2 : Int))
    (blob_CheckFiles_L0 N x0 x0 (x0.length : Int) (fun o0_3 o0_m1012 =>
        blob_CheckFiles_L1 N x0 (x0.length : Int) o0_m1012 (br (decide (o0_3 > (2000000 : Int)))
              (some (2 : Int))
              (some (0 : Int))) N (0 : Int)) N (0 : Int) (0 : Int) ([] : List (Str × Bool)))
abbrev blob_CheckFiles_sg (f : SV [.v (.sl (.pr .str (.pr .bool (.sl .u8))))] → BV [] → Option (Int)) : AF := { ps := [.v (.sl (.pr .str (.pr .bool (.sl .u8))))], bs := [], rs := [.v (.int .i64)], cs := [], R := Int, out := fun z => ((z, ()), ()), f := f }
abbrev blob_CheckFiles_pk : SV [.v (.int .i64)] → BV [] → Int := fun x _ => x.1
def blob_CheckFiles_fn (N : Nat) : FuncId → Option Tmp → Option AF := fun f _ =>
  match f with
    | 38 => some (blob_IsPath_sg fun x _ => blob_IsPath N x.1)
    | 70 => some (blob_clashes_sg fun x _ => blob_clashes N x.1 x.2.1)
    | _ => none
theorem blob_CheckFiles_fn_ok (N : Nat) : ∀ f q F, blob_CheckFiles_fn N f q = some F → Sound Tryd.prog GW B0G f F := by
  intro f q F h
  unfold blob_CheckFiles_fn at h
  split at h
  · cases h; exact blob_IsPath_sound N
  · cases h; exact blob_clashes_sound N
  · cases h
def blob_CheckFiles_h : Nat → Hint := fun i =>
  match i with
  | 0 => ⟨[], [0, 3, 4, 13, 14, 15], [1012], [0, 3, 4], [1012], []⟩
  | 3 => ⟨[], [3, 4, 53, 54, 55], [1012], [3], [], []⟩
  | _ => ⟨[], [], [], [], [], []⟩
abbrev blob_CheckFiles_E (N : Nat) : Env := mkE blob_CheckFiles_h (blob_CheckFiles_fn N) (fun _ => false) (fun _ => false)
abbrev blob_CheckFiles_L0_fs : List (Nat × Sl) := [(0, .v (.sl (.pr .str (.pr .bool (.sl .u8))))), (3, .v (.int .i64)), (4, .mref 1012), (13, .v (.sl (.pr .str (.pr .bool (.sl .u8))))), (14, .v (.int .i64)), (15, .v (.int .i64))]
abbrev blob_CheckFiles_L0_bs : List (Nat × Sb) := [(1012, .map .bool)]
def blob_CheckFiles_L0_hd (x0 : List (Str × Bool × List UInt8)) (c13 : List (Str × Bool × List UInt8)) (c14 : Int) (s3 : Int) (s15 : Int) (m1012 : List (Str × Bool)) : St := ⟨66, [(0, .v (.sl (.pr .str (.pr .bool (.sl .u8)))) x0), (3, .v (.int .i64) s3), (4, .mref 1012), (13, .v (.sl (.pr .str (.pr .bool (.sl .u8)))) c13), (14, .v (.int .i64) c14), (15, .v (.int .i64) s15)], [(1012, .map .bool m1012)]⟩
def blob_CheckFiles_L0_tl0 (x0 : List (Str × Bool × List UInt8)) (_c13 : List (Str × Bool × List UInt8)) (_c14 : Int) (o0_3 : Int) (o0_m1012 : List (Str × Bool)) : St := ⟨66, [(0, .v (.sl (.pr .str (.pr .bool (.sl .u8)))) x0), (3, .v (.int .i64) o0_3), (4, .mref 1012)], [(1012, .map .bool o0_m1012)]⟩
def blob_CheckFiles_L0_G (N : Nat) (x0 : List (Str × Bool × List UInt8)) (c13 : List (Str × Bool × List UInt8)) (c14 : Int) (s3 : Int) (s15 : Int) (m1012 : List (Str × Bool)) (k : Ex → St → Option Int) : Option Int :=
  blob_CheckFiles_L0 N x0 c13 c14 (fun o0_3 o0_m1012 => k (.exit 0) (blob_CheckFiles_L0_tl0 x0 c13 c14 o0_3 o0_m1012)) N s3 s15 m1012
abbrev blob_CheckFiles_L0_F (N : Nat) : FV blob_CheckFiles_L0_fs → HV blob_CheckFiles_L0_bs → (Ex → St → Option Int) → Option Int := fun x y k => blob_CheckFiles_L0_G N x.1 x.2.2.2.1 x.2.2.2.2.1 x.2.1 x.2.2.2.2.2.1 y.1 k
abbrev blob_CheckFiles_L1_fs : List (Nat × Sl) := [(3, .v (.int .i64)), (4, .mref 1012), (53, .v (.sl (.pr .str (.pr .bool (.sl .u8))))), (54, .v (.int .i64)), (55, .v (.int .i64))]
abbrev blob_CheckFiles_L1_bs : List (Nat × Sb) := [(1012, .map .bool)]
def blob_CheckFiles_L1_hd (o0_3 : Int) (x0 : List (Str × Bool × List UInt8)) (c54 : Int) (o0_m1012 : List (Str × Bool)) (s55 : Int) : St := ⟨66, [(3, .v (.int .i64) o0_3), (4, .mref 1012), (53, .v (.sl (.pr .str (.pr .bool (.sl .u8)))) x0), (54, .v (.int .i64) c54), (55, .v (.int .i64) s55)], [(1012, .map .bool o0_m1012)]⟩
def blob_CheckFiles_L1_tl3 (o0_3 : Int) (_x0 : List (Str × Bool × List UInt8)) (_c54 : Int) (_o0_m1012 : List (Str × Bool)) : St := ⟨66, [(3, .v (.int .i64) o0_3)], []⟩
def blob_CheckFiles_L1_G (N : Nat) (o0_3 : Int) (x0 : List (Str × Bool × List UInt8)) (c54 : Int) (o0_m1012 : List (Str × Bool)) (s55 : Int) (k : Ex → St → Option Int) : Option Int :=
  blob_CheckFiles_L1 N x0 c54 o0_m1012 (k (.exit 3) (blob_CheckFiles_L1_tl3 o0_3 x0 c54 o0_m1012)) N s55
abbrev blob_CheckFiles_L1_F (N : Nat) : FV blob_CheckFiles_L1_fs → HV blob_CheckFiles_L1_bs → (Ex → St → Option Int) → Option Int := fun x y k => blob_CheckFiles_L1_G N x.1 x.2.2.1 x.2.2.2.1 y.1 x.2.2.2.2.1 k
noncomputable def blob_CheckFiles_LP (N : Nat) : Nat → Code → St → (Ex → St → Option Int) → Option Int := fun i c =>
  match i with
  | 0 => (LPc 66 blob_CheckFiles_L0_fs blob_CheckFiles_L0_bs (blob_CheckFiles_L0_F N) (fun st k => iter (blob_CheckFiles_h 0) (exec (blob_CheckFiles_E N) N c 0) N st k))
  | 3 => (LPc 66 blob_CheckFiles_L1_fs blob_CheckFiles_L1_bs (blob_CheckFiles_L1_F N) (fun st k => iter (blob_CheckFiles_h 3) (exec (blob_CheckFiles_E N) N c 3) N st k))
  | i => fun st k => iter (blob_CheckFiles_h i) (exec (blob_CheckFiles_E N) N c i) N st k
theorem blob_CheckFiles_L1_step (N : Nat) (o0_3 : Int) (x0 : List (Str × Bool × List UInt8)) (c54 : Int) (o0_m1012 : List (Str × Bool)) (KX : Nat → St → Option Int) (I : St → Option Int) (s55 : Int) :
    execL (blob_CheckFiles_LP N) (blob_CheckFiles_E N) (cAt (bodyOf Tryd.f35) [true, true, true, true, true, false, true, false, false]) 3 (blob_CheckFiles_L1_hd o0_3 x0 c54 o0_m1012 s55) (roundK (blob_CheckFiles_h 3) I KX (resD (blob_CheckFiles_E N) Tryd.f35 (blob_CheckFiles_sg fun x _ => blob_CheckFiles N x.1) blob_CheckFiles_pk)) = blob_CheckFiles_L1T N x0 c54 o0_m1012 (KX 3 (blob_CheckFiles_L1_tl3 o0_3 x0 c54 o0_m1012)) (fun s55 => I (blob_CheckFiles_L1_hd o0_3 x0 c54 o0_m1012 s55)) s55 := by kernel_rfl
theorem blob_CheckFiles_L1_ok (N : Nat) : ∀ x y k, (∀ st, k .ret st = (resD (blob_CheckFiles_E N) Tryd.f35 (blob_CheckFiles_sg fun x _ => blob_CheckFiles N x.1) blob_CheckFiles_pk) st) → iter (blob_CheckFiles_h 3) (exec (blob_CheckFiles_E N) N (cAt (bodyOf Tryd.f35) [true, true, true, true, true, false, true, false, false]) 3) N ⟨66, unF blob_CheckFiles_L1_fs x, unH blob_CheckFiles_L1_bs y⟩ k = blob_CheckFiles_L1_F N x y k := fun x y k hk =>
  iter_link (S := (Int) × Unit) (blob_CheckFiles_h 3) _ (execL (blob_CheckFiles_LP N) (blob_CheckFiles_E N) (cAt (bodyOf Tryd.f35) [true, true, true, true, true, false, true, false, false]) 3) (resD (blob_CheckFiles_E N) Tryd.f35 (blob_CheckFiles_sg fun x _ => blob_CheckFiles N x.1) blob_CheckFiles_pk) (fun st k hk => execL_eq _ _ N _ (cAt (bodyOf Tryd.f35) [true, true, true, true, true, false, true, false, false]) 3 (show LoopsOk (blob_CheckFiles_LP N) (blob_CheckFiles_E N) N (resD (blob_CheckFiles_E N) Tryd.f35 (blob_CheckFiles_sg fun x _ => blob_CheckFiles N x.1) blob_CheckFiles_pk) [] from trivial) st k hk) (fun s => blob_CheckFiles_L1_hd x.1 x.2.2.1 x.2.2.2.1 y.1 s.1) k hk
    (fun self s => blob_CheckFiles_L1T N x.2.2.1 x.2.2.2.1 y.1 (k (.exit 3) (blob_CheckFiles_L1_tl3 x.1 x.2.2.1 x.2.2.2.1 y.1)) (fun s55 => self (s55, ())) s.1) (fun n s => blob_CheckFiles_L1 N x.2.2.1 x.2.2.2.1 y.1 (k (.exit 3) (blob_CheckFiles_L1_tl3 x.1 x.2.2.1 x.2.2.2.1 y.1)) n s.1) (fun _ => rfl) (fun _ _ => rfl)
    (fun I s => blob_CheckFiles_L1_step N x.1 x.2.2.1 x.2.2.2.1 y.1 (fun j => k (.exit j)) I s.1) N (x.2.2.2.2.1, ())
theorem blob_CheckFiles_lp3 (N : Nat) : ∀ st k, (∀ st, k .ret st = (resD (blob_CheckFiles_E N) Tryd.f35 (blob_CheckFiles_sg fun x _ => blob_CheckFiles N x.1) blob_CheckFiles_pk) st) → blob_CheckFiles_LP N 3 (cAt (bodyOf Tryd.f35) [true, true, true, true, true, false, true, false, false]) st k = iter (Env.hint (blob_CheckFiles_E N) 3) (exec (blob_CheckFiles_E N) N (cAt (bodyOf Tryd.f35) [true, true, true, true, true, false, true, false, false]) 3) N st k := fun st k hk => LPc_eq 66 blob_CheckFiles_L1_fs blob_CheckFiles_L1_bs _ _ (resD (blob_CheckFiles_E N) Tryd.f35 (blob_CheckFiles_sg fun x _ => blob_CheckFiles N x.1) blob_CheckFiles_pk) (blob_CheckFiles_L1_ok N) _ st k hk (rfl)
theorem blob_CheckFiles_L0_step (N : Nat) (x0 : List (Str × Bool × List UInt8)) (c13 : List (Str × Bool × List UInt8)) (c14 : Int) (KX : Nat → St → Option Int) (I : St → Option Int) (s3 : Int) (s15 : Int) (m1012 : List (Str × Bool)) :
    execL (blob_CheckFiles_LP N) (blob_CheckFiles_E N) (cAt (bodyOf Tryd.f35) [true, true, true, true, false, true, false, false]) 0 (blob_CheckFiles_L0_hd x0 c13 c14 s3 s15 m1012) (roundK (blob_CheckFiles_h 0) I KX (resD (blob_CheckFiles_E N) Tryd.f35 (blob_CheckFiles_sg fun x _ => blob_CheckFiles N x.1) blob_CheckFiles_pk)) = blob_CheckFiles_L0T N x0 c13 c14 (fun o0_3 o0_m1012 => KX 0 (blob_CheckFiles_L0_tl0 x0 c13 c14 o0_3 o0_m1012)) (fun s3 s15 m1012 => I (blob_CheckFiles_L0_hd x0 c13 c14 s3 s15 m1012)) s3 s15 m1012 := by kernel_rfl
theorem blob_CheckFiles_L0_ok (N : Nat) : ∀ x y k, (∀ st, k .ret st = (resD (blob_CheckFiles_E N) Tryd.f35 (blob_CheckFiles_sg fun x _ => blob_CheckFiles N x.1) blob_CheckFiles_pk) st) → iter (blob_CheckFiles_h 0) (exec (blob_CheckFiles_E N) N (cAt (bodyOf Tryd.f35) [true, true, true, true, false, true, false, false]) 0) N ⟨66, unF blob_CheckFiles_L0_fs x, unH blob_CheckFiles_L0_bs y⟩ k = blob_CheckFiles_L0_F N x y k := fun x y k hk =>
  iter_link (S := (Int) × (Int) × (List (Str × Bool)) × Unit) (blob_CheckFiles_h 0) _ (execL (blob_CheckFiles_LP N) (blob_CheckFiles_E N) (cAt (bodyOf Tryd.f35) [true, true, true, true, false, true, false, false]) 0) (resD (blob_CheckFiles_E N) Tryd.f35 (blob_CheckFiles_sg fun x _ => blob_CheckFiles N x.1) blob_CheckFiles_pk) (fun st k hk => execL_eq _ _ N _ (cAt (bodyOf Tryd.f35) [true, true, true, true, false, true, false, false]) 0 (show LoopsOk (blob_CheckFiles_LP N) (blob_CheckFiles_E N) N (resD (blob_CheckFiles_E N) Tryd.f35 (blob_CheckFiles_sg fun x _ => blob_CheckFiles N x.1) blob_CheckFiles_pk) [] from trivial) st k hk) (fun s => blob_CheckFiles_L0_hd x.1 x.2.2.2.1 x.2.2.2.2.1 s.1 s.2.1 s.2.2.1) k hk
    (fun self s => blob_CheckFiles_L0T N x.1 x.2.2.2.1 x.2.2.2.2.1 (fun o0_3 o0_m1012 => k (.exit 0) (blob_CheckFiles_L0_tl0 x.1 x.2.2.2.1 x.2.2.2.2.1 o0_3 o0_m1012)) (fun s3 s15 m1012 => self (s3, s15, m1012, ())) s.1 s.2.1 s.2.2.1) (fun n s => blob_CheckFiles_L0 N x.1 x.2.2.2.1 x.2.2.2.2.1 (fun o0_3 o0_m1012 => k (.exit 0) (blob_CheckFiles_L0_tl0 x.1 x.2.2.2.1 x.2.2.2.2.1 o0_3 o0_m1012)) n s.1 s.2.1 s.2.2.1) (fun _ => rfl) (fun _ _ => rfl)
    (fun I s => blob_CheckFiles_L0_step N x.1 x.2.2.2.1 x.2.2.2.2.1 (fun j => k (.exit j)) I s.1 s.2.1 s.2.2.1) N (x.2.1, x.2.2.2.2.2.1, y.1, ())
theorem blob_CheckFiles_lp0 (N : Nat) : ∀ st k, (∀ st, k .ret st = (resD (blob_CheckFiles_E N) Tryd.f35 (blob_CheckFiles_sg fun x _ => blob_CheckFiles N x.1) blob_CheckFiles_pk) st) → blob_CheckFiles_LP N 0 (cAt (bodyOf Tryd.f35) [true, true, true, true, false, true, false, false]) st k = iter (Env.hint (blob_CheckFiles_E N) 0) (exec (blob_CheckFiles_E N) N (cAt (bodyOf Tryd.f35) [true, true, true, true, false, true, false, false]) 0) N st k := fun st k hk => LPc_eq 66 blob_CheckFiles_L0_fs blob_CheckFiles_L0_bs _ _ (resD (blob_CheckFiles_E N) Tryd.f35 (blob_CheckFiles_sg fun x _ => blob_CheckFiles N x.1) blob_CheckFiles_pk) (blob_CheckFiles_L0_ok N) _ st k hk (rfl)
theorem blob_CheckFiles_core (N : Nat) (x : SV [.v (.sl (.pr .str (.pr .bool (.sl .u8))))]) (y : BV []) : runL (blob_CheckFiles_E N) Tryd.f35 (blob_CheckFiles_sg fun x _ => blob_CheckFiles N x.1) blob_CheckFiles_pk (blob_CheckFiles_LP N) x y = blob_CheckFiles N x.1 := by kernel_rfl
theorem blob_CheckFiles_sound (N : Nat) : Sound Tryd.prog GW B0G 35 (blob_CheckFiles_sg fun x _ => blob_CheckFiles N x.1) :=
  runD_sound (mkE_ok blob_CheckFiles_h (blob_CheckFiles_fn N) _ _ (blob_CheckFiles_fn_ok N)) Tryd.func35 rfl Tryd.call35 (blob_CheckFiles_sg fun x _ => blob_CheckFiles N x.1) blob_CheckFiles_pk (fun _ _ => rfl) N (fun x y _ h => ((runL_eq (blob_CheckFiles_E N) N Tryd.f35 (blob_CheckFiles_sg fun x _ => blob_CheckFiles N x.1) blob_CheckFiles_pk (blob_CheckFiles_LP N) (show LoopsOk (blob_CheckFiles_LP N) (blob_CheckFiles_E N) N (resD (blob_CheckFiles_E N) Tryd.f35 (blob_CheckFiles_sg fun x _ => blob_CheckFiles N x.1) blob_CheckFiles_pk) [(0, (cAt (bodyOf Tryd.f35) [true, true, true, true, false, true, false, false])), (3, (cAt (bodyOf Tryd.f35) [true, true, true, true, true, false, true, false, false]))] from ⟨blob_CheckFiles_lp0 N, blob_CheckFiles_lp3 N, trivial⟩) x y).trans (blob_CheckFiles_core N x y)).trans h)
def ref1_there_L0T (_N : Nat) (x0 : List (Str × Bool × List UInt8)) (x1 : Str) (k0 : Int → Option Bool) (self : Int → Int → Option Bool) (s5 : Int) (s6 : Int) : Option Bool :=
  br (decide (s5 < s6))
    (br ((2 : Int) == 0)
      none
      (bnd (geti x0 (IntKind.i64.wrap (Int.tdiv (IntKind.i64.wrap (s5 + s6)) (2 : Int)))) fun t19 =>
      br (Op.bytesLess t19.1 x1)
        (self (IntKind.i64.wrap ((IntKind.i64.wrap (Int.tdiv (IntKind.i64.wrap (s5 + s6)) (2 : Int))) + (1 : Int))) s6)
        (self s5 (IntKind.i64.wrap (Int.tdiv (IntKind.i64.wrap (s5 + s6)) (2 : Int))))))
    (k0 s5)
def ref1_there_L0 (N : Nat) (x0 : List (Str × Bool × List UInt8)) (x1 : Str) (k0 : Int → Option Bool) : Nat → Int → Int → Option Bool
  | 0, _, _ => none
  | n + 1, s5, s6 => ref1_there_L0T N x0 x1 k0 (ref1_there_L0 N x0 x1 k0 n) s5 s6
def ref1_there (N : Nat) (x0 : List (Str × Bool × List UInt8)) (x1 : Str) : Option Bool :=
  ref1_there_L0 N x0 x1 (fun o0_5 =>
      br (decide (o0_5 < (x0.length : Int)))
        (bnd (geti x0 o0_5) fun t34 =>
        some (t34.1 == x1))
        (some false)) N (0 : Int) (x0.length : Int)
abbrev ref1_there_sg (f : SV [.v (.sl (.pr .str (.pr .bool (.sl .u8)))), .v .str] → BV [] → Option (Bool)) : AF := { ps := [.v (.sl (.pr .str (.pr .bool (.sl .u8)))), .v .str], bs := [], rs := [.v .bool], cs := [], R := Bool, out := fun z => ((z, ()), ()), f := f }
abbrev ref1_there_pk : SV [.v .bool] → BV [] → Bool := fun x _ => x.1
def ref1_there_fn (_N : Nat) : FuncId → Option Tmp → Option AF := fun f _ =>
  match f with
    | _ => none
theorem ref1_there_fn_ok (N : Nat) : ∀ f q F, ref1_there_fn N f q = some F → Sound Tryd.prog GW B0G f F := by
  intro f q F h
  unfold ref1_there_fn at h
  split at h
  · cases h
def ref1_there_h : Nat → Hint := fun i =>
  match i with
  | 0 => ⟨[], [0, 1, 5, 6], [], [0, 1, 5], [], []⟩
  | _ => ⟨[], [], [], [], [], []⟩
abbrev ref1_there_E (N : Nat) : Env := mkE ref1_there_h (ref1_there_fn N) (fun _ => false) (fun _ => false)
abbrev ref1_there_L0_fs : List (Nat × Sl) := [(0, .v (.sl (.pr .str (.pr .bool (.sl .u8))))), (1, .v .str), (5, .v (.int .i64)), (6, .v (.int .i64))]
abbrev ref1_there_L0_bs : List (Nat × Sb) := []
def ref1_there_L0_hd (x0 : List (Str × Bool × List UInt8)) (x1 : Str) (s5 : Int) (s6 : Int) : St := ⟨40, [(0, .v (.sl (.pr .str (.pr .bool (.sl .u8)))) x0), (1, .v .str x1), (5, .v (.int .i64) s5), (6, .v (.int .i64) s6)], []⟩
def ref1_there_L0_tl0 (x0 : List (Str × Bool × List UInt8)) (x1 : Str) (o0_5 : Int) : St := ⟨40, [(0, .v (.sl (.pr .str (.pr .bool (.sl .u8)))) x0), (1, .v .str x1), (5, .v (.int .i64) o0_5)], []⟩
def ref1_there_L0_G (N : Nat) (x0 : List (Str × Bool × List UInt8)) (x1 : Str) (s5 : Int) (s6 : Int) (k : Ex → St → Option Bool) : Option Bool :=
  ref1_there_L0 N x0 x1 (fun o0_5 => k (.exit 0) (ref1_there_L0_tl0 x0 x1 o0_5)) N s5 s6
abbrev ref1_there_L0_F (N : Nat) : FV ref1_there_L0_fs → HV ref1_there_L0_bs → (Ex → St → Option Bool) → Option Bool := fun x _ k => ref1_there_L0_G N x.1 x.2.1 x.2.2.1 x.2.2.2.1 k
noncomputable def ref1_there_LP (N : Nat) : Nat → Code → St → (Ex → St → Option Bool) → Option Bool := fun i c =>
  match i with
  | 0 => (LPc 40 ref1_there_L0_fs ref1_there_L0_bs (ref1_there_L0_F N) (fun st k => iter (ref1_there_h 0) (exec (ref1_there_E N) N c 0) N st k))
  | i => fun st k => iter (ref1_there_h i) (exec (ref1_there_E N) N c i) N st k
theorem ref1_there_L0_step (N : Nat) (x0 : List (Str × Bool × List UInt8)) (x1 : Str) (KX : Nat → St → Option Bool) (I : St → Option Bool) (s5 : Int) (s6 : Int) :
    execL (ref1_there_LP N) (ref1_there_E N) (cAt (bodyOf Tryd.f104) [true, true, false, false, false]) 0 (ref1_there_L0_hd x0 x1 s5 s6) (roundK (ref1_there_h 0) I KX (resD (ref1_there_E N) Tryd.f104 (ref1_there_sg fun x _ => ref1_there N x.1 x.2.1) ref1_there_pk)) = ref1_there_L0T N x0 x1 (fun o0_5 => KX 0 (ref1_there_L0_tl0 x0 x1 o0_5)) (fun s5 s6 => I (ref1_there_L0_hd x0 x1 s5 s6)) s5 s6 := by kernel_rfl
theorem ref1_there_L0_ok (N : Nat) : ∀ x y k, (∀ st, k .ret st = (resD (ref1_there_E N) Tryd.f104 (ref1_there_sg fun x _ => ref1_there N x.1 x.2.1) ref1_there_pk) st) → iter (ref1_there_h 0) (exec (ref1_there_E N) N (cAt (bodyOf Tryd.f104) [true, true, false, false, false]) 0) N ⟨40, unF ref1_there_L0_fs x, unH ref1_there_L0_bs y⟩ k = ref1_there_L0_F N x y k := fun x _ k hk =>
  iter_link (S := (Int) × (Int) × Unit) (ref1_there_h 0) _ (execL (ref1_there_LP N) (ref1_there_E N) (cAt (bodyOf Tryd.f104) [true, true, false, false, false]) 0) (resD (ref1_there_E N) Tryd.f104 (ref1_there_sg fun x _ => ref1_there N x.1 x.2.1) ref1_there_pk) (fun st k hk => execL_eq _ _ N _ (cAt (bodyOf Tryd.f104) [true, true, false, false, false]) 0 (show LoopsOk (ref1_there_LP N) (ref1_there_E N) N (resD (ref1_there_E N) Tryd.f104 (ref1_there_sg fun x _ => ref1_there N x.1 x.2.1) ref1_there_pk) [] from trivial) st k hk) (fun s => ref1_there_L0_hd x.1 x.2.1 s.1 s.2.1) k hk
    (fun self s => ref1_there_L0T N x.1 x.2.1 (fun o0_5 => k (.exit 0) (ref1_there_L0_tl0 x.1 x.2.1 o0_5)) (fun s5 s6 => self (s5, s6, ())) s.1 s.2.1) (fun n s => ref1_there_L0 N x.1 x.2.1 (fun o0_5 => k (.exit 0) (ref1_there_L0_tl0 x.1 x.2.1 o0_5)) n s.1 s.2.1) (fun _ => rfl) (fun _ _ => rfl)
    (fun I s => ref1_there_L0_step N x.1 x.2.1 (fun j => k (.exit j)) I s.1 s.2.1) N (x.2.2.1, x.2.2.2.1, ())
theorem ref1_there_lp0 (N : Nat) : ∀ st k, (∀ st, k .ret st = (resD (ref1_there_E N) Tryd.f104 (ref1_there_sg fun x _ => ref1_there N x.1 x.2.1) ref1_there_pk) st) → ref1_there_LP N 0 (cAt (bodyOf Tryd.f104) [true, true, false, false, false]) st k = iter (Env.hint (ref1_there_E N) 0) (exec (ref1_there_E N) N (cAt (bodyOf Tryd.f104) [true, true, false, false, false]) 0) N st k := fun st k hk => LPc_eq 40 ref1_there_L0_fs ref1_there_L0_bs _ _ (resD (ref1_there_E N) Tryd.f104 (ref1_there_sg fun x _ => ref1_there N x.1 x.2.1) ref1_there_pk) (ref1_there_L0_ok N) _ st k hk (rfl)
theorem ref1_there_core (N : Nat) (x : SV [.v (.sl (.pr .str (.pr .bool (.sl .u8)))), .v .str]) (y : BV []) : runL (ref1_there_E N) Tryd.f104 (ref1_there_sg fun x _ => ref1_there N x.1 x.2.1) ref1_there_pk (ref1_there_LP N) x y = ref1_there N x.1 x.2.1 := by kernel_rfl
theorem ref1_there_sound (N : Nat) : Sound Tryd.prog GW B0G 104 (ref1_there_sg fun x _ => ref1_there N x.1 x.2.1) :=
  runD_sound (mkE_ok ref1_there_h (ref1_there_fn N) _ _ (ref1_there_fn_ok N)) Tryd.func104 rfl Tryd.call104 (ref1_there_sg fun x _ => ref1_there N x.1 x.2.1) ref1_there_pk (fun _ _ => rfl) N (fun x y _ h => ((runL_eq (ref1_there_E N) N Tryd.f104 (ref1_there_sg fun x _ => ref1_there N x.1 x.2.1) ref1_there_pk (ref1_there_LP N) (show LoopsOk (ref1_there_LP N) (ref1_there_E N) N (resD (ref1_there_E N) Tryd.f104 (ref1_there_sg fun x _ => ref1_there N x.1 x.2.1) ref1_there_pk) [(0, (cAt (bodyOf Tryd.f104) [true, true, false, false, false]))] from ⟨ref1_there_lp0 N, trivial⟩) x y).trans (ref1_there_core N x y)).trans h)
end
end Go.Proofs.YthlkidohpiebiaaDoor


/- A function that leaves all that its caller has as it is, and makes one thing anew. -/
namespace Go.Proofs.YthlkidohpiebiaaDoor
set_option linter.unusedVariables false
set_option linter.unusedSimpArgs false
open Go Go.RowKit Go.Shelf
theorem Sound.ofMade {P : Program} {G : World → Prop} {B0 : Nat} {f : FuncId} {ps : List Sl} {bs : List Sb} {rs : List Sl} {cs : List Sb} {R : Type} {out : R → SV rs × BV cs} {F : SV ps → BV bs → Option R}
    (hcall : ∀ (args : Array Value) (w : World), (callFunc f args).run P w = .ok (.enter f args) w) (hlen : cs.length = bs.length + 1)
    (h : ∀ (M : Nat → Nat → Prop) (w : World) (g : Gh) (vs : List Value) (x : SV ps) (y : BV bs) (z : R), G w → B0 ≤ w.heap.size → Frag B0 M w g ps bs x y vs → F x y = some z →
      Calls P f vs.toArray w fun e w' => ∃ vs' gx, e = .returned (rets vs') ∧ Ext w w' ∧ (∀ b, gx.blk = some b → w.heap.size ≤ b ∧ b < w'.heap.size ∧ (0 < gx.lo → ∀ es c, w'.heap[b]? ≠ some (.map es c))) ∧
        ∀ (M' : Nat → Nat → Prop) (g' : Gh), (∀ r y, g r = some y → g' r = some y) → g' bs.length = some gx → Step M w M' w' →
          All2 (RepD0 M' w' g') (lays id rs (out z).1) vs' ∧ ∀ r blk, blkAt id cs (out z).2 r = some blk → ∃ gy, g' r = some gy ∧ RepB M' w' g' gy blk) :
    Sound P G B0 f ⟨ps, bs, rs, cs, R, out, F⟩ := by
  refine ⟨hcall, fun M w g vs x y z hG hB hF hz => ?_⟩
  refine (h M w g vs x y z hG hB hF hz).mono fun e w' hp => ?_
  obtain ⟨vs', gx, he, hE, hnew, hrest⟩ := hp
  obtain ⟨g', hgd⟩ : ∃ g' : Gh, g' = g.set bs.length (some gx) := ⟨_, rfl⟩
  have hgn : g' bs.length = some gx := by rw [hgd, Gh.set_same]
  have hgo : ∀ r y, g r = some y → g' r = some y := fun r y hr => by
    have hd : r < bs.length := hF.dom r y hr
    rw [hgd, Gh.set_other _ _ (by omega)]; exact hr
  have hgc : ∀ r y, g' r = some y → (r = bs.length ∧ y = gx) ∨ g r = some y := fun r y hr => by
    by_cases e : r = bs.length
    · subst e
      rw [hgn] at hr
      exact .inl ⟨rfl, (Option.some.inj hr).symm⟩
    · rw [hgd, Gh.set_other _ _ e] at hr
      exact .inr hr
  have hlow : ∀ r y b, g r = some y → y.blk = some b → B0 ≤ b ∧ b < w.heap.size := fun r y b h1 h2 => hF.low r y b h1 h2
  have hstep : Step M w (Mafter M g g') w' := by
    have key : ∀ b o, b < w.heap.size → ¬ M b o → ¬ Mafter M g g' b o := fun b o hb hm hm' => by
      rcases hm' with ⟨h1, _⟩ | ⟨r, y, hr, hyb, hlo⟩
      · exact hm h1
      · rcases hgc r y hr with ⟨_, rfl⟩ | hr
        · have := (hnew b hyb).1; omega
        · exact hm ((hF.chg r y b o hr hyb).2 hlo)
    exact ⟨fun ad u hu hm => ⟨hE.cell hu, key _ _ (World.block_lt_of_cell? w _ hu) hm⟩, fun b es c hb hm => ⟨(hE.block b (lt_of_map hb)).trans hb, key _ _ (lt_of_map hb) hm⟩⟩
  obtain ⟨hA, hR⟩ := hrest _ g' hgo hgn hstep
  refine ⟨vs', g', he, ExtX.of_ext hE, hstep, ?_, fun r y hr _ => hgo r y hr, fun b hb => ?_⟩
  · exact {
      args := hA
      res := hR
      dom := fun r y hr => by
        show r < cs.length
        rcases hgc r y hr with ⟨rfl, _⟩ | hr
        · omega
        · have hd : r < bs.length := hF.dom r y hr
          omega
      inj := fun r r' y y' b hr hr' hb hb' => by
        rcases hgc r y hr with ⟨rfl, rfl⟩ | h1
        · rcases hgc r' y' hr' with ⟨rfl, _⟩ | h2
          · rfl
          · have := (hnew b hb).1; have := (hlow _ _ _ h2 hb').2; omega
        · rcases hgc r' y' hr' with ⟨rfl, rfl⟩ | h2
          · have := (hnew b hb').1; have := (hlow _ _ _ h1 hb).2; omega
          · exact hF.inj r r' y y' b h1 h2 hb hb'
      low := fun r y b hr hb => by
        rcases hgc r y hr with ⟨_, rfl⟩ | h1
        · exact ⟨Nat.le_trans hB (hnew b hb).1, (hnew b hb).2.1⟩
        · have := hlow _ _ _ h1 hb; exact ⟨this.1, Nat.lt_of_lt_of_le this.2 hE.size⟩
      chg := fun r y b o hr hb => by
        refine ⟨fun hm => ?_, fun hle => .inr ⟨r, y, hr, hb, hle⟩⟩
        rcases hm with ⟨h1, h2⟩ | ⟨r', y', hr', hb', hlo⟩
        · rcases hgc r y hr with ⟨_, rfl⟩ | h3
          · have := (hnew b hb).1; have := hF.mlt b o h1; omega
          · exact absurd ⟨r, y, h3, hb⟩ h2
        · rcases hgc r y hr with ⟨e1, rfl⟩ | h3
          · rcases hgc r' y' hr' with ⟨_, rfl⟩ | h4
            · exact hlo
            · have := (hnew b hb).1; have := (hlow _ _ _ h4 hb').2; omega
          · rcases hgc r' y' hr' with ⟨_, rfl⟩ | h4
            · have := (hnew b hb').1; have := (hlow _ _ _ h3 hb).2; omega
            · have := hF.inj r r' y y' b h3 h4 hb hb'
              subst this
              rw [h3] at h4
              cases h4
              exact hlo
      mlt := fun b o hm => by
        rcases hm with ⟨h1, _⟩ | ⟨r, y, hr, hb, _⟩
        · exact Nat.lt_of_lt_of_le (hF.mlt b o h1) hE.size
        · rcases hgc r y hr with ⟨_, rfl⟩ | h3
          · exact (hnew b hb).2.1
          · exact Nat.lt_of_lt_of_le (hlow _ _ _ h3 hb).2 hE.size
      row := fun r y b hr hb h0 => by
        rcases hgc r y hr with ⟨_, rfl⟩ | h3
        · exact (hnew b hb).2.2 h0
        · intro es c hc
          rw [hE.block b (hlow _ _ _ h3 hb).2] at hc
          exact hF.row r y b h3 hb h0 es c hc }
  · obtain ⟨r, y, hr, hb⟩ := hb
    rcases hgc r y hr with ⟨_, rfl⟩ | h3
    · exact .inr (hnew b hb).1
    · exact .inl ⟨r, y, h3, hb⟩
end Go.Proofs.YthlkidohpiebiaaDoor


/- slices.Delete of strings, out of the kit's contract: it turns a row of its caller's. -/
namespace Go.Proofs.YthlkidohpiebiaaDoor
set_option linter.unusedVariables false
set_option linter.unusedSimpArgs false
open Go Go.RowKit Go.Shelf
theorem str_els {M : Nat → Nat → Prop} {w : World} (xs : List Str) : Els M w .str xs (xs.map fun x => Value.string ⟨x.toArray⟩) := fun i h => by
  have e : ((xs.map fun x => Value.string ⟨x.toArray⟩).drop (i * Ty.sz .str)).take (Ty.sz .str) = [Value.string ⟨xs[i].toArray⟩] := by
    show ((xs.map fun x => Value.string ⟨x.toArray⟩).drop (i * 1)).take 1 = _
    rw [Nat.mul_one, List.drop_eq_getElem_cons (by simpa using h), List.getElem_map]; rfl
  rw [e]
  rfl
end Go.Proofs.YthlkidohpiebiaaDoor



/- A function that turns a row of its caller's where it lies, and gives nothing back: the caller's slice is the one it was. -/
namespace Go.Proofs.YthlkidohpiebiaaDoor
set_option linter.unusedVariables false
set_option linter.unusedSimpArgs false
open Go Go.RowKit Go.Shelf
end Go.Proofs.YthlkidohpiebiaaDoor


/- What the kit's worlds of a sort hold. -/
namespace Go.Proofs.YthlkidohpiebiaaDoor
set_option linter.unusedVariables false
set_option linter.unusedSimpArgs false
open Go Go.RowKit Go.Shelf
end Go.Proofs.YthlkidohpiebiaaDoor


/-
  DERIVED: THE SHELF's CONTRACTS AT THIS DUMP, IN PLAIN WORDS (tools/lay-plain.mjs out of 'TrydShelfS.lean', which tools/lay-shelf.mjs wrote): THE SAME DECLARATIONS UNDER THE SAME NAMES: 'import', 'namespace', 'open', 'def', 'theorem' AND NOTHING ELSE: no command of the shelf's: FOR A HAND-IN. Each laying: the table of numbers ('.._ren') and one theorem, a field a fact of the dump's own or the kernel's comparison; each contract: ONE APPLICATION.
-/
namespace Go.Proofs
open Go.Shelf
def Tryd.sortS_ren : Go.Shelf.Ren := ⟨fun | 6 => 102 | 8 => 109 | 9 => 125 | 19 => 137 | 20 => 138 | 21 => 155 | 22 => 156 | 23 => 157 | 24 => 158 | 25 => 159 | 26 => 160 | 27 => 161 | 28 => 162 | 29 => 163 | 36 => 176 | 31 => 167 | 32 => 168 | 37 => 177 | 38 => 178 | 39 => 179 | 41 => 184 | n => n, fun | 27 => 29 | 29 => 9 | 3 => 3 | 32 => 113 | 26 => 29 | 0 => 0 | 44 => 156 | 46 => 112 | 4 => 4 | 36 => 149 | 35 => 148 | 41 => 153 | 5 => 5 | 9 => 9 | 53 => 173 | 57 => 177 | 63 => 187 | 64 => 188 | n => n, fun | n => n⟩
theorem Tryd.sortS : Go.Proofs.SlLaysM.n6 Tryd.prog Tryd.sortS_ren := {
  mixed := by kernel_rfl
  f6 := ⟨Tryd.f102.name, by decide, Tryd.func102.trans (congrArg some (by kernel_rfl))⟩
  f8 := Tryd.func109.trans (congrArg some (by kernel_rfl))
  f9 := ⟨Tryd.f125.name, by decide, Tryd.func125.trans (congrArg some (by kernel_rfl))⟩
  f19 := Tryd.func137.trans (congrArg some (by kernel_rfl))
  f20 := Tryd.func138.trans (congrArg some (by kernel_rfl))
  f21 := ⟨Tryd.f155.name, by decide, Tryd.func155.trans (congrArg some (by kernel_rfl))⟩
  f22 := ⟨Tryd.f156.name, by decide, Tryd.func156.trans (congrArg some (by kernel_rfl))⟩
  f23 := ⟨Tryd.f157.name, by decide, Tryd.func157.trans (congrArg some (by kernel_rfl))⟩
  f24 := ⟨Tryd.f158.name, by decide, Tryd.func158.trans (congrArg some (by kernel_rfl))⟩
  f25 := ⟨Tryd.f159.name, by decide, Tryd.func159.trans (congrArg some (by kernel_rfl))⟩
  f26 := ⟨Tryd.f160.name, by decide, Tryd.func160.trans (congrArg some (by kernel_rfl))⟩
  f27 := ⟨Tryd.f161.name, by decide, Tryd.func161.trans (congrArg some (by kernel_rfl))⟩
  f28 := ⟨Tryd.f162.name, by decide, Tryd.func162.trans (congrArg some (by kernel_rfl))⟩
  f29 := ⟨Tryd.f163.name, by decide, Tryd.func163.trans (congrArg some (by kernel_rfl))⟩
  f31 := Tryd.func167.trans (congrArg some (by kernel_rfl))
  f32 := Tryd.func168.trans (congrArg some (by kernel_rfl))
  f36 := ⟨Tryd.f176.name, by decide, Tryd.func176.trans (congrArg some (by kernel_rfl))⟩
  f37 := ⟨Tryd.f177.name, by decide, Tryd.func177.trans (congrArg some (by kernel_rfl))⟩
  f38 := ⟨Tryd.f178.name, by decide, Tryd.func178.trans (congrArg some (by kernel_rfl))⟩
  f39 := ⟨Tryd.f179.name, by decide, Tryd.func179.trans (congrArg some (by kernel_rfl))⟩
  f41 := ⟨Tryd.f184.name, by decide, Tryd.func184.trans (congrArg some (by kernel_rfl))⟩
  t0 := Tryd.underlying0
  a0 := Tryd.isAgg0
  z0 := Tryd.sizeOf0
  v0 := Tryd.zeroValue0
  t3 := Tryd.underlying3
  a3 := Tryd.isAgg3
  z3 := Tryd.sizeOf3
  v3 := Tryd.zeroValue3
  t4 := Tryd.underlying4
  a4 := Tryd.isAgg4
  z4 := Tryd.sizeOf4
  v4 := Tryd.zeroValue4
  t5 := Tryd.underlying5
  a5 := Tryd.isAgg5
  z5 := Tryd.sizeOf5
  v5 := Tryd.zeroValue5
  t9 := Tryd.underlying9
  a9 := Tryd.isAgg9
  z9 := Tryd.sizeOf9
  v9 := Tryd.zeroValue9
  t26 := Tryd.underlying29
  a26 := Tryd.isAgg29
  z26 := Tryd.sizeOf29
  v26 := Tryd.zeroValue29
  t27 := Tryd.underlying29
  a27 := Tryd.isAgg29
  z27 := Tryd.sizeOf29
  v27 := Tryd.zeroValue29
  t29 := Tryd.underlying9
  a29 := Tryd.isAgg9
  z29 := Tryd.sizeOf9
  v29 := Tryd.zeroValue9
  t32 := Tryd.underlying113
  a32 := Tryd.isAgg113
  z32 := Tryd.sizeOf113
  v32 := Tryd.zeroValue113
  t35 := Tryd.underlying148
  a35 := Tryd.isAgg148
  z35 := Tryd.sizeOf148
  v35 := Tryd.zeroValue148
  t36 := Tryd.underlying149
  a36 := Tryd.isAgg149
  z36 := Tryd.sizeOf149
  v36 := Tryd.zeroValue149
  t41 := Tryd.underlying153
  a41 := Tryd.isAgg153
  z41 := Tryd.sizeOf153
  v41 := Tryd.zeroValue153
  t44 := Tryd.underlying156
  a44 := Tryd.isAgg156
  z44 := Tryd.sizeOf156
  v44 := Tryd.zeroValue156
  t46 := Tryd.underlying112
  a46 := Tryd.isAgg112
  z46 := Tryd.sizeOf112
  v46 := Tryd.zeroValue112
  t53 := Tryd.underlying173
  a53 := Tryd.isAgg173
  z53 := Tryd.sizeOf173
  v53 := Tryd.zeroValue173
  t57 := Tryd.underlying177
  a57 := Tryd.isAgg177
  z57 := Tryd.sizeOf177
  v57 := Tryd.zeroValue177
  t63 := Tryd.underlying187
  a63 := Tryd.isAgg187
  z63 := Tryd.sizeOf187
  v63 := Tryd.zeroValue187
  t64 := Tryd.underlying188
  a64 := Tryd.isAgg188
  z64 := Tryd.sizeOf188
  v64 := Tryd.zeroValue188 }
end Go.Proofs


/- slices.Sort of strings, out of the kit's contract: it turns a row of its caller's. -/
namespace Go.Proofs.YthlkidohpiebiaaDoor
set_option linter.unusedVariables false
set_option linter.unusedSimpArgs false
open Go Go.RowKit Go.Shelf
def leStr (x y : Str) : Bool := decide (x ≤ y)
end Go.Proofs.YthlkidohpiebiaaDoor



/-
  DERIVED: THE SHELF's CONTRACTS AT THIS DUMP, IN PLAIN WORDS (tools/lay-plain.mjs out of 'TrydShelfK.lean', which tools/lay-shelf.mjs wrote): THE SAME DECLARATIONS UNDER THE SAME NAMES: 'import', 'namespace', 'open', 'def', 'theorem' AND NOTHING ELSE: no command of the shelf's: FOR A HAND-IN. Each laying: the table of numbers ('.._ren') and one theorem, a field a fact of the dump's own or the kernel's comparison; each contract: ONE APPLICATION.
-/
namespace Go.Proofs
open Go.Shelf
def Tryd.keysK_ren : Go.Shelf.Ren := ⟨fun | 7 => 72 | 10 => 103 | n => n, fun | 23 => 82 | 26 => 9 | 3 => 4 | 28 => 90 | 0 => 0 | 27 => 89 | 33 => 58 | 4 => 4 | n => n, fun | n => n⟩
theorem Tryd.keysK : Go.Proofs.SlLaysZ.n7 Tryd.prog Tryd.keysK_ren := {
  mixed := by kernel_rfl
  f7 := ⟨Tryd.f72.name, by decide, Tryd.func72.trans (congrArg some (by kernel_rfl))⟩
  f10 := ⟨Tryd.f103.name, by decide, Tryd.func103.trans (congrArg some (by kernel_rfl))⟩
  t0 := Tryd.underlying0
  a0 := Tryd.isAgg0
  z0 := Tryd.sizeOf0
  v0 := Tryd.zeroValue0
  t4 := Tryd.underlying4
  a4 := Tryd.isAgg4
  z4 := Tryd.sizeOf4
  v4 := Tryd.zeroValue4
  t23 := Tryd.underlying82
  a23 := Tryd.isAgg82
  z23 := Tryd.sizeOf82
  v23 := Tryd.zeroValue82
  t26 := Tryd.underlying9
  a26 := Tryd.isAgg9
  z26 := Tryd.sizeOf9
  v26 := Tryd.zeroValue9
  t27 := Tryd.underlying89
  a27 := Tryd.isAgg89
  z27 := Tryd.sizeOf89
  v27 := Tryd.zeroValue89
  t28 := Tryd.underlying90
  a28 := Tryd.isAgg90
  z28 := Tryd.sizeOf90
  v28 := Tryd.zeroValue90
  t33 := Tryd.underlying58
  a33 := Tryd.isAgg58
  z33 := Tryd.sizeOf58
  v33 := Tryd.zeroValue58 }
def Tryd.sortedK_ren : Go.Shelf.Ren := ⟨fun | 6 => 71 | 8 => 101 | 9 => 102 | 11 => 124 | 13 => 109 | 12 => 125 | 23 => 137 | 24 => 138 | 14 => 155 | 15 => 156 | 16 => 157 | 17 => 158 | 18 => 159 | 19 => 160 | 20 => 161 | 21 => 162 | 22 => 163 | 25 => 176 | 26 => 167 | 27 => 168 | 28 => 177 | 29 => 178 | 30 => 179 | 31 => 184 | n => n, fun | 26 => 9 | 28 => 90 | 24 => 29 | 0 => 0 | 3 => 3 | 37 => 113 | 48 => 156 | 50 => 112 | 4 => 4 | 40 => 149 | 39 => 148 | 45 => 153 | 5 => 5 | 9 => 9 | 51 => 173 | 55 => 177 | 57 => 187 | 58 => 188 | 33 => 58 | n => n, fun | n => n⟩
theorem Tryd.sortedK : Go.Proofs.SlLaysZ.n6 Tryd.prog Tryd.sortedK_ren := {
  mixed := by kernel_rfl
  f6 := ⟨Tryd.f71.name, by decide, Tryd.func71.trans (congrArg some (by kernel_rfl))⟩
  f8 := ⟨Tryd.f101.name, by decide, Tryd.func101.trans (congrArg some (by kernel_rfl))⟩
  f11 := ⟨Tryd.f124.name, by decide, Tryd.func124.trans (congrArg some (by kernel_rfl))⟩
  t0 := Tryd.underlying0
  a0 := Tryd.isAgg0
  z0 := Tryd.sizeOf0
  v0 := Tryd.zeroValue0
  t24 := Tryd.underlying29
  a24 := Tryd.isAgg29
  z24 := Tryd.sizeOf29
  v24 := Tryd.zeroValue29
  t26 := Tryd.underlying9
  a26 := Tryd.isAgg9
  z26 := Tryd.sizeOf9
  v26 := Tryd.zeroValue9
  t28 := Tryd.underlying90
  a28 := Tryd.isAgg90
  z28 := Tryd.sizeOf90
  v28 := Tryd.zeroValue90
  i26 := by kernel_rfl }
end Go.Proofs


/- The keys of a map of the caller's, in order: maps.Keys and slices.Sorted, out of the kit's contracts. -/
namespace Go.Proofs.YthlkidohpiebiaaDoor
set_option linter.unusedVariables false
set_option linter.unusedSimpArgs false
open Go Go.RowKit Go.Shelf Go.Maps Go.Sort
def maps_Keys_bool (m : List (Str × Bool)) : Option (List (Str × Bool)) := some m
theorem maps_Keys_bool_sound : Sound Tryd.prog GW B0G 72 ⟨[.mref 0], [.map .bool], [.fnc 103 [1]], [.map .bool, .cells [.mref 0]], List (Str × Bool), fun z => (((), ()), (z, (((), ()), ()))), fun x y => maps_Keys_bool y.1⟩ := by
  refine Sound.ofMade Tryd.call72 rfl fun M w g vs x y z hG hB hF hz => ?_
  obtain ⟨m, _⟩ := y
  obtain rfl : m = z := Option.some.inj hz
  match vs, hF.args with
  | [v], ⟨h0, _⟩ =>
    obtain ⟨gx, b, hg0, hv, rfl⟩ := h0
    obtain ⟨gx', hg', hrep⟩ := hF.res 0 (.map .bool m) rfl
    refine ((callsIn_wide (n := 5)).1 (AnyZ.keys_in Tryd.keysK Fence.wide 5 trivial rfl (some b) w)).mono fun e w' hp => ?_
    obtain ⟨rfl, rfl⟩ := hp
    refine ⟨[.func (.func 103) #[] #[boxV w.heap.size]], ⟨some w.heap.size, 0, boxV w.heap.size⟩, rfl, (Ext.refl w).alloc _, fun b' hb => ?_, fun M' g' hgo hgn hst => ⟨⟨⟨_, rfl, ⟨⟨_, _, hgn, rfl, rfl⟩, trivial⟩⟩, trivial⟩, fun r blk hr => ?_⟩⟩
    · obtain rfl : w.heap.size = b' := Option.some.inj hb
      exact ⟨Nat.le_refl _, by simp, fun h => absurd h (Nat.lt_irrefl 0)⟩
    · match r, hr with
      | 0, hr =>
        obtain rfl : Blk.map .bool m = blk := Option.some.inj hr
        exact ⟨gx', hgo _ _ hg', (RepB.step hst (fun b' hb => by
          exact ((Ext.refl w).alloc _).block b' (hF.low _ _ _ hg' hb).2) hrep : RepB M' _ g gx' (.map .bool m))⟩
      | 1, hr =>
        obtain rfl : Blk.cells [.mref 0] = blk := Option.some.inj hr
        exact ⟨_, hgn, ⟨_, #[.map (some b)], _, rfl, heap_alloc_new _ _, ⟨⟨gx, b, hgo _ _ hg0, hv, rfl⟩, trivial⟩⟩⟩
      | 2, hr => cases hr
      | r + 3, hr => cases hr
/-- The datum of a map's keys: what it holds is not looked at. -/
def keyR (_ : Value) : Option (DataW Unit × List MemPlace) := some (.lit (.bool true), [])
theorem key_rd {P : Program} {k : TypeId} (hk : P.underlying k = some .string) {x : MapEntry} {s : Str} (hx : x.key = .string ⟨s.toArray⟩) (hl : s.length ≤ maxLen) : Go.WideElems.rd P k keyR x = some (.string s, .lit (.bool true)) := by
  unfold Go.WideElems.rd
  have : keyOf P k x.key = some (.string s) := by
    rw [hx]
    have : (⟨s.toArray⟩ : ByteArray).size ≤ maxLen := by show s.toArray.size ≤ _; simpa using hl
    simp [keyOf, hk, mapKey, this]
  rw [this]; rfl
theorem key_map {P : Program} {k : TypeId} (hk : P.underlying k = some .string) {e : Ty} {M : Nat → Nat → Prop} {w : World} : ∀ (m : List (List UInt8 × e.den)) (es : List MapEntry), All2 (fun x y => y.key = .string ⟨x.1.toArray⟩ ∧ RepV M w e x.2 y.val) m es → (∀ p ∈ m, p.1.length ≤ maxLen) →
    es.map (fun x => strOf (Go.WideElems.rg P k keyR x).1) = m.map (·.1)
  | [], [], _, _ => rfl
  | (s, x) :: m, y :: es, h, hl => by
    rw [List.map_cons, List.map_cons, key_map hk m es h.2 fun p hp => hl p (List.mem_cons_of_mem _ hp)]
    congr 1
    unfold Go.WideElems.rg
    rw [key_rd hk h.1.1 (hl _ List.mem_cons_self)]; rfl
  | [], _ :: _, h, _ => h.elim
  | _ :: _, [], h, _ => h.elim
def slices_Sorted_keys (m : List (Str × Bool)) : Option (List (Str × Bool) × List Str) := if m.length * 16 ≤ 140737488355328 ∧ ∀ p ∈ m, p.1.length ≤ maxLen then some (m, (m.map (·.1)).mergeSort leStr) else none
theorem sortsK (m : Nat) : AnyZ.SortsIn Tryd.prog Tryd.sortedK_ren Fence.wide m :=
  ⟨fun blk off cap ss W hH hblk hsz => callsIn_wide.2 (AnyM.slices_Sort_string Tryd.sortS blk off cap ss W hH hblk hsz),
   fun p cap W => callsIn_wide.2 (AnyM.slices_Sort_string_none Tryd.sortS p cap W)⟩
set_option maxHeartbeats 1000000 in
theorem slices_Sorted_keys_sound : Sound Tryd.prog GW B0G 71 ⟨[.fnc 103 [0]], [.cells [.mref 1], .map .bool], [.row 2], [.cells [.mref 1], .map .bool, .row 9 .str false], List (Str × Bool) × List Str, fun z => (((), ()), (((), ()), (z.1, (z.2, ())))), fun x y => slices_Sorted_keys y.2.1⟩ := by
  refine Sound.ofMade Tryd.call71 rfl fun M w g vs x y z hG hB hF hz => ?_
  obtain ⟨_, m, _⟩ := y
  change slices_Sorted_keys m = some z at hz
  unfold slices_Sorted_keys at hz
  split at hz
  case isFalse => cases hz
  rename_i hc
  obtain rfl := Option.some.inj hz
  match vs, hF.args with
  | [v], ⟨h0, _⟩ =>
    obtain ⟨cv, rfl, hcs⟩ := h0
    obtain ⟨g1, hg1, hr1⟩ := hF.res 0 (.cells [.mref 1]) rfl
    obtain ⟨g2, hg2, hr2⟩ := hF.res 1 (.map .bool m) rfl
    have hr1' := hr1
    have hr2' := hr2
    obtain ⟨bm, vs1, el, e1, hb1, ha1⟩ := hr1
    obtain ⟨b, es, c, e2, hb2, ha2, hst2⟩ := hr2
    have hcv : cv.toList = [boxV bm] := by
      match cv.toList, hcs with
      | [u], ⟨⟨gy, by_, hgy, hv, hu⟩, _⟩ =>
        have : g 0 = some gy := hgy
        rw [hg1] at this
        cases this
        rw [e1] at hv
        rw [hu, ← hv]
    have hcv2 : cv = #[boxV bm] := by rw [← Array.toArray_toList (xs := cv), hcv]
    subst hcv2
    have hvs1 : vs1 = #[.map (some b)] := by
      rw [← Array.toArray_toList (xs := vs1)]
      match vs1.toList, ha1 with
      | [u], ⟨⟨gy, by_, hgy, hv, hu⟩, _⟩ =>
        have : g 1 = some gy := hgy
        rw [hg2] at this
        cases this
        rw [e2] at hv
        rw [hu, ← hv]
    subst hvs1
    have hml : es.size = m.length := by rw [ha2.len, Array.length_toList]
    have hun : Tryd.prog.underlying 9 = some .string := Tryd.underlying9
    have hown : w.ownsMap Tryd.prog 9 keyR b m.length (.map ((es.toList.map (Go.WideElems.rg Tryd.prog 9 keyR)).foldr DataW.insert [])) := by
      refine ⟨es, c, hb2, ⟨?_, hst2, fun x hx => ?_⟩, by omega, rfl⟩
      · have := hc.1; unfold maxLen; omega
      · obtain ⟨i, hi⟩ := List.getElem?_of_mem hx
        obtain ⟨p, hp, hkey, _⟩ := ha2.get' hi
        exact ⟨_, key_rd hun hkey (hc.2 p (List.mem_of_getElem? hp))⟩
    have hsize : Maps.size (DataW.map (H := Unit) ((es.toList.map (Go.WideElems.rg Tryd.prog 9 keyR)).foldr DataW.insert [])) = m.length := by
      show (List.length _) = _
      rw [DataW.length_sorted, List.length_map, Array.length_toList, hml]
    have hperm : (strKeys (DataW.map (H := Unit) ((es.toList.map (Go.WideElems.rg Tryd.prog 9 keyR)).foldr DataW.insert []))).Perm (m.map (·.1)) := by
      rw [← key_map hun m es.toList ha2 hc.2]
      have e : ∀ l : List (Lit × DataW Unit), strKeys (DataW.map l) = l.map fun p => strOf p.1 := fun _ => rfl
      have h9 := (Go.WideShapes.sorted_perm (es.toList.map (Go.WideElems.rg Tryd.prog 9 keyR))).map (fun p : Lit × DataW Unit => strOf p.1)
      rw [List.map_map, Function.comp_def] at h9
      rw [e]
      generalize ((es.toList.map (Go.WideElems.rg Tryd.prog 9 keyR)).foldr DataW.insert []).map (fun p : Lit × DataW Unit => strOf p.1) = A at h9 ⊢
      generalize (Go.WideElems.rg Tryd.prog 9 keyR : MapEntry → Lit × DataW Unit) = f at h9 ⊢
      exact h9
    have hcell : w.cell? ⟨bm, 0, none⟩ = some (.map (some b)) := by
      unfold World.cell?
      rw [hb1]; rfl
    have hseq : SeqGives Fence.wide 2 Tryd.prog 103 #[boxV bm] encStr (fun ss => ss.Perm (strKeys _)) (Maps.size _) w :=
      AnyZ.keys_gives (ρ := Tryd.keysK_ren) { Tryd.keysK with } Fence.wide _ trivial rfl (by omega) bm b m.length _ w (lt_of_map hb1) hcell hown
    have hmax : Maps.size (DataW.map (H := Unit) ((es.toList.map (Go.WideElems.rg Tryd.prog 9 keyR)).foldr DataW.insert [])) ≤ maxLen := by rw [hsize]; have := hc.1; unfold maxLen; omega
    have hbytes : Maps.size (DataW.map (H := Unit) ((es.toList.map (Go.WideElems.rg Tryd.prog 9 keyR)).foldr DataW.insert [])) * 16 ≤ 140737488355328 := by rw [hsize]; exact hc.1
    refine ((callsIn_wide (n := 5)).1 (AnyZ.sorted_in Tryd.sortedK Fence.wide 5 trivial trivial trivial trivial rfl (by omega) (sortsK _) (enters_of Tryd.func102 (by kernel_rfl) rfl) 103 #[boxV bm] trivial (enters_of Tryd.func103 (by kernel_rfl) rfl) _ _ hmax hbytes w hseq)).mono fun e w' hp => ?_
    obtain ⟨v', ss, rfl, hS, hrow, hnil, hbel⟩ := hp
    have hsort : ss.mergeSort (fun x y => decide (x ≤ y)) = (m.map (·.1)).mergeSort leStr := mergeSort_of_perm (hS.trans hperm)
    have hslen : ss.length = ((m.map (·.1)).mergeSort leStr).length := by rw [List.length_mergeSort]; exact (hS.trans hperm).length_eq
    rw [hsort, hslen] at hrow
    have hE : Ext w w' := ⟨hbel.os, hbel.tape, hbel.output, hbel.size, fun k hk => hbel.block k hk⟩
    obtain ⟨A', c', hv', _⟩ := Row.of_own' hrow
    refine ⟨[v'], ⟨v'.ownBlock, ((m.map (·.1)).mergeSort leStr).length * 1, v'⟩, rfl, hE, fun b' hb => ?_, fun M' g' hgo hgn hst => ⟨⟨⟨_, A', _, c', hgn, rfl, hv'⟩, trivial⟩, fun r blk hr => ?_⟩⟩
    · rcases hrow.2 with ⟨e3, _⟩ | ⟨g3, cap, cur, e3, hb3, hg3, _⟩
      · rw [e3] at hb; cases hb
      · rw [e3] at hb
        simp only [Value.ownBlock, Option.some.injEq] at hb
        subst hb
        refine ⟨hb3, lt_of_map hg3, fun _ es' c'' h => ?_⟩
        rw [hg3] at h; cases h
    · match r, hr with
      | 0, hr =>
        obtain rfl : Blk.cells [.mref 1] = blk := Option.some.inj hr
        exact ⟨g1, hgo _ _ hg1, bm, #[.map (some b)], el, e1, (hE.block bm (lt_of_map hb1)).trans hb1, ⟨⟨g2, b, hgo _ _ hg2, by rw [e2], rfl⟩, trivial⟩⟩
      | 1, hr =>
        obtain rfl : Blk.map .bool m = blk := Option.some.inj hr
        exact ⟨g2, hgo _ _ hg2, (RepB.step hst (fun b' hb => hE.block b' (hF.low _ _ _ hg2 hb).2) hr2' : RepB M' _ g g2 (.map .bool m))⟩
      | 2, hr =>
        obtain rfl : Blk.row 9 .str false ((m.map (·.1)).mergeSort leStr) = blk := Option.some.inj hr
        exact ⟨_, hgn, by decide, _, ownsRow_base_a hrow (Nat.zero_le _), rfl, rfl, str_els _⟩
      | 3, hr => cases hr
      | r + 4, hr => cases hr
end Go.Proofs.YthlkidohpiebiaaDoor


