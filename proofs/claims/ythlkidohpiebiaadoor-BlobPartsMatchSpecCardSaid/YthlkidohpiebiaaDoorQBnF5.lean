/- What functions of the program compute, as plain functions (printed). -/
import Derived.Test.YthlkidohpiebiaaDoorQBnF2
import Derived.Shelf.SlSortCmp.WholeK
import Derived.Shelf.SlGeneric
import Derived.Shelf.SortM.Plain
import Derived.Shelf.SortM.SortNone
import Derived.Ground.SlgmProg
import Derived.Test.YthlkidohpiebiaaDoorProg
import Derived.Shelf.SlIter.Nil
import Derived.Ground.GgzProg
namespace Go.Proofs.YthlkidohpiebiaaDoor
open Go Go.RowKit
set_option maxRecDepth 100000
set_option linter.unusedVariables false
noncomputable section
def blob_clashes_L0T (_N : Nat) (x0 : List (Str × Bool)) (x1 : Str) (c7 : Int) (k0 : Option Bool) (self : Int → Option Bool) (s8 : Int) : Option Bool :=
  br (decide (s8 < c7))
    (bnd (geti x1 s8) fun t13 =>
    br (t13 == (47 : UInt8))
      (bnd (slc x1 (0 : Int) s8) fun t19 =>
      br ((mget x0 t19).getD (zero .bool))
        (some true)
        (self (IntKind.i64.wrap (s8 + (1 : Int)))))
      (self (IntKind.i64.wrap (s8 + (1 : Int)))))
    (k0)
def blob_clashes_L0 (N : Nat) (x0 : List (Str × Bool)) (x1 : Str) (c7 : Int) (k0 : Option Bool) : Nat → Int → Option Bool
  | 0, _ => none
  | n + 1, s8 => blob_clashes_L0T N x0 x1 c7 k0 (blob_clashes_L0 N x0 x1 c7 k0 n) s8
def blob_clashes (N : Nat) (x0 : List (Str × Bool)) (x1 : Str) : Option Bool :=
  blob_clashes_L0 N x0 x1 (x1.length : Int) (some false) N (0 : Int)
abbrev blob_clashes_sg (f : SV [.v (.mp .bool), .v .str] → BV [] → Option (Bool)) : AF := { ps := [.v (.mp .bool), .v .str], bs := [], rs := [.v .bool], cs := [], R := Bool, out := fun z => ((z, ()), ()), f := f }
abbrev blob_clashes_pk : SV [.v .bool] → BV [] → Bool := fun x _ => x.1
def blob_clashes_fn (_N : Nat) : FuncId → Option Tmp → Option AF := fun f _ =>
  match f with
    | _ => none
theorem blob_clashes_fn_ok (N : Nat) : ∀ f q F, blob_clashes_fn N f q = some F → Sound Tryd.prog GW B0G f F := by
  intro f q F h
  unfold blob_clashes_fn at h
  split at h
  · cases h
def blob_clashes_h : Nat → Hint := fun i =>
  match i with
  | 0 => ⟨[], [0, 1, 7, 8], [], [], [], []⟩
  | _ => ⟨[], [], [], [], [], []⟩
abbrev blob_clashes_E (N : Nat) : Env := mkE blob_clashes_h (blob_clashes_fn N) (fun _ => false) (fun _ => false)
abbrev blob_clashes_L0_fs : List (Nat × Sl) := [(0, .v (.mp .bool)), (1, .v .str), (7, .v (.int .i64)), (8, .v (.int .i64))]
abbrev blob_clashes_L0_bs : List (Nat × Sb) := []
def blob_clashes_L0_hd (x0 : List (Str × Bool)) (x1 : Str) (c7 : Int) (s8 : Int) : St := ⟨23, [(0, .v (.mp .bool) x0), (1, .v .str x1), (7, .v (.int .i64) c7), (8, .v (.int .i64) s8)], []⟩
def blob_clashes_L0_tl0 (_x0 : List (Str × Bool)) (_x1 : Str) (_c7 : Int) : St := ⟨23, [], []⟩
def blob_clashes_L0_G (N : Nat) (x0 : List (Str × Bool)) (x1 : Str) (c7 : Int) (s8 : Int) (k : Ex → St → Option Bool) : Option Bool :=
  blob_clashes_L0 N x0 x1 c7 (k (.exit 0) (blob_clashes_L0_tl0 x0 x1 c7)) N s8
abbrev blob_clashes_L0_F (N : Nat) : FV blob_clashes_L0_fs → HV blob_clashes_L0_bs → (Ex → St → Option Bool) → Option Bool := fun x _ k => blob_clashes_L0_G N x.1 x.2.1 x.2.2.1 x.2.2.2.1 k
noncomputable def blob_clashes_LP (N : Nat) : Nat → Code → St → (Ex → St → Option Bool) → Option Bool := fun i c =>
  match i with
  | 0 => (LPc 23 blob_clashes_L0_fs blob_clashes_L0_bs (blob_clashes_L0_F N) (fun st k => iter (blob_clashes_h 0) (exec (blob_clashes_E N) N c 0) N st k))
  | i => fun st k => iter (blob_clashes_h i) (exec (blob_clashes_E N) N c i) N st k
theorem blob_clashes_L0_step (N : Nat) (x0 : List (Str × Bool)) (x1 : Str) (c7 : Int) (KX : Nat → St → Option Bool) (I : St → Option Bool) (s8 : Int) :
    execL (blob_clashes_LP N) (blob_clashes_E N) (cAt (bodyOf Tryd.f70) [true, false, true, false, false]) 0 (blob_clashes_L0_hd x0 x1 c7 s8) (roundK (blob_clashes_h 0) I KX (resD (blob_clashes_E N) Tryd.f70 (blob_clashes_sg fun x _ => blob_clashes N x.1 x.2.1) blob_clashes_pk)) = blob_clashes_L0T N x0 x1 c7 (KX 0 (blob_clashes_L0_tl0 x0 x1 c7)) (fun s8 => I (blob_clashes_L0_hd x0 x1 c7 s8)) s8 := by kernel_rfl
theorem blob_clashes_L0_ok (N : Nat) : ∀ x y k, (∀ st, k .ret st = (resD (blob_clashes_E N) Tryd.f70 (blob_clashes_sg fun x _ => blob_clashes N x.1 x.2.1) blob_clashes_pk) st) → iter (blob_clashes_h 0) (exec (blob_clashes_E N) N (cAt (bodyOf Tryd.f70) [true, false, true, false, false]) 0) N ⟨23, unF blob_clashes_L0_fs x, unH blob_clashes_L0_bs y⟩ k = blob_clashes_L0_F N x y k := fun x _ k hk =>
  iter_link (S := (Int) × Unit) (blob_clashes_h 0) _ (execL (blob_clashes_LP N) (blob_clashes_E N) (cAt (bodyOf Tryd.f70) [true, false, true, false, false]) 0) (resD (blob_clashes_E N) Tryd.f70 (blob_clashes_sg fun x _ => blob_clashes N x.1 x.2.1) blob_clashes_pk) (fun st k hk => execL_eq _ _ N _ (cAt (bodyOf Tryd.f70) [true, false, true, false, false]) 0 (show LoopsOk (blob_clashes_LP N) (blob_clashes_E N) N (resD (blob_clashes_E N) Tryd.f70 (blob_clashes_sg fun x _ => blob_clashes N x.1 x.2.1) blob_clashes_pk) [] from trivial) st k hk) (fun s => blob_clashes_L0_hd x.1 x.2.1 x.2.2.1 s.1) k hk
    (fun self s => blob_clashes_L0T N x.1 x.2.1 x.2.2.1 (k (.exit 0) (blob_clashes_L0_tl0 x.1 x.2.1 x.2.2.1)) (fun s8 => self (s8, ())) s.1) (fun n s => blob_clashes_L0 N x.1 x.2.1 x.2.2.1 (k (.exit 0) (blob_clashes_L0_tl0 x.1 x.2.1 x.2.2.1)) n s.1) (fun _ => rfl) (fun _ _ => rfl)
    (fun I s => blob_clashes_L0_step N x.1 x.2.1 x.2.2.1 (fun j => k (.exit j)) I s.1) N (x.2.2.2.1, ())
theorem blob_clashes_lp0 (N : Nat) : ∀ st k, (∀ st, k .ret st = (resD (blob_clashes_E N) Tryd.f70 (blob_clashes_sg fun x _ => blob_clashes N x.1 x.2.1) blob_clashes_pk) st) → blob_clashes_LP N 0 (cAt (bodyOf Tryd.f70) [true, false, true, false, false]) st k = iter (Env.hint (blob_clashes_E N) 0) (exec (blob_clashes_E N) N (cAt (bodyOf Tryd.f70) [true, false, true, false, false]) 0) N st k := fun st k hk => LPc_eq 23 blob_clashes_L0_fs blob_clashes_L0_bs _ _ (resD (blob_clashes_E N) Tryd.f70 (blob_clashes_sg fun x _ => blob_clashes N x.1 x.2.1) blob_clashes_pk) (blob_clashes_L0_ok N) _ st k hk (rfl)
theorem blob_clashes_core (N : Nat) (x : SV [.v (.mp .bool), .v .str]) (y : BV []) : runL (blob_clashes_E N) Tryd.f70 (blob_clashes_sg fun x _ => blob_clashes N x.1 x.2.1) blob_clashes_pk (blob_clashes_LP N) x y = blob_clashes N x.1 x.2.1 := by kernel_rfl
theorem blob_clashes_sound (N : Nat) : Sound Tryd.prog GW B0G 70 (blob_clashes_sg fun x _ => blob_clashes N x.1 x.2.1) :=
  runD_sound (mkE_ok blob_clashes_h (blob_clashes_fn N) _ _ (blob_clashes_fn_ok N)) Tryd.func70 rfl Tryd.call70 (blob_clashes_sg fun x _ => blob_clashes N x.1 x.2.1) blob_clashes_pk (fun _ _ => rfl) N (fun x y _ h => ((runL_eq (blob_clashes_E N) N Tryd.f70 (blob_clashes_sg fun x _ => blob_clashes N x.1 x.2.1) blob_clashes_pk (blob_clashes_LP N) (show LoopsOk (blob_clashes_LP N) (blob_clashes_E N) N (resD (blob_clashes_E N) Tryd.f70 (blob_clashes_sg fun x _ => blob_clashes N x.1 x.2.1) blob_clashes_pk) [(0, (cAt (bodyOf Tryd.f70) [true, false, true, false, false]))] from ⟨blob_clashes_lp0 N, trivial⟩) x y).trans (blob_clashes_core N x y)).trans h)
def blob_CheckFiles_L0T (N : Nat) (x0 : List (Str × Bool × List UInt8)) (c13 : List (Str × Bool × List UInt8)) (c14 : Int) (k0 : Int → (List (Str × Bool)) → Option Int) (self : Int → Int → (List (Str × Bool)) → Option Int) (s3 : Int) (s15 : Int) (m1012 : List (Str × Bool)) : Option Int :=
  br (decide (s15 < c14))
    (bnd (geti c13 s15) fun t18 =>
    bnd (blob_IsPath N t18.1) fun t23 =>
    br (!t23)
      (some (3 : Int))
      (br (decide ((t18.2.2.length : Int) > (100000 : Int)))
        (some (2 : Int))
        (br (decide (s15 > (0 : Int)))
          (bnd (geti x0 (IntKind.i64.wrap (s15 - (1 : Int)))) fun t39 =>
          br (Op.bytesLess t18.1 t39.1 || t18.1 == t39.1)
            (some (8 : Int))
            (self (IntKind.i64.wrap (s3 + (t18.2.2.length : Int))) (IntKind.i64.wrap (s15 + (1 : Int))) (mset m1012 t18.1 true)))
          (self (IntKind.i64.wrap (s3 + (t18.2.2.length : Int))) (IntKind.i64.wrap (s15 + (1 : Int))) (mset m1012 t18.1 true)))))
    (k0 s3 m1012)
def blob_CheckFiles_L0 (N : Nat) (x0 : List (Str × Bool × List UInt8)) (c13 : List (Str × Bool × List UInt8)) (c14 : Int) (k0 : Int → (List (Str × Bool)) → Option Int) : Nat → Int → Int → (List (Str × Bool)) → Option Int
  | 0, _, _, _ => none
  | n + 1, s3, s15, m1012 => blob_CheckFiles_L0T N x0 c13 c14 k0 (blob_CheckFiles_L0 N x0 c13 c14 k0 n) s3 s15 m1012
def blob_CheckFiles_L1T (N : Nat) (x0 : List (Str × Bool × List UInt8)) (c54 : Int) (o0_m1012 : List (Str × Bool)) (k3 : Option Int) (self : Int → Option Int) (s55 : Int) : Option Int :=
  br (decide (s55 < c54))
    (bnd (geti x0 s55) fun t57 =>
    bnd (blob_clashes N o0_m1012 t57.1) fun t62 =>
    br (t62)
      (some (12 : Int))
      (self (IntKind.i64.wrap (s55 + (1 : Int)))))
    (k3)
def blob_CheckFiles_L1 (N : Nat) (x0 : List (Str × Bool × List UInt8)) (c54 : Int) (o0_m1012 : List (Str × Bool)) (k3 : Option Int) : Nat → Int → Option Int
  | 0, _ => none
  | n + 1, s55 => blob_CheckFiles_L1T N x0 c54 o0_m1012 k3 (blob_CheckFiles_L1 N x0 c54 o0_m1012 k3 n) s55
def blob_CheckFiles (N : Nat) (x0 : List (Str × Bool × List UInt8)) : Option Int :=
  br (decide ((x0.length : Int) > (1000 : Int)))
    (some (2 : Int))
    (blob_CheckFiles_L0 N x0 x0 (x0.length : Int) (fun o0_3 o0_m1012 =>
        blob_CheckFiles_L1 N x0 (x0.length : Int) o0_m1012 (br (decide (o0_3 > (2000000 : Int)))
              (some (2 : Int))
              (some (0 : Int))) N (0 : Int)) N (0 : Int) (0 : Int) ([] : List (Str × Bool)))
abbrev blob_CheckFiles_sg (f : SV [.v (.sl (.pr .str (.pr .bool (.sl .u8))))] → BV [] → Option (Int)) : AF := { ps := [.v (.sl (.pr .str (.pr .bool (.sl .u8))))], bs := [], rs := [.v (.int .i64)], cs := [], R := Int, out := fun z => ((z, ()), ()), f := f }
abbrev blob_CheckFiles_pk : SV [.v (.int .i64)] → BV [] → Int := fun x _ => x.1
def blob_CheckFiles_fn (N : Nat) : FuncId → Option Tmp → Option AF := fun f _ =>
  match f with
    | 38 => some (blob_IsPath_sg fun x _ => blob_IsPath N x.1)
    | 70 => some (blob_clashes_sg fun x _ => blob_clashes N x.1 x.2.1)
    | _ => none
theorem blob_CheckFiles_fn_ok (N : Nat) : ∀ f q F, blob_CheckFiles_fn N f q = some F → Sound Tryd.prog GW B0G f F := by
  intro f q F h
  unfold blob_CheckFiles_fn at h
  split at h
  · cases h; exact blob_IsPath_sound N
  · cases h; exact blob_clashes_sound N
  · cases h
def blob_CheckFiles_h : Nat → Hint := fun i =>
  match i with
  | 0 => ⟨[], [0, 3, 4, 13, 14, 15], [1012], [0, 3, 4], [1012], []⟩
  | 3 => ⟨[], [3, 4, 53, 54, 55], [1012], [3], [], []⟩
  | _ => ⟨[], [], [], [], [], []⟩
abbrev blob_CheckFiles_E (N : Nat) : Env := mkE blob_CheckFiles_h (blob_CheckFiles_fn N) (fun _ => false) (fun _ => false)
abbrev blob_CheckFiles_L0_fs : List (Nat × Sl) := [(0, .v (.sl (.pr .str (.pr .bool (.sl .u8))))), (3, .v (.int .i64)), (4, .mref 1012), (13, .v (.sl (.pr .str (.pr .bool (.sl .u8))))), (14, .v (.int .i64)), (15, .v (.int .i64))]
abbrev blob_CheckFiles_L0_bs : List (Nat × Sb) := [(1012, .map .bool)]
def blob_CheckFiles_L0_hd (x0 : List (Str × Bool × List UInt8)) (c13 : List (Str × Bool × List UInt8)) (c14 : Int) (s3 : Int) (s15 : Int) (m1012 : List (Str × Bool)) : St := ⟨66, [(0, .v (.sl (.pr .str (.pr .bool (.sl .u8)))) x0), (3, .v (.int .i64) s3), (4, .mref 1012), (13, .v (.sl (.pr .str (.pr .bool (.sl .u8)))) c13), (14, .v (.int .i64) c14), (15, .v (.int .i64) s15)], [(1012, .map .bool m1012)]⟩
def blob_CheckFiles_L0_tl0 (x0 : List (Str × Bool × List UInt8)) (_c13 : List (Str × Bool × List UInt8)) (_c14 : Int) (o0_3 : Int) (o0_m1012 : List (Str × Bool)) : St := ⟨66, [(0, .v (.sl (.pr .str (.pr .bool (.sl .u8)))) x0), (3, .v (.int .i64) o0_3), (4, .mref 1012)], [(1012, .map .bool o0_m1012)]⟩
def blob_CheckFiles_L0_G (N : Nat) (x0 : List (Str × Bool × List UInt8)) (c13 : List (Str × Bool × List UInt8)) (c14 : Int) (s3 : Int) (s15 : Int) (m1012 : List (Str × Bool)) (k : Ex → St → Option Int) : Option Int :=
  blob_CheckFiles_L0 N x0 c13 c14 (fun o0_3 o0_m1012 => k (.exit 0) (blob_CheckFiles_L0_tl0 x0 c13 c14 o0_3 o0_m1012)) N s3 s15 m1012
abbrev blob_CheckFiles_L0_F (N : Nat) : FV blob_CheckFiles_L0_fs → HV blob_CheckFiles_L0_bs → (Ex → St → Option Int) → Option Int := fun x y k => blob_CheckFiles_L0_G N x.1 x.2.2.2.1 x.2.2.2.2.1 x.2.1 x.2.2.2.2.2.1 y.1 k
abbrev blob_CheckFiles_L1_fs : List (Nat × Sl) := [(3, .v (.int .i64)), (4, .mref 1012), (53, .v (.sl (.pr .str (.pr .bool (.sl .u8))))), (54, .v (.int .i64)), (55, .v (.int .i64))]
abbrev blob_CheckFiles_L1_bs : List (Nat × Sb) := [(1012, .map .bool)]
def blob_CheckFiles_L1_hd (o0_3 : Int) (x0 : List (Str × Bool × List UInt8)) (c54 : Int) (o0_m1012 : List (Str × Bool)) (s55 : Int) : St := ⟨66, [(3, .v (.int .i64) o0_3), (4, .mref 1012), (53, .v (.sl (.pr .str (.pr .bool (.sl .u8)))) x0), (54, .v (.int .i64) c54), (55, .v (.int .i64) s55)], [(1012, .map .bool o0_m1012)]⟩
def blob_CheckFiles_L1_tl3 (o0_3 : Int) (_x0 : List (Str × Bool × List UInt8)) (_c54 : Int) (_o0_m1012 : List (Str × Bool)) : St := ⟨66, [(3, .v (.int .i64) o0_3)], []⟩
def blob_CheckFiles_L1_G (N : Nat) (o0_3 : Int) (x0 : List (Str × Bool × List UInt8)) (c54 : Int) (o0_m1012 : List (Str × Bool)) (s55 : Int) (k : Ex → St → Option Int) : Option Int :=
  blob_CheckFiles_L1 N x0 c54 o0_m1012 (k (.exit 3) (blob_CheckFiles_L1_tl3 o0_3 x0 c54 o0_m1012)) N s55
abbrev blob_CheckFiles_L1_F (N : Nat) : FV blob_CheckFiles_L1_fs → HV blob_CheckFiles_L1_bs → (Ex → St → Option Int) → Option Int := fun x y k => blob_CheckFiles_L1_G N x.1 x.2.2.1 x.2.2.2.1 y.1 x.2.2.2.2.1 k
noncomputable def blob_CheckFiles_LP (N : Nat) : Nat → Code → St → (Ex → St → Option Int) → Option Int := fun i c =>
  match i with
  | 0 => (LPc 66 blob_CheckFiles_L0_fs blob_CheckFiles_L0_bs (blob_CheckFiles_L0_F N) (fun st k => iter (blob_CheckFiles_h 0) (exec (blob_CheckFiles_E N) N c 0) N st k))
  | 3 => (LPc 66 blob_CheckFiles_L1_fs blob_CheckFiles_L1_bs (blob_CheckFiles_L1_F N) (fun st k => iter (blob_CheckFiles_h 3) (exec (blob_CheckFiles_E N) N c 3) N st k))
  | i => fun st k => iter (blob_CheckFiles_h i) (exec (blob_CheckFiles_E N) N c i) N st k
theorem blob_CheckFiles_L1_step (N : Nat) (o0_3 : Int) (x0 : List (Str × Bool × List UInt8)) (c54 : Int) (o0_m1012 : List (Str × Bool)) (KX : Nat → St → Option Int) (I : St → Option Int) (s55 : Int) :
    execL (blob_CheckFiles_LP N) (blob_CheckFiles_E N) (cAt (bodyOf Tryd.f35) [true, true, true, true, true, false, true, false, false]) 3 (blob_CheckFiles_L1_hd o0_3 x0 c54 o0_m1012 s55) (roundK (blob_CheckFiles_h 3) I KX (resD (blob_CheckFiles_E N) Tryd.f35 (blob_CheckFiles_sg fun x _ => blob_CheckFiles N x.1) blob_CheckFiles_pk)) = blob_CheckFiles_L1T N x0 c54 o0_m1012 (KX 3 (blob_CheckFiles_L1_tl3 o0_3 x0 c54 o0_m1012)) (fun s55 => I (blob_CheckFiles_L1_hd o0_3 x0 c54 o0_m1012 s55)) s55 := by kernel_rfl
theorem blob_CheckFiles_L1_ok (N : Nat) : ∀ x y k, (∀ st, k .ret st = (resD (blob_CheckFiles_E N) Tryd.f35 (blob_CheckFiles_sg fun x _ => blob_CheckFiles N x.1) blob_CheckFiles_pk) st) → iter (blob_CheckFiles_h 3) (exec (blob_CheckFiles_E N) N (cAt (bodyOf Tryd.f35) [true, true, true, true, true, false, true, false, false]) 3) N ⟨66, unF blob_CheckFiles_L1_fs x, unH blob_CheckFiles_L1_bs y⟩ k = blob_CheckFiles_L1_F N x y k := fun x y k hk =>
  iter_link (S := (Int) × Unit) (blob_CheckFiles_h 3) _ (execL (blob_CheckFiles_LP N) (blob_CheckFiles_E N) (cAt (bodyOf Tryd.f35) [true, true, true, true, true, false, true, false, false]) 3) (resD (blob_CheckFiles_E N) Tryd.f35 (blob_CheckFiles_sg fun x _ => blob_CheckFiles N x.1) blob_CheckFiles_pk) (fun st k hk => execL_eq _ _ N _ (cAt (bodyOf Tryd.f35) [true, true, true, true, true, false, true, false, false]) 3 (show LoopsOk (blob_CheckFiles_LP N) (blob_CheckFiles_E N) N (resD (blob_CheckFiles_E N) Tryd.f35 (blob_CheckFiles_sg fun x _ => blob_CheckFiles N x.1) blob_CheckFiles_pk) [] from trivial) st k hk) (fun s => blob_CheckFiles_L1_hd x.1 x.2.2.1 x.2.2.2.1 y.1 s.1) k hk
    (fun self s => blob_CheckFiles_L1T N x.2.2.1 x.2.2.2.1 y.1 (k (.exit 3) (blob_CheckFiles_L1_tl3 x.1 x.2.2.1 x.2.2.2.1 y.1)) (fun s55 => self (s55, ())) s.1) (fun n s => blob_CheckFiles_L1 N x.2.2.1 x.2.2.2.1 y.1 (k (.exit 3) (blob_CheckFiles_L1_tl3 x.1 x.2.2.1 x.2.2.2.1 y.1)) n s.1) (fun _ => rfl) (fun _ _ => rfl)
    (fun I s => blob_CheckFiles_L1_step N x.1 x.2.2.1 x.2.2.2.1 y.1 (fun j => k (.exit j)) I s.1) N (x.2.2.2.2.1, ())
theorem blob_CheckFiles_lp3 (N : Nat) : ∀ st k, (∀ st, k .ret st = (resD (blob_CheckFiles_E N) Tryd.f35 (blob_CheckFiles_sg fun x _ => blob_CheckFiles N x.1) blob_CheckFiles_pk) st) → blob_CheckFiles_LP N 3 (cAt (bodyOf Tryd.f35) [true, true, true, true, true, false, true, false, false]) st k = iter (Env.hint (blob_CheckFiles_E N) 3) (exec (blob_CheckFiles_E N) N (cAt (bodyOf Tryd.f35) [true, true, true, true, true, false, true, false, false]) 3) N st k := fun st k hk => LPc_eq 66 blob_CheckFiles_L1_fs blob_CheckFiles_L1_bs _ _ (resD (blob_CheckFiles_E N) Tryd.f35 (blob_CheckFiles_sg fun x _ => blob_CheckFiles N x.1) blob_CheckFiles_pk) (blob_CheckFiles_L1_ok N) _ st k hk (rfl)
theorem blob_CheckFiles_L0_step (N : Nat) (x0 : List (Str × Bool × List UInt8)) (c13 : List (Str × Bool × List UInt8)) (c14 : Int) (KX : Nat → St → Option Int) (I : St → Option Int) (s3 : Int) (s15 : Int) (m1012 : List (Str × Bool)) :
    execL (blob_CheckFiles_LP N) (blob_CheckFiles_E N) (cAt (bodyOf Tryd.f35) [true, true, true, true, false, true, false, false]) 0 (blob_CheckFiles_L0_hd x0 c13 c14 s3 s15 m1012) (roundK (blob_CheckFiles_h 0) I KX (resD (blob_CheckFiles_E N) Tryd.f35 (blob_CheckFiles_sg fun x _ => blob_CheckFiles N x.1) blob_CheckFiles_pk)) = blob_CheckFiles_L0T N x0 c13 c14 (fun o0_3 o0_m1012 => KX 0 (blob_CheckFiles_L0_tl0 x0 c13 c14 o0_3 o0_m1012)) (fun s3 s15 m1012 => I (blob_CheckFiles_L0_hd x0 c13 c14 s3 s15 m1012)) s3 s15 m1012 := by kernel_rfl
theorem blob_CheckFiles_L0_ok (N : Nat) : ∀ x y k, (∀ st, k .ret st = (resD (blob_CheckFiles_E N) Tryd.f35 (blob_CheckFiles_sg fun x _ => blob_CheckFiles N x.1) blob_CheckFiles_pk) st) → iter (blob_CheckFiles_h 0) (exec (blob_CheckFiles_E N) N (cAt (bodyOf Tryd.f35) [true, true, true, true, false, true, false, false]) 0) N ⟨66, unF blob_CheckFiles_L0_fs x, unH blob_CheckFiles_L0_bs y⟩ k = blob_CheckFiles_L0_F N x y k := fun x y k hk =>
  iter_link (S := (Int) × (Int) × (List (Str × Bool)) × Unit) (blob_CheckFiles_h 0) _ (execL (blob_CheckFiles_LP N) (blob_CheckFiles_E N) (cAt (bodyOf Tryd.f35) [true, true, true, true, false, true, false, false]) 0) (resD (blob_CheckFiles_E N) Tryd.f35 (blob_CheckFiles_sg fun x _ => blob_CheckFiles N x.1) blob_CheckFiles_pk) (fun st k hk => execL_eq _ _ N _ (cAt (bodyOf Tryd.f35) [true, true, true, true, false, true, false, false]) 0 (show LoopsOk (blob_CheckFiles_LP N) (blob_CheckFiles_E N) N (resD (blob_CheckFiles_E N) Tryd.f35 (blob_CheckFiles_sg fun x _ => blob_CheckFiles N x.1) blob_CheckFiles_pk) [] from trivial) st k hk) (fun s => blob_CheckFiles_L0_hd x.1 x.2.2.2.1 x.2.2.2.2.1 s.1 s.2.1 s.2.2.1) k hk
    (fun self s => blob_CheckFiles_L0T N x.1 x.2.2.2.1 x.2.2.2.2.1 (fun o0_3 o0_m1012 => k (.exit 0) (blob_CheckFiles_L0_tl0 x.1 x.2.2.2.1 x.2.2.2.2.1 o0_3 o0_m1012)) (fun s3 s15 m1012 => self (s3, s15, m1012, ())) s.1 s.2.1 s.2.2.1) (fun n s => blob_CheckFiles_L0 N x.1 x.2.2.2.1 x.2.2.2.2.1 (fun o0_3 o0_m1012 => k (.exit 0) (blob_CheckFiles_L0_tl0 x.1 x.2.2.2.1 x.2.2.2.2.1 o0_3 o0_m1012)) n s.1 s.2.1 s.2.2.1) (fun _ => rfl) (fun _ _ => rfl)
    (fun I s => blob_CheckFiles_L0_step N x.1 x.2.2.2.1 x.2.2.2.2.1 (fun j => k (.exit j)) I s.1 s.2.1 s.2.2.1) N (x.2.1, x.2.2.2.2.2.1, y.1, ())
theorem blob_CheckFiles_lp0 (N : Nat) : ∀ st k, (∀ st, k .ret st = (resD (blob_CheckFiles_E N) Tryd.f35 (blob_CheckFiles_sg fun x _ => blob_CheckFiles N x.1) blob_CheckFiles_pk) st) → blob_CheckFiles_LP N 0 (cAt (bodyOf Tryd.f35) [true, true, true, true, false, true, false, false]) st k = iter (Env.hint (blob_CheckFiles_E N) 0) (exec (blob_CheckFiles_E N) N (cAt (bodyOf Tryd.f35) [true, true, true, true, false, true, false, false]) 0) N st k := fun st k hk => LPc_eq 66 blob_CheckFiles_L0_fs blob_CheckFiles_L0_bs _ _ (resD (blob_CheckFiles_E N) Tryd.f35 (blob_CheckFiles_sg fun x _ => blob_CheckFiles N x.1) blob_CheckFiles_pk) (blob_CheckFiles_L0_ok N) _ st k hk (rfl)
theorem blob_CheckFiles_core (N : Nat) (x : SV [.v (.sl (.pr .str (.pr .bool (.sl .u8))))]) (y : BV []) : runL (blob_CheckFiles_E N) Tryd.f35 (blob_CheckFiles_sg fun x _ => blob_CheckFiles N x.1) blob_CheckFiles_pk (blob_CheckFiles_LP N) x y = blob_CheckFiles N x.1 := by kernel_rfl
theorem blob_CheckFiles_sound (N : Nat) : Sound Tryd.prog GW B0G 35 (blob_CheckFiles_sg fun x _ => blob_CheckFiles N x.1) :=
  runD_sound (mkE_ok blob_CheckFiles_h (blob_CheckFiles_fn N) _ _ (blob_CheckFiles_fn_ok N)) Tryd.func35 rfl Tryd.call35 (blob_CheckFiles_sg fun x _ => blob_CheckFiles N x.1) blob_CheckFiles_pk (fun _ _ => rfl) N (fun x y _ h => ((runL_eq (blob_CheckFiles_E N) N Tryd.f35 (blob_CheckFiles_sg fun x _ => blob_CheckFiles N x.1) blob_CheckFiles_pk (blob_CheckFiles_LP N) (show LoopsOk (blob_CheckFiles_LP N) (blob_CheckFiles_E N) N (resD (blob_CheckFiles_E N) Tryd.f35 (blob_CheckFiles_sg fun x _ => blob_CheckFiles N x.1) blob_CheckFiles_pk) [(0, (cAt (bodyOf Tryd.f35) [true, true, true, true, false, true, false, false])), (3, (cAt (bodyOf Tryd.f35) [true, true, true, true, true, false, true, false, false]))] from ⟨blob_CheckFiles_lp0 N, blob_CheckFiles_lp3 N, trivial⟩) x y).trans (blob_CheckFiles_core N x y)).trans h)
def ref1_there_L0T (_N : Nat) (x0 : List (Str × Bool × List UInt8)) (x1 : Str) (k0 : Int → Option Bool) (self : Int → Int → Option Bool) (s5 : Int) (s6 : Int) : Option Bool :=
  br (decide (s5 < s6))
    (br ((2 : Int) == 0)
      none
      (bnd (geti x0 (IntKind.i64.wrap (Int.tdiv (IntKind.i64.wrap (s5 + s6)) (2 : Int)))) fun t19 =>
      br (Op.bytesLess t19.1 x1)
        (self (IntKind.i64.wrap ((IntKind.i64.wrap (Int.tdiv (IntKind.i64.wrap (s5 + s6)) (2 : Int))) + (1 : Int))) s6)
        (self s5 (IntKind.i64.wrap (Int.tdiv (IntKind.i64.wrap (s5 + s6)) (2 : Int))))))
    (k0 s5)
def ref1_there_L0 (N : Nat) (x0 : List (Str × Bool × List UInt8)) (x1 : Str) (k0 : Int → Option Bool) : Nat → Int → Int → Option Bool
  | 0, _, _ => none
  | n + 1, s5, s6 => ref1_there_L0T N x0 x1 k0 (ref1_there_L0 N x0 x1 k0 n) s5 s6
def ref1_there (N : Nat) (x0 : List (Str × Bool × List UInt8)) (x1 : Str) : Option Bool :=
  ref1_there_L0 N x0 x1 (fun o0_5 =>
      br (decide (o0_5 < (x0.length : Int)))
        (bnd (geti x0 o0_5) fun t34 =>
        some (t34.1 == x1))
        (some false)) N (0 : Int) (x0.length : Int)
abbrev ref1_there_sg (f : SV [.v (.sl (.pr .str (.pr .bool (.sl .u8)))), .v .str] → BV [] → Option (Bool)) : AF := { ps := [.v (.sl (.pr .str (.pr .bool (.sl .u8)))), .v .str], bs := [], rs := [.v .bool], cs := [], R := Bool, out := fun z => ((z, ()), ()), f := f }
abbrev ref1_there_pk : SV [.v .bool] → BV [] → Bool := fun x _ => x.1
def ref1_there_fn (_N : Nat) : FuncId → Option Tmp → Option AF := fun f _ =>
  match f with
    | _ => none
theorem ref1_there_fn_ok (N : Nat) : ∀ f q F, ref1_there_fn N f q = some F → Sound Tryd.prog GW B0G f F := by
  intro f q F h
  unfold ref1_there_fn at h
  split at h
  · cases h
def ref1_there_h : Nat → Hint := fun i =>
  match i with
  | 0 => ⟨[], [0, 1, 5, 6], [], [0, 1, 5], [], []⟩
  | _ => ⟨[], [], [], [], [], []⟩
abbrev ref1_there_E (N : Nat) : Env := mkE ref1_there_h (ref1_there_fn N) (fun _ => false) (fun _ => false)
abbrev ref1_there_L0_fs : List (Nat × Sl) := [(0, .v (.sl (.pr .str (.pr .bool (.sl .u8))))), (1, .v .str), (5, .v (.int .i64)), (6, .v (.int .i64))]
abbrev ref1_there_L0_bs : List (Nat × Sb) := []
def ref1_there_L0_hd (x0 : List (Str × Bool × List UInt8)) (x1 : Str) (s5 : Int) (s6 : Int) : St := ⟨40, [(0, .v (.sl (.pr .str (.pr .bool (.sl .u8)))) x0), (1, .v .str x1), (5, .v (.int .i64) s5), (6, .v (.int .i64) s6)], []⟩
def ref1_there_L0_tl0 (x0 : List (Str × Bool × List UInt8)) (x1 : Str) (o0_5 : Int) : St := ⟨40, [(0, .v (.sl (.pr .str (.pr .bool (.sl .u8)))) x0), (1, .v .str x1), (5, .v (.int .i64) o0_5)], []⟩
def ref1_there_L0_G (N : Nat) (x0 : List (Str × Bool × List UInt8)) (x1 : Str) (s5 : Int) (s6 : Int) (k : Ex → St → Option Bool) : Option Bool :=
  ref1_there_L0 N x0 x1 (fun o0_5 => k (.exit 0) (ref1_there_L0_tl0 x0 x1 o0_5)) N s5 s6
abbrev ref1_there_L0_F (N : Nat) : FV ref1_there_L0_fs → HV ref1_there_L0_bs → (Ex → St → Option Bool) → Option Bool := fun x _ k => ref1_there_L0_G N x.1 x.2.1 x.2.2.1 x.2.2.2.1 k
noncomputable def ref1_there_LP (N : Nat) : Nat → Code → St → (Ex → St → Option Bool) → Option Bool := fun i c =>
  match i with
  | 0 => (LPc 40 ref1_there_L0_fs ref1_there_L0_bs (ref1_there_L0_F N) (fun st k => iter (ref1_there_h 0) (exec (ref1_there_E N) N c 0) N st k))
  | i => fun st k => iter (ref1_there_h i) (exec (ref1_there_E N) N c i) N st k
theorem ref1_there_L0_step (N : Nat) (x0 : List (Str × Bool × List UInt8)) (x1 : Str) (KX : Nat → St → Option Bool) (I : St → Option Bool) (s5 : Int) (s6 : Int) :
    execL (ref1_there_LP N) (ref1_there_E N) (cAt (bodyOf Tryd.f104) [true, true, false, false, false]) 0 (ref1_there_L0_hd x0 x1 s5 s6) (roundK (ref1_there_h 0) I KX (resD (ref1_there_E N) Tryd.f104 (ref1_there_sg fun x _ => ref1_there N x.1 x.2.1) ref1_there_pk)) = ref1_there_L0T N x0 x1 (fun o0_5 => KX 0 (ref1_there_L0_tl0 x0 x1 o0_5)) (fun s5 s6 => I (ref1_there_L0_hd x0 x1 s5 s6)) s5 s6 := by kernel_rfl
theorem ref1_there_L0_ok (N : Nat) : ∀ x y k, (∀ st, k .ret st = (resD (ref1_there_E N) Tryd.f104 (ref1_there_sg fun x _ => ref1_there N x.1 x.2.1) ref1_there_pk) st) → iter (ref1_there_h 0) (exec (ref1_there_E N) N (cAt (bodyOf Tryd.f104) [true, true, false, false, false]) 0) N ⟨40, unF ref1_there_L0_fs x, unH ref1_there_L0_bs y⟩ k = ref1_there_L0_F N x y k := fun x _ k hk =>
  iter_link (S := (Int) × (Int) × Unit) (ref1_there_h 0) _ (execL (ref1_there_LP N) (ref1_there_E N) (cAt (bodyOf Tryd.f104) [true, true, false, false, false]) 0) (resD (ref1_there_E N) Tryd.f104 (ref1_there_sg fun x _ => ref1_there N x.1 x.2.1) ref1_there_pk) (fun st k hk => execL_eq _ _ N _ (cAt (bodyOf Tryd.f104) [true, true, false, false, false]) 0 (show LoopsOk (ref1_there_LP N) (ref1_there_E N) N (resD (ref1_there_E N) Tryd.f104 (ref1_there_sg fun x _ => ref1_there N x.1 x.2.1) ref1_there_pk) [] from trivial) st k hk) (fun s => ref1_there_L0_hd x.1 x.2.1 s.1 s.2.1) k hk
    (fun self s => ref1_there_L0T N x.1 x.2.1 (fun o0_5 => k (.exit 0) (ref1_there_L0_tl0 x.1 x.2.1 o0_5)) (fun s5 s6 => self (s5, s6, ())) s.1 s.2.1) (fun n s => ref1_there_L0 N x.1 x.2.1 (fun o0_5 => k (.exit 0) (ref1_there_L0_tl0 x.1 x.2.1 o0_5)) n s.1 s.2.1) (fun _ => rfl) (fun _ _ => rfl)
    (fun I s => ref1_there_L0_step N x.1 x.2.1 (fun j => k (.exit j)) I s.1 s.2.1) N (x.2.2.1, x.2.2.2.1, ())
theorem ref1_there_lp0 (N : Nat) : ∀ st k, (∀ st, k .ret st = (resD (ref1_there_E N) Tryd.f104 (ref1_there_sg fun x _ => ref1_there N x.1 x.2.1) ref1_there_pk) st) → ref1_there_LP N 0 (cAt (bodyOf Tryd.f104) [true, true, false, false, false]) st k = iter (Env.hint (ref1_there_E N) 0) (exec (ref1_there_E N) N (cAt (bodyOf Tryd.f104) [true, true, false, false, false]) 0) N st k := fun st k hk => LPc_eq 40 ref1_there_L0_fs ref1_there_L0_bs _ _ (resD (ref1_there_E N) Tryd.f104 (ref1_there_sg fun x _ => ref1_there N x.1 x.2.1) ref1_there_pk) (ref1_there_L0_ok N) _ st k hk (rfl)
theorem ref1_there_core (N : Nat) (x : SV [.v (.sl (.pr .str (.pr .bool (.sl .u8)))), .v .str]) (y : BV []) : runL (ref1_there_E N) Tryd.f104 (ref1_there_sg fun x _ => ref1_there N x.1 x.2.1) ref1_there_pk (ref1_there_LP N) x y = ref1_there N x.1 x.2.1 := by kernel_rfl
theorem ref1_there_sound (N : Nat) : Sound Tryd.prog GW B0G 104 (ref1_there_sg fun x _ => ref1_there N x.1 x.2.1) :=
  runD_sound (mkE_ok ref1_there_h (ref1_there_fn N) _ _ (ref1_there_fn_ok N)) Tryd.func104 rfl Tryd.call104 (ref1_there_sg fun x _ => ref1_there N x.1 x.2.1) ref1_there_pk (fun _ _ => rfl) N (fun x y _ h => ((runL_eq (ref1_there_E N) N Tryd.f104 (ref1_there_sg fun x _ => ref1_there N x.1 x.2.1) ref1_there_pk (ref1_there_LP N) (show LoopsOk (ref1_there_LP N) (ref1_there_E N) N (resD (ref1_there_E N) Tryd.f104 (ref1_there_sg fun x _ => ref1_there N x.1 x.2.1) ref1_there_pk) [(0, (cAt (bodyOf Tryd.f104) [true, true, false, false, false]))] from ⟨ref1_there_lp0 N, trivial⟩) x y).trans (ref1_there_core N x y)).trans h)
end
end Go.Proofs.YthlkidohpiebiaaDoor


/- A function that leaves all that its caller has as it is, and makes one thing anew. -/
namespace Go.Proofs.YthlkidohpiebiaaDoor
set_option linter.unusedVariables false
set_option linter.unusedSimpArgs false
open Go Go.RowKit Go.Shelf
end Go.Proofs.YthlkidohpiebiaaDoor


/- slices.Delete of strings, out of the kit's contract: it turns a row of its caller's. -/
namespace Go.Proofs.YthlkidohpiebiaaDoor
set_option linter.unusedVariables false
set_option linter.unusedSimpArgs false
open Go Go.RowKit Go.Shelf
end Go.Proofs.YthlkidohpiebiaaDoor



/- A function that turns a row of its caller's where it lies, and gives nothing back: the caller's slice is the one it was. -/
namespace Go.Proofs.YthlkidohpiebiaaDoor
set_option linter.unusedVariables false
set_option linter.unusedSimpArgs false
open Go Go.RowKit Go.Shelf
theorem Sound.ofRowKept {P : Program} {G : World → Prop} {B0 : Nat} {f : FuncId} {ps : List Sl} {e : TypeId} {t : Ty} {F : SV ps → List t.den → Option (List t.den)}
    (hcall : ∀ (args : Array Value) (w : World), (callFunc f args).run P w = .ok (.enter f args) w) (hz : 0 < t.sz)
    (h : ∀ (M : Nat → Nat → Prop) (w : World) (g : Gh) (v0 : Value) (vs : List Value) (x : SV ps) (xs zs : List t.den) (cs : List Value), G w → (∀ b o, M b o → b < w.heap.size) → (∀ b, v0.ownBlock = some b → ∀ o, M b o) →
      w.ownsRow 0 e t.sz v0 xs.length cs → Els M w t xs cs → All2 (RepD0 M w g) (lays id ps x) vs → F x xs = some zs →
      Calls P f (v0 :: vs).toArray w fun en w' => ∃ cs', en = .returned (.tuple #[]) ∧ ExtX (fun b => v0.ownBlock = some b) w w' ∧
        w'.ownsRow 0 e t.sz v0 zs.length cs' ∧ Els M w t zs cs') :
    Sound P G B0 f ⟨.row 0 :: ps, [.row e t true], [], [.row e t true, .none], List t.den, fun z => ((), (z, ((), ()))), fun x y => F x.2 y.1⟩ := by
  refine ⟨hcall, fun M w g vs0 x y zs hG hB hF hz' => ?_⟩
  obtain ⟨_, x⟩ := x
  obtain ⟨xs, _⟩ := y
  match vs0, hF.args with
  | v0 :: vs, ⟨h0, hA⟩ =>
    obtain ⟨gx, A, n, c, hg0, hv, hv2⟩ := h0
    obtain ⟨gx', hg', _, cs, hown, hblk, hlo, hels⟩ := hF.res 0 (.row e t true xs) rfl
    replace hg0 : g 0 = some gx := hg0
    rw [hg'] at hg0
    cases hg0
    have hlo : gx.lo = 0 := hlo
    rw [← hv] at hown hblk
    have hM : ∀ b, v0.ownBlock = some b → ∀ o, M b o := fun b hb o => (hF.chg 0 gx b o hg' (by rw [hblk]; exact hb)).2 (by rw [hlo]; exact Nat.zero_le _)
    have honly : ∀ r gy, g r = some gy → r = 0 := fun r gy hr => by have := hF.dom r gy hr; exact Nat.lt_one_iff.1 this
    have hX : ∀ b, Xof g b ↔ v0.ownBlock = some b := fun b => by
      constructor
      · rintro ⟨r, gy, hr, hb⟩
        obtain rfl := honly r gy hr
        rw [hg'] at hr; cases hr
        rw [← hblk]; exact hb
      · intro hb
        exact ⟨0, gx, hg', by rw [hblk]; exact hb⟩
    refine (h M w g v0 vs x xs zs cs hG hF.mlt hM hown hels hA hz').mono fun en w' hp => ?_
    obtain ⟨cs', he, hE, hown', hels'⟩ := hp
    have hblk' : ∀ b, v0.ownBlock = some b → v0.ownBlock = some b ∨ w.heap.size ≤ b := fun b h => .inl h
    obtain ⟨v', hv0⟩ : ∃ v', v' = v0 := ⟨v0, rfl⟩
    rw [← hv0] at hown'
    replace hblk' : ∀ b, v'.ownBlock = some b → v0.ownBlock = some b ∨ w.heap.size ≤ b := by rw [hv0]; exact hblk'
    obtain ⟨g', hgd⟩ : ∃ g' : Gh, g' = fun r => if r = 0 then some ⟨v'.ownBlock, 0, v'⟩ else none := ⟨_, rfl⟩
    have hg0' : g' 0 = some ⟨v'.ownBlock, 0, v'⟩ := by rw [hgd]; rfl
    have hgo : ∀ r gy, g' r = some gy → r = 0 ∧ gy = ⟨v'.ownBlock, 0, v'⟩ := fun r gy hr => by
      rw [hgd] at hr
      by_cases h0 : r = 0
      · subst h0; simp at hr; exact ⟨rfl, hr.symm⟩
      · simp [h0] at hr
    have hnew : ∀ b o, Mafter M g g' b o → (M b o ∧ v0.ownBlock ≠ some b) ∨ v'.ownBlock = some b := fun b o hm => by
      rcases hm with ⟨hm, hx⟩ | ⟨r, gy, hr, hb, _⟩
      · exact .inl ⟨hm, fun hb => hx ((hX b).2 hb)⟩
      · obtain ⟨_, rfl⟩ := hgo r gy hr
        exact .inr hb
    have hstep : Step M w (Mafter M g g') w' := by
      have key : ∀ b o, b < w.heap.size → ¬ M b o → w'.heap[b]? = w.heap[b]? ∧ ¬ Mafter M g g' b o := fun b o hb hm => by
        have hnb : v0.ownBlock ≠ some b := fun h => hm (hM b h o)
        refine ⟨hE.block b hb hnb, fun hm' => ?_⟩
        rcases hnew b o hm' with ⟨h1, _⟩ | h1
        · exact hm h1
        · rcases hblk' b h1 with h2 | h2
          · exact hnb h2
          · omega
      refine ⟨fun ad u hu hm => ?_, fun b es c hb hm => ?_⟩
      · have hlt : ad.block < w.heap.size := World.block_lt_of_cell? w _ hu
        obtain ⟨h1, h2⟩ := key ad.block ad.off hlt hm
        exact ⟨(cell_of_block h1).trans hu, h2⟩
      · obtain ⟨h1, h2⟩ := key b 0 (lt_of_map hb) hm
        exact ⟨h1.trans hb, h2⟩
    obtain ⟨A', c', hv', _⟩ := Row.of_own' hown'
    have hlow : ∀ b, v'.ownBlock = some b → B0 ≤ b ∧ b < w'.heap.size := fun b hb => by
      refine ⟨?_, own_lt hown' hb⟩
      rcases hblk' b hb with h1 | h1
      · exact (hF.low 0 gx b hg' (by rw [hblk]; exact h1)).1
      · omega
    have hrow : RepD0 (Mafter M g g') w' g' (.row 0) v' := ⟨_, A', _, c', hg0', rfl, hv'⟩
    refine ⟨[], g', ?_, ⟨hE.os, hE.tape, hE.output, hE.size, fun k hk hx => hE.block k hk fun hb => hx ((hX k).2 hb)⟩, hstep, ?_, fun r gy hr hbm => ?_, fun b hb => ?_⟩
    · rw [he]
      rfl
    · exact {
        args := trivial
        res := fun r blk hr => by
          cases r with
          | zero =>
            obtain rfl : Blk.row e t true zs = blk := Option.some.inj hr
            exact ⟨_, hg0', hz, cs', hown', rfl, rfl, fun i hi => RepC.step hstep _ _ _ (hels' i hi)⟩
          | succ r =>
            cases r with
            | zero => cases hr
            | succ r => cases hr
        dom := fun r gy hr => by obtain ⟨rfl, _⟩ := hgo r gy hr; exact Nat.zero_lt_two
        inj := fun r r' gy gy' b hr hr' _ _ => by obtain ⟨rfl, _⟩ := hgo r gy hr; obtain ⟨rfl, _⟩ := hgo r' gy' hr'; rfl
        low := fun r gy b hr hb => by obtain ⟨_, rfl⟩ := hgo r gy hr; exact hlow b hb
        chg := fun r gy b o hr hb => ⟨fun _ => by obtain ⟨_, rfl⟩ := hgo r gy hr; exact Nat.zero_le _, fun hle => .inr ⟨r, gy, hr, hb, hle⟩⟩
        mlt := fun b o hm => by
          rcases hnew b o hm with ⟨h1, _⟩ | h1
          · exact Nat.lt_of_lt_of_le (hF.mlt b o h1) hE.size
          · exact (hlow b h1).2
        row := fun r gy b hr hb h0 => by obtain ⟨_, rfl⟩ := hgo r gy hr; exact absurd h0 (Nat.lt_irrefl 0) }
    · obtain rfl := honly r gy hr
      rw [hg'] at hr; cases hr
      rw [hg0', hv0]
      obtain ⟨b1, l1, v1⟩ := gx
      dsimp only at hv hblk hlo
      subst hv hblk hlo
      rfl
    · obtain ⟨r, gy, hr, hb⟩ := hb
      obtain ⟨_, rfl⟩ := hgo r gy hr
      rcases hblk' b hb with h1 | h1
      · exact .inl ((hX b).2 h1)
      · exact .inr h1
end Go.Proofs.YthlkidohpiebiaaDoor


/- What the kit's worlds of a sort hold. -/
namespace Go.Proofs.YthlkidohpiebiaaDoor
set_option linter.unusedVariables false
set_option linter.unusedSimpArgs false
open Go Go.RowKit Go.Shelf
theorem sortW_block {α : Type} [Inhabited α] (enc : α → Value) {w : World} {n b : Nat} {d : Array α} {os : Array Obj} {cur : Array Value} {e : TypeId} {fz : Nat × Nat} (h : w.heap[b]? = some (.cells cur e fz)) :
    (Sort.grow (Sort.putRow enc (Sort.ahead w n) b 0 d) os).heap[b]? = some (.cells (Sort.putCells enc 0 d cur) e fz) := by
  have hb : b < w.heap.size := by
    apply Classical.byContradiction
    intro hn
    rw [Array.getElem?_eq_none (by omega)] at h
    cases h
  have hb2 : b < (w.heap.modify b (Sort.onCells (Sort.putCells enc 0 d))).size := by rw [Array.size_modify]; exact hb
  show (w.heap.modify b (Sort.onCells (Sort.putCells enc 0 d)) ++ os)[b]? = _
  rw [Array.getElem?_append_left hb2, Array.getElem?_modify, if_pos rfl, h]
  rfl
theorem sortW_ext {α : Type} [Inhabited α] (enc : α → Value) {w : World} {n b : Nat} {d : Array α} {os : Array Obj} : ExtX (fun k => b = k) w (Sort.grow (Sort.putRow enc (Sort.ahead w n) b 0 d) os) := by
  refine ⟨rfl, rfl, rfl, ?_, fun k hk hx => ?_⟩
  · show w.heap.size ≤ (w.heap.modify b (Sort.onCells (Sort.putCells enc 0 d)) ++ os).size
    rw [Array.size_append, Array.size_modify]; omega
  · have hb2 : k < (w.heap.modify b (Sort.onCells (Sort.putCells enc 0 d))).size := by rw [Array.size_modify]; exact hk
    show (w.heap.modify b (Sort.onCells (Sort.putCells enc 0 d)) ++ os)[k]? = _
    rw [Array.getElem?_append_left hb2, Array.getElem?_modify, if_neg hx]
theorem putCells_size {α : Type} [Inhabited α] (enc : α → Value) (d : Array α) (cur : Array Value) : (Sort.putCells enc 0 d cur).size = cur.size := by
  unfold Sort.putCells; simp
theorem putCells_take {α : Type} [Inhabited α] (enc : α → Value) (zs : List α) (cur : Array Value) (h : zs.length ≤ cur.size) : (Sort.putCells enc 0 zs.toArray cur).toList.take zs.length = zs.map enc := by
  apply List.ext_getElem
  · have e : (Sort.putCells enc 0 zs.toArray cur).toList.length = cur.size := by
      rw [Array.length_toList]; exact putCells_size _ _ _
    rw [List.length_take, List.length_map, e]; omega
  · intro k h1 h2
    rw [List.length_map] at h2
    rw [List.getElem_take, Array.getElem_toList, List.getElem_map]
    unfold Sort.putCells
    rw [Array.getElem_mapIdx, if_pos ⟨Nat.zero_le _, by simpa using h2⟩]
    simp [h2]
end Go.Proofs.YthlkidohpiebiaaDoor


/-
  DERIVED: THE SHELF's CONTRACTS AT THIS DUMP, IN PLAIN WORDS (tools/lay-plain.mjs out of 'TrydShelfS.lean', which tools/lay-shelf.mjs wrote): THE SAME DECLARATIONS UNDER THE SAME NAMES: 'import', 'namespace', 'open', 'def', 'theorem' AND NOTHING ELSE: no command of the shelf's: FOR A HAND-IN. Each laying: the table of numbers ('.._ren') and one theorem, a field a fact of the dump's own or the kernel's comparison; each contract: ONE APPLICATION.
-/
namespace Go.Proofs
open Go.Shelf
end Go.Proofs


/- slices.Sort of strings, out of the kit's contract: it turns a row of its caller's. -/
namespace Go.Proofs.YthlkidohpiebiaaDoor
set_option linter.unusedVariables false
set_option linter.unusedSimpArgs false
open Go Go.RowKit Go.Shelf
end Go.Proofs.YthlkidohpiebiaaDoor



/-
  DERIVED: THE SHELF's CONTRACTS AT THIS DUMP, IN PLAIN WORDS (tools/lay-plain.mjs out of 'TrydShelfK.lean', which tools/lay-shelf.mjs wrote): THE SAME DECLARATIONS UNDER THE SAME NAMES: 'import', 'namespace', 'open', 'def', 'theorem' AND NOTHING ELSE: no command of the shelf's: FOR A HAND-IN. Each laying: the table of numbers ('.._ren') and one theorem, a field a fact of the dump's own or the kernel's comparison; each contract: ONE APPLICATION.
-/
namespace Go.Proofs
open Go.Shelf
end Go.Proofs


/- The keys of a map of the caller's, in order: maps.Keys and slices.Sorted, out of the kit's contracts. -/
namespace Go.Proofs.YthlkidohpiebiaaDoor
set_option linter.unusedVariables false
set_option linter.unusedSimpArgs false
open Go Go.RowKit Go.Shelf Go.Maps Go.Sort
end Go.Proofs.YthlkidohpiebiaaDoor



/- What functions of the program compute, as plain functions (printed). -/
namespace Go.Proofs.YthlkidohpiebiaaDoor
open Go Go.RowKit
set_option maxRecDepth 100000
set_option linter.unusedVariables false
noncomputable section
def ref1_inside_L0T (N : Nat) (x0 : List (Str × Bool × List UInt8)) (x1 : Str) (k0 : Option Bool) (self : Int → Option Bool) (s5 : Int) : Option Bool :=
  br (decide (s5 < (x1.length : Int)))
    (bnd (geti x1 s5) fun t14 =>
    br (t14 == (47 : UInt8))
      (bnd (slc x1 (0 : Int) s5) fun t20 =>
      bnd (ref1_there N x0 t20) fun t21 =>
      br (t21)
        (some true)
        (self (IntKind.i64.wrap (s5 + (1 : Int)))))
      (self (IntKind.i64.wrap (s5 + (1 : Int)))))
    (k0)
def ref1_inside_L0 (N : Nat) (x0 : List (Str × Bool × List UInt8)) (x1 : Str) (k0 : Option Bool) : Nat → Int → Option Bool
  | 0, _ => none
  | n + 1, s5 => ref1_inside_L0T N x0 x1 k0 (ref1_inside_L0 N x0 x1 k0 n) s5
def ref1_inside (N : Nat) (x0 : List (Str × Bool × List UInt8)) (x1 : Str) : Option Bool :=
  ref1_inside_L0 N x0 x1 (some false) N (0 : Int)
abbrev ref1_inside_sg (f : SV [.v (.sl (.pr .str (.pr .bool (.sl .u8)))), .v .str] → BV [] → Option (Bool)) : AF := { ps := [.v (.sl (.pr .str (.pr .bool (.sl .u8)))), .v .str], bs := [], rs := [.v .bool], cs := [], R := Bool, out := fun z => ((z, ()), ()), f := f }
abbrev ref1_inside_pk : SV [.v .bool] → BV [] → Bool := fun x _ => x.1
def ref1_inside_fn (N : Nat) : FuncId → Option Tmp → Option AF := fun f _ =>
  match f with
    | 104 => some (ref1_there_sg fun x _ => ref1_there N x.1 x.2.1)
    | _ => none
theorem ref1_inside_fn_ok (N : Nat) : ∀ f q F, ref1_inside_fn N f q = some F → Sound Tryd.prog GW B0G f F := by
  intro f q F h
  unfold ref1_inside_fn at h
  split at h
  · cases h; exact ref1_there_sound N
  · cases h
def ref1_inside_h : Nat → Hint := fun i =>
  match i with
  | 0 => ⟨[], [0, 1, 5], [], [], [], []⟩
  | _ => ⟨[], [], [], [], [], []⟩
abbrev ref1_inside_E (N : Nat) : Env := mkE ref1_inside_h (ref1_inside_fn N) (fun _ => false) (fun _ => false)
abbrev ref1_inside_L0_fs : List (Nat × Sl) := [(0, .v (.sl (.pr .str (.pr .bool (.sl .u8))))), (1, .v .str), (5, .v (.int .i64))]
abbrev ref1_inside_L0_bs : List (Nat × Sb) := []
def ref1_inside_L0_hd (x0 : List (Str × Bool × List UInt8)) (x1 : Str) (s5 : Int) : St := ⟨23, [(0, .v (.sl (.pr .str (.pr .bool (.sl .u8)))) x0), (1, .v .str x1), (5, .v (.int .i64) s5)], []⟩
def ref1_inside_L0_tl0 (_x0 : List (Str × Bool × List UInt8)) (_x1 : Str) : St := ⟨23, [], []⟩
def ref1_inside_L0_G (N : Nat) (x0 : List (Str × Bool × List UInt8)) (x1 : Str) (s5 : Int) (k : Ex → St → Option Bool) : Option Bool :=
  ref1_inside_L0 N x0 x1 (k (.exit 0) (ref1_inside_L0_tl0 x0 x1)) N s5
abbrev ref1_inside_L0_F (N : Nat) : FV ref1_inside_L0_fs → HV ref1_inside_L0_bs → (Ex → St → Option Bool) → Option Bool := fun x _ k => ref1_inside_L0_G N x.1 x.2.1 x.2.2.1 k
noncomputable def ref1_inside_LP (N : Nat) : Nat → Code → St → (Ex → St → Option Bool) → Option Bool := fun i c =>
  match i with
  | 0 => (LPc 23 ref1_inside_L0_fs ref1_inside_L0_bs (ref1_inside_L0_F N) (fun st k => iter (ref1_inside_h 0) (exec (ref1_inside_E N) N c 0) N st k))
  | i => fun st k => iter (ref1_inside_h i) (exec (ref1_inside_E N) N c i) N st k
theorem ref1_inside_L0_step (N : Nat) (x0 : List (Str × Bool × List UInt8)) (x1 : Str) (KX : Nat → St → Option Bool) (I : St → Option Bool) (s5 : Int) :
    execL (ref1_inside_LP N) (ref1_inside_E N) (cAt (bodyOf Tryd.f75) [true, false, true, false, false]) 0 (ref1_inside_L0_hd x0 x1 s5) (roundK (ref1_inside_h 0) I KX (resD (ref1_inside_E N) Tryd.f75 (ref1_inside_sg fun x _ => ref1_inside N x.1 x.2.1) ref1_inside_pk)) = ref1_inside_L0T N x0 x1 (KX 0 (ref1_inside_L0_tl0 x0 x1)) (fun s5 => I (ref1_inside_L0_hd x0 x1 s5)) s5 := by kernel_rfl
theorem ref1_inside_L0_ok (N : Nat) : ∀ x y k, (∀ st, k .ret st = (resD (ref1_inside_E N) Tryd.f75 (ref1_inside_sg fun x _ => ref1_inside N x.1 x.2.1) ref1_inside_pk) st) → iter (ref1_inside_h 0) (exec (ref1_inside_E N) N (cAt (bodyOf Tryd.f75) [true, false, true, false, false]) 0) N ⟨23, unF ref1_inside_L0_fs x, unH ref1_inside_L0_bs y⟩ k = ref1_inside_L0_F N x y k := fun x _ k hk =>
  iter_link (S := (Int) × Unit) (ref1_inside_h 0) _ (execL (ref1_inside_LP N) (ref1_inside_E N) (cAt (bodyOf Tryd.f75) [true, false, true, false, false]) 0) (resD (ref1_inside_E N) Tryd.f75 (ref1_inside_sg fun x _ => ref1_inside N x.1 x.2.1) ref1_inside_pk) (fun st k hk => execL_eq _ _ N _ (cAt (bodyOf Tryd.f75) [true, false, true, false, false]) 0 (show LoopsOk (ref1_inside_LP N) (ref1_inside_E N) N (resD (ref1_inside_E N) Tryd.f75 (ref1_inside_sg fun x _ => ref1_inside N x.1 x.2.1) ref1_inside_pk) [] from trivial) st k hk) (fun s => ref1_inside_L0_hd x.1 x.2.1 s.1) k hk
    (fun self s => ref1_inside_L0T N x.1 x.2.1 (k (.exit 0) (ref1_inside_L0_tl0 x.1 x.2.1)) (fun s5 => self (s5, ())) s.1) (fun n s => ref1_inside_L0 N x.1 x.2.1 (k (.exit 0) (ref1_inside_L0_tl0 x.1 x.2.1)) n s.1) (fun _ => rfl) (fun _ _ => rfl)
    (fun I s => ref1_inside_L0_step N x.1 x.2.1 (fun j => k (.exit j)) I s.1) N (x.2.2.1, ())
theorem ref1_inside_lp0 (N : Nat) : ∀ st k, (∀ st, k .ret st = (resD (ref1_inside_E N) Tryd.f75 (ref1_inside_sg fun x _ => ref1_inside N x.1 x.2.1) ref1_inside_pk) st) → ref1_inside_LP N 0 (cAt (bodyOf Tryd.f75) [true, false, true, false, false]) st k = iter (Env.hint (ref1_inside_E N) 0) (exec (ref1_inside_E N) N (cAt (bodyOf Tryd.f75) [true, false, true, false, false]) 0) N st k := fun st k hk => LPc_eq 23 ref1_inside_L0_fs ref1_inside_L0_bs _ _ (resD (ref1_inside_E N) Tryd.f75 (ref1_inside_sg fun x _ => ref1_inside N x.1 x.2.1) ref1_inside_pk) (ref1_inside_L0_ok N) _ st k hk (rfl)
theorem ref1_inside_core (N : Nat) (x : SV [.v (.sl (.pr .str (.pr .bool (.sl .u8)))), .v .str]) (y : BV []) : runL (ref1_inside_E N) Tryd.f75 (ref1_inside_sg fun x _ => ref1_inside N x.1 x.2.1) ref1_inside_pk (ref1_inside_LP N) x y = ref1_inside N x.1 x.2.1 := by kernel_rfl
theorem ref1_inside_sound (N : Nat) : Sound Tryd.prog GW B0G 75 (ref1_inside_sg fun x _ => ref1_inside N x.1 x.2.1) :=
  runD_sound (mkE_ok ref1_inside_h (ref1_inside_fn N) _ _ (ref1_inside_fn_ok N)) Tryd.func75 rfl Tryd.call75 (ref1_inside_sg fun x _ => ref1_inside N x.1 x.2.1) ref1_inside_pk (fun _ _ => rfl) N (fun x y _ h => ((runL_eq (ref1_inside_E N) N Tryd.f75 (ref1_inside_sg fun x _ => ref1_inside N x.1 x.2.1) ref1_inside_pk (ref1_inside_LP N) (show LoopsOk (ref1_inside_LP N) (ref1_inside_E N) N (resD (ref1_inside_E N) Tryd.f75 (ref1_inside_sg fun x _ => ref1_inside N x.1 x.2.1) ref1_inside_pk) [(0, (cAt (bodyOf Tryd.f75) [true, false, true, false, false]))] from ⟨ref1_inside_lp0 N, trivial⟩) x y).trans (ref1_inside_core N x y)).trans h)
def ref1_CheckFiles_L0T (N : Nat) (x0 : List (Str × Bool × List UInt8)) (k0 : Int → Option Int) (self : Int → Int → Option Int) (s3 : Int) (s4 : Int) : Option Int :=
  br (decide (s4 < (x0.length : Int)))
    (bnd (geti x0 s4) fun t17 =>
    bnd (ref1_IsPath N t17.1) fun t20 =>
    br (!t20)
      (some (3 : Int))
      (bnd (geti x0 s4) fun t24 =>
      br (decide ((t24.2.2.length : Int) > (100000 : Int)))
        (some (2 : Int))
        (br (decide (s4 > (0 : Int)))
          (bnd (geti x0 s4) fun t34 =>
          bnd (geti x0 (IntKind.i64.wrap (s4 - (1 : Int)))) fun t40 =>
          br (Op.bytesLess t34.1 t40.1 || t34.1 == t40.1)
            (some (8 : Int))
            (bnd (geti x0 s4) fun t48 =>
            self (IntKind.i64.wrap (s3 + (t48.2.2.length : Int))) (IntKind.i64.wrap (s4 + (1 : Int)))))
          (bnd (geti x0 s4) fun t48_1 =>
          self (IntKind.i64.wrap (s3 + (t48_1.2.2.length : Int))) (IntKind.i64.wrap (s4 + (1 : Int)))))))
    (k0 s3)
def ref1_CheckFiles_L0 (N : Nat) (x0 : List (Str × Bool × List UInt8)) (k0 : Int → Option Int) : Nat → Int → Int → Option Int
  | 0, _, _ => none
  | n + 1, s3, s4 => ref1_CheckFiles_L0T N x0 k0 (ref1_CheckFiles_L0 N x0 k0 n) s3 s4
def ref1_CheckFiles_L1T (N : Nat) (x0 : List (Str × Bool × List UInt8)) (k2 : Option Int) (self : Int → Option Int) (s5 : Int) : Option Int :=
  br (decide (s5 < (x0.length : Int)))
    (bnd (geti x0 s5) fun t62 =>
    bnd (ref1_inside N x0 t62.1) fun t65 =>
    br (t65)
      (some (12 : Int))
      (self (IntKind.i64.wrap (s5 + (1 : Int)))))
    (k2)
def ref1_CheckFiles_L1 (N : Nat) (x0 : List (Str × Bool × List UInt8)) (k2 : Option Int) : Nat → Int → Option Int
  | 0, _ => none
  | n + 1, s5 => ref1_CheckFiles_L1T N x0 k2 (ref1_CheckFiles_L1 N x0 k2 n) s5
def ref1_CheckFiles (N : Nat) (x0 : List (Str × Bool × List UInt8)) : Option Int :=
  br (decide ((x0.length : Int) > (1000 : Int)))
    (some (2 : Int))
    (ref1_CheckFiles_L0 N x0 (fun o0_3 =>
        ref1_CheckFiles_L1 N x0 (br (decide (o0_3 > (2000000 : Int)))
              (some (2 : Int))
              (some (0 : Int))) N (0 : Int)) N (0 : Int) (0 : Int))
abbrev ref1_CheckFiles_sg (f : SV [.v (.sl (.pr .str (.pr .bool (.sl .u8))))] → BV [] → Option (Int)) : AF := { ps := [.v (.sl (.pr .str (.pr .bool (.sl .u8))))], bs := [], rs := [.v (.int .i64)], cs := [], R := Int, out := fun z => ((z, ()), ()), f := f }
abbrev ref1_CheckFiles_pk : SV [.v (.int .i64)] → BV [] → Int := fun x _ => x.1
def ref1_CheckFiles_fn (N : Nat) : FuncId → Option Tmp → Option AF := fun f _ =>
  match f with
    | 40 => some (ref1_IsPath_sg fun x _ => ref1_IsPath N x.1)
    | 75 => some (ref1_inside_sg fun x _ => ref1_inside N x.1 x.2.1)
    | _ => none
theorem ref1_CheckFiles_fn_ok (N : Nat) : ∀ f q F, ref1_CheckFiles_fn N f q = some F → Sound Tryd.prog GW B0G f F := by
  intro f q F h
  unfold ref1_CheckFiles_fn at h
  split at h
  · cases h; exact ref1_IsPath_sound N
  · cases h; exact ref1_inside_sound N
  · cases h
def ref1_CheckFiles_h : Nat → Hint := fun i =>
  match i with
  | 0 => ⟨[], [0, 3, 4], [], [0, 3], [], []⟩
  | 2 => ⟨[], [0, 3, 5], [], [3], [], []⟩
  | _ => ⟨[], [], [], [], [], []⟩
abbrev ref1_CheckFiles_E (N : Nat) : Env := mkE ref1_CheckFiles_h (ref1_CheckFiles_fn N) (fun _ => false) (fun _ => false)
abbrev ref1_CheckFiles_L0_fs : List (Nat × Sl) := [(0, .v (.sl (.pr .str (.pr .bool (.sl .u8))))), (3, .v (.int .i64)), (4, .v (.int .i64))]
abbrev ref1_CheckFiles_L0_bs : List (Nat × Sb) := []
def ref1_CheckFiles_L0_hd (x0 : List (Str × Bool × List UInt8)) (s3 : Int) (s4 : Int) : St := ⟨68, [(0, .v (.sl (.pr .str (.pr .bool (.sl .u8)))) x0), (3, .v (.int .i64) s3), (4, .v (.int .i64) s4)], []⟩
def ref1_CheckFiles_L0_tl0 (x0 : List (Str × Bool × List UInt8)) (o0_3 : Int) : St := ⟨68, [(0, .v (.sl (.pr .str (.pr .bool (.sl .u8)))) x0), (3, .v (.int .i64) o0_3)], []⟩
def ref1_CheckFiles_L0_G (N : Nat) (x0 : List (Str × Bool × List UInt8)) (s3 : Int) (s4 : Int) (k : Ex → St → Option Int) : Option Int :=
  ref1_CheckFiles_L0 N x0 (fun o0_3 => k (.exit 0) (ref1_CheckFiles_L0_tl0 x0 o0_3)) N s3 s4
abbrev ref1_CheckFiles_L0_F (N : Nat) : FV ref1_CheckFiles_L0_fs → HV ref1_CheckFiles_L0_bs → (Ex → St → Option Int) → Option Int := fun x _ k => ref1_CheckFiles_L0_G N x.1 x.2.1 x.2.2.1 k
abbrev ref1_CheckFiles_L1_fs : List (Nat × Sl) := [(0, .v (.sl (.pr .str (.pr .bool (.sl .u8))))), (3, .v (.int .i64)), (5, .v (.int .i64))]
abbrev ref1_CheckFiles_L1_bs : List (Nat × Sb) := []
def ref1_CheckFiles_L1_hd (x0 : List (Str × Bool × List UInt8)) (o0_3 : Int) (s5 : Int) : St := ⟨68, [(0, .v (.sl (.pr .str (.pr .bool (.sl .u8)))) x0), (3, .v (.int .i64) o0_3), (5, .v (.int .i64) s5)], []⟩
def ref1_CheckFiles_L1_tl2 (_x0 : List (Str × Bool × List UInt8)) (o0_3 : Int) : St := ⟨68, [(3, .v (.int .i64) o0_3)], []⟩
def ref1_CheckFiles_L1_G (N : Nat) (x0 : List (Str × Bool × List UInt8)) (o0_3 : Int) (s5 : Int) (k : Ex → St → Option Int) : Option Int :=
  ref1_CheckFiles_L1 N x0 (k (.exit 2) (ref1_CheckFiles_L1_tl2 x0 o0_3)) N s5
abbrev ref1_CheckFiles_L1_F (N : Nat) : FV ref1_CheckFiles_L1_fs → HV ref1_CheckFiles_L1_bs → (Ex → St → Option Int) → Option Int := fun x _ k => ref1_CheckFiles_L1_G N x.1 x.2.1 x.2.2.1 k
noncomputable def ref1_CheckFiles_LP (N : Nat) : Nat → Code → St → (Ex → St → Option Int) → Option Int := fun i c =>
  match i with
  | 0 => (LPc 68 ref1_CheckFiles_L0_fs ref1_CheckFiles_L0_bs (ref1_CheckFiles_L0_F N) (fun st k => iter (ref1_CheckFiles_h 0) (exec (ref1_CheckFiles_E N) N c 0) N st k))
  | 2 => (LPc 68 ref1_CheckFiles_L1_fs ref1_CheckFiles_L1_bs (ref1_CheckFiles_L1_F N) (fun st k => iter (ref1_CheckFiles_h 2) (exec (ref1_CheckFiles_E N) N c 2) N st k))
  | i => fun st k => iter (ref1_CheckFiles_h i) (exec (ref1_CheckFiles_E N) N c i) N st k
theorem ref1_CheckFiles_L1_step (N : Nat) (x0 : List (Str × Bool × List UInt8)) (o0_3 : Int) (KX : Nat → St → Option Int) (I : St → Option Int) (s5 : Int) :
    execL (ref1_CheckFiles_LP N) (ref1_CheckFiles_E N) (cAt (bodyOf Tryd.f36) [true, true, true, true, false, true, false, false]) 2 (ref1_CheckFiles_L1_hd x0 o0_3 s5) (roundK (ref1_CheckFiles_h 2) I KX (resD (ref1_CheckFiles_E N) Tryd.f36 (ref1_CheckFiles_sg fun x _ => ref1_CheckFiles N x.1) ref1_CheckFiles_pk)) = ref1_CheckFiles_L1T N x0 (KX 2 (ref1_CheckFiles_L1_tl2 x0 o0_3)) (fun s5 => I (ref1_CheckFiles_L1_hd x0 o0_3 s5)) s5 := by kernel_rfl
theorem ref1_CheckFiles_L1_ok (N : Nat) : ∀ x y k, (∀ st, k .ret st = (resD (ref1_CheckFiles_E N) Tryd.f36 (ref1_CheckFiles_sg fun x _ => ref1_CheckFiles N x.1) ref1_CheckFiles_pk) st) → iter (ref1_CheckFiles_h 2) (exec (ref1_CheckFiles_E N) N (cAt (bodyOf Tryd.f36) [true, true, true, true, false, true, false, false]) 2) N ⟨68, unF ref1_CheckFiles_L1_fs x, unH ref1_CheckFiles_L1_bs y⟩ k = ref1_CheckFiles_L1_F N x y k := fun x _ k hk =>
  iter_link (S := (Int) × Unit) (ref1_CheckFiles_h 2) _ (execL (ref1_CheckFiles_LP N) (ref1_CheckFiles_E N) (cAt (bodyOf Tryd.f36) [true, true, true, true, false, true, false, false]) 2) (resD (ref1_CheckFiles_E N) Tryd.f36 (ref1_CheckFiles_sg fun x _ => ref1_CheckFiles N x.1) ref1_CheckFiles_pk) (fun st k hk => execL_eq _ _ N _ (cAt (bodyOf Tryd.f36) [true, true, true, true, false, true, false, false]) 2 (show LoopsOk (ref1_CheckFiles_LP N) (ref1_CheckFiles_E N) N (resD (ref1_CheckFiles_E N) Tryd.f36 (ref1_CheckFiles_sg fun x _ => ref1_CheckFiles N x.1) ref1_CheckFiles_pk) [] from trivial) st k hk) (fun s => ref1_CheckFiles_L1_hd x.1 x.2.1 s.1) k hk
    (fun self s => ref1_CheckFiles_L1T N x.1 (k (.exit 2) (ref1_CheckFiles_L1_tl2 x.1 x.2.1)) (fun s5 => self (s5, ())) s.1) (fun n s => ref1_CheckFiles_L1 N x.1 (k (.exit 2) (ref1_CheckFiles_L1_tl2 x.1 x.2.1)) n s.1) (fun _ => rfl) (fun _ _ => rfl)
    (fun I s => ref1_CheckFiles_L1_step N x.1 x.2.1 (fun j => k (.exit j)) I s.1) N (x.2.2.1, ())
theorem ref1_CheckFiles_lp2 (N : Nat) : ∀ st k, (∀ st, k .ret st = (resD (ref1_CheckFiles_E N) Tryd.f36 (ref1_CheckFiles_sg fun x _ => ref1_CheckFiles N x.1) ref1_CheckFiles_pk) st) → ref1_CheckFiles_LP N 2 (cAt (bodyOf Tryd.f36) [true, true, true, true, false, true, false, false]) st k = iter (Env.hint (ref1_CheckFiles_E N) 2) (exec (ref1_CheckFiles_E N) N (cAt (bodyOf Tryd.f36) [true, true, true, true, false, true, false, false]) 2) N st k := fun st k hk => LPc_eq 68 ref1_CheckFiles_L1_fs ref1_CheckFiles_L1_bs _ _ (resD (ref1_CheckFiles_E N) Tryd.f36 (ref1_CheckFiles_sg fun x _ => ref1_CheckFiles N x.1) ref1_CheckFiles_pk) (ref1_CheckFiles_L1_ok N) _ st k hk (rfl)
theorem ref1_CheckFiles_L0_step (N : Nat) (x0 : List (Str × Bool × List UInt8)) (KX : Nat → St → Option Int) (I : St → Option Int) (s3 : Int) (s4 : Int) :
    execL (ref1_CheckFiles_LP N) (ref1_CheckFiles_E N) (cAt (bodyOf Tryd.f36) [true, true, true, false, true, false, false]) 0 (ref1_CheckFiles_L0_hd x0 s3 s4) (roundK (ref1_CheckFiles_h 0) I KX (resD (ref1_CheckFiles_E N) Tryd.f36 (ref1_CheckFiles_sg fun x _ => ref1_CheckFiles N x.1) ref1_CheckFiles_pk)) = ref1_CheckFiles_L0T N x0 (fun o0_3 => KX 0 (ref1_CheckFiles_L0_tl0 x0 o0_3)) (fun s3 s4 => I (ref1_CheckFiles_L0_hd x0 s3 s4)) s3 s4 := by kernel_rfl
theorem ref1_CheckFiles_L0_ok (N : Nat) : ∀ x y k, (∀ st, k .ret st = (resD (ref1_CheckFiles_E N) Tryd.f36 (ref1_CheckFiles_sg fun x _ => ref1_CheckFiles N x.1) ref1_CheckFiles_pk) st) → iter (ref1_CheckFiles_h 0) (exec (ref1_CheckFiles_E N) N (cAt (bodyOf Tryd.f36) [true, true, true, false, true, false, false]) 0) N ⟨68, unF ref1_CheckFiles_L0_fs x, unH ref1_CheckFiles_L0_bs y⟩ k = ref1_CheckFiles_L0_F N x y k := fun x _ k hk =>
  iter_link (S := (Int) × (Int) × Unit) (ref1_CheckFiles_h 0) _ (execL (ref1_CheckFiles_LP N) (ref1_CheckFiles_E N) (cAt (bodyOf Tryd.f36) [true, true, true, false, true, false, false]) 0) (resD (ref1_CheckFiles_E N) Tryd.f36 (ref1_CheckFiles_sg fun x _ => ref1_CheckFiles N x.1) ref1_CheckFiles_pk) (fun st k hk => execL_eq _ _ N _ (cAt (bodyOf Tryd.f36) [true, true, true, false, true, false, false]) 0 (show LoopsOk (ref1_CheckFiles_LP N) (ref1_CheckFiles_E N) N (resD (ref1_CheckFiles_E N) Tryd.f36 (ref1_CheckFiles_sg fun x _ => ref1_CheckFiles N x.1) ref1_CheckFiles_pk) [] from trivial) st k hk) (fun s => ref1_CheckFiles_L0_hd x.1 s.1 s.2.1) k hk
    (fun self s => ref1_CheckFiles_L0T N x.1 (fun o0_3 => k (.exit 0) (ref1_CheckFiles_L0_tl0 x.1 o0_3)) (fun s3 s4 => self (s3, s4, ())) s.1 s.2.1) (fun n s => ref1_CheckFiles_L0 N x.1 (fun o0_3 => k (.exit 0) (ref1_CheckFiles_L0_tl0 x.1 o0_3)) n s.1 s.2.1) (fun _ => rfl) (fun _ _ => rfl)
    (fun I s => ref1_CheckFiles_L0_step N x.1 (fun j => k (.exit j)) I s.1 s.2.1) N (x.2.1, x.2.2.1, ())
theorem ref1_CheckFiles_lp0 (N : Nat) : ∀ st k, (∀ st, k .ret st = (resD (ref1_CheckFiles_E N) Tryd.f36 (ref1_CheckFiles_sg fun x _ => ref1_CheckFiles N x.1) ref1_CheckFiles_pk) st) → ref1_CheckFiles_LP N 0 (cAt (bodyOf Tryd.f36) [true, true, true, false, true, false, false]) st k = iter (Env.hint (ref1_CheckFiles_E N) 0) (exec (ref1_CheckFiles_E N) N (cAt (bodyOf Tryd.f36) [true, true, true, false, true, false, false]) 0) N st k := fun st k hk => LPc_eq 68 ref1_CheckFiles_L0_fs ref1_CheckFiles_L0_bs _ _ (resD (ref1_CheckFiles_E N) Tryd.f36 (ref1_CheckFiles_sg fun x _ => ref1_CheckFiles N x.1) ref1_CheckFiles_pk) (ref1_CheckFiles_L0_ok N) _ st k hk (rfl)
theorem ref1_CheckFiles_core (N : Nat) (x : SV [.v (.sl (.pr .str (.pr .bool (.sl .u8))))]) (y : BV []) : runL (ref1_CheckFiles_E N) Tryd.f36 (ref1_CheckFiles_sg fun x _ => ref1_CheckFiles N x.1) ref1_CheckFiles_pk (ref1_CheckFiles_LP N) x y = ref1_CheckFiles N x.1 := by kernel_rfl
theorem ref1_CheckFiles_sound (N : Nat) : Sound Tryd.prog GW B0G 36 (ref1_CheckFiles_sg fun x _ => ref1_CheckFiles N x.1) :=
  runD_sound (mkE_ok ref1_CheckFiles_h (ref1_CheckFiles_fn N) _ _ (ref1_CheckFiles_fn_ok N)) Tryd.func36 rfl Tryd.call36 (ref1_CheckFiles_sg fun x _ => ref1_CheckFiles N x.1) ref1_CheckFiles_pk (fun _ _ => rfl) N (fun x y _ h => ((runL_eq (ref1_CheckFiles_E N) N Tryd.f36 (ref1_CheckFiles_sg fun x _ => ref1_CheckFiles N x.1) ref1_CheckFiles_pk (ref1_CheckFiles_LP N) (show LoopsOk (ref1_CheckFiles_LP N) (ref1_CheckFiles_E N) N (resD (ref1_CheckFiles_E N) Tryd.f36 (ref1_CheckFiles_sg fun x _ => ref1_CheckFiles N x.1) ref1_CheckFiles_pk) [(0, (cAt (bodyOf Tryd.f36) [true, true, true, false, true, false, false])), (2, (cAt (bodyOf Tryd.f36) [true, true, true, true, false, true, false, false]))] from ⟨ref1_CheckFiles_lp0 N, ref1_CheckFiles_lp2 N, trivial⟩) x y).trans (ref1_CheckFiles_core N x y)).trans h)
end
end Go.Proofs.YthlkidohpiebiaaDoor


/- What functions of the program compute, as plain functions (printed). -/
namespace Go.Proofs.YthlkidohpiebiaaDoor
open Go Go.RowKit
set_option maxRecDepth 100000
set_option linter.unusedVariables false
noncomputable section
def bytes_Equal (_N : Nat) (x0 : List UInt8) (x1 : List UInt8) : Option Bool :=
  some (x0 == x1)
abbrev bytes_Equal_sg (f : SV [.v (.sl .u8), .v (.sl .u8)] → BV [] → Option (Bool)) : AF := { ps := [.v (.sl .u8), .v (.sl .u8)], bs := [], rs := [.v .bool], cs := [], R := Bool, out := fun z => ((z, ()), ()), f := f }
abbrev bytes_Equal_pk : SV [.v .bool] → BV [] → Bool := fun x _ => x.1
def bytes_Equal_fn (_N : Nat) : FuncId → Option Tmp → Option AF := fun f _ =>
  match f with
    | _ => none
theorem bytes_Equal_fn_ok (N : Nat) : ∀ f q F, bytes_Equal_fn N f q = some F → Sound Tryd.prog GW B0G f F := by
  intro f q F h
  unfold bytes_Equal_fn at h
  split at h
  · cases h
def bytes_Equal_h : Nat → Hint := fun i =>
  match i with
  | _ => ⟨[], [], [], [], [], []⟩
abbrev bytes_Equal_E (N : Nat) : Env := mkE bytes_Equal_h (bytes_Equal_fn N) (fun _ => false) (fun _ => false)
noncomputable def bytes_Equal_LP (N : Nat) : Nat → Code → St → (Ex → St → Option Bool) → Option Bool := fun i c =>
  match i with
  | i => fun st k => iter (bytes_Equal_h i) (exec (bytes_Equal_E N) N c i) N st k
theorem bytes_Equal_core (N : Nat) (x : SV [.v (.sl .u8), .v (.sl .u8)]) (y : BV []) : runL (bytes_Equal_E N) Tryd.f57 (bytes_Equal_sg fun x _ => bytes_Equal N x.1 x.2.1) bytes_Equal_pk (bytes_Equal_LP N) x y = bytes_Equal N x.1 x.2.1 := by kernel_rfl
theorem bytes_Equal_sound (N : Nat) : Sound Tryd.prog GW B0G 57 (bytes_Equal_sg fun x _ => bytes_Equal N x.1 x.2.1) :=
  runD_sound (mkE_ok bytes_Equal_h (bytes_Equal_fn N) _ _ (bytes_Equal_fn_ok N)) Tryd.func57 rfl Tryd.call57 (bytes_Equal_sg fun x _ => bytes_Equal N x.1 x.2.1) bytes_Equal_pk (fun _ _ => rfl) N (fun x y _ h => ((runL_eq (bytes_Equal_E N) N Tryd.f57 (bytes_Equal_sg fun x _ => bytes_Equal N x.1 x.2.1) bytes_Equal_pk (bytes_Equal_LP N) (show LoopsOk (bytes_Equal_LP N) (bytes_Equal_E N) N (resD (bytes_Equal_E N) Tryd.f57 (bytes_Equal_sg fun x _ => bytes_Equal N x.1 x.2.1) bytes_Equal_pk) [] from trivial) x y).trans (bytes_Equal_core N x y)).trans h)
def ref1_SameFile (N : Nat) (x0 : Str × Bool × List UInt8) (x1 : Str × Bool × List UInt8) : Option Bool :=
  br (x0.1 == x1.1)
    (br (x0.2.1 == x1.2.1)
      (bnd (bytes_Equal N x0.2.2 x1.2.2) fun t22 =>
      some t22)
      (some false))
    (some false)
abbrev ref1_SameFile_sg (f : SV [.v (.pr .str (.pr .bool (.sl .u8))), .v (.pr .str (.pr .bool (.sl .u8)))] → BV [] → Option (Bool)) : AF := { ps := [.v (.pr .str (.pr .bool (.sl .u8))), .v (.pr .str (.pr .bool (.sl .u8)))], bs := [], rs := [.v .bool], cs := [], R := Bool, out := fun z => ((z, ()), ()), f := f }
abbrev ref1_SameFile_pk : SV [.v .bool] → BV [] → Bool := fun x _ => x.1
def ref1_SameFile_fn (N : Nat) : FuncId → Option Tmp → Option AF := fun f _ =>
  match f with
    | 57 => some (bytes_Equal_sg fun x _ => bytes_Equal N x.1 x.2.1)
    | _ => none
theorem ref1_SameFile_fn_ok (N : Nat) : ∀ f q F, ref1_SameFile_fn N f q = some F → Sound Tryd.prog GW B0G f F := by
  intro f q F h
  unfold ref1_SameFile_fn at h
  split at h
  · cases h; exact bytes_Equal_sound N
  · cases h
def ref1_SameFile_h : Nat → Hint := fun i =>
  match i with
  | _ => ⟨[], [], [], [], [], []⟩
abbrev ref1_SameFile_E (N : Nat) : Env := mkE ref1_SameFile_h (ref1_SameFile_fn N) (fun _ => false) (fun _ => false)
noncomputable def ref1_SameFile_LP (N : Nat) : Nat → Code → St → (Ex → St → Option Bool) → Option Bool := fun i c =>
  match i with
  | i => fun st k => iter (ref1_SameFile_h i) (exec (ref1_SameFile_E N) N c i) N st k
theorem ref1_SameFile_core (N : Nat) (x : SV [.v (.pr .str (.pr .bool (.sl .u8))), .v (.pr .str (.pr .bool (.sl .u8)))]) (y : BV []) : runL (ref1_SameFile_E N) Tryd.f54 (ref1_SameFile_sg fun x _ => ref1_SameFile N x.1 x.2.1) ref1_SameFile_pk (ref1_SameFile_LP N) x y = ref1_SameFile N x.1 x.2.1 := by kernel_rfl
theorem ref1_SameFile_sound (N : Nat) : Sound Tryd.prog GW B0G 54 (ref1_SameFile_sg fun x _ => ref1_SameFile N x.1 x.2.1) :=
  runD_sound (mkE_ok ref1_SameFile_h (ref1_SameFile_fn N) _ _ (ref1_SameFile_fn_ok N)) Tryd.func54 rfl Tryd.call54 (ref1_SameFile_sg fun x _ => ref1_SameFile N x.1 x.2.1) ref1_SameFile_pk (fun _ _ => rfl) N (fun x y _ h => ((runL_eq (ref1_SameFile_E N) N Tryd.f54 (ref1_SameFile_sg fun x _ => ref1_SameFile N x.1 x.2.1) ref1_SameFile_pk (ref1_SameFile_LP N) (show LoopsOk (ref1_SameFile_LP N) (ref1_SameFile_E N) N (resD (ref1_SameFile_E N) Tryd.f54 (ref1_SameFile_sg fun x _ => ref1_SameFile N x.1 x.2.1) ref1_SameFile_pk) [] from trivial) x y).trans (ref1_SameFile_core N x y)).trans h)
def ref1_SameFiles_L0T (N : Nat) (x0 : List (Str × Bool × List UInt8)) (x1 : List (Str × Bool × List UInt8)) (k0 : Option Bool) (self : Int → Option Bool) (s5 : Int) : Option Bool :=
  br (decide (s5 < (x0.length : Int)))
    (bnd (geti x0 s5) fun t19 =>
    bnd (geti x1 s5) fun t23 =>
    bnd (ref1_SameFile N t19 t23) fun t25 =>
    br (!t25)
      (some false)
      (self (IntKind.i64.wrap (s5 + (1 : Int)))))
    (k0)
def ref1_SameFiles_L0 (N : Nat) (x0 : List (Str × Bool × List UInt8)) (x1 : List (Str × Bool × List UInt8)) (k0 : Option Bool) : Nat → Int → Option Bool
  | 0, _ => none
  | n + 1, s5 => ref1_SameFiles_L0T N x0 x1 k0 (ref1_SameFiles_L0 N x0 x1 k0 n) s5
def ref1_SameFiles (N : Nat) (x0 : List (Str × Bool × List UInt8)) (x1 : List (Str × Bool × List UInt8)) : Option Bool :=
  br ((x0.length : Int) != (x1.length : Int))
    (some false)
    (ref1_SameFiles_L0 N x0 x1 (some true) N (0 : Int))
abbrev ref1_SameFiles_sg (f : SV [.v (.sl (.pr .str (.pr .bool (.sl .u8)))), .v (.sl (.pr .str (.pr .bool (.sl .u8))))] → BV [] → Option (Bool)) : AF := { ps := [.v (.sl (.pr .str (.pr .bool (.sl .u8)))), .v (.sl (.pr .str (.pr .bool (.sl .u8))))], bs := [], rs := [.v .bool], cs := [], R := Bool, out := fun z => ((z, ()), ()), f := f }
abbrev ref1_SameFiles_pk : SV [.v .bool] → BV [] → Bool := fun x _ => x.1
def ref1_SameFiles_fn (N : Nat) : FuncId → Option Tmp → Option AF := fun f _ =>
  match f with
    | 54 => some (ref1_SameFile_sg fun x _ => ref1_SameFile N x.1 x.2.1)
    | _ => none
theorem ref1_SameFiles_fn_ok (N : Nat) : ∀ f q F, ref1_SameFiles_fn N f q = some F → Sound Tryd.prog GW B0G f F := by
  intro f q F h
  unfold ref1_SameFiles_fn at h
  split at h
  · cases h; exact ref1_SameFile_sound N
  · cases h
def ref1_SameFiles_h : Nat → Hint := fun i =>
  match i with
  | 0 => ⟨[], [0, 1, 5], [], [], [], []⟩
  | _ => ⟨[], [], [], [], [], []⟩
abbrev ref1_SameFiles_E (N : Nat) : Env := mkE ref1_SameFiles_h (ref1_SameFiles_fn N) (fun _ => false) (fun _ => false)
abbrev ref1_SameFiles_L0_fs : List (Nat × Sl) := [(0, .v (.sl (.pr .str (.pr .bool (.sl .u8))))), (1, .v (.sl (.pr .str (.pr .bool (.sl .u8))))), (5, .v (.int .i64))]
abbrev ref1_SameFiles_L0_bs : List (Nat × Sb) := []
def ref1_SameFiles_L0_hd (x0 : List (Str × Bool × List UInt8)) (x1 : List (Str × Bool × List UInt8)) (s5 : Int) : St := ⟨27, [(0, .v (.sl (.pr .str (.pr .bool (.sl .u8)))) x0), (1, .v (.sl (.pr .str (.pr .bool (.sl .u8)))) x1), (5, .v (.int .i64) s5)], []⟩
def ref1_SameFiles_L0_tl0 (_x0 : List (Str × Bool × List UInt8)) (_x1 : List (Str × Bool × List UInt8)) : St := ⟨27, [], []⟩
def ref1_SameFiles_L0_G (N : Nat) (x0 : List (Str × Bool × List UInt8)) (x1 : List (Str × Bool × List UInt8)) (s5 : Int) (k : Ex → St → Option Bool) : Option Bool :=
  ref1_SameFiles_L0 N x0 x1 (k (.exit 0) (ref1_SameFiles_L0_tl0 x0 x1)) N s5
abbrev ref1_SameFiles_L0_F (N : Nat) : FV ref1_SameFiles_L0_fs → HV ref1_SameFiles_L0_bs → (Ex → St → Option Bool) → Option Bool := fun x _ k => ref1_SameFiles_L0_G N x.1 x.2.1 x.2.2.1 k
noncomputable def ref1_SameFiles_LP (N : Nat) : Nat → Code → St → (Ex → St → Option Bool) → Option Bool := fun i c =>
  match i with
  | 0 => (LPc 27 ref1_SameFiles_L0_fs ref1_SameFiles_L0_bs (ref1_SameFiles_L0_F N) (fun st k => iter (ref1_SameFiles_h 0) (exec (ref1_SameFiles_E N) N c 0) N st k))
  | i => fun st k => iter (ref1_SameFiles_h i) (exec (ref1_SameFiles_E N) N c i) N st k
theorem ref1_SameFiles_L0_step (N : Nat) (x0 : List (Str × Bool × List UInt8)) (x1 : List (Str × Bool × List UInt8)) (KX : Nat → St → Option Bool) (I : St → Option Bool) (s5 : Int) :
    execL (ref1_SameFiles_LP N) (ref1_SameFiles_E N) (cAt (bodyOf Tryd.f23) [true, true, false, true, false, false]) 0 (ref1_SameFiles_L0_hd x0 x1 s5) (roundK (ref1_SameFiles_h 0) I KX (resD (ref1_SameFiles_E N) Tryd.f23 (ref1_SameFiles_sg fun x _ => ref1_SameFiles N x.1 x.2.1) ref1_SameFiles_pk)) = ref1_SameFiles_L0T N x0 x1 (KX 0 (ref1_SameFiles_L0_tl0 x0 x1)) (fun s5 => I (ref1_SameFiles_L0_hd x0 x1 s5)) s5 := by kernel_rfl
theorem ref1_SameFiles_L0_ok (N : Nat) : ∀ x y k, (∀ st, k .ret st = (resD (ref1_SameFiles_E N) Tryd.f23 (ref1_SameFiles_sg fun x _ => ref1_SameFiles N x.1 x.2.1) ref1_SameFiles_pk) st) → iter (ref1_SameFiles_h 0) (exec (ref1_SameFiles_E N) N (cAt (bodyOf Tryd.f23) [true, true, false, true, false, false]) 0) N ⟨27, unF ref1_SameFiles_L0_fs x, unH ref1_SameFiles_L0_bs y⟩ k = ref1_SameFiles_L0_F N x y k := fun x _ k hk =>
  iter_link (S := (Int) × Unit) (ref1_SameFiles_h 0) _ (execL (ref1_SameFiles_LP N) (ref1_SameFiles_E N) (cAt (bodyOf Tryd.f23) [true, true, false, true, false, false]) 0) (resD (ref1_SameFiles_E N) Tryd.f23 (ref1_SameFiles_sg fun x _ => ref1_SameFiles N x.1 x.2.1) ref1_SameFiles_pk) (fun st k hk => execL_eq _ _ N _ (cAt (bodyOf Tryd.f23) [true, true, false, true, false, false]) 0 (show LoopsOk (ref1_SameFiles_LP N) (ref1_SameFiles_E N) N (resD (ref1_SameFiles_E N) Tryd.f23 (ref1_SameFiles_sg fun x _ => ref1_SameFiles N x.1 x.2.1) ref1_SameFiles_pk) [] from trivial) st k hk) (fun s => ref1_SameFiles_L0_hd x.1 x.2.1 s.1) k hk
    (fun self s => ref1_SameFiles_L0T N x.1 x.2.1 (k (.exit 0) (ref1_SameFiles_L0_tl0 x.1 x.2.1)) (fun s5 => self (s5, ())) s.1) (fun n s => ref1_SameFiles_L0 N x.1 x.2.1 (k (.exit 0) (ref1_SameFiles_L0_tl0 x.1 x.2.1)) n s.1) (fun _ => rfl) (fun _ _ => rfl)
    (fun I s => ref1_SameFiles_L0_step N x.1 x.2.1 (fun j => k (.exit j)) I s.1) N (x.2.2.1, ())
theorem ref1_SameFiles_lp0 (N : Nat) : ∀ st k, (∀ st, k .ret st = (resD (ref1_SameFiles_E N) Tryd.f23 (ref1_SameFiles_sg fun x _ => ref1_SameFiles N x.1 x.2.1) ref1_SameFiles_pk) st) → ref1_SameFiles_LP N 0 (cAt (bodyOf Tryd.f23) [true, true, false, true, false, false]) st k = iter (Env.hint (ref1_SameFiles_E N) 0) (exec (ref1_SameFiles_E N) N (cAt (bodyOf Tryd.f23) [true, true, false, true, false, false]) 0) N st k := fun st k hk => LPc_eq 27 ref1_SameFiles_L0_fs ref1_SameFiles_L0_bs _ _ (resD (ref1_SameFiles_E N) Tryd.f23 (ref1_SameFiles_sg fun x _ => ref1_SameFiles N x.1 x.2.1) ref1_SameFiles_pk) (ref1_SameFiles_L0_ok N) _ st k hk (rfl)
theorem ref1_SameFiles_core (N : Nat) (x : SV [.v (.sl (.pr .str (.pr .bool (.sl .u8)))), .v (.sl (.pr .str (.pr .bool (.sl .u8))))]) (y : BV []) : runL (ref1_SameFiles_E N) Tryd.f23 (ref1_SameFiles_sg fun x _ => ref1_SameFiles N x.1 x.2.1) ref1_SameFiles_pk (ref1_SameFiles_LP N) x y = ref1_SameFiles N x.1 x.2.1 := by kernel_rfl
theorem ref1_SameFiles_sound (N : Nat) : Sound Tryd.prog GW B0G 23 (ref1_SameFiles_sg fun x _ => ref1_SameFiles N x.1 x.2.1) :=
  runD_sound (mkE_ok ref1_SameFiles_h (ref1_SameFiles_fn N) _ _ (ref1_SameFiles_fn_ok N)) Tryd.func23 rfl Tryd.call23 (ref1_SameFiles_sg fun x _ => ref1_SameFiles N x.1 x.2.1) ref1_SameFiles_pk (fun _ _ => rfl) N (fun x y _ h => ((runL_eq (ref1_SameFiles_E N) N Tryd.f23 (ref1_SameFiles_sg fun x _ => ref1_SameFiles N x.1 x.2.1) ref1_SameFiles_pk (ref1_SameFiles_LP N) (show LoopsOk (ref1_SameFiles_LP N) (ref1_SameFiles_E N) N (resD (ref1_SameFiles_E N) Tryd.f23 (ref1_SameFiles_sg fun x _ => ref1_SameFiles N x.1 x.2.1) ref1_SameFiles_pk) [(0, (cAt (bodyOf Tryd.f23) [true, true, false, true, false, false]))] from ⟨ref1_SameFiles_lp0 N, trivial⟩) x y).trans (ref1_SameFiles_core N x y)).trans h)
end
end Go.Proofs.YthlkidohpiebiaaDoor

