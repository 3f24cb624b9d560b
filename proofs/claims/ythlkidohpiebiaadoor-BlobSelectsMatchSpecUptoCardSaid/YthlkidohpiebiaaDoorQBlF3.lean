/- What functions of the program compute, as plain functions (printed). -/
import Derived.Test.YthlkidohpiebiaaDoorQBlF2
namespace Go.Proofs.YthlkidohpiebiaaDoor
open Go Go.RowKit
set_option maxRecDepth 100000
set_option linter.unusedVariables false
noncomputable section
def blob_clashes_L0T (_N : Nat) (x0 : List (Str × Bool)) (x1 : Str) (c7 : Int) (k0 : Option Bool) (self : Int → Option Bool) (s8 : Int) : Option Bool :=
  br (decide (s8 < c7))
    (bnd (geti x1 s8) fun t13 =>
    br (t13 == (47 : UInt8))
      (bnd (slc x1 (0 : Int) s8) fun t19 =>
      br ((mget x0 t19).getD (zero .bool))
        (some true)
        (self (IntKind.i64.wrap (s8 + (1 : Int)))))
      (self (IntKind.i64.wrap (s8 + (1 : Int)))))
    (k0)
def blob_clashes_L0 (N : Nat) (x0 : List (Str × Bool)) (x1 : Str) (c7 : Int) (k0 : Option Bool) : Nat → Int → Option Bool
  | 0, _ => none
  | n + 1, s8 => blob_clashes_L0T N x0 x1 c7 k0 (blob_clashes_L0 N x0 x1 c7 k0 n) s8
def blob_clashes (N : Nat) (x0 : List (Str × Bool)) (x1 : Str) : Option Bool :=
  blob_clashes_L0 N x0 x1 (x1.length : Int) (some false) N (0 : Int)
abbrev blob_clashes_sg (f : SV [.v (.mp .bool), .v .str] → BV [] → Option (Bool)) : AF := { ps := [.v (.mp .bool), .v .str], bs := [], rs := [.v .bool], cs := [], R := Bool, out := fun z => ((z, ()), ()), f := f }
abbrev blob_clashes_pk : SV [.v .bool] → BV [] → Bool := fun x _ => x.1
def blob_clashes_fn (_N : Nat) : FuncId → Option Tmp → Option AF := fun f _ =>
  match f with
    | _ => none
theorem blob_clashes_fn_ok (N : Nat) : ∀ f q F, blob_clashes_fn N f q = some F → Sound Tryd.prog GW B0G f F := by
  intro f q F h
  unfold blob_clashes_fn at h
  split at h
  · cases h
def blob_clashes_h : Nat → Hint := fun i =>
  match i with
  | 0 => ⟨[], [0, 1, 7, 8], [], [], [], []⟩
  | _ => ⟨[], [], [], [], [], []⟩
abbrev blob_clashes_E (N : Nat) : Env := mkE blob_clashes_h (blob_clashes_fn N) (fun _ => false) (fun _ => false)
abbrev blob_clashes_L0_fs : List (Nat × Sl) := [(0, .v (.mp .bool)), (1, .v .str), (7, .v (.int .i64)), (8, .v (.int .i64))]
abbrev blob_clashes_L0_bs : List (Nat × Sb) := []
def blob_clashes_L0_hd (x0 : List (Str × Bool)) (x1 : Str) (c7 : Int) (s8 : Int) : St := ⟨23, [(0, .v (.mp .bool) x0), (1, .v .str x1), (7, .v (.int .i64) c7), (8, .v (.int .i64) s8)], []⟩
def blob_clashes_L0_tl0 (_x0 : List (Str × Bool)) (_x1 : Str) (_c7 : Int) : St := ⟨23, [], []⟩
def blob_clashes_L0_G (N : Nat) (x0 : List (Str × Bool)) (x1 : Str) (c7 : Int) (s8 : Int) (k : Ex → St → Option Bool) : Option Bool :=
  blob_clashes_L0 N x0 x1 c7 (k (.exit 0) (blob_clashes_L0_tl0 x0 x1 c7)) N s8
abbrev blob_clashes_L0_F (N : Nat) : FV blob_clashes_L0_fs → HV blob_clashes_L0_bs → (Ex → St → Option Bool) → Option Bool := fun x _ k => blob_clashes_L0_G N x.1 x.2.1 x.2.2.1 x.2.2.2.1 k
noncomputable def blob_clashes_LP (N : Nat) : Nat → Code → St → (Ex → St → Option Bool) → Option Bool := fun i c =>
  match i with
  | 0 => (LPc 23 blob_clashes_L0_fs blob_clashes_L0_bs (blob_clashes_L0_F N) (fun st k => iter (blob_clashes_h 0) (exec (blob_clashes_E N) N c 0) N st k))
  | i => fun st k => iter (blob_clashes_h i) (exec (blob_clashes_E N) N c i) N st k
theorem blob_clashes_L0_step (N : Nat) (x0 : List (Str × Bool)) (x1 : Str) (c7 : Int) (KX : Nat → St → Option Bool) (I : St → Option Bool) (s8 : Int) :
    execL (blob_clashes_LP N) (blob_clashes_E N) (cAt (bodyOf Tryd.f70) [true, false, true, false, false]) 0 (blob_clashes_L0_hd x0 x1 c7 s8) (roundK (blob_clashes_h 0) I KX (resD (blob_clashes_E N) Tryd.f70 (blob_clashes_sg fun x _ => blob_clashes N x.1 x.2.1) blob_clashes_pk)) = blob_clashes_L0T N x0 x1 c7 (KX 0 (blob_clashes_L0_tl0 x0 x1 c7)) (fun s8 => I (blob_clashes_L0_hd x0 x1 c7 s8)) s8 := by kernel_rfl
theorem blob_clashes_L0_ok (N : Nat) : ∀ x y k, (∀ st, k .ret st = (resD (blob_clashes_E N) Tryd.f70 (blob_clashes_sg fun x _ => blob_clashes N x.1 x.2.1) blob_clashes_pk) st) → iter (blob_clashes_h 0) (exec (blob_clashes_E N) N (cAt (bodyOf Tryd.f70) [true, false, true, false, false]) 0) N ⟨23, unF blob_clashes_L0_fs x, unH blob_clashes_L0_bs y⟩ k = blob_clashes_L0_F N x y k := fun x _ k hk =>
  iter_link (S := (Int) × Unit) (blob_clashes_h 0) _ (execL (blob_clashes_LP N) (blob_clashes_E N) (cAt (bodyOf Tryd.f70) [true, false, true, false, false]) 0) (resD (blob_clashes_E N) Tryd.f70 (blob_clashes_sg fun x _ => blob_clashes N x.1 x.2.1) blob_clashes_pk) (fun st k hk => execL_eq _ _ N _ (cAt (bodyOf Tryd.f70) [true, false, true, false, false]) 0 (show LoopsOk (blob_clashes_LP N) (blob_clashes_E N) N (resD (blob_clashes_E N) Tryd.f70 (blob_clashes_sg fun x _ => blob_clashes N x.1 x.2.1) blob_clashes_pk) [] from trivial) st k hk) (fun s => blob_clashes_L0_hd x.1 x.2.1 x.2.2.1 s.1) k hk
    (fun self s => blob_clashes_L0T N x.1 x.2.1 x.2.2.1 (k (.exit 0) (blob_clashes_L0_tl0 x.1 x.2.1 x.2.2.1)) (fun s8 => self (s8, ())) s.1) (fun n s => blob_clashes_L0 N x.1 x.2.1 x.2.2.1 (k (.exit 0) (blob_clashes_L0_tl0 x.1 x.2.1 x.2.2.1)) n s.1) (fun _ => rfl) (fun _ _ => rfl)
    (fun I s => blob_clashes_L0_step N x.1 x.2.1 x.2.2.1 (fun j => k (.exit j)) I s.1) N (x.2.2.2.1, ())
theorem blob_clashes_lp0 (N : Nat) : ∀ st k, (∀ st, k .ret st = (resD (blob_clashes_E N) Tryd.f70 (blob_clashes_sg fun x _ => blob_clashes N x.1 x.2.1) blob_clashes_pk) st) → blob_clashes_LP N 0 (cAt (bodyOf Tryd.f70) [true, false, true, false, false]) st k = iter (Env.hint (blob_clashes_E N) 0) (exec (blob_clashes_E N) N (cAt (bodyOf Tryd.f70) [true, false, true, false, false]) 0) N st k := fun st k hk => LPc_eq 23 blob_clashes_L0_fs blob_clashes_L0_bs _ _ (resD (blob_clashes_E N) Tryd.f70 (blob_clashes_sg fun x _ => blob_clashes N x.1 x.2.1) blob_clashes_pk) (blob_clashes_L0_ok N) _ st k hk (rfl)
theorem blob_clashes_core (N : Nat) (x : SV [.v (.mp .bool), .v .str]) (y : BV []) : runL (blob_clashes_E N) Tryd.f70 (blob_clashes_sg fun x _ => blob_clashes N x.1 x.2.1) blob_clashes_pk (blob_clashes_LP N) x y = blob_clashes N x.1 x.2.1 := by kernel_rfl
theorem blob_clashes_sound (N : Nat) : Sound Tryd.prog GW B0G 70 (blob_clashes_sg fun x _ => blob_clashes N x.1 x.2.1) :=
  runD_sound (mkE_ok blob_clashes_h (blob_clashes_fn N) _ _ (blob_clashes_fn_ok N)) Tryd.func70 rfl Tryd.call70 (blob_clashes_sg fun x _ => blob_clashes N x.1 x.2.1) blob_clashes_pk (fun _ _ => rfl) N (fun x y _ h => ((runL_eq (blob_clashes_E N) N Tryd.f70 (blob_clashes_sg fun x _ => blob_clashes N x.1 x.2.1) blob_clashes_pk (blob_clashes_LP N) (show LoopsOk (blob_clashes_LP N) (blob_clashes_E N) N (resD (blob_clashes_E N) Tryd.f70 (blob_clashes_sg fun x _ => blob_clashes N x.1 x.2.1) blob_clashes_pk) [(0, (cAt (bodyOf Tryd.f70) [true, false, true, false, false]))] from ⟨blob_clashes_lp0 N, trivial⟩) x y).trans (blob_clashes_core N x y)).trans h)
def blob_CheckFiles_L0T (N : Nat) (x0 : List (Str × Bool × List UInt8)) (c13 : List (Str × Bool × List UInt8)) (c14 : Int) (k0 : Int → (List (Str × Bool)) → Option Int) (self : Int → Int → (List (Str × Bool)) → Option Int) (s3 : Int) (s15 : Int) (m1012 : List (Str × Bool)) : Option Int :=
  br (decide (s15 < c14))
    (bnd (geti c13 s15) fun t18 =>
    bnd (blob_IsPath N t18.1) fun t23 =>
    br (!t23)
      (some (3 : Int))
      (br (decide ((t18.2.2.length : Int) > (100000 : Int)))
        (some (2 : Int))
        (br (decide (s15 > (0 : Int)))
          (bnd (geti x0 (IntKind.i64.wrap (s15 - (1 : Int)))) fun t39 =>
          br (Op.bytesLess t18.1 t39.1 || t18.1 == t39.1)
            (some (8 : Int))
            (self (IntKind.i64.wrap (s3 + (t18.2.2.length : Int))) (IntKind.i64.wrap (s15 + (1 : Int))) (mset m1012 t18.1 true)))
          (self (IntKind.i64.wrap (s3 + (t18.2.2.length : Int))) (IntKind.i64.wrap (s15 + (1 : Int))) (mset m1012 t18.1 true)))))
    (k0 s3 m1012)
def blob_CheckFiles_L0 (N : Nat) (x0 : List (Str × Bool × List UInt8)) (c13 : List (Str × Bool × List UInt8)) (c14 : Int) (k0 : Int → (List (Str × Bool)) → Option Int) : Nat → Int → Int → (List (Str × Bool)) → Option Int
  | 0, _, _, _ => none
  | n + 1, s3, s15, m1012 => blob_CheckFiles_L0T N x0 c13 c14 k0 (blob_CheckFiles_L0 N x0 c13 c14 k0 n) s3 s15 m1012
def blob_CheckFiles_L1T (N : Nat) (x0 : List (Str × Bool × List UInt8)) (c54 : Int) (o0_m1012 : List (Str × Bool)) (k3 : Option Int) (self : Int → Option Int) (s55 : Int) : Option Int :=
  br (decide (s55 < c54))
    (bnd (geti x0 s55) fun t57 =>
    bnd (blob_clashes N o0_m1012 t57.1) fun t62 =>
    br (t62)
      (some (12 : Int))
      (self (IntKind.i64.wrap (s55 + (1 : Int)))))
    (k3)
def blob_CheckFiles_L1 (N : Nat) (x0 : List (Str × Bool × List UInt8)) (c54 : Int) (o0_m1012 : List (Str × Bool)) (k3 : Option Int) : Nat → Int → Option Int
  | 0, _ => none
  | n + 1, s55 => blob_CheckFiles_L1T N x0 c54 o0_m1012 k3 (blob_CheckFiles_L1 N x0 c54 o0_m1012 k3 n) s55
def blob_CheckFiles (N : Nat) (x0 : List (Str × Bool × List UInt8)) : Option Int :=
  br (decide ((x0.length : Int) > (1000 : Int)))
    (some (2 : Int))
    (blob_CheckFiles_L0 N x0 x0 (x0.length : Int) (fun o0_3 o0_m1012 =>
        blob_CheckFiles_L1 N x0 (x0.length : Int) o0_m1012 (br (decide (o0_3 > (2000000 : Int)))
              (some (2 : Int))
              (some (0 : Int))) N (0 : Int)) N (0 : Int) (0 : Int) ([] : List (Str × Bool)))
abbrev blob_CheckFiles_sg (f : SV [.v (.sl (.pr .str (.pr .bool (.sl .u8))))] → BV [] → Option (Int)) : AF := { ps := [.v (.sl (.pr .str (.pr .bool (.sl .u8))))], bs := [], rs := [.v (.int .i64)], cs := [], R := Int, out := fun z => ((z, ()), ()), f := f }
abbrev blob_CheckFiles_pk : SV [.v (.int .i64)] → BV [] → Int := fun x _ => x.1
def blob_CheckFiles_fn (N : Nat) : FuncId → Option Tmp → Option AF := fun f _ =>
  match f with
    | 38 => some (blob_IsPath_sg fun x _ => blob_IsPath N x.1)
    | 70 => some (blob_clashes_sg fun x _ => blob_clashes N x.1 x.2.1)
    | _ => none
theorem blob_CheckFiles_fn_ok (N : Nat) : ∀ f q F, blob_CheckFiles_fn N f q = some F → Sound Tryd.prog GW B0G f F := by
  intro f q F h
  unfold blob_CheckFiles_fn at h
  split at h
  · cases h; exact blob_IsPath_sound N
  · cases h; exact blob_clashes_sound N
  · cases h
def blob_CheckFiles_h : Nat → Hint := fun i =>
  match i with
  | 0 => ⟨[], [0, 3, 4, 13, 14, 15], [1012], [0, 3, 4], [1012], []⟩
  | 3 => ⟨[], [3, 4, 53, 54, 55], [1012], [3], [], []⟩
  | _ => ⟨[], [], [], [], [], []⟩
abbrev blob_CheckFiles_E (N : Nat) : Env := mkE blob_CheckFiles_h (blob_CheckFiles_fn N) (fun _ => false) (fun _ => false)
abbrev blob_CheckFiles_L0_fs : List (Nat × Sl) := [(0, .v (.sl (.pr .str (.pr .bool (.sl .u8))))), (3, .v (.int .i64)), (4, .mref 1012), (13, .v (.sl (.pr .str (.pr .bool (.sl .u8))))), (14, .v (.int .i64)), (15, .v (.int .i64))]
abbrev blob_CheckFiles_L0_bs : List (Nat × Sb) := [(1012, .map .bool)]
def blob_CheckFiles_L0_hd (x0 : List (Str × Bool × List UInt8)) (c13 : List (Str × Bool × List UInt8)) (c14 : Int) (s3 : Int) (s15 : Int) (m1012 : List (Str × Bool)) : St := ⟨66, [(0, .v (.sl (.pr .str (.pr .bool (.sl .u8)))) x0), (3, .v (.int .i64) s3), (4, .mref 1012), (13, .v (.sl (.pr .str (.pr .bool (.sl .u8)))) c13), (14, .v (.int .i64) c14), (15, .v (.int .i64) s15)], [(1012, .map .bool m1012)]⟩
def blob_CheckFiles_L0_tl0 (x0 : List (Str × Bool × List UInt8)) (_c13 : List (Str × Bool × List UInt8)) (_c14 : Int) (o0_3 : Int) (o0_m1012 : List (Str × Bool)) : St := ⟨66, [(0, .v (.sl (.pr .str (.pr .bool (.sl .u8)))) x0), (3, .v (.int .i64) o0_3), (4, .mref 1012)], [(1012, .map .bool o0_m1012)]⟩
def blob_CheckFiles_L0_G (N : Nat) (x0 : List (Str × Bool × List UInt8)) (c13 : List (Str × Bool × List UInt8)) (c14 : Int) (s3 : Int) (s15 : Int) (m1012 : List (Str × Bool)) (k : Ex → St → Option Int) : Option Int :=
  blob_CheckFiles_L0 N x0 c13 c14 (fun o0_3 o0_m1012 => k (.exit 0) (blob_CheckFiles_L0_tl0 x0 c13 c14 o0_3 o0_m1012)) N s3 s15 m1012
abbrev blob_CheckFiles_L0_F (N : Nat) : FV blob_CheckFiles_L0_fs → HV blob_CheckFiles_L0_bs → (Ex → St → Option Int) → Option Int := fun x y k => blob_CheckFiles_L0_G N x.1 x.2.2.2.1 x.2.2.2.2.1 x.2.1 x.2.2.2.2.2.1 y.1 k
abbrev blob_CheckFiles_L1_fs : List (Nat × Sl) := [(3, .v (.int .i64)), (4, .mref 1012), (53, .v (.sl (.pr .str (.pr .bool (.sl .u8))))), (54, .v (.int .i64)), (55, .v (.int .i64))]
abbrev blob_CheckFiles_L1_bs : List (Nat × Sb) := [(1012, .map .bool)]
def blob_CheckFiles_L1_hd (o0_3 : Int) (x0 : List (Str × Bool × List UInt8)) (c54 : Int) (o0_m1012 : List (Str × Bool)) (s55 : Int) : St := ⟨66, [(3, .v (.int .i64) o0_3), (4, .mref 1012), (53, .v (.sl (.pr .str (.pr .bool (.sl .u8)))) x0), (54, .v (.int .i64) c54), (55, .v (.int .i64) s55)], [(1012, .map .bool o0_m1012)]⟩
def blob_CheckFiles_L1_tl3 (o0_3 : Int) (_x0 : List (Str × Bool × List UInt8)) (_c54 : Int) (_o0_m1012 : List (Str × Bool)) : St := ⟨66, [(3, .v (.int .i64) o0_3)], []⟩
def blob_CheckFiles_L1_G (N : Nat) (o0_3 : Int) (x0 : List (Str × Bool × List UInt8)) (c54 : Int) (o0_m1012 : List (Str × Bool)) (s55 : Int) (k : Ex → St → Option Int) : Option Int :=
  blob_CheckFiles_L1 N x0 c54 o0_m1012 (k (.exit 3) (blob_CheckFiles_L1_tl3 o0_3 x0 c54 o0_m1012)) N s55
abbrev blob_CheckFiles_L1_F (N : Nat) : FV blob_CheckFiles_L1_fs → HV blob_CheckFiles_L1_bs → (Ex → St → Option Int) → Option Int := fun x y k => blob_CheckFiles_L1_G N x.1 x.2.2.1 x.2.2.2.1 y.1 x.2.2.2.2.1 k
noncomputable def blob_CheckFiles_LP (N : Nat) : Nat → Code → St → (Ex → St → Option Int) → Option Int := fun i c =>
  match i with
  | 0 => (LPc 66 blob_CheckFiles_L0_fs blob_CheckFiles_L0_bs (blob_CheckFiles_L0_F N) (fun st k => iter (blob_CheckFiles_h 0) (exec (blob_CheckFiles_E N) N c 0) N st k))
  | 3 => (LPc 66 blob_CheckFiles_L1_fs blob_CheckFiles_L1_bs (blob_CheckFiles_L1_F N) (fun st k => iter (blob_CheckFiles_h 3) (exec (blob_CheckFiles_E N) N c 3) N st k))
  | i => fun st k => iter (blob_CheckFiles_h i) (exec (blob_CheckFiles_E N) N c i) N st k
theorem blob_CheckFiles_L1_step (N : Nat) (o0_3 : Int) (x0 : List (Str × Bool × List UInt8)) (c54 : Int) (o0_m1012 : List (Str × Bool)) (KX : Nat → St → Option Int) (I : St → Option Int) (s55 : Int) :
    execL (blob_CheckFiles_LP N) (blob_CheckFiles_E N) (cAt (bodyOf Tryd.f35) [true, true, true, true, true, false, true, false, false]) 3 (blob_CheckFiles_L1_hd o0_3 x0 c54 o0_m1012 s55) (roundK (blob_CheckFiles_h 3) I KX (resD (blob_CheckFiles_E N) Tryd.f35 (blob_CheckFiles_sg fun x _ => blob_CheckFiles N x.1) blob_CheckFiles_pk)) = blob_CheckFiles_L1T N x0 c54 o0_m1012 (KX 3 (blob_CheckFiles_L1_tl3 o0_3 x0 c54 o0_m1012)) (fun s55 => I (blob_CheckFiles_L1_hd o0_3 x0 c54 o0_m1012 s55)) s55 := by kernel_rfl
theorem blob_CheckFiles_L1_ok (N : Nat) : ∀ x y k, (∀ st, k .ret st = (resD (blob_CheckFiles_E N) Tryd.f35 (blob_CheckFiles_sg fun x _ => blob_CheckFiles N x.1) blob_CheckFiles_pk) st) → iter (blob_CheckFiles_h 3) (exec (blob_CheckFiles_E N) N (cAt (bodyOf Tryd.f35) [true, true, true, true, true, false, true, false, false]) 3) N ⟨66, unF blob_CheckFiles_L1_fs x, unH blob_CheckFiles_L1_bs y⟩ k = blob_CheckFiles_L1_F N x y k := fun x y k hk =>
  iter_link (S := (Int) × Unit) (blob_CheckFiles_h 3) _ (execL (blob_CheckFiles_LP N) (blob_CheckFiles_E N) (cAt (bodyOf Tryd.f35) [true, true, true, true, true, false, true, false, false]) 3) (resD (blob_CheckFiles_E N) Tryd.f35 (blob_CheckFiles_sg fun x _ => blob_CheckFiles N x.1) blob_CheckFiles_pk) (fun st k hk => execL_eq _ _ N _ (cAt (bodyOf Tryd.f35) [true, true, true, true, true, false, true, false, false]) 3 (show LoopsOk (blob_CheckFiles_LP N) (blob_CheckFiles_E N) N (resD (blob_CheckFiles_E N) Tryd.f35 (blob_CheckFiles_sg fun x _ => blob_CheckFiles N x.1) blob_CheckFiles_pk) [] from trivial) st k hk) (fun s => blob_CheckFiles_L1_hd x.1 x.2.2.1 x.2.2.2.1 y.1 s.1) k hk
    (fun self s => blob_CheckFiles_L1T N x.2.2.1 x.2.2.2.1 y.1 (k (.exit 3) (blob_CheckFiles_L1_tl3 x.1 x.2.2.1 x.2.2.2.1 y.1)) (fun s55 => self (s55, ())) s.1) (fun n s => blob_CheckFiles_L1 N x.2.2.1 x.2.2.2.1 y.1 (k (.exit 3) (blob_CheckFiles_L1_tl3 x.1 x.2.2.1 x.2.2.2.1 y.1)) n s.1) (fun _ => rfl) (fun _ _ => rfl)
    (fun I s => blob_CheckFiles_L1_step N x.1 x.2.2.1 x.2.2.2.1 y.1 (fun j => k (.exit j)) I s.1) N (x.2.2.2.2.1, ())
theorem blob_CheckFiles_lp3 (N : Nat) : ∀ st k, (∀ st, k .ret st = (resD (blob_CheckFiles_E N) Tryd.f35 (blob_CheckFiles_sg fun x _ => blob_CheckFiles N x.1) blob_CheckFiles_pk) st) → blob_CheckFiles_LP N 3 (cAt (bodyOf Tryd.f35) [true, true, true, true, true, false, true, false, false]) st k = iter (Env.hint (blob_CheckFiles_E N) 3) (exec (blob_CheckFiles_E N) N (cAt (bodyOf Tryd.f35) [true, true, true, true, true, false, true, false, false]) 3) N st k := fun st k hk => LPc_eq 66 blob_CheckFiles_L1_fs blob_CheckFiles_L1_bs _ _ (resD (blob_CheckFiles_E N) Tryd.f35 (blob_CheckFiles_sg fun x _ => blob_CheckFiles N x.1) blob_CheckFiles_pk) (blob_CheckFiles_L1_ok N) _ st k hk (rfl)
theorem blob_CheckFiles_L0_step (N : Nat) (x0 : List (Str × Bool × List UInt8)) (c13 : List (Str × Bool × List UInt8)) (c14 : Int) (KX : Nat → St → Option Int) (I : St → Option Int) (s3 : Int) (s15 : Int) (m1012 : List (Str × Bool)) :
    execL (blob_CheckFiles_LP N) (blob_CheckFiles_E N) (cAt (bodyOf Tryd.f35) [true, true, true, true, false, true, false, false]) 0 (blob_CheckFiles_L0_hd x0 c13 c14 s3 s15 m1012) (roundK (blob_CheckFiles_h 0) I KX (resD (blob_CheckFiles_E N) Tryd.f35 (blob_CheckFiles_sg fun x _ => blob_CheckFiles N x.1) blob_CheckFiles_pk)) = blob_CheckFiles_L0T N x0 c13 c14 (fun o0_3 o0_m1012 => KX 0 (blob_CheckFiles_L0_tl0 x0 c13 c14 o0_3 o0_m1012)) (fun s3 s15 m1012 => I (blob_CheckFiles_L0_hd x0 c13 c14 s3 s15 m1012)) s3 s15 m1012 := by kernel_rfl
theorem blob_CheckFiles_L0_ok (N : Nat) : ∀ x y k, (∀ st, k .ret st = (resD (blob_CheckFiles_E N) Tryd.f35 (blob_CheckFiles_sg fun x _ => blob_CheckFiles N x.1) blob_CheckFiles_pk) st) → iter (blob_CheckFiles_h 0) (exec (blob_CheckFiles_E N) N (cAt (bodyOf Tryd.f35) [true, true, true, true, false, true, false, false]) 0) N ⟨66, unF blob_CheckFiles_L0_fs x, unH blob_CheckFiles_L0_bs y⟩ k = blob_CheckFiles_L0_F N x y k := fun x y k hk =>
  iter_link (S := (Int) × (Int) × (List (Str × Bool)) × Unit) (blob_CheckFiles_h 0) _ (execL (blob_CheckFiles_LP N) (blob_CheckFiles_E N) (cAt (bodyOf Tryd.f35) [true, true, true, true, false, true, false, false]) 0) (resD (blob_CheckFiles_E N) Tryd.f35 (blob_CheckFiles_sg fun x _ => blob_CheckFiles N x.1) blob_CheckFiles_pk) (fun st k hk => execL_eq _ _ N _ (cAt (bodyOf Tryd.f35) [true, true, true, true, false, true, false, false]) 0 (show LoopsOk (blob_CheckFiles_LP N) (blob_CheckFiles_E N) N (resD (blob_CheckFiles_E N) Tryd.f35 (blob_CheckFiles_sg fun x _ => blob_CheckFiles N x.1) blob_CheckFiles_pk) [] from trivial) st k hk) (fun s => blob_CheckFiles_L0_hd x.1 x.2.2.2.1 x.2.2.2.2.1 s.1 s.2.1 s.2.2.1) k hk
    (fun self s => blob_CheckFiles_L0T N x.1 x.2.2.2.1 x.2.2.2.2.1 (fun o0_3 o0_m1012 => k (.exit 0) (blob_CheckFiles_L0_tl0 x.1 x.2.2.2.1 x.2.2.2.2.1 o0_3 o0_m1012)) (fun s3 s15 m1012 => self (s3, s15, m1012, ())) s.1 s.2.1 s.2.2.1) (fun n s => blob_CheckFiles_L0 N x.1 x.2.2.2.1 x.2.2.2.2.1 (fun o0_3 o0_m1012 => k (.exit 0) (blob_CheckFiles_L0_tl0 x.1 x.2.2.2.1 x.2.2.2.2.1 o0_3 o0_m1012)) n s.1 s.2.1 s.2.2.1) (fun _ => rfl) (fun _ _ => rfl)
    (fun I s => blob_CheckFiles_L0_step N x.1 x.2.2.2.1 x.2.2.2.2.1 (fun j => k (.exit j)) I s.1 s.2.1 s.2.2.1) N (x.2.1, x.2.2.2.2.2.1, y.1, ())
theorem blob_CheckFiles_lp0 (N : Nat) : ∀ st k, (∀ st, k .ret st = (resD (blob_CheckFiles_E N) Tryd.f35 (blob_CheckFiles_sg fun x _ => blob_CheckFiles N x.1) blob_CheckFiles_pk) st) → blob_CheckFiles_LP N 0 (cAt (bodyOf Tryd.f35) [true, true, true, true, false, true, false, false]) st k = iter (Env.hint (blob_CheckFiles_E N) 0) (exec (blob_CheckFiles_E N) N (cAt (bodyOf Tryd.f35) [true, true, true, true, false, true, false, false]) 0) N st k := fun st k hk => LPc_eq 66 blob_CheckFiles_L0_fs blob_CheckFiles_L0_bs _ _ (resD (blob_CheckFiles_E N) Tryd.f35 (blob_CheckFiles_sg fun x _ => blob_CheckFiles N x.1) blob_CheckFiles_pk) (blob_CheckFiles_L0_ok N) _ st k hk (rfl)
theorem blob_CheckFiles_core (N : Nat) (x : SV [.v (.sl (.pr .str (.pr .bool (.sl .u8))))]) (y : BV []) : runL (blob_CheckFiles_E N) Tryd.f35 (blob_CheckFiles_sg fun x _ => blob_CheckFiles N x.1) blob_CheckFiles_pk (blob_CheckFiles_LP N) x y = blob_CheckFiles N x.1 := by kernel_rfl
theorem blob_CheckFiles_sound (N : Nat) : Sound Tryd.prog GW B0G 35 (blob_CheckFiles_sg fun x _ => blob_CheckFiles N x.1) :=
  runD_sound (mkE_ok blob_CheckFiles_h (blob_CheckFiles_fn N) _ _ (blob_CheckFiles_fn_ok N)) Tryd.func35 rfl Tryd.call35 (blob_CheckFiles_sg fun x _ => blob_CheckFiles N x.1) blob_CheckFiles_pk (fun _ _ => rfl) N (fun x y _ h => ((runL_eq (blob_CheckFiles_E N) N Tryd.f35 (blob_CheckFiles_sg fun x _ => blob_CheckFiles N x.1) blob_CheckFiles_pk (blob_CheckFiles_LP N) (show LoopsOk (blob_CheckFiles_LP N) (blob_CheckFiles_E N) N (resD (blob_CheckFiles_E N) Tryd.f35 (blob_CheckFiles_sg fun x _ => blob_CheckFiles N x.1) blob_CheckFiles_pk) [(0, (cAt (bodyOf Tryd.f35) [true, true, true, true, false, true, false, false])), (3, (cAt (bodyOf Tryd.f35) [true, true, true, true, true, false, true, false, false]))] from ⟨blob_CheckFiles_lp0 N, blob_CheckFiles_lp3 N, trivial⟩) x y).trans (blob_CheckFiles_core N x y)).trans h)
def slices_Concat_string_string_L0T (_N : Nat) (c9 : List (List Str)) (c10 : Int) (k0 : Int → Option (List Str)) (self : Int → Int → Option (List Str)) (s3 : Int) (s11 : Int) : Option (List Str) :=
  br (decide (s11 < c10))
    (bnd (geti c9 s11) fun t13 =>
    br (decide ((IntKind.i64.wrap (s3 + (t13.length : Int))) < (0 : Int)))
      none
      (self (IntKind.i64.wrap (s3 + (t13.length : Int))) (IntKind.i64.wrap (s11 + (1 : Int)))))
    (k0 s3)
def slices_Concat_string_string_L0 (N : Nat) (c9 : List (List Str)) (c10 : Int) (k0 : Int → Option (List Str)) : Nat → Int → Int → Option (List Str)
  | 0, _, _ => none
  | n + 1, s3, s11 => slices_Concat_string_string_L0T N c9 c10 k0 (slices_Concat_string_string_L0 N c9 c10 k0 n) s3 s11
def slices_Concat_string_string_L1T (_N : Nat) (x0 : List (List Str)) (c26 : Int) (k2 : (List Str) → Option (List Str)) (self : Int → (List Str) → Option (List Str)) (s27 : Int) (w102400 : List Str) : Option (List Str) :=
  br (decide (s27 < c26))
    (bnd (geti x0 s27) fun t29 =>
    br (decide ((w102400.length + t29.length) * (24 * Ty.sz .str) ≤ 140737488355328))
      (self (IntKind.i64.wrap (s27 + (1 : Int))) (w102400 ++ t29))
      none)
    (k2 w102400)
def slices_Concat_string_string_L1 (N : Nat) (x0 : List (List Str)) (c26 : Int) (k2 : (List Str) → Option (List Str)) : Nat → Int → (List Str) → Option (List Str)
  | 0, _, _ => none
  | n + 1, s27, w102400 => slices_Concat_string_string_L1T N x0 c26 k2 (slices_Concat_string_string_L1 N x0 c26 k2 n) s27 w102400
def slices_Concat_string_string (N : Nat) (x0 : List (List Str)) : Option (List Str) :=
  slices_Concat_string_string_L0 N x0 (x0.length : Int) (fun o0_3 =>
      bnd (slices_Grow_string o0_3) fun t24 =>
      slices_Concat_string_string_L1 N x0 (x0.length : Int) (fun o1_w102400 =>
          some o1_w102400) N (0 : Int) t24) N (0 : Int) (0 : Int)
abbrev slices_Concat_string_string_sg (f : SV [.v (.sl (.sl .str))] → BV [] → Option (List Str)) : AF := { ps := [.v (.sl (.sl .str))], bs := [], rs := [.row 0], cs := [.row 9 .str false], R := List Str, out := fun z => (((), ()), (z, ())), f := f }
abbrev slices_Concat_string_string_pk : SV [.row 0] → BV [.row 9 .str false] → (List Str) := fun _ y => y.1
def slices_Concat_string_string_fn (_N : Nat) : FuncId → Option Tmp → Option AF := fun f _ =>
  match f with
    | 92 => some (slices_Grow_string_sg fun x _ => slices_Grow_string x.2.1)
    | _ => none
theorem slices_Concat_string_string_fn_ok (N : Nat) : ∀ f q F, slices_Concat_string_string_fn N f q = some F → Sound Tryd.prog GW B0G f F := by
  intro f q F h
  unfold slices_Concat_string_string_fn at h
  split at h
  · cases h; exact slices_Grow_string_sound
  · cases h
def slices_Concat_string_string_h : Nat → Hint := fun i =>
  match i with
  | 0 => ⟨[], [0, 3, 9, 10, 11], [], [0, 3], [], []⟩
  | 2 => ⟨[], [6, 25, 26, 27], [102400], [6], [102400], []⟩
  | _ => ⟨[], [], [], [], [], []⟩
abbrev slices_Concat_string_string_E (N : Nat) : Env := mkE slices_Concat_string_string_h (slices_Concat_string_string_fn N) (fun _ => false) (fun _ => false)
abbrev slices_Concat_string_string_L0_fs : List (Nat × Sl) := [(0, .v (.sl (.sl .str))), (3, .v (.int .i64)), (9, .v (.sl (.sl .str))), (10, .v (.int .i64)), (11, .v (.int .i64))]
abbrev slices_Concat_string_string_L0_bs : List (Nat × Sb) := []
def slices_Concat_string_string_L0_hd (x0 : List (List Str)) (c9 : List (List Str)) (c10 : Int) (s3 : Int) (s11 : Int) : St := ⟨36, [(0, .v (.sl (.sl .str)) x0), (3, .v (.int .i64) s3), (9, .v (.sl (.sl .str)) c9), (10, .v (.int .i64) c10), (11, .v (.int .i64) s11)], []⟩
def slices_Concat_string_string_L0_tl0 (x0 : List (List Str)) (_c9 : List (List Str)) (_c10 : Int) (o0_3 : Int) : St := ⟨36, [(0, .v (.sl (.sl .str)) x0), (3, .v (.int .i64) o0_3)], []⟩
def slices_Concat_string_string_L0_G (N : Nat) (x0 : List (List Str)) (c9 : List (List Str)) (c10 : Int) (s3 : Int) (s11 : Int) (k : Ex → St → Option (List Str)) : Option (List Str) :=
  slices_Concat_string_string_L0 N c9 c10 (fun o0_3 => k (.exit 0) (slices_Concat_string_string_L0_tl0 x0 c9 c10 o0_3)) N s3 s11
abbrev slices_Concat_string_string_L0_F (N : Nat) : FV slices_Concat_string_string_L0_fs → HV slices_Concat_string_string_L0_bs → (Ex → St → Option (List Str)) → Option (List Str) := fun x _ k => slices_Concat_string_string_L0_G N x.1 x.2.2.1 x.2.2.2.1 x.2.1 x.2.2.2.2.1 k
abbrev slices_Concat_string_string_L1_fs : List (Nat × Sl) := [(6, .row 102400), (25, .v (.sl (.sl .str))), (26, .v (.int .i64)), (27, .v (.int .i64))]
abbrev slices_Concat_string_string_L1_bs : List (Nat × Sb) := [(102400, .row 9 .str false)]
def slices_Concat_string_string_L1_hd (x0 : List (List Str)) (c26 : Int) (s27 : Int) (w102400 : List Str) : St := ⟨36, [(6, .row 102400), (25, .v (.sl (.sl .str)) x0), (26, .v (.int .i64) c26), (27, .v (.int .i64) s27)], [(102400, .row 9 .str false w102400)]⟩
def slices_Concat_string_string_L1_tl2 (_x0 : List (List Str)) (_c26 : Int) (o1_w102400 : List Str) : St := ⟨36, [(6, .row 102400)], [(102400, .row 9 .str false o1_w102400)]⟩
def slices_Concat_string_string_L1_G (N : Nat) (x0 : List (List Str)) (c26 : Int) (s27 : Int) (w102400 : List Str) (k : Ex → St → Option (List Str)) : Option (List Str) :=
  slices_Concat_string_string_L1 N x0 c26 (fun o1_w102400 => k (.exit 2) (slices_Concat_string_string_L1_tl2 x0 c26 o1_w102400)) N s27 w102400
abbrev slices_Concat_string_string_L1_F (N : Nat) : FV slices_Concat_string_string_L1_fs → HV slices_Concat_string_string_L1_bs → (Ex → St → Option (List Str)) → Option (List Str) := fun x y k => slices_Concat_string_string_L1_G N x.2.1 x.2.2.1 x.2.2.2.1 y.1 k
noncomputable def slices_Concat_string_string_LP (N : Nat) : Nat → Code → St → (Ex → St → Option (List Str)) → Option (List Str) := fun i c =>
  match i with
  | 0 => (LPc 36 slices_Concat_string_string_L0_fs slices_Concat_string_string_L0_bs (slices_Concat_string_string_L0_F N) (fun st k => iter (slices_Concat_string_string_h 0) (exec (slices_Concat_string_string_E N) N c 0) N st k))
  | 2 => (LPc 36 slices_Concat_string_string_L1_fs slices_Concat_string_string_L1_bs (slices_Concat_string_string_L1_F N) (fun st k => iter (slices_Concat_string_string_h 2) (exec (slices_Concat_string_string_E N) N c 2) N st k))
  | i => fun st k => iter (slices_Concat_string_string_h i) (exec (slices_Concat_string_string_E N) N c i) N st k
theorem slices_Concat_string_string_L1_step (N : Nat) (x0 : List (List Str)) (c26 : Int) (KX : Nat → St → Option (List Str)) (I : St → Option (List Str)) (s27 : Int) (w102400 : List Str) :
    execL (slices_Concat_string_string_LP N) (slices_Concat_string_string_E N) (cAt (bodyOf Tryd.f48) [true, true, true, true, false, true, false, false]) 2 (slices_Concat_string_string_L1_hd x0 c26 s27 w102400) (roundK (slices_Concat_string_string_h 2) I KX (resD (slices_Concat_string_string_E N) Tryd.f48 (slices_Concat_string_string_sg fun x _ => slices_Concat_string_string N x.1) slices_Concat_string_string_pk)) = slices_Concat_string_string_L1T N x0 c26 (fun o1_w102400 => KX 2 (slices_Concat_string_string_L1_tl2 x0 c26 o1_w102400)) (fun s27 w102400 => I (slices_Concat_string_string_L1_hd x0 c26 s27 w102400)) s27 w102400 := by kernel_rfl
theorem slices_Concat_string_string_L1_ok (N : Nat) : ∀ x y k, (∀ st, k .ret st = (resD (slices_Concat_string_string_E N) Tryd.f48 (slices_Concat_string_string_sg fun x _ => slices_Concat_string_string N x.1) slices_Concat_string_string_pk) st) → iter (slices_Concat_string_string_h 2) (exec (slices_Concat_string_string_E N) N (cAt (bodyOf Tryd.f48) [true, true, true, true, false, true, false, false]) 2) N ⟨36, unF slices_Concat_string_string_L1_fs x, unH slices_Concat_string_string_L1_bs y⟩ k = slices_Concat_string_string_L1_F N x y k := fun x y k hk =>
  iter_link (S := (Int) × (List Str) × Unit) (slices_Concat_string_string_h 2) _ (execL (slices_Concat_string_string_LP N) (slices_Concat_string_string_E N) (cAt (bodyOf Tryd.f48) [true, true, true, true, false, true, false, false]) 2) (resD (slices_Concat_string_string_E N) Tryd.f48 (slices_Concat_string_string_sg fun x _ => slices_Concat_string_string N x.1) slices_Concat_string_string_pk) (fun st k hk => execL_eq _ _ N _ (cAt (bodyOf Tryd.f48) [true, true, true, true, false, true, false, false]) 2 (show LoopsOk (slices_Concat_string_string_LP N) (slices_Concat_string_string_E N) N (resD (slices_Concat_string_string_E N) Tryd.f48 (slices_Concat_string_string_sg fun x _ => slices_Concat_string_string N x.1) slices_Concat_string_string_pk) [] from trivial) st k hk) (fun s => slices_Concat_string_string_L1_hd x.2.1 x.2.2.1 s.1 s.2.1) k hk
    (fun self s => slices_Concat_string_string_L1T N x.2.1 x.2.2.1 (fun o1_w102400 => k (.exit 2) (slices_Concat_string_string_L1_tl2 x.2.1 x.2.2.1 o1_w102400)) (fun s27 w102400 => self (s27, w102400, ())) s.1 s.2.1) (fun n s => slices_Concat_string_string_L1 N x.2.1 x.2.2.1 (fun o1_w102400 => k (.exit 2) (slices_Concat_string_string_L1_tl2 x.2.1 x.2.2.1 o1_w102400)) n s.1 s.2.1) (fun _ => rfl) (fun _ _ => rfl)
    (fun I s => slices_Concat_string_string_L1_step N x.2.1 x.2.2.1 (fun j => k (.exit j)) I s.1 s.2.1) N (x.2.2.2.1, y.1, ())
theorem slices_Concat_string_string_lp2 (N : Nat) : ∀ st k, (∀ st, k .ret st = (resD (slices_Concat_string_string_E N) Tryd.f48 (slices_Concat_string_string_sg fun x _ => slices_Concat_string_string N x.1) slices_Concat_string_string_pk) st) → slices_Concat_string_string_LP N 2 (cAt (bodyOf Tryd.f48) [true, true, true, true, false, true, false, false]) st k = iter (Env.hint (slices_Concat_string_string_E N) 2) (exec (slices_Concat_string_string_E N) N (cAt (bodyOf Tryd.f48) [true, true, true, true, false, true, false, false]) 2) N st k := fun st k hk => LPc_eq 36 slices_Concat_string_string_L1_fs slices_Concat_string_string_L1_bs _ _ (resD (slices_Concat_string_string_E N) Tryd.f48 (slices_Concat_string_string_sg fun x _ => slices_Concat_string_string N x.1) slices_Concat_string_string_pk) (slices_Concat_string_string_L1_ok N) _ st k hk (rfl)
theorem slices_Concat_string_string_L0_step (N : Nat) (x0 : List (List Str)) (c9 : List (List Str)) (c10 : Int) (KX : Nat → St → Option (List Str)) (I : St → Option (List Str)) (s3 : Int) (s11 : Int) :
    execL (slices_Concat_string_string_LP N) (slices_Concat_string_string_E N) (cAt (bodyOf Tryd.f48) [true, true, false, true, false, false]) 0 (slices_Concat_string_string_L0_hd x0 c9 c10 s3 s11) (roundK (slices_Concat_string_string_h 0) I KX (resD (slices_Concat_string_string_E N) Tryd.f48 (slices_Concat_string_string_sg fun x _ => slices_Concat_string_string N x.1) slices_Concat_string_string_pk)) = slices_Concat_string_string_L0T N c9 c10 (fun o0_3 => KX 0 (slices_Concat_string_string_L0_tl0 x0 c9 c10 o0_3)) (fun s3 s11 => I (slices_Concat_string_string_L0_hd x0 c9 c10 s3 s11)) s3 s11 := by kernel_rfl
theorem slices_Concat_string_string_L0_ok (N : Nat) : ∀ x y k, (∀ st, k .ret st = (resD (slices_Concat_string_string_E N) Tryd.f48 (slices_Concat_string_string_sg fun x _ => slices_Concat_string_string N x.1) slices_Concat_string_string_pk) st) → iter (slices_Concat_string_string_h 0) (exec (slices_Concat_string_string_E N) N (cAt (bodyOf Tryd.f48) [true, true, false, true, false, false]) 0) N ⟨36, unF slices_Concat_string_string_L0_fs x, unH slices_Concat_string_string_L0_bs y⟩ k = slices_Concat_string_string_L0_F N x y k := fun x _ k hk =>
  iter_link (S := (Int) × (Int) × Unit) (slices_Concat_string_string_h 0) _ (execL (slices_Concat_string_string_LP N) (slices_Concat_string_string_E N) (cAt (bodyOf Tryd.f48) [true, true, false, true, false, false]) 0) (resD (slices_Concat_string_string_E N) Tryd.f48 (slices_Concat_string_string_sg fun x _ => slices_Concat_string_string N x.1) slices_Concat_string_string_pk) (fun st k hk => execL_eq _ _ N _ (cAt (bodyOf Tryd.f48) [true, true, false, true, false, false]) 0 (show LoopsOk (slices_Concat_string_string_LP N) (slices_Concat_string_string_E N) N (resD (slices_Concat_string_string_E N) Tryd.f48 (slices_Concat_string_string_sg fun x _ => slices_Concat_string_string N x.1) slices_Concat_string_string_pk) [] from trivial) st k hk) (fun s => slices_Concat_string_string_L0_hd x.1 x.2.2.1 x.2.2.2.1 s.1 s.2.1) k hk
    (fun self s => slices_Concat_string_string_L0T N x.2.2.1 x.2.2.2.1 (fun o0_3 => k (.exit 0) (slices_Concat_string_string_L0_tl0 x.1 x.2.2.1 x.2.2.2.1 o0_3)) (fun s3 s11 => self (s3, s11, ())) s.1 s.2.1) (fun n s => slices_Concat_string_string_L0 N x.2.2.1 x.2.2.2.1 (fun o0_3 => k (.exit 0) (slices_Concat_string_string_L0_tl0 x.1 x.2.2.1 x.2.2.2.1 o0_3)) n s.1 s.2.1) (fun _ => rfl) (fun _ _ => rfl)
    (fun I s => slices_Concat_string_string_L0_step N x.1 x.2.2.1 x.2.2.2.1 (fun j => k (.exit j)) I s.1 s.2.1) N (x.2.1, x.2.2.2.2.1, ())
theorem slices_Concat_string_string_lp0 (N : Nat) : ∀ st k, (∀ st, k .ret st = (resD (slices_Concat_string_string_E N) Tryd.f48 (slices_Concat_string_string_sg fun x _ => slices_Concat_string_string N x.1) slices_Concat_string_string_pk) st) → slices_Concat_string_string_LP N 0 (cAt (bodyOf Tryd.f48) [true, true, false, true, false, false]) st k = iter (Env.hint (slices_Concat_string_string_E N) 0) (exec (slices_Concat_string_string_E N) N (cAt (bodyOf Tryd.f48) [true, true, false, true, false, false]) 0) N st k := fun st k hk => LPc_eq 36 slices_Concat_string_string_L0_fs slices_Concat_string_string_L0_bs _ _ (resD (slices_Concat_string_string_E N) Tryd.f48 (slices_Concat_string_string_sg fun x _ => slices_Concat_string_string N x.1) slices_Concat_string_string_pk) (slices_Concat_string_string_L0_ok N) _ st k hk (rfl)
theorem slices_Concat_string_string_core (N : Nat) (x : SV [.v (.sl (.sl .str))]) (y : BV []) : runL (slices_Concat_string_string_E N) Tryd.f48 (slices_Concat_string_string_sg fun x _ => slices_Concat_string_string N x.1) slices_Concat_string_string_pk (slices_Concat_string_string_LP N) x y = slices_Concat_string_string N x.1 := by kernel_rfl
theorem slices_Concat_string_string_sound (N : Nat) : Sound Tryd.prog GW B0G 48 (slices_Concat_string_string_sg fun x _ => slices_Concat_string_string N x.1) :=
  runD_sound (mkE_ok slices_Concat_string_string_h (slices_Concat_string_string_fn N) _ _ (slices_Concat_string_string_fn_ok N)) Tryd.func48 rfl Tryd.call48 (slices_Concat_string_string_sg fun x _ => slices_Concat_string_string N x.1) slices_Concat_string_string_pk (fun _ _ => rfl) N (fun x y _ h => ((runL_eq (slices_Concat_string_string_E N) N Tryd.f48 (slices_Concat_string_string_sg fun x _ => slices_Concat_string_string N x.1) slices_Concat_string_string_pk (slices_Concat_string_string_LP N) (show LoopsOk (slices_Concat_string_string_LP N) (slices_Concat_string_string_E N) N (resD (slices_Concat_string_string_E N) Tryd.f48 (slices_Concat_string_string_sg fun x _ => slices_Concat_string_string N x.1) slices_Concat_string_string_pk) [(0, (cAt (bodyOf Tryd.f48) [true, true, false, true, false, false])), (2, (cAt (bodyOf Tryd.f48) [true, true, true, true, false, true, false, false]))] from ⟨slices_Concat_string_string_lp0 N, slices_Concat_string_string_lp2 N, trivial⟩) x y).trans (slices_Concat_string_string_core N x y)).trans h)
def blob_Select_1 (N : Nat) (x0 : Str) (x1 : Str × Bool × List UInt8) : Option Bool :=
  bnd (blob_pathFits N x0 x1.1) fun t7 =>
  some t7
abbrev blob_Select_1_sg (f : SV [.v .str, .v (.ptr (.pr .str (.pr .bool (.sl .u8))))] → BV [] → Option (Bool)) : AF := { ps := [.v .str, .v (.ptr (.pr .str (.pr .bool (.sl .u8))))], bs := [], rs := [.v .bool], cs := [], R := Bool, out := fun z => ((z, ()), ()), f := f }
abbrev blob_Select_1_pk : SV [.v .bool] → BV [] → Bool := fun x _ => x.1
def blob_Select_1_fn (N : Nat) : FuncId → Option Tmp → Option AF := fun f _ =>
  match f with
    | 39 => some (blob_pathFits_sg fun x _ => blob_pathFits N x.1 x.2.1)
    | _ => none
theorem blob_Select_1_fn_ok (N : Nat) : ∀ f q F, blob_Select_1_fn N f q = some F → Sound Tryd.prog GW B0G f F := by
  intro f q F h
  unfold blob_Select_1_fn at h
  split at h
  · cases h; exact blob_pathFits_sound N
  · cases h
def blob_Select_1_h : Nat → Hint := fun i =>
  match i with
  | _ => ⟨[], [], [], [], [], []⟩
abbrev blob_Select_1_E (N : Nat) : Env := mkE blob_Select_1_h (blob_Select_1_fn N) (fun _ => false) (fun _ => false)
noncomputable def blob_Select_1_LP (N : Nat) : Nat → Code → St → (Ex → St → Option Bool) → Option Bool := fun i c =>
  match i with
  | i => fun st k => iter (blob_Select_1_h i) (exec (blob_Select_1_E N) N c i) N st k
theorem blob_Select_1_core (N : Nat) (x : SV [.v .str, .v (.ptr (.pr .str (.pr .bool (.sl .u8))))]) (y : BV []) : runL (blob_Select_1_E N) Tryd.f49 (blob_Select_1_sg fun x _ => blob_Select_1 N x.1 x.2.1) blob_Select_1_pk (blob_Select_1_LP N) x y = blob_Select_1 N x.1 x.2.1 := by kernel_rfl
theorem blob_Select_1_sound (N : Nat) : Sound Tryd.prog GW B0G 49 (blob_Select_1_sg fun x _ => blob_Select_1 N x.1 x.2.1) :=
  runD_sound (mkE_ok blob_Select_1_h (blob_Select_1_fn N) _ _ (blob_Select_1_fn_ok N)) Tryd.func49 rfl Tryd.call49 (blob_Select_1_sg fun x _ => blob_Select_1 N x.1 x.2.1) blob_Select_1_pk (fun _ _ => rfl) N (fun x y _ h => ((runL_eq (blob_Select_1_E N) N Tryd.f49 (blob_Select_1_sg fun x _ => blob_Select_1 N x.1 x.2.1) blob_Select_1_pk (blob_Select_1_LP N) (show LoopsOk (blob_Select_1_LP N) (blob_Select_1_E N) N (resD (blob_Select_1_E N) Tryd.f49 (blob_Select_1_sg fun x _ => blob_Select_1 N x.1 x.2.1) blob_Select_1_pk) [] from trivial) x y).trans (blob_Select_1_core N x y)).trans h)
def slices_IndexFunc_string_string_L0T (N : Nat) (x0 : List Str) (x1 : (Str × Bool × List UInt8) × Unit) (c7 : Int) (k0 : Option Int) (self : Int → Option Int) (s8 : Int) : Option Int :=
  br (decide (s8 < c7))
    (bnd (geti x0 s8) fun t14 =>
    bnd (blob_Select_1 N t14 x1.1) fun t16 =>
    br (t16)
      (some s8)
      (self (IntKind.i64.wrap (s8 + (1 : Int)))))
    (k0)
def slices_IndexFunc_string_string_L0 (N : Nat) (x0 : List Str) (x1 : (Str × Bool × List UInt8) × Unit) (c7 : Int) (k0 : Option Int) : Nat → Int → Option Int
  | 0, _ => none
  | n + 1, s8 => slices_IndexFunc_string_string_L0T N x0 x1 c7 k0 (slices_IndexFunc_string_string_L0 N x0 x1 c7 k0 n) s8
def slices_IndexFunc_string_string (N : Nat) (x0 : List Str) (x1 : (Str × Bool × List UInt8) × Unit) : Option Int :=
  slices_IndexFunc_string_string_L0 N x0 x1 (x0.length : Int) (some (-1 : Int)) N (0 : Int)
abbrev slices_IndexFunc_string_string_sg (f : SV [.v (.sl .str), .v (.clo 49 (.pr (.ptr (.pr .str (.pr .bool (.sl .u8)))) .un))] → BV [] → Option (Int)) : AF := { ps := [.v (.sl .str), .v (.clo 49 (.pr (.ptr (.pr .str (.pr .bool (.sl .u8)))) .un))], bs := [], rs := [.v (.int .i64)], cs := [], R := Int, out := fun z => ((z, ()), ()), f := f }
abbrev slices_IndexFunc_string_string_pk : SV [.v (.int .i64)] → BV [] → Int := fun x _ => x.1
def slices_IndexFunc_string_string_fn (N : Nat) : FuncId → Option Tmp → Option AF := fun f _ =>
  match f with
    | 49 => some (blob_Select_1_sg fun x _ => blob_Select_1 N x.1 x.2.1)
    | _ => none
theorem slices_IndexFunc_string_string_fn_ok (N : Nat) : ∀ f q F, slices_IndexFunc_string_string_fn N f q = some F → Sound Tryd.prog GW B0G f F := by
  intro f q F h
  unfold slices_IndexFunc_string_string_fn at h
  split at h
  · cases h; exact blob_Select_1_sound N
  · cases h
def slices_IndexFunc_string_string_h : Nat → Hint := fun i =>
  match i with
  | 0 => ⟨[], [0, 1, 7, 8], [], [], [], []⟩
  | _ => ⟨[], [], [], [], [], []⟩
abbrev slices_IndexFunc_string_string_E (N : Nat) : Env := mkE slices_IndexFunc_string_string_h (slices_IndexFunc_string_string_fn N) (fun _ => false) (fun _ => false)
abbrev slices_IndexFunc_string_string_L0_fs : List (Nat × Sl) := [(0, .v (.sl .str)), (1, .v (.clo 49 (.pr (.ptr (.pr .str (.pr .bool (.sl .u8)))) .un))), (7, .v (.int .i64)), (8, .v (.int .i64))]
abbrev slices_IndexFunc_string_string_L0_bs : List (Nat × Sb) := []
def slices_IndexFunc_string_string_L0_hd (x0 : List Str) (x1 : (Str × Bool × List UInt8) × Unit) (c7 : Int) (s8 : Int) : St := ⟨19, [(0, .v (.sl .str) x0), (1, .v (.clo 49 (.pr (.ptr (.pr .str (.pr .bool (.sl .u8)))) .un)) x1), (7, .v (.int .i64) c7), (8, .v (.int .i64) s8)], []⟩
def slices_IndexFunc_string_string_L0_tl0 (_x0 : List Str) (_x1 : (Str × Bool × List UInt8) × Unit) (_c7 : Int) : St := ⟨19, [], []⟩
def slices_IndexFunc_string_string_L0_G (N : Nat) (x0 : List Str) (x1 : (Str × Bool × List UInt8) × Unit) (c7 : Int) (s8 : Int) (k : Ex → St → Option Int) : Option Int :=
  slices_IndexFunc_string_string_L0 N x0 x1 c7 (k (.exit 0) (slices_IndexFunc_string_string_L0_tl0 x0 x1 c7)) N s8
abbrev slices_IndexFunc_string_string_L0_F (N : Nat) : FV slices_IndexFunc_string_string_L0_fs → HV slices_IndexFunc_string_string_L0_bs → (Ex → St → Option Int) → Option Int := fun x _ k => slices_IndexFunc_string_string_L0_G N x.1 x.2.1 x.2.2.1 x.2.2.2.1 k
noncomputable def slices_IndexFunc_string_string_LP (N : Nat) : Nat → Code → St → (Ex → St → Option Int) → Option Int := fun i c =>
  match i with
  | 0 => (LPc 19 slices_IndexFunc_string_string_L0_fs slices_IndexFunc_string_string_L0_bs (slices_IndexFunc_string_string_L0_F N) (fun st k => iter (slices_IndexFunc_string_string_h 0) (exec (slices_IndexFunc_string_string_E N) N c 0) N st k))
  | i => fun st k => iter (slices_IndexFunc_string_string_h i) (exec (slices_IndexFunc_string_string_E N) N c i) N st k
theorem slices_IndexFunc_string_string_L0_step (N : Nat) (x0 : List Str) (x1 : (Str × Bool × List UInt8) × Unit) (c7 : Int) (KX : Nat → St → Option Int) (I : St → Option Int) (s8 : Int) :
    execL (slices_IndexFunc_string_string_LP N) (slices_IndexFunc_string_string_E N) (cAt (bodyOf Tryd.f93) [true, false, true, false, false]) 0 (slices_IndexFunc_string_string_L0_hd x0 x1 c7 s8) (roundK (slices_IndexFunc_string_string_h 0) I KX (resD (slices_IndexFunc_string_string_E N) Tryd.f93 (slices_IndexFunc_string_string_sg fun x _ => slices_IndexFunc_string_string N x.1 x.2.1) slices_IndexFunc_string_string_pk)) = slices_IndexFunc_string_string_L0T N x0 x1 c7 (KX 0 (slices_IndexFunc_string_string_L0_tl0 x0 x1 c7)) (fun s8 => I (slices_IndexFunc_string_string_L0_hd x0 x1 c7 s8)) s8 := by kernel_rfl
theorem slices_IndexFunc_string_string_L0_ok (N : Nat) : ∀ x y k, (∀ st, k .ret st = (resD (slices_IndexFunc_string_string_E N) Tryd.f93 (slices_IndexFunc_string_string_sg fun x _ => slices_IndexFunc_string_string N x.1 x.2.1) slices_IndexFunc_string_string_pk) st) → iter (slices_IndexFunc_string_string_h 0) (exec (slices_IndexFunc_string_string_E N) N (cAt (bodyOf Tryd.f93) [true, false, true, false, false]) 0) N ⟨19, unF slices_IndexFunc_string_string_L0_fs x, unH slices_IndexFunc_string_string_L0_bs y⟩ k = slices_IndexFunc_string_string_L0_F N x y k := fun x _ k hk =>
  iter_link (S := (Int) × Unit) (slices_IndexFunc_string_string_h 0) _ (execL (slices_IndexFunc_string_string_LP N) (slices_IndexFunc_string_string_E N) (cAt (bodyOf Tryd.f93) [true, false, true, false, false]) 0) (resD (slices_IndexFunc_string_string_E N) Tryd.f93 (slices_IndexFunc_string_string_sg fun x _ => slices_IndexFunc_string_string N x.1 x.2.1) slices_IndexFunc_string_string_pk) (fun st k hk => execL_eq _ _ N _ (cAt (bodyOf Tryd.f93) [true, false, true, false, false]) 0 (show LoopsOk (slices_IndexFunc_string_string_LP N) (slices_IndexFunc_string_string_E N) N (resD (slices_IndexFunc_string_string_E N) Tryd.f93 (slices_IndexFunc_string_string_sg fun x _ => slices_IndexFunc_string_string N x.1 x.2.1) slices_IndexFunc_string_string_pk) [] from trivial) st k hk) (fun s => slices_IndexFunc_string_string_L0_hd x.1 x.2.1 x.2.2.1 s.1) k hk
    (fun self s => slices_IndexFunc_string_string_L0T N x.1 x.2.1 x.2.2.1 (k (.exit 0) (slices_IndexFunc_string_string_L0_tl0 x.1 x.2.1 x.2.2.1)) (fun s8 => self (s8, ())) s.1) (fun n s => slices_IndexFunc_string_string_L0 N x.1 x.2.1 x.2.2.1 (k (.exit 0) (slices_IndexFunc_string_string_L0_tl0 x.1 x.2.1 x.2.2.1)) n s.1) (fun _ => rfl) (fun _ _ => rfl)
    (fun I s => slices_IndexFunc_string_string_L0_step N x.1 x.2.1 x.2.2.1 (fun j => k (.exit j)) I s.1) N (x.2.2.2.1, ())
theorem slices_IndexFunc_string_string_lp0 (N : Nat) : ∀ st k, (∀ st, k .ret st = (resD (slices_IndexFunc_string_string_E N) Tryd.f93 (slices_IndexFunc_string_string_sg fun x _ => slices_IndexFunc_string_string N x.1 x.2.1) slices_IndexFunc_string_string_pk) st) → slices_IndexFunc_string_string_LP N 0 (cAt (bodyOf Tryd.f93) [true, false, true, false, false]) st k = iter (Env.hint (slices_IndexFunc_string_string_E N) 0) (exec (slices_IndexFunc_string_string_E N) N (cAt (bodyOf Tryd.f93) [true, false, true, false, false]) 0) N st k := fun st k hk => LPc_eq 19 slices_IndexFunc_string_string_L0_fs slices_IndexFunc_string_string_L0_bs _ _ (resD (slices_IndexFunc_string_string_E N) Tryd.f93 (slices_IndexFunc_string_string_sg fun x _ => slices_IndexFunc_string_string N x.1 x.2.1) slices_IndexFunc_string_string_pk) (slices_IndexFunc_string_string_L0_ok N) _ st k hk (rfl)
theorem slices_IndexFunc_string_string_core (N : Nat) (x : SV [.v (.sl .str), .v (.clo 49 (.pr (.ptr (.pr .str (.pr .bool (.sl .u8)))) .un))]) (y : BV []) : runL (slices_IndexFunc_string_string_E N) Tryd.f93 (slices_IndexFunc_string_string_sg fun x _ => slices_IndexFunc_string_string N x.1 x.2.1) slices_IndexFunc_string_string_pk (slices_IndexFunc_string_string_LP N) x y = slices_IndexFunc_string_string N x.1 x.2.1 := by kernel_rfl
theorem slices_IndexFunc_string_string_sound (N : Nat) : Sound Tryd.prog GW B0G 93 (slices_IndexFunc_string_string_sg fun x _ => slices_IndexFunc_string_string N x.1 x.2.1) :=
  runD_sound (mkE_ok slices_IndexFunc_string_string_h (slices_IndexFunc_string_string_fn N) _ _ (slices_IndexFunc_string_string_fn_ok N)) Tryd.func93 rfl Tryd.call93 (slices_IndexFunc_string_string_sg fun x _ => slices_IndexFunc_string_string N x.1 x.2.1) slices_IndexFunc_string_string_pk (fun _ _ => rfl) N (fun x y _ h => ((runL_eq (slices_IndexFunc_string_string_E N) N Tryd.f93 (slices_IndexFunc_string_string_sg fun x _ => slices_IndexFunc_string_string N x.1 x.2.1) slices_IndexFunc_string_string_pk (slices_IndexFunc_string_string_LP N) (show LoopsOk (slices_IndexFunc_string_string_LP N) (slices_IndexFunc_string_string_E N) N (resD (slices_IndexFunc_string_string_E N) Tryd.f93 (slices_IndexFunc_string_string_sg fun x _ => slices_IndexFunc_string_string N x.1 x.2.1) slices_IndexFunc_string_string_pk) [(0, (cAt (bodyOf Tryd.f93) [true, false, true, false, false]))] from ⟨slices_IndexFunc_string_string_lp0 N, trivial⟩) x y).trans (slices_IndexFunc_string_string_core N x y)).trans h)
def slices_ContainsFunc_string_string (N : Nat) (x0 : List Str) (x1 : (Str × Bool × List UInt8) × Unit) : Option Bool :=
  bnd (slices_IndexFunc_string_string N x0 x1) fun t7 =>
  some (decide (t7 ≥ (0 : Int)))
abbrev slices_ContainsFunc_string_string_sg (f : SV [.v (.sl .str), .v (.clo 49 (.pr (.ptr (.pr .str (.pr .bool (.sl .u8)))) .un))] → BV [] → Option (Bool)) : AF := { ps := [.v (.sl .str), .v (.clo 49 (.pr (.ptr (.pr .str (.pr .bool (.sl .u8)))) .un))], bs := [], rs := [.v .bool], cs := [], R := Bool, out := fun z => ((z, ()), ()), f := f }
abbrev slices_ContainsFunc_string_string_pk : SV [.v .bool] → BV [] → Bool := fun x _ => x.1
def slices_ContainsFunc_string_string_fn (N : Nat) : FuncId → Option Tmp → Option AF := fun f _ =>
  match f with
    | 93 => some (slices_IndexFunc_string_string_sg fun x _ => slices_IndexFunc_string_string N x.1 x.2.1)
    | _ => none
theorem slices_ContainsFunc_string_string_fn_ok (N : Nat) : ∀ f q F, slices_ContainsFunc_string_string_fn N f q = some F → Sound Tryd.prog GW B0G f F := by
  intro f q F h
  unfold slices_ContainsFunc_string_string_fn at h
  split at h
  · cases h; exact slices_IndexFunc_string_string_sound N
  · cases h
def slices_ContainsFunc_string_string_h : Nat → Hint := fun i =>
  match i with
  | _ => ⟨[], [], [], [], [], []⟩
abbrev slices_ContainsFunc_string_string_E (N : Nat) : Env := mkE slices_ContainsFunc_string_string_h (slices_ContainsFunc_string_string_fn N) (fun _ => false) (fun _ => false)
noncomputable def slices_ContainsFunc_string_string_LP (N : Nat) : Nat → Code → St → (Ex → St → Option Bool) → Option Bool := fun i c =>
  match i with
  | i => fun st k => iter (slices_ContainsFunc_string_string_h i) (exec (slices_ContainsFunc_string_string_E N) N c i) N st k
theorem slices_ContainsFunc_string_string_core (N : Nat) (x : SV [.v (.sl .str), .v (.clo 49 (.pr (.ptr (.pr .str (.pr .bool (.sl .u8)))) .un))]) (y : BV []) : runL (slices_ContainsFunc_string_string_E N) Tryd.f50 (slices_ContainsFunc_string_string_sg fun x _ => slices_ContainsFunc_string_string N x.1 x.2.1) slices_ContainsFunc_string_string_pk (slices_ContainsFunc_string_string_LP N) x y = slices_ContainsFunc_string_string N x.1 x.2.1 := by kernel_rfl
theorem slices_ContainsFunc_string_string_sound (N : Nat) : Sound Tryd.prog GW B0G 50 (slices_ContainsFunc_string_string_sg fun x _ => slices_ContainsFunc_string_string N x.1 x.2.1) :=
  runD_sound (mkE_ok slices_ContainsFunc_string_string_h (slices_ContainsFunc_string_string_fn N) _ _ (slices_ContainsFunc_string_string_fn_ok N)) Tryd.func50 rfl Tryd.call50 (slices_ContainsFunc_string_string_sg fun x _ => slices_ContainsFunc_string_string N x.1 x.2.1) slices_ContainsFunc_string_string_pk (fun _ _ => rfl) N (fun x y _ h => ((runL_eq (slices_ContainsFunc_string_string_E N) N Tryd.f50 (slices_ContainsFunc_string_string_sg fun x _ => slices_ContainsFunc_string_string N x.1 x.2.1) slices_ContainsFunc_string_string_pk (slices_ContainsFunc_string_string_LP N) (show LoopsOk (slices_ContainsFunc_string_string_LP N) (slices_ContainsFunc_string_string_E N) N (resD (slices_ContainsFunc_string_string_E N) Tryd.f50 (slices_ContainsFunc_string_string_sg fun x _ => slices_ContainsFunc_string_string N x.1 x.2.1) slices_ContainsFunc_string_string_pk) [] from trivial) x y).trans (slices_ContainsFunc_string_string_core N x y)).trans h)
def blob_Select_L0T (N : Nat) (c25 : Int) (t24 : List Str) (k0 : Option (Int × List Str)) (self : Int → Option (Int × List Str)) (s26 : Int) : Option (Int × List Str) :=
  br (decide (s26 < c25))
    (bnd (geti t24 s26) fun t28 =>
    bnd (blob_CheckPattern N t28) fun t31 =>
    br (t31 != (0 : Int))
      (some (t31, ([] : List Str)))
      (self (IntKind.i64.wrap (s26 + (1 : Int)))))
    (k0)
def blob_Select_L0 (N : Nat) (c25 : Int) (t24 : List Str) (k0 : Option (Int × List Str)) : Nat → Int → Option (Int × List Str)
  | 0, _ => none
  | n + 1, s26 => blob_Select_L0T N c25 t24 k0 (blob_Select_L0 N c25 t24 k0 n) s26
def blob_Select_L1T (N : Nat) (x1 : List Str) (x2 : List Str) (x0 : List (Str × Bool × List UInt8)) (c37 : Int) (k2 : (List Str) → Option (Int × List Str)) (self : Int → (List Str) → Option (Int × List Str)) (s38 : Int) (w1012 : List Str) : Option (Int × List Str) :=
  br (decide (s38 < c37))
    (bnd (geti x0 s38) fun t40 =>
    bnd (slices_ContainsFunc_string_string N x1 (t40, ())) fun t45 =>
    br (t45)
      (bnd (slices_ContainsFunc_string_string N x2 (t40, ())) fun t49 =>
      br (!t49)
        (br (decide ((w1012.length + [t40.1].length) * (24 * Ty.sz .str) ≤ 140737488355328))
          (self (IntKind.i64.wrap (s38 + (1 : Int))) (w1012 ++ [t40.1]))
          none)
        (self (IntKind.i64.wrap (s38 + (1 : Int))) w1012))
      (self (IntKind.i64.wrap (s38 + (1 : Int))) w1012))
    (k2 w1012)
def blob_Select_L1 (N : Nat) (x1 : List Str) (x2 : List Str) (x0 : List (Str × Bool × List UInt8)) (c37 : Int) (k2 : (List Str) → Option (Int × List Str)) : Nat → Int → (List Str) → Option (Int × List Str)
  | 0, _, _ => none
  | n + 1, s38, w1012 => blob_Select_L1T N x1 x2 x0 c37 k2 (blob_Select_L1 N x1 x2 x0 c37 k2 n) s38 w1012
def blob_Select (N : Nat) (x0 : List (Str × Bool × List UInt8)) (x1 : List Str) (x2 : List Str) : Option (Int × List Str) :=
  bnd (blob_CheckFiles N x0) fun t17 =>
  br (t17 != (0 : Int))
    (some (t17, ([] : List Str)))
    (bnd (slices_Concat_string_string N [x1, x2]) fun t24 =>
    blob_Select_L0 N (t24.length : Int) t24 (blob_Select_L1 N x1 x2 x0 (x0.length : Int) (fun o1_w1012 =>
            some ((0 : Int), o1_w1012)) N (0 : Int) ([] : List Str)) N (0 : Int))
abbrev blob_Select_sg (f : SV [.v (.sl (.pr .str (.pr .bool (.sl .u8)))), .v (.sl .str), .v (.sl .str)] → BV [] → Option (Int × List Str)) : AF := { ps := [.v (.sl (.pr .str (.pr .bool (.sl .u8)))), .v (.sl .str), .v (.sl .str)], bs := [], rs := [.row 0, .v (.int .i64)], cs := [.row 9 .str false], R := Int × List Str, out := fun z => (((), z.1, ()), (z.2, ())), f := f }
abbrev blob_Select_pk : SV [.row 0, .v (.int .i64)] → BV [.row 9 .str false] → (Int × List Str) := fun x y => (x.2.1, y.1)
def blob_Select_fn (N : Nat) : FuncId → Option Tmp → Option AF := fun f _ =>
  match f with
    | 16 => some (blob_CheckPattern_sg fun x _ => blob_CheckPattern N x.1)
    | 35 => some (blob_CheckFiles_sg fun x _ => blob_CheckFiles N x.1)
    | 48 => some (slices_Concat_string_string_sg fun x _ => slices_Concat_string_string N x.1)
    | 50 => some (slices_ContainsFunc_string_string_sg fun x _ => slices_ContainsFunc_string_string N x.1 x.2.1)
    | 49 => some (noneAF [.v (.ptr (.pr .str (.pr .bool (.sl .u8))))])
    | _ => none
theorem blob_Select_fn_ok (N : Nat) : ∀ f q F, blob_Select_fn N f q = some F → Sound Tryd.prog GW B0G f F := by
  intro f q F h
  unfold blob_Select_fn at h
  split at h
  · cases h; exact blob_CheckPattern_sound N
  · cases h; exact blob_CheckFiles_sound N
  · cases h; exact slices_Concat_string_string_sound N
  · cases h; exact slices_ContainsFunc_string_string_sound N
  · cases h; exact noneAF_sound Tryd.call49 _
  · cases h
def blob_Select_h : Nat → Hint := fun i =>
  match i with
  | 0 => ⟨[], [0, 1, 2, 24, 25, 26], [102400], [0, 1, 2], [], []⟩
  | 2 => ⟨[], [1, 2, 12, 36, 37, 38], [1012], [12], [1012], []⟩
  | _ => ⟨[], [], [], [], [], []⟩
abbrev blob_Select_E (N : Nat) : Env := mkE blob_Select_h (blob_Select_fn N) (fun _ => false) (fun _ => false)
abbrev blob_Select_L0_fs : List (Nat × Sl) := [(0, .v (.sl (.pr .str (.pr .bool (.sl .u8))))), (1, .v (.sl .str)), (2, .v (.sl .str)), (24, .row 102400), (25, .v (.int .i64)), (26, .v (.int .i64))]
abbrev blob_Select_L0_bs : List (Nat × Sb) := [(102400, .row 9 .str false)]
def blob_Select_L0_hd (x0 : List (Str × Bool × List UInt8)) (x1 : List Str) (x2 : List Str) (c25 : Int) (t24 : List Str) (s26 : Int) : St := ⟨59, [(0, .v (.sl (.pr .str (.pr .bool (.sl .u8)))) x0), (1, .v (.sl .str) x1), (2, .v (.sl .str) x2), (24, .row 102400), (25, .v (.int .i64) c25), (26, .v (.int .i64) s26)], [(102400, .row 9 .str false t24)]⟩
def blob_Select_L0_tl0 (x0 : List (Str × Bool × List UInt8)) (x1 : List Str) (x2 : List Str) (_c25 : Int) (_t24 : List Str) : St := ⟨59, [(0, .v (.sl (.pr .str (.pr .bool (.sl .u8)))) x0), (1, .v (.sl .str) x1), (2, .v (.sl .str) x2)], []⟩
def blob_Select_L0_G (N : Nat) (x0 : List (Str × Bool × List UInt8)) (x1 : List Str) (x2 : List Str) (c25 : Int) (t24 : List Str) (s26 : Int) (k : Ex → St → Option (Int × List Str)) : Option (Int × List Str) :=
  blob_Select_L0 N c25 t24 (k (.exit 0) (blob_Select_L0_tl0 x0 x1 x2 c25 t24)) N s26
abbrev blob_Select_L0_F (N : Nat) : FV blob_Select_L0_fs → HV blob_Select_L0_bs → (Ex → St → Option (Int × List Str)) → Option (Int × List Str) := fun x y k => blob_Select_L0_G N x.1 x.2.1 x.2.2.1 x.2.2.2.2.1 y.1 x.2.2.2.2.2.1 k
abbrev blob_Select_L1_fs : List (Nat × Sl) := [(1, .v (.sl .str)), (2, .v (.sl .str)), (12, .row 1012), (36, .v (.sl (.pr .str (.pr .bool (.sl .u8))))), (37, .v (.int .i64)), (38, .v (.int .i64))]
abbrev blob_Select_L1_bs : List (Nat × Sb) := [(1012, .row 9 .str false)]
def blob_Select_L1_hd (x1 : List Str) (x2 : List Str) (x0 : List (Str × Bool × List UInt8)) (c37 : Int) (s38 : Int) (w1012 : List Str) : St := ⟨59, [(1, .v (.sl .str) x1), (2, .v (.sl .str) x2), (12, .row 1012), (36, .v (.sl (.pr .str (.pr .bool (.sl .u8)))) x0), (37, .v (.int .i64) c37), (38, .v (.int .i64) s38)], [(1012, .row 9 .str false w1012)]⟩
def blob_Select_L1_tl2 (_x1 : List Str) (_x2 : List Str) (_x0 : List (Str × Bool × List UInt8)) (_c37 : Int) (o1_w1012 : List Str) : St := ⟨59, [(12, .row 1012)], [(1012, .row 9 .str false o1_w1012)]⟩
def blob_Select_L1_G (N : Nat) (x1 : List Str) (x2 : List Str) (x0 : List (Str × Bool × List UInt8)) (c37 : Int) (s38 : Int) (w1012 : List Str) (k : Ex → St → Option (Int × List Str)) : Option (Int × List Str) :=
  blob_Select_L1 N x1 x2 x0 c37 (fun o1_w1012 => k (.exit 2) (blob_Select_L1_tl2 x1 x2 x0 c37 o1_w1012)) N s38 w1012
abbrev blob_Select_L1_F (N : Nat) : FV blob_Select_L1_fs → HV blob_Select_L1_bs → (Ex → St → Option (Int × List Str)) → Option (Int × List Str) := fun x y k => blob_Select_L1_G N x.1 x.2.1 x.2.2.2.1 x.2.2.2.2.1 x.2.2.2.2.2.1 y.1 k
noncomputable def blob_Select_LP (N : Nat) : Nat → Code → St → (Ex → St → Option (Int × List Str)) → Option (Int × List Str) := fun i c =>
  match i with
  | 0 => (LPc 59 blob_Select_L0_fs blob_Select_L0_bs (blob_Select_L0_F N) (fun st k => iter (blob_Select_h 0) (exec (blob_Select_E N) N c 0) N st k))
  | 2 => (LPc 59 blob_Select_L1_fs blob_Select_L1_bs (blob_Select_L1_F N) (fun st k => iter (blob_Select_h 2) (exec (blob_Select_E N) N c 2) N st k))
  | i => fun st k => iter (blob_Select_h i) (exec (blob_Select_E N) N c i) N st k
theorem blob_Select_L1_step (N : Nat) (x1 : List Str) (x2 : List Str) (x0 : List (Str × Bool × List UInt8)) (c37 : Int) (KX : Nat → St → Option (Int × List Str)) (I : St → Option (Int × List Str)) (s38 : Int) (w1012 : List Str) :
    execL (blob_Select_LP N) (blob_Select_E N) (cAt (bodyOf Tryd.f19) [true, true, true, true, false, true, false, false]) 2 (blob_Select_L1_hd x1 x2 x0 c37 s38 w1012) (roundK (blob_Select_h 2) I KX (resD (blob_Select_E N) Tryd.f19 (blob_Select_sg fun x _ => blob_Select N x.1 x.2.1 x.2.2.1) blob_Select_pk)) = blob_Select_L1T N x1 x2 x0 c37 (fun o1_w1012 => KX 2 (blob_Select_L1_tl2 x1 x2 x0 c37 o1_w1012)) (fun s38 w1012 => I (blob_Select_L1_hd x1 x2 x0 c37 s38 w1012)) s38 w1012 := by kernel_rfl
theorem blob_Select_L1_ok (N : Nat) : ∀ x y k, (∀ st, k .ret st = (resD (blob_Select_E N) Tryd.f19 (blob_Select_sg fun x _ => blob_Select N x.1 x.2.1 x.2.2.1) blob_Select_pk) st) → iter (blob_Select_h 2) (exec (blob_Select_E N) N (cAt (bodyOf Tryd.f19) [true, true, true, true, false, true, false, false]) 2) N ⟨59, unF blob_Select_L1_fs x, unH blob_Select_L1_bs y⟩ k = blob_Select_L1_F N x y k := fun x y k hk =>
  iter_link (S := (Int) × (List Str) × Unit) (blob_Select_h 2) _ (execL (blob_Select_LP N) (blob_Select_E N) (cAt (bodyOf Tryd.f19) [true, true, true, true, false, true, false, false]) 2) (resD (blob_Select_E N) Tryd.f19 (blob_Select_sg fun x _ => blob_Select N x.1 x.2.1 x.2.2.1) blob_Select_pk) (fun st k hk => execL_eq _ _ N _ (cAt (bodyOf Tryd.f19) [true, true, true, true, false, true, false, false]) 2 (show LoopsOk (blob_Select_LP N) (blob_Select_E N) N (resD (blob_Select_E N) Tryd.f19 (blob_Select_sg fun x _ => blob_Select N x.1 x.2.1 x.2.2.1) blob_Select_pk) [] from trivial) st k hk) (fun s => blob_Select_L1_hd x.1 x.2.1 x.2.2.2.1 x.2.2.2.2.1 s.1 s.2.1) k hk
    (fun self s => blob_Select_L1T N x.1 x.2.1 x.2.2.2.1 x.2.2.2.2.1 (fun o1_w1012 => k (.exit 2) (blob_Select_L1_tl2 x.1 x.2.1 x.2.2.2.1 x.2.2.2.2.1 o1_w1012)) (fun s38 w1012 => self (s38, w1012, ())) s.1 s.2.1) (fun n s => blob_Select_L1 N x.1 x.2.1 x.2.2.2.1 x.2.2.2.2.1 (fun o1_w1012 => k (.exit 2) (blob_Select_L1_tl2 x.1 x.2.1 x.2.2.2.1 x.2.2.2.2.1 o1_w1012)) n s.1 s.2.1) (fun _ => rfl) (fun _ _ => rfl)
    (fun I s => blob_Select_L1_step N x.1 x.2.1 x.2.2.2.1 x.2.2.2.2.1 (fun j => k (.exit j)) I s.1 s.2.1) N (x.2.2.2.2.2.1, y.1, ())
theorem blob_Select_lp2 (N : Nat) : ∀ st k, (∀ st, k .ret st = (resD (blob_Select_E N) Tryd.f19 (blob_Select_sg fun x _ => blob_Select N x.1 x.2.1 x.2.2.1) blob_Select_pk) st) → blob_Select_LP N 2 (cAt (bodyOf Tryd.f19) [true, true, true, true, false, true, false, false]) st k = iter (Env.hint (blob_Select_E N) 2) (exec (blob_Select_E N) N (cAt (bodyOf Tryd.f19) [true, true, true, true, false, true, false, false]) 2) N st k := fun st k hk => LPc_eq 59 blob_Select_L1_fs blob_Select_L1_bs _ _ (resD (blob_Select_E N) Tryd.f19 (blob_Select_sg fun x _ => blob_Select N x.1 x.2.1 x.2.2.1) blob_Select_pk) (blob_Select_L1_ok N) _ st k hk (rfl)
theorem blob_Select_L0_step (N : Nat) (x0 : List (Str × Bool × List UInt8)) (x1 : List Str) (x2 : List Str) (c25 : Int) (t24 : List Str) (KX : Nat → St → Option (Int × List Str)) (I : St → Option (Int × List Str)) (s26 : Int) :
    execL (blob_Select_LP N) (blob_Select_E N) (cAt (bodyOf Tryd.f19) [true, true, false, true, false, false]) 0 (blob_Select_L0_hd x0 x1 x2 c25 t24 s26) (roundK (blob_Select_h 0) I KX (resD (blob_Select_E N) Tryd.f19 (blob_Select_sg fun x _ => blob_Select N x.1 x.2.1 x.2.2.1) blob_Select_pk)) = blob_Select_L0T N c25 t24 (KX 0 (blob_Select_L0_tl0 x0 x1 x2 c25 t24)) (fun s26 => I (blob_Select_L0_hd x0 x1 x2 c25 t24 s26)) s26 := by kernel_rfl
theorem blob_Select_L0_ok (N : Nat) : ∀ x y k, (∀ st, k .ret st = (resD (blob_Select_E N) Tryd.f19 (blob_Select_sg fun x _ => blob_Select N x.1 x.2.1 x.2.2.1) blob_Select_pk) st) → iter (blob_Select_h 0) (exec (blob_Select_E N) N (cAt (bodyOf Tryd.f19) [true, true, false, true, false, false]) 0) N ⟨59, unF blob_Select_L0_fs x, unH blob_Select_L0_bs y⟩ k = blob_Select_L0_F N x y k := fun x y k hk =>
  iter_link (S := (Int) × Unit) (blob_Select_h 0) _ (execL (blob_Select_LP N) (blob_Select_E N) (cAt (bodyOf Tryd.f19) [true, true, false, true, false, false]) 0) (resD (blob_Select_E N) Tryd.f19 (blob_Select_sg fun x _ => blob_Select N x.1 x.2.1 x.2.2.1) blob_Select_pk) (fun st k hk => execL_eq _ _ N _ (cAt (bodyOf Tryd.f19) [true, true, false, true, false, false]) 0 (show LoopsOk (blob_Select_LP N) (blob_Select_E N) N (resD (blob_Select_E N) Tryd.f19 (blob_Select_sg fun x _ => blob_Select N x.1 x.2.1 x.2.2.1) blob_Select_pk) [] from trivial) st k hk) (fun s => blob_Select_L0_hd x.1 x.2.1 x.2.2.1 x.2.2.2.2.1 y.1 s.1) k hk
    (fun self s => blob_Select_L0T N x.2.2.2.2.1 y.1 (k (.exit 0) (blob_Select_L0_tl0 x.1 x.2.1 x.2.2.1 x.2.2.2.2.1 y.1)) (fun s26 => self (s26, ())) s.1) (fun n s => blob_Select_L0 N x.2.2.2.2.1 y.1 (k (.exit 0) (blob_Select_L0_tl0 x.1 x.2.1 x.2.2.1 x.2.2.2.2.1 y.1)) n s.1) (fun _ => rfl) (fun _ _ => rfl)
    (fun I s => blob_Select_L0_step N x.1 x.2.1 x.2.2.1 x.2.2.2.2.1 y.1 (fun j => k (.exit j)) I s.1) N (x.2.2.2.2.2.1, ())
theorem blob_Select_lp0 (N : Nat) : ∀ st k, (∀ st, k .ret st = (resD (blob_Select_E N) Tryd.f19 (blob_Select_sg fun x _ => blob_Select N x.1 x.2.1 x.2.2.1) blob_Select_pk) st) → blob_Select_LP N 0 (cAt (bodyOf Tryd.f19) [true, true, false, true, false, false]) st k = iter (Env.hint (blob_Select_E N) 0) (exec (blob_Select_E N) N (cAt (bodyOf Tryd.f19) [true, true, false, true, false, false]) 0) N st k := fun st k hk => LPc_eq 59 blob_Select_L0_fs blob_Select_L0_bs _ _ (resD (blob_Select_E N) Tryd.f19 (blob_Select_sg fun x _ => blob_Select N x.1 x.2.1 x.2.2.1) blob_Select_pk) (blob_Select_L0_ok N) _ st k hk (rfl)
theorem blob_Select_core (N : Nat) (x : SV [.v (.sl (.pr .str (.pr .bool (.sl .u8)))), .v (.sl .str), .v (.sl .str)]) (y : BV []) : runL (blob_Select_E N) Tryd.f19 (blob_Select_sg fun x _ => blob_Select N x.1 x.2.1 x.2.2.1) blob_Select_pk (blob_Select_LP N) x y = blob_Select N x.1 x.2.1 x.2.2.1 := by kernel_rfl
theorem blob_Select_sound (N : Nat) : Sound Tryd.prog GW B0G 19 (blob_Select_sg fun x _ => blob_Select N x.1 x.2.1 x.2.2.1) :=
  runD_sound (mkE_ok blob_Select_h (blob_Select_fn N) _ _ (blob_Select_fn_ok N)) Tryd.func19 rfl Tryd.call19 (blob_Select_sg fun x _ => blob_Select N x.1 x.2.1 x.2.2.1) blob_Select_pk (fun _ _ => rfl) N (fun x y _ h => ((runL_eq (blob_Select_E N) N Tryd.f19 (blob_Select_sg fun x _ => blob_Select N x.1 x.2.1 x.2.2.1) blob_Select_pk (blob_Select_LP N) (show LoopsOk (blob_Select_LP N) (blob_Select_E N) N (resD (blob_Select_E N) Tryd.f19 (blob_Select_sg fun x _ => blob_Select N x.1 x.2.1 x.2.2.1) blob_Select_pk) [(0, (cAt (bodyOf Tryd.f19) [true, true, false, true, false, false])), (2, (cAt (bodyOf Tryd.f19) [true, true, true, true, false, true, false, false]))] from ⟨blob_Select_lp0 N, blob_Select_lp2 N, trivial⟩) x y).trans (blob_Select_core N x y)).trans h)
def ref1_there_L0T (_N : Nat) (x0 : List (Str × Bool × List UInt8)) (x1 : Str) (k0 : Int → Option Bool) (self : Int → Int → Option Bool) (s5 : Int) (s6 : Int) : Option Bool :=
  br (decide (s5 < s6))
    (br ((2 : Int) == 0)
      none
      (bnd (geti x0 (IntKind.i64.wrap (Int.tdiv (IntKind.i64.wrap (s5 + s6)) (2 : Int)))) fun t19 =>
      br (Op.bytesLess t19.1 x1)
        (self (IntKind.i64.wrap ((IntKind.i64.wrap (Int.tdiv (IntKind.i64.wrap (s5 + s6)) (2 : Int))) + (1 : Int))) s6)
        (self s5 (IntKind.i64.wrap (Int.tdiv (IntKind.i64.wrap (s5 + s6)) (2 : Int))))))
    (k0 s5)
def ref1_there_L0 (N : Nat) (x0 : List (Str × Bool × List UInt8)) (x1 : Str) (k0 : Int → Option Bool) : Nat → Int → Int → Option Bool
  | 0, _, _ => none
  | n + 1, s5, s6 => ref1_there_L0T N x0 x1 k0 (ref1_there_L0 N x0 x1 k0 n) s5 s6
def ref1_there (N : Nat) (x0 : List (Str × Bool × List UInt8)) (x1 : Str) : Option Bool :=
  ref1_there_L0 N x0 x1 (fun o0_5 =>
      br (decide (o0_5 < (x0.length : Int)))
        (bnd (geti x0 o0_5) fun t34 =>
        some (t34.1 == x1))
        (some false)) N (0 : Int) (x0.length : Int)
abbrev ref1_there_sg (f : SV [.v (.sl (.pr .str (.pr .bool (.sl .u8)))), .v .str] → BV [] → Option (Bool)) : AF := { ps := [.v (.sl (.pr .str (.pr .bool (.sl .u8)))), .v .str], bs := [], rs := [.v .bool], cs := [], R := Bool, out := fun z => ((z, ()), ()), f := f }
abbrev ref1_there_pk : SV [.v .bool] → BV [] → Bool := fun x _ => x.1
def ref1_there_fn (_N : Nat) : FuncId → Option Tmp → Option AF := fun f _ =>
  match f with
    | _ => none
theorem ref1_there_fn_ok (N : Nat) : ∀ f q F, ref1_there_fn N f q = some F → Sound Tryd.prog GW B0G f F := by
  intro f q F h
  unfold ref1_there_fn at h
  split at h
  · cases h
def ref1_there_h : Nat → Hint := fun i =>
  match i with
  | 0 => ⟨[], [0, 1, 5, 6], [], [0, 1, 5], [], []⟩
  | _ => ⟨[], [], [], [], [], []⟩
abbrev ref1_there_E (N : Nat) : Env := mkE ref1_there_h (ref1_there_fn N) (fun _ => false) (fun _ => false)
abbrev ref1_there_L0_fs : List (Nat × Sl) := [(0, .v (.sl (.pr .str (.pr .bool (.sl .u8))))), (1, .v .str), (5, .v (.int .i64)), (6, .v (.int .i64))]
abbrev ref1_there_L0_bs : List (Nat × Sb) := []
def ref1_there_L0_hd (x0 : List (Str × Bool × List UInt8)) (x1 : Str) (s5 : Int) (s6 : Int) : St := ⟨40, [(0, .v (.sl (.pr .str (.pr .bool (.sl .u8)))) x0), (1, .v .str x1), (5, .v (.int .i64) s5), (6, .v (.int .i64) s6)], []⟩
def ref1_there_L0_tl0 (x0 : List (Str × Bool × List UInt8)) (x1 : Str) (o0_5 : Int) : St := ⟨40, [(0, .v (.sl (.pr .str (.pr .bool (.sl .u8)))) x0), (1, .v .str x1), (5, .v (.int .i64) o0_5)], []⟩
def ref1_there_L0_G (N : Nat) (x0 : List (Str × Bool × List UInt8)) (x1 : Str) (s5 : Int) (s6 : Int) (k : Ex → St → Option Bool) : Option Bool :=
  ref1_there_L0 N x0 x1 (fun o0_5 => k (.exit 0) (ref1_there_L0_tl0 x0 x1 o0_5)) N s5 s6
abbrev ref1_there_L0_F (N : Nat) : FV ref1_there_L0_fs → HV ref1_there_L0_bs → (Ex → St → Option Bool) → Option Bool := fun x _ k => ref1_there_L0_G N x.1 x.2.1 x.2.2.1 x.2.2.2.1 k
noncomputable def ref1_there_LP (N : Nat) : Nat → Code → St → (Ex → St → Option Bool) → Option Bool := fun i c =>
  match i with
  | 0 => (LPc 40 ref1_there_L0_fs ref1_there_L0_bs (ref1_there_L0_F N) (fun st k => iter (ref1_there_h 0) (exec (ref1_there_E N) N c 0) N st k))
  | i => fun st k => iter (ref1_there_h i) (exec (ref1_there_E N) N c i) N st k
theorem ref1_there_L0_step (N : Nat) (x0 : List (Str × Bool × List UInt8)) (x1 : Str) (KX : Nat → St → Option Bool) (I : St → Option Bool) (s5 : Int) (s6 : Int) :
    execL (ref1_there_LP N) (ref1_there_E N) (cAt (bodyOf Tryd.f104) [true, true, false, false, false]) 0 (ref1_there_L0_hd x0 x1 s5 s6) (roundK (ref1_there_h 0) I KX (resD (ref1_there_E N) Tryd.f104 (ref1_there_sg fun x _ => ref1_there N x.1 x.2.1) ref1_there_pk)) = ref1_there_L0T N x0 x1 (fun o0_5 => KX 0 (ref1_there_L0_tl0 x0 x1 o0_5)) (fun s5 s6 => I (ref1_there_L0_hd x0 x1 s5 s6)) s5 s6 := by kernel_rfl
theorem ref1_there_L0_ok (N : Nat) : ∀ x y k, (∀ st, k .ret st = (resD (ref1_there_E N) Tryd.f104 (ref1_there_sg fun x _ => ref1_there N x.1 x.2.1) ref1_there_pk) st) → iter (ref1_there_h 0) (exec (ref1_there_E N) N (cAt (bodyOf Tryd.f104) [true, true, false, false, false]) 0) N ⟨40, unF ref1_there_L0_fs x, unH ref1_there_L0_bs y⟩ k = ref1_there_L0_F N x y k := fun x _ k hk =>
  iter_link (S := (Int) × (Int) × Unit) (ref1_there_h 0) _ (execL (ref1_there_LP N) (ref1_there_E N) (cAt (bodyOf Tryd.f104) [true, true, false, false, false]) 0) (resD (ref1_there_E N) Tryd.f104 (ref1_there_sg fun x _ => ref1_there N x.1 x.2.1) ref1_there_pk) (fun st k hk => execL_eq _ _ N _ (cAt (bodyOf Tryd.f104) [true, true, false, false, false]) 0 (show LoopsOk (ref1_there_LP N) (ref1_there_E N) N (resD (ref1_there_E N) Tryd.f104 (ref1_there_sg fun x _ => ref1_there N x.1 x.2.1) ref1_there_pk) [] from trivial) st k hk) (fun s => ref1_there_L0_hd x.1 x.2.1 s.1 s.2.1) k hk
    (fun self s => ref1_there_L0T N x.1 x.2.1 (fun o0_5 => k (.exit 0) (ref1_there_L0_tl0 x.1 x.2.1 o0_5)) (fun s5 s6 => self (s5, s6, ())) s.1 s.2.1) (fun n s => ref1_there_L0 N x.1 x.2.1 (fun o0_5 => k (.exit 0) (ref1_there_L0_tl0 x.1 x.2.1 o0_5)) n s.1 s.2.1) (fun _ => rfl) (fun _ _ => rfl)
    (fun I s => ref1_there_L0_step N x.1 x.2.1 (fun j => k (.exit j)) I s.1 s.2.1) N (x.2.2.1, x.2.2.2.1, ())
theorem ref1_there_lp0 (N : Nat) : ∀ st k, (∀ st, k .ret st = (resD (ref1_there_E N) Tryd.f104 (ref1_there_sg fun x _ => ref1_there N x.1 x.2.1) ref1_there_pk) st) → ref1_there_LP N 0 (cAt (bodyOf Tryd.f104) [true, true, false, false, false]) st k = iter (Env.hint (ref1_there_E N) 0) (exec (ref1_there_E N) N (cAt (bodyOf Tryd.f104) [true, true, false, false, false]) 0) N st k := fun st k hk => LPc_eq 40 ref1_there_L0_fs ref1_there_L0_bs _ _ (resD (ref1_there_E N) Tryd.f104 (ref1_there_sg fun x _ => ref1_there N x.1 x.2.1) ref1_there_pk) (ref1_there_L0_ok N) _ st k hk (rfl)
theorem ref1_there_core (N : Nat) (x : SV [.v (.sl (.pr .str (.pr .bool (.sl .u8)))), .v .str]) (y : BV []) : runL (ref1_there_E N) Tryd.f104 (ref1_there_sg fun x _ => ref1_there N x.1 x.2.1) ref1_there_pk (ref1_there_LP N) x y = ref1_there N x.1 x.2.1 := by kernel_rfl
theorem ref1_there_sound (N : Nat) : Sound Tryd.prog GW B0G 104 (ref1_there_sg fun x _ => ref1_there N x.1 x.2.1) :=
  runD_sound (mkE_ok ref1_there_h (ref1_there_fn N) _ _ (ref1_there_fn_ok N)) Tryd.func104 rfl Tryd.call104 (ref1_there_sg fun x _ => ref1_there N x.1 x.2.1) ref1_there_pk (fun _ _ => rfl) N (fun x y _ h => ((runL_eq (ref1_there_E N) N Tryd.f104 (ref1_there_sg fun x _ => ref1_there N x.1 x.2.1) ref1_there_pk (ref1_there_LP N) (show LoopsOk (ref1_there_LP N) (ref1_there_E N) N (resD (ref1_there_E N) Tryd.f104 (ref1_there_sg fun x _ => ref1_there N x.1 x.2.1) ref1_there_pk) [(0, (cAt (bodyOf Tryd.f104) [true, true, false, false, false]))] from ⟨ref1_there_lp0 N, trivial⟩) x y).trans (ref1_there_core N x y)).trans h)
end
end Go.Proofs.YthlkidohpiebiaaDoor

