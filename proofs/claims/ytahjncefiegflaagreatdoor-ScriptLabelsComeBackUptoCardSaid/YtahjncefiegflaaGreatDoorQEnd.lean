/- What functions of the program compute, as plain functions (printed). -/
import Derived.Test.YtahjncefiegflaaGreatDoorQScT
import Derived.Test.YtahjncefiegflaaGreatDoorQBmSi
import Derived.ProofKit
import Derived.OpenShut
import Derived.ShutString
import Derived.DataReads
import Derived.ChangeShapes
import Derived.WideShapes
namespace Go.Proofs.YtahjncefiegflaaGreatDoor
open Go Go.RowKit
set_option maxRecDepth 100000
set_option linter.unusedVariables false
noncomputable section
def blob_inPart (_N : Nat) (x0 : UInt8) : Option Bool :=
  br (decide (x0 ≥ (97 : UInt8)))
    (br (decide (x0 ≤ (122 : UInt8)))
      (some true)
      (br (decide (x0 ≥ (65 : UInt8)))
        (br (decide (x0 ≤ (90 : UInt8)))
          (some true)
          (br (decide (x0 ≥ (48 : UInt8)))
            (br (decide (x0 ≤ (57 : UInt8)))
              (some true)
              (bnd (strings_IndexByte ([46, 95, 45, 43] : Str) x0) fun t27 =>
              some (decide (t27 ≥ (0 : Int)))))
            (bnd (strings_IndexByte ([46, 95, 45, 43] : Str) x0) fun t27_1 =>
            some (decide (t27_1 ≥ (0 : Int))))))
        (br (decide (x0 ≥ (48 : UInt8)))
          (br (decide (x0 ≤ (57 : UInt8)))
            (some true)
            (bnd (strings_IndexByte ([46, 95, 45, 43] : Str) x0) fun t27_2 =>
            some (decide (t27_2 ≥ (0 : Int)))))
          (bnd (strings_IndexByte ([46, 95, 45, 43] : Str) x0) fun t27_3 =>
          some (decide (t27_3 ≥ (0 : Int)))))))
    (br (decide (x0 ≥ (65 : UInt8)))
      (br (decide (x0 ≤ (90 : UInt8)))
        (some true)
        (br (decide (x0 ≥ (48 : UInt8)))
          (br (decide (x0 ≤ (57 : UInt8)))
            (some true)
            (bnd (strings_IndexByte ([46, 95, 45, 43] : Str) x0) fun t27_4 =>
            some (decide (t27_4 ≥ (0 : Int)))))
          (bnd (strings_IndexByte ([46, 95, 45, 43] : Str) x0) fun t27_5 =>
          some (decide (t27_5 ≥ (0 : Int))))))
      (br (decide (x0 ≥ (48 : UInt8)))
        (br (decide (x0 ≤ (57 : UInt8)))
          (some true)
          (bnd (strings_IndexByte ([46, 95, 45, 43] : Str) x0) fun t27_6 =>
          some (decide (t27_6 ≥ (0 : Int)))))
        (bnd (strings_IndexByte ([46, 95, 45, 43] : Str) x0) fun t27_7 =>
        some (decide (t27_7 ≥ (0 : Int))))))
abbrev blob_inPart_sg (f : SV [.v .u8] → BV [] → Option (Bool)) : AF := { ps := [.v .u8], bs := [], rs := [.v .bool], cs := [], R := Bool, out := fun z => ((z, ()), ()), f := f }
abbrev blob_inPart_pk : SV [.v .bool] → BV [] → Bool := fun x _ => x.1
def blob_inPart_fn (_N : Nat) : FuncId → Option Tmp → Option AF := fun f _ =>
  match f with
    | 116 => some (strings_IndexByte_sg fun x _ => strings_IndexByte x.1 x.2.1)
    | _ => none
theorem blob_inPart_fn_ok (N : Nat) : ∀ f q F, blob_inPart_fn N f q = some F → Sound Tryz.prog GW B0G f F := by
  intro f q F h
  unfold blob_inPart_fn at h
  split at h
  · cases h; exact strings_IndexByte_sound
  · cases h
def blob_inPart_h : Nat → Hint := fun i =>
  match i with
  | _ => ⟨[], [], [], [], [], []⟩
abbrev blob_inPart_E (N : Nat) : Env := mkE blob_inPart_h (blob_inPart_fn N) (fun _ => false) (fun _ => false)
noncomputable def blob_inPart_LP (N : Nat) : Nat → Code → St → (Ex → St → Option Bool) → Option Bool := fun i c =>
  match i with
  | i => fun st k => iter (blob_inPart_h i) (exec (blob_inPart_E N) N c i) N st k
theorem blob_inPart_core (N : Nat) (x : SV [.v .u8]) (y : BV []) : runL (blob_inPart_E N) Tryz.f137 (blob_inPart_sg fun x _ => blob_inPart N x.1) blob_inPart_pk (blob_inPart_LP N) x y = blob_inPart N x.1 := by kernel_rfl
theorem blob_inPart_sound (N : Nat) : Sound Tryz.prog GW B0G 137 (blob_inPart_sg fun x _ => blob_inPart N x.1) :=
  runD_sound (mkE_ok blob_inPart_h (blob_inPart_fn N) _ _ (blob_inPart_fn_ok N)) Tryz.func137 rfl Tryz.call137 (blob_inPart_sg fun x _ => blob_inPart N x.1) blob_inPart_pk (fun _ _ => rfl) N (fun x y _ h => ((runL_eq (blob_inPart_E N) N Tryz.f137 (blob_inPart_sg fun x _ => blob_inPart N x.1) blob_inPart_pk (blob_inPart_LP N) (show LoopsOk (blob_inPart_LP N) (blob_inPart_E N) N (resD (blob_inPart_E N) Tryz.f137 (blob_inPart_sg fun x _ => blob_inPart N x.1) blob_inPart_pk) [] from trivial) x y).trans (blob_inPart_core N x y)).trans h)
def blob_isPart_L0T (N : Nat) (x0 : Str) (c5 : Int) (k0 : Option Bool) (self : Int → Option Bool) (s6 : Int) : Option Bool :=
  br (decide (s6 < c5))
    (bnd (geti x0 s6) fun t11 =>
    bnd (blob_inPart N t11) fun t12 =>
    br (!t12)
      (some false)
      (self (IntKind.i64.wrap (s6 + (1 : Int)))))
    (k0)
def blob_isPart_L0 (N : Nat) (x0 : Str) (c5 : Int) (k0 : Option Bool) : Nat → Int → Option Bool
  | 0, _ => none
  | n + 1, s6 => blob_isPart_L0T N x0 c5 k0 (blob_isPart_L0 N x0 c5 k0 n) s6
def blob_isPart (N : Nat) (x0 : Str) : Option Bool :=
  blob_isPart_L0 N x0 (x0.length : Int) (br (!(x0 == ([] : Str)))
        (br (!(x0 == ([46] : Str)))
          (some (!(x0 == ([46, 46] : Str))))
          (some false))
        (some false)) N (0 : Int)
abbrev blob_isPart_sg (f : SV [.v .str] → BV [] → Option (Bool)) : AF := { ps := [.v .str], bs := [], rs := [.v .bool], cs := [], R := Bool, out := fun z => ((z, ()), ()), f := f }
abbrev blob_isPart_pk : SV [.v .bool] → BV [] → Bool := fun x _ => x.1
def blob_isPart_fn (N : Nat) : FuncId → Option Tmp → Option AF := fun f _ =>
  match f with
    | 137 => some (blob_inPart_sg fun x _ => blob_inPart N x.1)
    | _ => none
theorem blob_isPart_fn_ok (N : Nat) : ∀ f q F, blob_isPart_fn N f q = some F → Sound Tryz.prog GW B0G f F := by
  intro f q F h
  unfold blob_isPart_fn at h
  split at h
  · cases h; exact blob_inPart_sound N
  · cases h
def blob_isPart_h : Nat → Hint := fun i =>
  match i with
  | 0 => ⟨[], [0, 5, 6], [], [0], [], []⟩
  | _ => ⟨[], [], [], [], [], []⟩
abbrev blob_isPart_E (N : Nat) : Env := mkE blob_isPart_h (blob_isPart_fn N) (fun _ => false) (fun _ => false)
abbrev blob_isPart_L0_fs : List (Nat × Sl) := [(0, .v .str), (5, .v (.int .i64)), (6, .v (.int .i64))]
abbrev blob_isPart_L0_bs : List (Nat × Sb) := []
def blob_isPart_L0_hd (x0 : Str) (c5 : Int) (s6 : Int) : St := ⟨25, [(0, .v .str x0), (5, .v (.int .i64) c5), (6, .v (.int .i64) s6)], []⟩
def blob_isPart_L0_tl0 (x0 : Str) (_c5 : Int) : St := ⟨25, [(0, .v .str x0)], []⟩
def blob_isPart_L0_G (N : Nat) (x0 : Str) (c5 : Int) (s6 : Int) (k : Ex → St → Option Bool) : Option Bool :=
  blob_isPart_L0 N x0 c5 (k (.exit 0) (blob_isPart_L0_tl0 x0 c5)) N s6
abbrev blob_isPart_L0_F (N : Nat) : FV blob_isPart_L0_fs → HV blob_isPart_L0_bs → (Ex → St → Option Bool) → Option Bool := fun x _ k => blob_isPart_L0_G N x.1 x.2.1 x.2.2.1 k
noncomputable def blob_isPart_LP (N : Nat) : Nat → Code → St → (Ex → St → Option Bool) → Option Bool := fun i c =>
  match i with
  | 0 => (LPc 25 blob_isPart_L0_fs blob_isPart_L0_bs (blob_isPart_L0_F N) (fun st k => iter (blob_isPart_h 0) (exec (blob_isPart_E N) N c 0) N st k))
  | i => fun st k => iter (blob_isPart_h i) (exec (blob_isPart_E N) N c i) N st k
theorem blob_isPart_L0_step (N : Nat) (x0 : Str) (c5 : Int) (KX : Nat → St → Option Bool) (I : St → Option Bool) (s6 : Int) :
    execL (blob_isPart_LP N) (blob_isPart_E N) (cAt (bodyOf Tryz.f104) [true, false, true, false, false]) 0 (blob_isPart_L0_hd x0 c5 s6) (roundK (blob_isPart_h 0) I KX (resD (blob_isPart_E N) Tryz.f104 (blob_isPart_sg fun x _ => blob_isPart N x.1) blob_isPart_pk)) = blob_isPart_L0T N x0 c5 (KX 0 (blob_isPart_L0_tl0 x0 c5)) (fun s6 => I (blob_isPart_L0_hd x0 c5 s6)) s6 := by kernel_rfl
theorem blob_isPart_L0_ok (N : Nat) : ∀ x y k, (∀ st, k .ret st = (resD (blob_isPart_E N) Tryz.f104 (blob_isPart_sg fun x _ => blob_isPart N x.1) blob_isPart_pk) st) → iter (blob_isPart_h 0) (exec (blob_isPart_E N) N (cAt (bodyOf Tryz.f104) [true, false, true, false, false]) 0) N ⟨25, unF blob_isPart_L0_fs x, unH blob_isPart_L0_bs y⟩ k = blob_isPart_L0_F N x y k := fun x _ k hk =>
  iter_link (S := (Int) × Unit) (blob_isPart_h 0) _ (execL (blob_isPart_LP N) (blob_isPart_E N) (cAt (bodyOf Tryz.f104) [true, false, true, false, false]) 0) (resD (blob_isPart_E N) Tryz.f104 (blob_isPart_sg fun x _ => blob_isPart N x.1) blob_isPart_pk) (fun st k hk => execL_eq _ _ N _ (cAt (bodyOf Tryz.f104) [true, false, true, false, false]) 0 (show LoopsOk (blob_isPart_LP N) (blob_isPart_E N) N (resD (blob_isPart_E N) Tryz.f104 (blob_isPart_sg fun x _ => blob_isPart N x.1) blob_isPart_pk) [] from trivial) st k hk) (fun s => blob_isPart_L0_hd x.1 x.2.1 s.1) k hk
    (fun self s => blob_isPart_L0T N x.1 x.2.1 (k (.exit 0) (blob_isPart_L0_tl0 x.1 x.2.1)) (fun s6 => self (s6, ())) s.1) (fun n s => blob_isPart_L0 N x.1 x.2.1 (k (.exit 0) (blob_isPart_L0_tl0 x.1 x.2.1)) n s.1) (fun _ => rfl) (fun _ _ => rfl)
    (fun I s => blob_isPart_L0_step N x.1 x.2.1 (fun j => k (.exit j)) I s.1) N (x.2.2.1, ())
theorem blob_isPart_lp0 (N : Nat) : ∀ st k, (∀ st, k .ret st = (resD (blob_isPart_E N) Tryz.f104 (blob_isPart_sg fun x _ => blob_isPart N x.1) blob_isPart_pk) st) → blob_isPart_LP N 0 (cAt (bodyOf Tryz.f104) [true, false, true, false, false]) st k = iter (Env.hint (blob_isPart_E N) 0) (exec (blob_isPart_E N) N (cAt (bodyOf Tryz.f104) [true, false, true, false, false]) 0) N st k := fun st k hk => LPc_eq 25 blob_isPart_L0_fs blob_isPart_L0_bs _ _ (resD (blob_isPart_E N) Tryz.f104 (blob_isPart_sg fun x _ => blob_isPart N x.1) blob_isPart_pk) (blob_isPart_L0_ok N) _ st k hk (rfl)
theorem blob_isPart_core (N : Nat) (x : SV [.v .str]) (y : BV []) : runL (blob_isPart_E N) Tryz.f104 (blob_isPart_sg fun x _ => blob_isPart N x.1) blob_isPart_pk (blob_isPart_LP N) x y = blob_isPart N x.1 := by kernel_rfl
theorem blob_isPart_sound (N : Nat) : Sound Tryz.prog GW B0G 104 (blob_isPart_sg fun x _ => blob_isPart N x.1) :=
  runD_sound (mkE_ok blob_isPart_h (blob_isPart_fn N) _ _ (blob_isPart_fn_ok N)) Tryz.func104 rfl Tryz.call104 (blob_isPart_sg fun x _ => blob_isPart N x.1) blob_isPart_pk (fun _ _ => rfl) N (fun x y _ h => ((runL_eq (blob_isPart_E N) N Tryz.f104 (blob_isPart_sg fun x _ => blob_isPart N x.1) blob_isPart_pk (blob_isPart_LP N) (show LoopsOk (blob_isPart_LP N) (blob_isPart_E N) N (resD (blob_isPart_E N) Tryz.f104 (blob_isPart_sg fun x _ => blob_isPart N x.1) blob_isPart_pk) [(0, (cAt (bodyOf Tryz.f104) [true, false, true, false, false]))] from ⟨blob_isPart_lp0 N, trivial⟩) x y).trans (blob_isPart_core N x y)).trans h)
def blob_IsPath_L0T (N : Nat) (t14 : List Str) (c15 : Int) (k0 : Option Bool) (self : Int → Option Bool) (s16 : Int) : Option Bool :=
  br (decide (s16 < c15))
    (bnd (geti t14 s16) fun t18 =>
    bnd (blob_isPart N t18) fun t21 =>
    br (!t21)
      (some false)
      (self (IntKind.i64.wrap (s16 + (1 : Int)))))
    (k0)
def blob_IsPath_L0 (N : Nat) (t14 : List Str) (c15 : Int) (k0 : Option Bool) : Nat → Int → Option Bool
  | 0, _ => none
  | n + 1, s16 => blob_IsPath_L0T N t14 c15 k0 (blob_IsPath_L0 N t14 c15 k0 n) s16
def blob_IsPath (N : Nat) (x0 : Str) : Option Bool :=
  br (decide ((x0.length : Int) < (1 : Int)))
    (some false)
    (br (decide ((x0.length : Int) > (200 : Int)))
      (some false)
      (bnd (strings_Split x0 ([47] : Str)) fun t14 =>
      blob_IsPath_L0 N t14 (t14.length : Int) (some true) N (0 : Int)))
abbrev blob_IsPath_sg (f : SV [.v .str] → BV [] → Option (Bool)) : AF := { ps := [.v .str], bs := [], rs := [.v .bool], cs := [], R := Bool, out := fun z => ((z, ()), ()), f := f }
abbrev blob_IsPath_pk : SV [.v .bool] → BV [] → Bool := fun x _ => x.1
def blob_IsPath_fn (N : Nat) : FuncId → Option Tmp → Option AF := fun f _ =>
  match f with
    | 103 => some (strings_Split_sg fun x _ => strings_Split x.1 x.2.1)
    | 104 => some (blob_isPart_sg fun x _ => blob_isPart N x.1)
    | _ => none
theorem blob_IsPath_fn_ok (N : Nat) : ∀ f q F, blob_IsPath_fn N f q = some F → Sound Tryz.prog GW B0G f F := by
  intro f q F h
  unfold blob_IsPath_fn at h
  split at h
  · cases h; exact strings_Split_sound
  · cases h; exact blob_isPart_sound N
  · cases h
def blob_IsPath_h : Nat → Hint := fun i =>
  match i with
  | 0 => ⟨[], [14, 15, 16], [], [], [], []⟩
  | _ => ⟨[], [], [], [], [], []⟩
abbrev blob_IsPath_E (N : Nat) : Env := mkE blob_IsPath_h (blob_IsPath_fn N) (fun _ => false) (fun _ => false)
abbrev blob_IsPath_L0_fs : List (Nat × Sl) := [(14, .v (.sl .str)), (15, .v (.int .i64)), (16, .v (.int .i64))]
abbrev blob_IsPath_L0_bs : List (Nat × Sb) := []
def blob_IsPath_L0_hd (t14 : List Str) (c15 : Int) (s16 : Int) : St := ⟨24, [(14, .v (.sl .str) t14), (15, .v (.int .i64) c15), (16, .v (.int .i64) s16)], []⟩
def blob_IsPath_L0_tl0 (_t14 : List Str) (_c15 : Int) : St := ⟨24, [], []⟩
def blob_IsPath_L0_G (N : Nat) (t14 : List Str) (c15 : Int) (s16 : Int) (k : Ex → St → Option Bool) : Option Bool :=
  blob_IsPath_L0 N t14 c15 (k (.exit 0) (blob_IsPath_L0_tl0 t14 c15)) N s16
abbrev blob_IsPath_L0_F (N : Nat) : FV blob_IsPath_L0_fs → HV blob_IsPath_L0_bs → (Ex → St → Option Bool) → Option Bool := fun x _ k => blob_IsPath_L0_G N x.1 x.2.1 x.2.2.1 k
noncomputable def blob_IsPath_LP (N : Nat) : Nat → Code → St → (Ex → St → Option Bool) → Option Bool := fun i c =>
  match i with
  | 0 => (LPc 24 blob_IsPath_L0_fs blob_IsPath_L0_bs (blob_IsPath_L0_F N) (fun st k => iter (blob_IsPath_h 0) (exec (blob_IsPath_E N) N c 0) N st k))
  | i => fun st k => iter (blob_IsPath_h i) (exec (blob_IsPath_E N) N c i) N st k
theorem blob_IsPath_L0_step (N : Nat) (t14 : List Str) (c15 : Int) (KX : Nat → St → Option Bool) (I : St → Option Bool) (s16 : Int) :
    execL (blob_IsPath_LP N) (blob_IsPath_E N) (cAt (bodyOf Tryz.f56) [true, true, false, true, false, false]) 0 (blob_IsPath_L0_hd t14 c15 s16) (roundK (blob_IsPath_h 0) I KX (resD (blob_IsPath_E N) Tryz.f56 (blob_IsPath_sg fun x _ => blob_IsPath N x.1) blob_IsPath_pk)) = blob_IsPath_L0T N t14 c15 (KX 0 (blob_IsPath_L0_tl0 t14 c15)) (fun s16 => I (blob_IsPath_L0_hd t14 c15 s16)) s16 := by kernel_rfl
theorem blob_IsPath_L0_ok (N : Nat) : ∀ x y k, (∀ st, k .ret st = (resD (blob_IsPath_E N) Tryz.f56 (blob_IsPath_sg fun x _ => blob_IsPath N x.1) blob_IsPath_pk) st) → iter (blob_IsPath_h 0) (exec (blob_IsPath_E N) N (cAt (bodyOf Tryz.f56) [true, true, false, true, false, false]) 0) N ⟨24, unF blob_IsPath_L0_fs x, unH blob_IsPath_L0_bs y⟩ k = blob_IsPath_L0_F N x y k := fun x _ k hk =>
  iter_link (S := (Int) × Unit) (blob_IsPath_h 0) _ (execL (blob_IsPath_LP N) (blob_IsPath_E N) (cAt (bodyOf Tryz.f56) [true, true, false, true, false, false]) 0) (resD (blob_IsPath_E N) Tryz.f56 (blob_IsPath_sg fun x _ => blob_IsPath N x.1) blob_IsPath_pk) (fun st k hk => execL_eq _ _ N _ (cAt (bodyOf Tryz.f56) [true, true, false, true, false, false]) 0 (show LoopsOk (blob_IsPath_LP N) (blob_IsPath_E N) N (resD (blob_IsPath_E N) Tryz.f56 (blob_IsPath_sg fun x _ => blob_IsPath N x.1) blob_IsPath_pk) [] from trivial) st k hk) (fun s => blob_IsPath_L0_hd x.1 x.2.1 s.1) k hk
    (fun self s => blob_IsPath_L0T N x.1 x.2.1 (k (.exit 0) (blob_IsPath_L0_tl0 x.1 x.2.1)) (fun s16 => self (s16, ())) s.1) (fun n s => blob_IsPath_L0 N x.1 x.2.1 (k (.exit 0) (blob_IsPath_L0_tl0 x.1 x.2.1)) n s.1) (fun _ => rfl) (fun _ _ => rfl)
    (fun I s => blob_IsPath_L0_step N x.1 x.2.1 (fun j => k (.exit j)) I s.1) N (x.2.2.1, ())
theorem blob_IsPath_lp0 (N : Nat) : ∀ st k, (∀ st, k .ret st = (resD (blob_IsPath_E N) Tryz.f56 (blob_IsPath_sg fun x _ => blob_IsPath N x.1) blob_IsPath_pk) st) → blob_IsPath_LP N 0 (cAt (bodyOf Tryz.f56) [true, true, false, true, false, false]) st k = iter (Env.hint (blob_IsPath_E N) 0) (exec (blob_IsPath_E N) N (cAt (bodyOf Tryz.f56) [true, true, false, true, false, false]) 0) N st k := fun st k hk => LPc_eq 24 blob_IsPath_L0_fs blob_IsPath_L0_bs _ _ (resD (blob_IsPath_E N) Tryz.f56 (blob_IsPath_sg fun x _ => blob_IsPath N x.1) blob_IsPath_pk) (blob_IsPath_L0_ok N) _ st k hk (rfl)
theorem blob_IsPath_core (N : Nat) (x : SV [.v .str]) (y : BV []) : runL (blob_IsPath_E N) Tryz.f56 (blob_IsPath_sg fun x _ => blob_IsPath N x.1) blob_IsPath_pk (blob_IsPath_LP N) x y = blob_IsPath N x.1 := by kernel_rfl
theorem blob_IsPath_sound (N : Nat) : Sound Tryz.prog GW B0G 56 (blob_IsPath_sg fun x _ => blob_IsPath N x.1) :=
  runD_sound (mkE_ok blob_IsPath_h (blob_IsPath_fn N) _ _ (blob_IsPath_fn_ok N)) Tryz.func56 rfl Tryz.call56 (blob_IsPath_sg fun x _ => blob_IsPath N x.1) blob_IsPath_pk (fun _ _ => rfl) N (fun x y _ h => ((runL_eq (blob_IsPath_E N) N Tryz.f56 (blob_IsPath_sg fun x _ => blob_IsPath N x.1) blob_IsPath_pk (blob_IsPath_LP N) (show LoopsOk (blob_IsPath_LP N) (blob_IsPath_E N) N (resD (blob_IsPath_E N) Tryz.f56 (blob_IsPath_sg fun x _ => blob_IsPath N x.1) blob_IsPath_pk) [(0, (cAt (bodyOf Tryz.f56) [true, true, false, true, false, false]))] from ⟨blob_IsPath_lp0 N, trivial⟩) x y).trans (blob_IsPath_core N x y)).trans h)
def stringslite_HasPrefix (_N : Nat) (x0 : Str) (x1 : Str) : Option Bool :=
  br (decide ((x0.length : Int) ≥ (x1.length : Int)))
    (bnd (slc x0 (0 : Int) (x1.length : Int)) fun t14 =>
    some (t14 == x1))
    (some false)
abbrev stringslite_HasPrefix_sg (f : SV [.v .str, .v .str] → BV [] → Option (Bool)) : AF := { ps := [.v .str, .v .str], bs := [], rs := [.v .bool], cs := [], R := Bool, out := fun z => ((z, ()), ()), f := f }
abbrev stringslite_HasPrefix_pk : SV [.v .bool] → BV [] → Bool := fun x _ => x.1
def stringslite_HasPrefix_fn (_N : Nat) : FuncId → Option Tmp → Option AF := fun f _ =>
  match f with
    | _ => none
theorem stringslite_HasPrefix_fn_ok (N : Nat) : ∀ f q F, stringslite_HasPrefix_fn N f q = some F → Sound Tryz.prog GW B0G f F := by
  intro f q F h
  unfold stringslite_HasPrefix_fn at h
  split at h
  · cases h
def stringslite_HasPrefix_h : Nat → Hint := fun i =>
  match i with
  | _ => ⟨[], [], [], [], [], []⟩
abbrev stringslite_HasPrefix_E (N : Nat) : Env := mkE stringslite_HasPrefix_h (stringslite_HasPrefix_fn N) (fun _ => false) (fun _ => false)
noncomputable def stringslite_HasPrefix_LP (N : Nat) : Nat → Code → St → (Ex → St → Option Bool) → Option Bool := fun i c =>
  match i with
  | i => fun st k => iter (stringslite_HasPrefix_h i) (exec (stringslite_HasPrefix_E N) N c i) N st k
theorem stringslite_HasPrefix_core (N : Nat) (x : SV [.v .str, .v .str]) (y : BV []) : runL (stringslite_HasPrefix_E N) Tryz.f138 (stringslite_HasPrefix_sg fun x _ => stringslite_HasPrefix N x.1 x.2.1) stringslite_HasPrefix_pk (stringslite_HasPrefix_LP N) x y = stringslite_HasPrefix N x.1 x.2.1 := by kernel_rfl
theorem stringslite_HasPrefix_sound (N : Nat) : Sound Tryz.prog GW B0G 138 (stringslite_HasPrefix_sg fun x _ => stringslite_HasPrefix N x.1 x.2.1) :=
  runD_sound (mkE_ok stringslite_HasPrefix_h (stringslite_HasPrefix_fn N) _ _ (stringslite_HasPrefix_fn_ok N)) Tryz.func138 rfl Tryz.call138 (stringslite_HasPrefix_sg fun x _ => stringslite_HasPrefix N x.1 x.2.1) stringslite_HasPrefix_pk (fun _ _ => rfl) N (fun x y _ h => ((runL_eq (stringslite_HasPrefix_E N) N Tryz.f138 (stringslite_HasPrefix_sg fun x _ => stringslite_HasPrefix N x.1 x.2.1) stringslite_HasPrefix_pk (stringslite_HasPrefix_LP N) (show LoopsOk (stringslite_HasPrefix_LP N) (stringslite_HasPrefix_E N) N (resD (stringslite_HasPrefix_E N) Tryz.f138 (stringslite_HasPrefix_sg fun x _ => stringslite_HasPrefix N x.1 x.2.1) stringslite_HasPrefix_pk) [] from trivial) x y).trans (stringslite_HasPrefix_core N x y)).trans h)
def stringslite_CutPrefix (N : Nat) (x0 : Str) (x1 : Str) : Option (Str × Bool) :=
  bnd (stringslite_HasPrefix N x0 x1) fun t8 =>
  br (!t8)
    (some (x0, false))
    (bnd (slc x0 (x1.length : Int) (x0.length : Int)) fun t14 =>
    some (t14, true))
abbrev stringslite_CutPrefix_sg (f : SV [.v .str, .v .str] → BV [] → Option (Str × Bool)) : AF := { ps := [.v .str, .v .str], bs := [], rs := [.v .str, .v .bool], cs := [], R := Str × Bool, out := fun z => ((z.1, z.2, ()), ()), f := f }
abbrev stringslite_CutPrefix_pk : SV [.v .str, .v .bool] → BV [] → (Str × Bool) := fun x _ => (x.1, x.2.1)
def stringslite_CutPrefix_fn (N : Nat) : FuncId → Option Tmp → Option AF := fun f _ =>
  match f with
    | 138 => some (stringslite_HasPrefix_sg fun x _ => stringslite_HasPrefix N x.1 x.2.1)
    | _ => none
theorem stringslite_CutPrefix_fn_ok (N : Nat) : ∀ f q F, stringslite_CutPrefix_fn N f q = some F → Sound Tryz.prog GW B0G f F := by
  intro f q F h
  unfold stringslite_CutPrefix_fn at h
  split at h
  · cases h; exact stringslite_HasPrefix_sound N
  · cases h
def stringslite_CutPrefix_h : Nat → Hint := fun i =>
  match i with
  | _ => ⟨[], [], [], [], [], []⟩
abbrev stringslite_CutPrefix_E (N : Nat) : Env := mkE stringslite_CutPrefix_h (stringslite_CutPrefix_fn N) (fun _ => false) (fun _ => false)
noncomputable def stringslite_CutPrefix_LP (N : Nat) : Nat → Code → St → (Ex → St → Option (Str × Bool)) → Option (Str × Bool) := fun i c =>
  match i with
  | i => fun st k => iter (stringslite_CutPrefix_h i) (exec (stringslite_CutPrefix_E N) N c i) N st k
theorem stringslite_CutPrefix_core (N : Nat) (x : SV [.v .str, .v .str]) (y : BV []) : runL (stringslite_CutPrefix_E N) Tryz.f105 (stringslite_CutPrefix_sg fun x _ => stringslite_CutPrefix N x.1 x.2.1) stringslite_CutPrefix_pk (stringslite_CutPrefix_LP N) x y = stringslite_CutPrefix N x.1 x.2.1 := by kernel_rfl
theorem stringslite_CutPrefix_sound (N : Nat) : Sound Tryz.prog GW B0G 105 (stringslite_CutPrefix_sg fun x _ => stringslite_CutPrefix N x.1 x.2.1) :=
  runD_sound (mkE_ok stringslite_CutPrefix_h (stringslite_CutPrefix_fn N) _ _ (stringslite_CutPrefix_fn_ok N)) Tryz.func105 rfl Tryz.call105 (stringslite_CutPrefix_sg fun x _ => stringslite_CutPrefix N x.1 x.2.1) stringslite_CutPrefix_pk (fun _ _ => rfl) N (fun x y _ h => ((runL_eq (stringslite_CutPrefix_E N) N Tryz.f105 (stringslite_CutPrefix_sg fun x _ => stringslite_CutPrefix N x.1 x.2.1) stringslite_CutPrefix_pk (stringslite_CutPrefix_LP N) (show LoopsOk (stringslite_CutPrefix_LP N) (stringslite_CutPrefix_E N) N (resD (stringslite_CutPrefix_E N) Tryz.f105 (stringslite_CutPrefix_sg fun x _ => stringslite_CutPrefix N x.1 x.2.1) stringslite_CutPrefix_pk) [] from trivial) x y).trans (stringslite_CutPrefix_core N x y)).trans h)
def strings_CutPrefix (N : Nat) (x0 : Str) (x1 : Str) : Option (Str × Bool) :=
  bnd (stringslite_CutPrefix N x0 x1) fun t8 =>
  some t8
abbrev strings_CutPrefix_sg (f : SV [.v .str, .v .str] → BV [] → Option (Str × Bool)) : AF := { ps := [.v .str, .v .str], bs := [], rs := [.v .str, .v .bool], cs := [], R := Str × Bool, out := fun z => ((z.1, z.2, ()), ()), f := f }
abbrev strings_CutPrefix_pk : SV [.v .str, .v .bool] → BV [] → (Str × Bool) := fun x _ => (x.1, x.2.1)
def strings_CutPrefix_fn (N : Nat) : FuncId → Option Tmp → Option AF := fun f _ =>
  match f with
    | 105 => some (stringslite_CutPrefix_sg fun x _ => stringslite_CutPrefix N x.1 x.2.1)
    | _ => none
theorem strings_CutPrefix_fn_ok (N : Nat) : ∀ f q F, strings_CutPrefix_fn N f q = some F → Sound Tryz.prog GW B0G f F := by
  intro f q F h
  unfold strings_CutPrefix_fn at h
  split at h
  · cases h; exact stringslite_CutPrefix_sound N
  · cases h
def strings_CutPrefix_h : Nat → Hint := fun i =>
  match i with
  | _ => ⟨[], [], [], [], [], []⟩
abbrev strings_CutPrefix_E (N : Nat) : Env := mkE strings_CutPrefix_h (strings_CutPrefix_fn N) (fun _ => false) (fun _ => false)
noncomputable def strings_CutPrefix_LP (N : Nat) : Nat → Code → St → (Ex → St → Option (Str × Bool)) → Option (Str × Bool) := fun i c =>
  match i with
  | i => fun st k => iter (strings_CutPrefix_h i) (exec (strings_CutPrefix_E N) N c i) N st k
theorem strings_CutPrefix_core (N : Nat) (x : SV [.v .str, .v .str]) (y : BV []) : runL (strings_CutPrefix_E N) Tryz.f58 (strings_CutPrefix_sg fun x _ => strings_CutPrefix N x.1 x.2.1) strings_CutPrefix_pk (strings_CutPrefix_LP N) x y = strings_CutPrefix N x.1 x.2.1 := by kernel_rfl
theorem strings_CutPrefix_sound (N : Nat) : Sound Tryz.prog GW B0G 58 (strings_CutPrefix_sg fun x _ => strings_CutPrefix N x.1 x.2.1) :=
  runD_sound (mkE_ok strings_CutPrefix_h (strings_CutPrefix_fn N) _ _ (strings_CutPrefix_fn_ok N)) Tryz.func58 rfl Tryz.call58 (strings_CutPrefix_sg fun x _ => strings_CutPrefix N x.1 x.2.1) strings_CutPrefix_pk (fun _ _ => rfl) N (fun x y _ h => ((runL_eq (strings_CutPrefix_E N) N Tryz.f58 (strings_CutPrefix_sg fun x _ => strings_CutPrefix N x.1 x.2.1) strings_CutPrefix_pk (strings_CutPrefix_LP N) (show LoopsOk (strings_CutPrefix_LP N) (strings_CutPrefix_E N) N (resD (strings_CutPrefix_E N) Tryz.f58 (strings_CutPrefix_sg fun x _ => strings_CutPrefix N x.1 x.2.1) strings_CutPrefix_pk) [] from trivial) x y).trans (strings_CutPrefix_core N x y)).trans h)
def bytealg_LastIndexByteString_L0T (_N : Nat) (x0 : Str) (x1 : UInt8) (k0 : Option Int) (self : Int → Option Int) (s5 : Int) : Option Int :=
  br (decide (s5 ≥ (0 : Int)))
    (bnd (geti x0 s5) fun t15 =>
    br (t15 == x1)
      (some s5)
      (self (IntKind.i64.wrap (s5 - (1 : Int)))))
    (k0)
def bytealg_LastIndexByteString_L0 (N : Nat) (x0 : Str) (x1 : UInt8) (k0 : Option Int) : Nat → Int → Option Int
  | 0, _ => none
  | n + 1, s5 => bytealg_LastIndexByteString_L0T N x0 x1 k0 (bytealg_LastIndexByteString_L0 N x0 x1 k0 n) s5
def bytealg_LastIndexByteString (N : Nat) (x0 : Str) (x1 : UInt8) : Option Int :=
  bytealg_LastIndexByteString_L0 N x0 x1 (some (-1 : Int)) N (IntKind.i64.wrap ((x0.length : Int) - (1 : Int)))
abbrev bytealg_LastIndexByteString_sg (f : SV [.v .str, .v .u8] → BV [] → Option (Int)) : AF := { ps := [.v .str, .v .u8], bs := [], rs := [.v (.int .i64)], cs := [], R := Int, out := fun z => ((z, ()), ()), f := f }
abbrev bytealg_LastIndexByteString_pk : SV [.v (.int .i64)] → BV [] → Int := fun x _ => x.1
def bytealg_LastIndexByteString_fn (_N : Nat) : FuncId → Option Tmp → Option AF := fun f _ =>
  match f with
    | _ => none
theorem bytealg_LastIndexByteString_fn_ok (N : Nat) : ∀ f q F, bytealg_LastIndexByteString_fn N f q = some F → Sound Tryz.prog GW B0G f F := by
  intro f q F h
  unfold bytealg_LastIndexByteString_fn at h
  split at h
  · cases h
def bytealg_LastIndexByteString_h : Nat → Hint := fun i =>
  match i with
  | 0 => ⟨[], [0, 1, 5], [], [], [], []⟩
  | _ => ⟨[], [], [], [], [], []⟩
abbrev bytealg_LastIndexByteString_E (N : Nat) : Env := mkE bytealg_LastIndexByteString_h (bytealg_LastIndexByteString_fn N) (fun _ => false) (fun _ => false)
abbrev bytealg_LastIndexByteString_L0_fs : List (Nat × Sl) := [(0, .v .str), (1, .v .u8), (5, .v (.int .i64))]
abbrev bytealg_LastIndexByteString_L0_bs : List (Nat × Sb) := []
def bytealg_LastIndexByteString_L0_hd (x0 : Str) (x1 : UInt8) (s5 : Int) : St := ⟨19, [(0, .v .str x0), (1, .v .u8 x1), (5, .v (.int .i64) s5)], []⟩
def bytealg_LastIndexByteString_L0_tl0 (_x0 : Str) (_x1 : UInt8) : St := ⟨19, [], []⟩
def bytealg_LastIndexByteString_L0_G (N : Nat) (x0 : Str) (x1 : UInt8) (s5 : Int) (k : Ex → St → Option Int) : Option Int :=
  bytealg_LastIndexByteString_L0 N x0 x1 (k (.exit 0) (bytealg_LastIndexByteString_L0_tl0 x0 x1)) N s5
abbrev bytealg_LastIndexByteString_L0_F (N : Nat) : FV bytealg_LastIndexByteString_L0_fs → HV bytealg_LastIndexByteString_L0_bs → (Ex → St → Option Int) → Option Int := fun x _ k => bytealg_LastIndexByteString_L0_G N x.1 x.2.1 x.2.2.1 k
noncomputable def bytealg_LastIndexByteString_LP (N : Nat) : Nat → Code → St → (Ex → St → Option Int) → Option Int := fun i c =>
  match i with
  | 0 => (LPc 19 bytealg_LastIndexByteString_L0_fs bytealg_LastIndexByteString_L0_bs (bytealg_LastIndexByteString_L0_F N) (fun st k => iter (bytealg_LastIndexByteString_h 0) (exec (bytealg_LastIndexByteString_E N) N c 0) N st k))
  | i => fun st k => iter (bytealg_LastIndexByteString_h i) (exec (bytealg_LastIndexByteString_E N) N c i) N st k
theorem bytealg_LastIndexByteString_L0_step (N : Nat) (x0 : Str) (x1 : UInt8) (KX : Nat → St → Option Int) (I : St → Option Int) (s5 : Int) :
    execL (bytealg_LastIndexByteString_LP N) (bytealg_LastIndexByteString_E N) (cAt (bodyOf Tryz.f140) [true, false, true, false, false]) 0 (bytealg_LastIndexByteString_L0_hd x0 x1 s5) (roundK (bytealg_LastIndexByteString_h 0) I KX (resD (bytealg_LastIndexByteString_E N) Tryz.f140 (bytealg_LastIndexByteString_sg fun x _ => bytealg_LastIndexByteString N x.1 x.2.1) bytealg_LastIndexByteString_pk)) = bytealg_LastIndexByteString_L0T N x0 x1 (KX 0 (bytealg_LastIndexByteString_L0_tl0 x0 x1)) (fun s5 => I (bytealg_LastIndexByteString_L0_hd x0 x1 s5)) s5 := by kernel_rfl
theorem bytealg_LastIndexByteString_L0_ok (N : Nat) : ∀ x y k, (∀ st, k .ret st = (resD (bytealg_LastIndexByteString_E N) Tryz.f140 (bytealg_LastIndexByteString_sg fun x _ => bytealg_LastIndexByteString N x.1 x.2.1) bytealg_LastIndexByteString_pk) st) → iter (bytealg_LastIndexByteString_h 0) (exec (bytealg_LastIndexByteString_E N) N (cAt (bodyOf Tryz.f140) [true, false, true, false, false]) 0) N ⟨19, unF bytealg_LastIndexByteString_L0_fs x, unH bytealg_LastIndexByteString_L0_bs y⟩ k = bytealg_LastIndexByteString_L0_F N x y k := fun x _ k hk =>
  iter_link (S := (Int) × Unit) (bytealg_LastIndexByteString_h 0) _ (execL (bytealg_LastIndexByteString_LP N) (bytealg_LastIndexByteString_E N) (cAt (bodyOf Tryz.f140) [true, false, true, false, false]) 0) (resD (bytealg_LastIndexByteString_E N) Tryz.f140 (bytealg_LastIndexByteString_sg fun x _ => bytealg_LastIndexByteString N x.1 x.2.1) bytealg_LastIndexByteString_pk) (fun st k hk => execL_eq _ _ N _ (cAt (bodyOf Tryz.f140) [true, false, true, false, false]) 0 (show LoopsOk (bytealg_LastIndexByteString_LP N) (bytealg_LastIndexByteString_E N) N (resD (bytealg_LastIndexByteString_E N) Tryz.f140 (bytealg_LastIndexByteString_sg fun x _ => bytealg_LastIndexByteString N x.1 x.2.1) bytealg_LastIndexByteString_pk) [] from trivial) st k hk) (fun s => bytealg_LastIndexByteString_L0_hd x.1 x.2.1 s.1) k hk
    (fun self s => bytealg_LastIndexByteString_L0T N x.1 x.2.1 (k (.exit 0) (bytealg_LastIndexByteString_L0_tl0 x.1 x.2.1)) (fun s5 => self (s5, ())) s.1) (fun n s => bytealg_LastIndexByteString_L0 N x.1 x.2.1 (k (.exit 0) (bytealg_LastIndexByteString_L0_tl0 x.1 x.2.1)) n s.1) (fun _ => rfl) (fun _ _ => rfl)
    (fun I s => bytealg_LastIndexByteString_L0_step N x.1 x.2.1 (fun j => k (.exit j)) I s.1) N (x.2.2.1, ())
theorem bytealg_LastIndexByteString_lp0 (N : Nat) : ∀ st k, (∀ st, k .ret st = (resD (bytealg_LastIndexByteString_E N) Tryz.f140 (bytealg_LastIndexByteString_sg fun x _ => bytealg_LastIndexByteString N x.1 x.2.1) bytealg_LastIndexByteString_pk) st) → bytealg_LastIndexByteString_LP N 0 (cAt (bodyOf Tryz.f140) [true, false, true, false, false]) st k = iter (Env.hint (bytealg_LastIndexByteString_E N) 0) (exec (bytealg_LastIndexByteString_E N) N (cAt (bodyOf Tryz.f140) [true, false, true, false, false]) 0) N st k := fun st k hk => LPc_eq 19 bytealg_LastIndexByteString_L0_fs bytealg_LastIndexByteString_L0_bs _ _ (resD (bytealg_LastIndexByteString_E N) Tryz.f140 (bytealg_LastIndexByteString_sg fun x _ => bytealg_LastIndexByteString N x.1 x.2.1) bytealg_LastIndexByteString_pk) (bytealg_LastIndexByteString_L0_ok N) _ st k hk (rfl)
theorem bytealg_LastIndexByteString_core (N : Nat) (x : SV [.v .str, .v .u8]) (y : BV []) : runL (bytealg_LastIndexByteString_E N) Tryz.f140 (bytealg_LastIndexByteString_sg fun x _ => bytealg_LastIndexByteString N x.1 x.2.1) bytealg_LastIndexByteString_pk (bytealg_LastIndexByteString_LP N) x y = bytealg_LastIndexByteString N x.1 x.2.1 := by kernel_rfl
theorem bytealg_LastIndexByteString_sound (N : Nat) : Sound Tryz.prog GW B0G 140 (bytealg_LastIndexByteString_sg fun x _ => bytealg_LastIndexByteString N x.1 x.2.1) :=
  runD_sound (mkE_ok bytealg_LastIndexByteString_h (bytealg_LastIndexByteString_fn N) _ _ (bytealg_LastIndexByteString_fn_ok N)) Tryz.func140 rfl Tryz.call140 (bytealg_LastIndexByteString_sg fun x _ => bytealg_LastIndexByteString N x.1 x.2.1) bytealg_LastIndexByteString_pk (fun _ _ => rfl) N (fun x y _ h => ((runL_eq (bytealg_LastIndexByteString_E N) N Tryz.f140 (bytealg_LastIndexByteString_sg fun x _ => bytealg_LastIndexByteString N x.1 x.2.1) bytealg_LastIndexByteString_pk (bytealg_LastIndexByteString_LP N) (show LoopsOk (bytealg_LastIndexByteString_LP N) (bytealg_LastIndexByteString_E N) N (resD (bytealg_LastIndexByteString_E N) Tryz.f140 (bytealg_LastIndexByteString_sg fun x _ => bytealg_LastIndexByteString N x.1 x.2.1) bytealg_LastIndexByteString_pk) [(0, (cAt (bodyOf Tryz.f140) [true, false, true, false, false]))] from ⟨bytealg_LastIndexByteString_lp0 N, trivial⟩) x y).trans (bytealg_LastIndexByteString_core N x y)).trans h)
def strings_LastIndexByte (N : Nat) (x0 : Str) (x1 : UInt8) : Option Int :=
  bnd (bytealg_LastIndexByteString N x0 x1) fun t7 =>
  some t7
abbrev strings_LastIndexByte_sg (f : SV [.v .str, .v .u8] → BV [] → Option (Int)) : AF := { ps := [.v .str, .v .u8], bs := [], rs := [.v (.int .i64)], cs := [], R := Int, out := fun z => ((z, ()), ()), f := f }
abbrev strings_LastIndexByte_pk : SV [.v (.int .i64)] → BV [] → Int := fun x _ => x.1
def strings_LastIndexByte_fn (N : Nat) : FuncId → Option Tmp → Option AF := fun f _ =>
  match f with
    | 140 => some (bytealg_LastIndexByteString_sg fun x _ => bytealg_LastIndexByteString N x.1 x.2.1)
    | _ => none
theorem strings_LastIndexByte_fn_ok (N : Nat) : ∀ f q F, strings_LastIndexByte_fn N f q = some F → Sound Tryz.prog GW B0G f F := by
  intro f q F h
  unfold strings_LastIndexByte_fn at h
  split at h
  · cases h; exact bytealg_LastIndexByteString_sound N
  · cases h
def strings_LastIndexByte_h : Nat → Hint := fun i =>
  match i with
  | _ => ⟨[], [], [], [], [], []⟩
abbrev strings_LastIndexByte_E (N : Nat) : Env := mkE strings_LastIndexByte_h (strings_LastIndexByte_fn N) (fun _ => false) (fun _ => false)
noncomputable def strings_LastIndexByte_LP (N : Nat) : Nat → Code → St → (Ex → St → Option Int) → Option Int := fun i c =>
  match i with
  | i => fun st k => iter (strings_LastIndexByte_h i) (exec (strings_LastIndexByte_E N) N c i) N st k
theorem strings_LastIndexByte_core (N : Nat) (x : SV [.v .str, .v .u8]) (y : BV []) : runL (strings_LastIndexByte_E N) Tryz.f107 (strings_LastIndexByte_sg fun x _ => strings_LastIndexByte N x.1 x.2.1) strings_LastIndexByte_pk (strings_LastIndexByte_LP N) x y = strings_LastIndexByte N x.1 x.2.1 := by kernel_rfl
theorem strings_LastIndexByte_sound (N : Nat) : Sound Tryz.prog GW B0G 107 (strings_LastIndexByte_sg fun x _ => strings_LastIndexByte N x.1 x.2.1) :=
  runD_sound (mkE_ok strings_LastIndexByte_h (strings_LastIndexByte_fn N) _ _ (strings_LastIndexByte_fn_ok N)) Tryz.func107 rfl Tryz.call107 (strings_LastIndexByte_sg fun x _ => strings_LastIndexByte N x.1 x.2.1) strings_LastIndexByte_pk (fun _ _ => rfl) N (fun x y _ h => ((runL_eq (strings_LastIndexByte_E N) N Tryz.f107 (strings_LastIndexByte_sg fun x _ => strings_LastIndexByte N x.1 x.2.1) strings_LastIndexByte_pk (strings_LastIndexByte_LP N) (show LoopsOk (strings_LastIndexByte_LP N) (strings_LastIndexByte_E N) N (resD (strings_LastIndexByte_E N) Tryz.f107 (strings_LastIndexByte_sg fun x _ => strings_LastIndexByte N x.1 x.2.1) strings_LastIndexByte_pk) [] from trivial) x y).trans (strings_LastIndexByte_core N x y)).trans h)
def script_last (N : Nat) (x0 : Str) : Option Str :=
  bnd (strings_LastIndexByte N x0 (47 : UInt8)) fun t5 =>
  bnd (slc x0 (IntKind.i64.wrap (t5 + (1 : Int))) (x0.length : Int)) fun t7 =>
  some t7
abbrev script_last_sg (f : SV [.v .str] → BV [] → Option (Str)) : AF := { ps := [.v .str], bs := [], rs := [.v .str], cs := [], R := Str, out := fun z => ((z, ()), ()), f := f }
abbrev script_last_pk : SV [.v .str] → BV [] → Str := fun x _ => x.1
def script_last_fn (N : Nat) : FuncId → Option Tmp → Option AF := fun f _ =>
  match f with
    | 107 => some (strings_LastIndexByte_sg fun x _ => strings_LastIndexByte N x.1 x.2.1)
    | _ => none
theorem script_last_fn_ok (N : Nat) : ∀ f q F, script_last_fn N f q = some F → Sound Tryz.prog GW B0G f F := by
  intro f q F h
  unfold script_last_fn at h
  split at h
  · cases h; exact strings_LastIndexByte_sound N
  · cases h
def script_last_h : Nat → Hint := fun i =>
  match i with
  | _ => ⟨[], [], [], [], [], []⟩
abbrev script_last_E (N : Nat) : Env := mkE script_last_h (script_last_fn N) (fun _ => false) (fun _ => false)
noncomputable def script_last_LP (N : Nat) : Nat → Code → St → (Ex → St → Option Str) → Option Str := fun i c =>
  match i with
  | i => fun st k => iter (script_last_h i) (exec (script_last_E N) N c i) N st k
theorem script_last_core (N : Nat) (x : SV [.v .str]) (y : BV []) : runL (script_last_E N) Tryz.f60 (script_last_sg fun x _ => script_last N x.1) script_last_pk (script_last_LP N) x y = script_last N x.1 := by kernel_rfl
theorem script_last_sound (N : Nat) : Sound Tryz.prog GW B0G 60 (script_last_sg fun x _ => script_last N x.1) :=
  runD_sound (mkE_ok script_last_h (script_last_fn N) _ _ (script_last_fn_ok N)) Tryz.func60 rfl Tryz.call60 (script_last_sg fun x _ => script_last N x.1) script_last_pk (fun _ _ => rfl) N (fun x y _ h => ((runL_eq (script_last_E N) N Tryz.f60 (script_last_sg fun x _ => script_last N x.1) script_last_pk (script_last_LP N) (show LoopsOk (script_last_LP N) (script_last_E N) N (resD (script_last_E N) Tryz.f60 (script_last_sg fun x _ => script_last N x.1) script_last_pk) [] from trivial) x y).trans (script_last_core N x y)).trans h)
def script_CheckLabel (N : Nat) (x0 : Str × Str) : Option Int :=
  br (!(x0.1 == ([] : Str)))
    (bnd (blob_IsPath N x0.1) fun t9 =>
    br (!t9)
      (some (3 : Int))
      (bnd (blob_IsPath N x0.2) fun t15 =>
      br (!t15)
        (some (3 : Int))
        (some (0 : Int))))
    (bnd (blob_IsPath N x0.2) fun t15_1 =>
    br (!t15_1)
      (some (3 : Int))
      (some (0 : Int)))
abbrev script_CheckLabel_sg (f : SV [.v (.pr .str .str)] → BV [] → Option (Int)) : AF := { ps := [.v (.pr .str .str)], bs := [], rs := [.v (.int .i64)], cs := [], R := Int, out := fun z => ((z, ()), ()), f := f }
abbrev script_CheckLabel_pk : SV [.v (.int .i64)] → BV [] → Int := fun x _ => x.1
def script_CheckLabel_fn (N : Nat) : FuncId → Option Tmp → Option AF := fun f _ =>
  match f with
    | 56 => some (blob_IsPath_sg fun x _ => blob_IsPath N x.1)
    | _ => none
theorem script_CheckLabel_fn_ok (N : Nat) : ∀ f q F, script_CheckLabel_fn N f q = some F → Sound Tryz.prog GW B0G f F := by
  intro f q F h
  unfold script_CheckLabel_fn at h
  split at h
  · cases h; exact blob_IsPath_sound N
  · cases h
def script_CheckLabel_h : Nat → Hint := fun i =>
  match i with
  | _ => ⟨[], [], [], [], [], []⟩
abbrev script_CheckLabel_E (N : Nat) : Env := mkE script_CheckLabel_h (script_CheckLabel_fn N) (fun _ => false) (fun _ => false)
noncomputable def script_CheckLabel_LP (N : Nat) : Nat → Code → St → (Ex → St → Option Int) → Option Int := fun i c =>
  match i with
  | i => fun st k => iter (script_CheckLabel_h i) (exec (script_CheckLabel_E N) N c i) N st k
theorem script_CheckLabel_core (N : Nat) (x : SV [.v (.pr .str .str)]) (y : BV []) : runL (script_CheckLabel_E N) Tryz.f24 (script_CheckLabel_sg fun x _ => script_CheckLabel N x.1) script_CheckLabel_pk (script_CheckLabel_LP N) x y = script_CheckLabel N x.1 := by kernel_rfl
theorem script_CheckLabel_sound (N : Nat) : Sound Tryz.prog GW B0G 24 (script_CheckLabel_sg fun x _ => script_CheckLabel N x.1) :=
  runD_sound (mkE_ok script_CheckLabel_h (script_CheckLabel_fn N) _ _ (script_CheckLabel_fn_ok N)) Tryz.func24 rfl Tryz.call24 (script_CheckLabel_sg fun x _ => script_CheckLabel N x.1) script_CheckLabel_pk (fun _ _ => rfl) N (fun x y _ h => ((runL_eq (script_CheckLabel_E N) N Tryz.f24 (script_CheckLabel_sg fun x _ => script_CheckLabel N x.1) script_CheckLabel_pk (script_CheckLabel_LP N) (show LoopsOk (script_CheckLabel_LP N) (script_CheckLabel_E N) N (resD (script_CheckLabel_E N) Tryz.f24 (script_CheckLabel_sg fun x _ => script_CheckLabel N x.1) script_CheckLabel_pk) [] from trivial) x y).trans (script_CheckLabel_core N x y)).trans h)
def script_ReadLabel (N : Nat) (x0 : Str) (x1 : Str) : Option ((Str × Str) × Int) :=
  br (!(x1 == ([] : Str)))
    (bnd (blob_IsPath N x1) fun t16 =>
    br (!t16)
      (some ((([] : Str), ([] : Str)), (3 : Int)))
      (bnd (strings_CutPrefix N x0 ([47, 47] : Str)) fun t22 =>
      bnd (strings_CutPrefix N x0 ([58] : Str)) fun t27 =>
      br (t22.2)
        (bnd (strings_Cut t22.1 ([58] : Str)) fun t34 =>
        br (!t34.2.2)
          (bnd (script_last N t34.1) fun t44 =>
          bnd (script_CheckLabel N (t34.1, t44)) fun t52 =>
          br (t52 != (0 : Int))
            (some ((([] : Str), ([] : Str)), (10 : Int)))
            (some ((t34.1, t44), (0 : Int))))
          (bnd (script_CheckLabel N (t34.1, t34.2.1)) fun t52_1 =>
          br (t52_1 != (0 : Int))
            (some ((([] : Str), ([] : Str)), (10 : Int)))
            (some ((t34.1, t34.2.1), (0 : Int)))))
        (br (t27.2)
          (bnd (script_CheckLabel N (x1, t27.1)) fun t52_2 =>
          br (t52_2 != (0 : Int))
            (some ((([] : Str), ([] : Str)), (10 : Int)))
            (some ((x1, t27.1), (0 : Int))))
          (bnd (script_CheckLabel N (([] : Str), ([] : Str))) fun t52_3 =>
          br (t52_3 != (0 : Int))
            (some ((([] : Str), ([] : Str)), (10 : Int)))
            (some ((([] : Str), ([] : Str)), (0 : Int)))))))
    (bnd (strings_CutPrefix N x0 ([47, 47] : Str)) fun t22_4 =>
    bnd (strings_CutPrefix N x0 ([58] : Str)) fun t27_5 =>
    br (t22_4.2)
      (bnd (strings_Cut t22_4.1 ([58] : Str)) fun t34_6 =>
      br (!t34_6.2.2)
        (bnd (script_last N t34_6.1) fun t44_7 =>
        bnd (script_CheckLabel N (t34_6.1, t44_7)) fun t52_8 =>
        br (t52_8 != (0 : Int))
          (some ((([] : Str), ([] : Str)), (10 : Int)))
          (some ((t34_6.1, t44_7), (0 : Int))))
        (bnd (script_CheckLabel N (t34_6.1, t34_6.2.1)) fun t52_9 =>
        br (t52_9 != (0 : Int))
          (some ((([] : Str), ([] : Str)), (10 : Int)))
          (some ((t34_6.1, t34_6.2.1), (0 : Int)))))
      (br (t27_5.2)
        (bnd (script_CheckLabel N (x1, t27_5.1)) fun t52_10 =>
        br (t52_10 != (0 : Int))
          (some ((([] : Str), ([] : Str)), (10 : Int)))
          (some ((x1, t27_5.1), (0 : Int))))
        (bnd (script_CheckLabel N (([] : Str), ([] : Str))) fun t52_11 =>
        br (t52_11 != (0 : Int))
          (some ((([] : Str), ([] : Str)), (10 : Int)))
          (some ((([] : Str), ([] : Str)), (0 : Int))))))
abbrev script_ReadLabel_sg (f : SV [.v .str, .v .str] → BV [] → Option ((Str × Str) × Int)) : AF := { ps := [.v .str, .v .str], bs := [], rs := [.v (.pr .str .str), .v (.int .i64)], cs := [], R := (Str × Str) × Int, out := fun z => ((z.1, z.2, ()), ()), f := f }
abbrev script_ReadLabel_pk : SV [.v (.pr .str .str), .v (.int .i64)] → BV [] → ((Str × Str) × Int) := fun x _ => (x.1, x.2.1)
def script_ReadLabel_fn (N : Nat) : FuncId → Option Tmp → Option AF := fun f _ =>
  match f with
    | 24 => some (script_CheckLabel_sg fun x _ => script_CheckLabel N x.1)
    | 56 => some (blob_IsPath_sg fun x _ => blob_IsPath N x.1)
    | 58 => some (strings_CutPrefix_sg fun x _ => strings_CutPrefix N x.1 x.2.1)
    | 59 => some (strings_Cut_sg fun x _ => strings_Cut x.1 x.2.1)
    | 60 => some (script_last_sg fun x _ => script_last N x.1)
    | _ => none
theorem script_ReadLabel_fn_ok (N : Nat) : ∀ f q F, script_ReadLabel_fn N f q = some F → Sound Tryz.prog GW B0G f F := by
  intro f q F h
  unfold script_ReadLabel_fn at h
  split at h
  · cases h; exact script_CheckLabel_sound N
  · cases h; exact blob_IsPath_sound N
  · cases h; exact strings_CutPrefix_sound N
  · cases h; exact strings_Cut_sound
  · cases h; exact script_last_sound N
  · cases h
def script_ReadLabel_h : Nat → Hint := fun i =>
  match i with
  | _ => ⟨[], [], [], [], [], []⟩
abbrev script_ReadLabel_E (N : Nat) : Env := mkE script_ReadLabel_h (script_ReadLabel_fn N) (fun _ => false) (fun _ => false)
noncomputable def script_ReadLabel_LP (N : Nat) : Nat → Code → St → (Ex → St → Option ((Str × Str) × Int)) → Option ((Str × Str) × Int) := fun i c =>
  match i with
  | i => fun st k => iter (script_ReadLabel_h i) (exec (script_ReadLabel_E N) N c i) N st k
theorem script_ReadLabel_core (N : Nat) (x : SV [.v .str, .v .str]) (y : BV []) : runL (script_ReadLabel_E N) Tryz.f22 (script_ReadLabel_sg fun x _ => script_ReadLabel N x.1 x.2.1) script_ReadLabel_pk (script_ReadLabel_LP N) x y = script_ReadLabel N x.1 x.2.1 := by kernel_rfl
theorem script_ReadLabel_sound (N : Nat) : Sound Tryz.prog GW B0G 22 (script_ReadLabel_sg fun x _ => script_ReadLabel N x.1 x.2.1) :=
  runD_sound (mkE_ok script_ReadLabel_h (script_ReadLabel_fn N) _ _ (script_ReadLabel_fn_ok N)) Tryz.func22 rfl Tryz.call22 (script_ReadLabel_sg fun x _ => script_ReadLabel N x.1 x.2.1) script_ReadLabel_pk (fun _ _ => rfl) N (fun x y _ h => ((runL_eq (script_ReadLabel_E N) N Tryz.f22 (script_ReadLabel_sg fun x _ => script_ReadLabel N x.1 x.2.1) script_ReadLabel_pk (script_ReadLabel_LP N) (show LoopsOk (script_ReadLabel_LP N) (script_ReadLabel_E N) N (resD (script_ReadLabel_E N) Tryz.f22 (script_ReadLabel_sg fun x _ => script_ReadLabel N x.1 x.2.1) script_ReadLabel_pk) [] from trivial) x y).trans (script_ReadLabel_core N x y)).trans h)
def ref2_isPart_L0T (_N : Nat) (x0 : Str) (c6 : Int) (k0 : Option Bool) (self : Int → Option Bool) (s7 : Int) : Option Bool :=
  br (decide (s7 < c6))
    (bnd (geti x0 s7) fun t12 =>
    br (decide (t12 < (97 : UInt8)))
      (br (decide (t12 < (65 : UInt8)))
        (br (decide (t12 < (48 : UInt8)))
          (bnd (strings_IndexByte ([46, 95, 45, 43] : Str) t12) fun t37 =>
          br (decide (t37 < (0 : Int)))
            (some false)
            (self (IntKind.i64.wrap (s7 + (1 : Int)))))
          (br (decide (t12 > (57 : UInt8)))
            (bnd (strings_IndexByte ([46, 95, 45, 43] : Str) t12) fun t37_1 =>
            br (decide (t37_1 < (0 : Int)))
              (some false)
              (self (IntKind.i64.wrap (s7 + (1 : Int)))))
            (self (IntKind.i64.wrap (s7 + (1 : Int))))))
        (br (decide (t12 > (90 : UInt8)))
          (br (decide (t12 < (48 : UInt8)))
            (bnd (strings_IndexByte ([46, 95, 45, 43] : Str) t12) fun t37_2 =>
            br (decide (t37_2 < (0 : Int)))
              (some false)
              (self (IntKind.i64.wrap (s7 + (1 : Int)))))
            (br (decide (t12 > (57 : UInt8)))
              (bnd (strings_IndexByte ([46, 95, 45, 43] : Str) t12) fun t37_3 =>
              br (decide (t37_3 < (0 : Int)))
                (some false)
                (self (IntKind.i64.wrap (s7 + (1 : Int)))))
              (self (IntKind.i64.wrap (s7 + (1 : Int))))))
          (self (IntKind.i64.wrap (s7 + (1 : Int))))))
      (br (decide (t12 > (122 : UInt8)))
        (br (decide (t12 < (65 : UInt8)))
          (br (decide (t12 < (48 : UInt8)))
            (bnd (strings_IndexByte ([46, 95, 45, 43] : Str) t12) fun t37_4 =>
            br (decide (t37_4 < (0 : Int)))
              (some false)
              (self (IntKind.i64.wrap (s7 + (1 : Int)))))
            (br (decide (t12 > (57 : UInt8)))
              (bnd (strings_IndexByte ([46, 95, 45, 43] : Str) t12) fun t37_5 =>
              br (decide (t37_5 < (0 : Int)))
                (some false)
                (self (IntKind.i64.wrap (s7 + (1 : Int)))))
              (self (IntKind.i64.wrap (s7 + (1 : Int))))))
          (br (decide (t12 > (90 : UInt8)))
            (br (decide (t12 < (48 : UInt8)))
              (bnd (strings_IndexByte ([46, 95, 45, 43] : Str) t12) fun t37_6 =>
              br (decide (t37_6 < (0 : Int)))
                (some false)
                (self (IntKind.i64.wrap (s7 + (1 : Int)))))
              (br (decide (t12 > (57 : UInt8)))
                (bnd (strings_IndexByte ([46, 95, 45, 43] : Str) t12) fun t37_7 =>
                br (decide (t37_7 < (0 : Int)))
                  (some false)
                  (self (IntKind.i64.wrap (s7 + (1 : Int)))))
                (self (IntKind.i64.wrap (s7 + (1 : Int))))))
            (self (IntKind.i64.wrap (s7 + (1 : Int))))))
        (self (IntKind.i64.wrap (s7 + (1 : Int))))))
    (k0)
def ref2_isPart_L0 (N : Nat) (x0 : Str) (c6 : Int) (k0 : Option Bool) : Nat → Int → Option Bool
  | 0, _ => none
  | n + 1, s7 => ref2_isPart_L0T N x0 c6 k0 (ref2_isPart_L0 N x0 c6 k0 n) s7
def ref2_isPart (N : Nat) (x0 : Str) : Option Bool :=
  ref2_isPart_L0 N x0 (x0.length : Int) (br (!(x0 == ([] : Str)))
        (br (!(x0 == ([46] : Str)))
          (some (!(x0 == ([46, 46] : Str))))
          (some false))
        (some false)) N (0 : Int)
def ref2_within (_N : Nat) (x0 : Int) (x1 : Int) (x2 : Int) : Option Bool :=
  br (decide (x1 ≤ x0))
    (some (decide (x0 ≤ x2)))
    (some false)
def ref2_IsPath_L0T (N : Nat) (t6 : List Str) (c7 : Int) (k0 : Option Bool) (self : Int → Option Bool) (s8 : Int) : Option Bool :=
  br (decide (s8 < c7))
    (bnd (geti t6 s8) fun t10 =>
    bnd (ref2_isPart N t10) fun t13 =>
    br (!t13)
      (some false)
      (self (IntKind.i64.wrap (s8 + (1 : Int)))))
    (k0)
def ref2_IsPath_L0 (N : Nat) (t6 : List Str) (c7 : Int) (k0 : Option Bool) : Nat → Int → Option Bool
  | 0, _ => none
  | n + 1, s8 => ref2_IsPath_L0T N t6 c7 k0 (ref2_IsPath_L0 N t6 c7 k0 n) s8
def ref2_IsPath (N : Nat) (x0 : Str) : Option Bool :=
  bnd (strings_Split x0 ([47] : Str)) fun t6 =>
  ref2_IsPath_L0 N t6 (t6.length : Int) (bnd (ref2_within N (x0.length : Int) (1 : Int) (200 : Int)) fun t18 =>
      some t18) N (0 : Int)
def ref2_isPkg (N : Nat) (x0 : Str) : Option Bool :=
  br (x0 == ([] : Str))
    (some true)
    (bnd (ref2_IsPath N x0) fun t7 =>
    some t7)
def ref2_last (N : Nat) (x0 : Str) : Option Str :=
  bnd (strings_LastIndexByte N x0 (47 : UInt8)) fun t5 =>
  bnd (slc x0 (IntKind.i64.wrap (t5 + (1 : Int))) (x0.length : Int)) fun t7 =>
  some t7
def ref2_CheckLabel (N : Nat) (x0 : Str × Str) : Option Int :=
  bnd (ref2_isPkg N x0.1) fun t5 =>
  br (!t5)
    (some (3 : Int))
    (bnd (ref2_IsPath N x0.2) fun t10 =>
    br (!t10)
      (some (3 : Int))
      (some (0 : Int)))
def ref2_ReadLabel (N : Nat) (x0 : Str) (x1 : Str) : Option ((Str × Str) × Int) :=
  bnd (ref2_isPkg N x1) fun t13 =>
  br (!t13)
    (some ((([] : Str), ([] : Str)), (3 : Int)))
    (bnd (strings_Cut x0 ([58] : Str)) fun t20 =>
    bnd (strings_CutPrefix N t20.1 ([47, 47] : Str)) fun t26 =>
    br (t20.2.2)
      (br (t20.1 == ([] : Str))
        (bnd (ref2_CheckLabel N (x1, t20.2.1)) fun t57 =>
        br (t57 != (0 : Int))
          (some ((([] : Str), ([] : Str)), (10 : Int)))
          (some ((x1, t20.2.1), (0 : Int))))
        (br (t20.2.2)
          (br (t26.2)
            (bnd (ref2_CheckLabel N (t26.1, t20.2.1)) fun t57_1 =>
            br (t57_1 != (0 : Int))
              (some ((([] : Str), ([] : Str)), (10 : Int)))
              (some ((t26.1, t20.2.1), (0 : Int))))
            (br (t26.2)
              (br (!(t26.1 == ([] : Str)))
                (bnd (ref2_last N t26.1) fun t54 =>
                bnd (ref2_CheckLabel N (t26.1, t54)) fun t57_2 =>
                br (t57_2 != (0 : Int))
                  (some ((([] : Str), ([] : Str)), (10 : Int)))
                  (some ((t26.1, t54), (0 : Int))))
                (some ((([] : Str), ([] : Str)), (10 : Int))))
              (some ((([] : Str), ([] : Str)), (10 : Int)))))
          (br (t26.2)
            (br (!(t26.1 == ([] : Str)))
              (bnd (ref2_last N t26.1) fun t54_3 =>
              bnd (ref2_CheckLabel N (t26.1, t54_3)) fun t57_4 =>
              br (t57_4 != (0 : Int))
                (some ((([] : Str), ([] : Str)), (10 : Int)))
                (some ((t26.1, t54_3), (0 : Int))))
              (some ((([] : Str), ([] : Str)), (10 : Int))))
            (some ((([] : Str), ([] : Str)), (10 : Int))))))
      (br (t20.2.2)
        (br (t26.2)
          (bnd (ref2_CheckLabel N (t26.1, t20.2.1)) fun t57_5 =>
          br (t57_5 != (0 : Int))
            (some ((([] : Str), ([] : Str)), (10 : Int)))
            (some ((t26.1, t20.2.1), (0 : Int))))
          (br (t26.2)
            (br (!(t26.1 == ([] : Str)))
              (bnd (ref2_last N t26.1) fun t54_6 =>
              bnd (ref2_CheckLabel N (t26.1, t54_6)) fun t57_7 =>
              br (t57_7 != (0 : Int))
                (some ((([] : Str), ([] : Str)), (10 : Int)))
                (some ((t26.1, t54_6), (0 : Int))))
              (some ((([] : Str), ([] : Str)), (10 : Int))))
            (some ((([] : Str), ([] : Str)), (10 : Int)))))
        (br (t26.2)
          (br (!(t26.1 == ([] : Str)))
            (bnd (ref2_last N t26.1) fun t54_8 =>
            bnd (ref2_CheckLabel N (t26.1, t54_8)) fun t57_9 =>
            br (t57_9 != (0 : Int))
              (some ((([] : Str), ([] : Str)), (10 : Int)))
              (some ((t26.1, t54_8), (0 : Int))))
            (some ((([] : Str), ([] : Str)), (10 : Int))))
          (some ((([] : Str), ([] : Str)), (10 : Int))))))
def script_Whole (_N : Nat) (x0 : Str × Str) : Option Str :=
  br (decide (([47, 47] : Str).length + x0.1.length ≤ 9223372036854775807))
    (br (decide ((([47, 47] : Str) ++ x0.1).length + ([58] : Str).length ≤ 9223372036854775807))
      (br (decide (((([47, 47] : Str) ++ x0.1) ++ ([58] : Str)).length + x0.2.length ≤ 9223372036854775807))
        (some (((([47, 47] : Str) ++ x0.1) ++ ([58] : Str)) ++ x0.2))
        none)
      none)
    none
abbrev script_Whole_sg (f : SV [.v (.pr .str .str)] → BV [] → Option (Str)) : AF := { ps := [.v (.pr .str .str)], bs := [], rs := [.v .str], cs := [], R := Str, out := fun z => ((z, ()), ()), f := f }
abbrev script_Whole_pk : SV [.v .str] → BV [] → Str := fun x _ => x.1
def script_Whole_fn (_N : Nat) : FuncId → Option Tmp → Option AF := fun f _ =>
  match f with
    | _ => none
theorem script_Whole_fn_ok (N : Nat) : ∀ f q F, script_Whole_fn N f q = some F → Sound Tryz.prog GW B0G f F := by
  intro f q F h
  unfold script_Whole_fn at h
  split at h
  · cases h
def script_Whole_h : Nat → Hint := fun i =>
  match i with
  | _ => ⟨[], [], [], [], [], []⟩
abbrev script_Whole_E (N : Nat) : Env := mkE script_Whole_h (script_Whole_fn N) (fun _ => false) (fun _ => false)
noncomputable def script_Whole_LP (N : Nat) : Nat → Code → St → (Ex → St → Option Str) → Option Str := fun i c =>
  match i with
  | i => fun st k => iter (script_Whole_h i) (exec (script_Whole_E N) N c i) N st k
theorem script_Whole_core (N : Nat) (x : SV [.v (.pr .str .str)]) (y : BV []) : runL (script_Whole_E N) Tryz.f63 (script_Whole_sg fun x _ => script_Whole N x.1) script_Whole_pk (script_Whole_LP N) x y = script_Whole N x.1 := by kernel_rfl
theorem script_Whole_sound (N : Nat) : Sound Tryz.prog GW B0G 63 (script_Whole_sg fun x _ => script_Whole N x.1) :=
  runD_sound (mkE_ok script_Whole_h (script_Whole_fn N) _ _ (script_Whole_fn_ok N)) Tryz.func63 rfl Tryz.call63 (script_Whole_sg fun x _ => script_Whole N x.1) script_Whole_pk (fun _ _ => rfl) N (fun x y _ h => ((runL_eq (script_Whole_E N) N Tryz.f63 (script_Whole_sg fun x _ => script_Whole N x.1) script_Whole_pk (script_Whole_LP N) (show LoopsOk (script_Whole_LP N) (script_Whole_E N) N (resD (script_Whole_E N) Tryz.f63 (script_Whole_sg fun x _ => script_Whole N x.1) script_Whole_pk) [] from trivial) x y).trans (script_Whole_core N x y)).trans h)
def script_LabelText (N : Nat) (x0 : Str × Str) (x1 : Str) : Option (Str × Int) :=
  bnd (script_CheckLabel N x0) fun t8 =>
  br (t8 != (0 : Int))
    (some (([] : Str), t8))
    (br (!(x1 == ([] : Str)))
      (bnd (blob_IsPath N x1) fun t16 =>
      br (!t16)
        (some (([] : Str), (3 : Int)))
        (br (x0.1 == x1)
          (br (decide (([58] : Str).length + x0.2.length ≤ 9223372036854775807))
            (some (([58] : Str) ++ x0.2, (0 : Int)))
            none)
          (br (!(x0.1 == ([] : Str)))
            (bnd (script_last N x0.1) fun t34 =>
            br (t34 == x0.2)
              (br (decide (([47, 47] : Str).length + x0.1.length ≤ 9223372036854775807))
                (some (([47, 47] : Str) ++ x0.1, (0 : Int)))
                none)
              (bnd (script_Whole N x0) fun t43 =>
              some (t43, (0 : Int))))
            (bnd (script_Whole N x0) fun t43_1 =>
            some (t43_1, (0 : Int))))))
      (br (x0.1 == x1)
        (br (decide (([58] : Str).length + x0.2.length ≤ 9223372036854775807))
          (some (([58] : Str) ++ x0.2, (0 : Int)))
          none)
        (br (!(x0.1 == ([] : Str)))
          (bnd (script_last N x0.1) fun t34_2 =>
          br (t34_2 == x0.2)
            (br (decide (([47, 47] : Str).length + x0.1.length ≤ 9223372036854775807))
              (some (([47, 47] : Str) ++ x0.1, (0 : Int)))
              none)
            (bnd (script_Whole N x0) fun t43_3 =>
            some (t43_3, (0 : Int))))
          (bnd (script_Whole N x0) fun t43_4 =>
          some (t43_4, (0 : Int))))))
abbrev script_LabelText_sg (f : SV [.v (.pr .str .str), .v .str] → BV [] → Option (Str × Int)) : AF := { ps := [.v (.pr .str .str), .v .str], bs := [], rs := [.v .str, .v (.int .i64)], cs := [], R := Str × Int, out := fun z => ((z.1, z.2, ()), ()), f := f }
abbrev script_LabelText_pk : SV [.v .str, .v (.int .i64)] → BV [] → (Str × Int) := fun x _ => (x.1, x.2.1)
def script_LabelText_fn (N : Nat) : FuncId → Option Tmp → Option AF := fun f _ =>
  match f with
    | 24 => some (script_CheckLabel_sg fun x _ => script_CheckLabel N x.1)
    | 56 => some (blob_IsPath_sg fun x _ => blob_IsPath N x.1)
    | 60 => some (script_last_sg fun x _ => script_last N x.1)
    | 63 => some (script_Whole_sg fun x _ => script_Whole N x.1)
    | _ => none
theorem script_LabelText_fn_ok (N : Nat) : ∀ f q F, script_LabelText_fn N f q = some F → Sound Tryz.prog GW B0G f F := by
  intro f q F h
  unfold script_LabelText_fn at h
  split at h
  · cases h; exact script_CheckLabel_sound N
  · cases h; exact blob_IsPath_sound N
  · cases h; exact script_last_sound N
  · cases h; exact script_Whole_sound N
  · cases h
def script_LabelText_h : Nat → Hint := fun i =>
  match i with
  | _ => ⟨[], [], [], [], [], []⟩
abbrev script_LabelText_E (N : Nat) : Env := mkE script_LabelText_h (script_LabelText_fn N) (fun _ => false) (fun _ => false)
noncomputable def script_LabelText_LP (N : Nat) : Nat → Code → St → (Ex → St → Option (Str × Int)) → Option (Str × Int) := fun i c =>
  match i with
  | i => fun st k => iter (script_LabelText_h i) (exec (script_LabelText_E N) N c i) N st k
theorem script_LabelText_core (N : Nat) (x : SV [.v (.pr .str .str), .v .str]) (y : BV []) : runL (script_LabelText_E N) Tryz.f26 (script_LabelText_sg fun x _ => script_LabelText N x.1 x.2.1) script_LabelText_pk (script_LabelText_LP N) x y = script_LabelText N x.1 x.2.1 := by kernel_rfl
theorem script_LabelText_sound (N : Nat) : Sound Tryz.prog GW B0G 26 (script_LabelText_sg fun x _ => script_LabelText N x.1 x.2.1) :=
  runD_sound (mkE_ok script_LabelText_h (script_LabelText_fn N) _ _ (script_LabelText_fn_ok N)) Tryz.func26 rfl Tryz.call26 (script_LabelText_sg fun x _ => script_LabelText N x.1 x.2.1) script_LabelText_pk (fun _ _ => rfl) N (fun x y _ h => ((runL_eq (script_LabelText_E N) N Tryz.f26 (script_LabelText_sg fun x _ => script_LabelText N x.1 x.2.1) script_LabelText_pk (script_LabelText_LP N) (show LoopsOk (script_LabelText_LP N) (script_LabelText_E N) N (resD (script_LabelText_E N) Tryz.f26 (script_LabelText_sg fun x _ => script_LabelText N x.1 x.2.1) script_LabelText_pk) [] from trivial) x y).trans (script_LabelText_core N x y)).trans h)
end
end Go.Proofs.YtahjncefiegflaaGreatDoor


/- What functions of the program compute, as plain functions (printed). -/
namespace Go.Proofs.YtahjncefiegflaaGreatDoor
open Go Go.RowKit
set_option maxRecDepth 100000
set_option linter.unusedVariables false
noncomputable section
def ref2_LabelText (N : Nat) (x0 : Str × Str) (x1 : Str) : Option (Str × Int) :=
  bnd (ref2_CheckLabel N x0) fun t8 =>
  br (t8 != (0 : Int))
    (some (([] : Str), t8))
    (bnd (ref2_isPkg N x1) fun t13 =>
    br (!t13)
      (some (([] : Str), (3 : Int)))
      (br (x0.1 == x1)
        (br (decide (([58] : Str).length + x0.2.length ≤ 9223372036854775807))
          (some (([58] : Str) ++ x0.2, (0 : Int)))
          none)
        (br (!(x0.1 == ([] : Str)))
          (bnd (ref2_last N x0.1) fun t30 =>
          br (t30 == x0.2)
            (br (decide (([47, 47] : Str).length + x0.1.length ≤ 9223372036854775807))
              (some (([47, 47] : Str) ++ x0.1, (0 : Int)))
              none)
            (br (decide (([47, 47] : Str).length + x0.1.length ≤ 9223372036854775807))
              (br (decide ((([47, 47] : Str) ++ x0.1).length + ([58] : Str).length ≤ 9223372036854775807))
                (br (decide (((([47, 47] : Str) ++ x0.1) ++ ([58] : Str)).length + x0.2.length ≤ 9223372036854775807))
                  (some (((([47, 47] : Str) ++ x0.1) ++ ([58] : Str)) ++ x0.2, (0 : Int)))
                  none)
                none)
              none))
          (br (decide (([47, 47] : Str).length + x0.1.length ≤ 9223372036854775807))
            (br (decide ((([47, 47] : Str) ++ x0.1).length + ([58] : Str).length ≤ 9223372036854775807))
              (br (decide (((([47, 47] : Str) ++ x0.1) ++ ([58] : Str)).length + x0.2.length ≤ 9223372036854775807))
                (some (((([47, 47] : Str) ++ x0.1) ++ ([58] : Str)) ++ x0.2, (0 : Int)))
                none)
              none)
            none))))
def law2_ScriptLabelsComeBack (N : Nat) (x0 : Str × Str) (x1 : Str) : Option Bool :=
  bnd (script_LabelText N x0 x1) fun t11 =>
  br (t11.2 != (0 : Int))
    (br (t11.1 == ([] : Str))
      (bnd (law2_awake) fun t19 =>
      some t19)
      (some false))
    (bnd (script_ReadLabel N t11.1 x1) fun t24 =>
    br (t24.2 == (0 : Int))
      (br (eqb (.pr .str .str) t24.1 x0)
        (bnd (law2_awake) fun t35 =>
        some t35)
        (some false))
      (some false))
abbrev law2_ScriptLabelsComeBack_sg (f : SV [.v (.pr .str .str), .v .str] → BV [] → Option (Bool)) : AF := { ps := [.v (.pr .str .str), .v .str], bs := [], rs := [.v .bool], cs := [], R := Bool, out := fun z => ((z, ()), ()), f := f }
abbrev law2_ScriptLabelsComeBack_pk : SV [.v .bool] → BV [] → Bool := fun x _ => x.1
def law2_ScriptLabelsComeBack_fn (N : Nat) : FuncId → Option Tmp → Option AF := fun f _ =>
  match f with
    | 11 => some (law2_awake_sg fun _ _ => law2_awake)
    | 22 => some (script_ReadLabel_sg fun x _ => script_ReadLabel N x.1 x.2.1)
    | 26 => some (script_LabelText_sg fun x _ => script_LabelText N x.1 x.2.1)
    | _ => none
theorem law2_ScriptLabelsComeBack_fn_ok (N : Nat) : ∀ f q F, law2_ScriptLabelsComeBack_fn N f q = some F → Sound Tryz.prog GW B0G f F := by
  intro f q F h
  unfold law2_ScriptLabelsComeBack_fn at h
  split at h
  · cases h; exact law2_awake_sound
  · cases h; exact script_ReadLabel_sound N
  · cases h; exact script_LabelText_sound N
  · cases h
def law2_ScriptLabelsComeBack_h : Nat → Hint := fun i =>
  match i with
  | _ => ⟨[], [], [], [], [], []⟩
abbrev law2_ScriptLabelsComeBack_E (N : Nat) : Env := mkE law2_ScriptLabelsComeBack_h (law2_ScriptLabelsComeBack_fn N) (fun _ => false) (fun _ => false)
noncomputable def law2_ScriptLabelsComeBack_LP (N : Nat) : Nat → Code → St → (Ex → St → Option Bool) → Option Bool := fun i c =>
  match i with
  | i => fun st k => iter (law2_ScriptLabelsComeBack_h i) (exec (law2_ScriptLabelsComeBack_E N) N c i) N st k
theorem law2_ScriptLabelsComeBack_core (N : Nat) (x : SV [.v (.pr .str .str), .v .str]) (y : BV []) : runL (law2_ScriptLabelsComeBack_E N) Tryz.f7 (law2_ScriptLabelsComeBack_sg fun x _ => law2_ScriptLabelsComeBack N x.1 x.2.1) law2_ScriptLabelsComeBack_pk (law2_ScriptLabelsComeBack_LP N) x y = law2_ScriptLabelsComeBack N x.1 x.2.1 := by kernel_rfl
theorem law2_ScriptLabelsComeBack_sound (N : Nat) : Sound Tryz.prog GW B0G 7 (law2_ScriptLabelsComeBack_sg fun x _ => law2_ScriptLabelsComeBack N x.1 x.2.1) :=
  runD_sound (mkE_ok law2_ScriptLabelsComeBack_h (law2_ScriptLabelsComeBack_fn N) _ _ (law2_ScriptLabelsComeBack_fn_ok N)) Tryz.func7 rfl Tryz.call7 (law2_ScriptLabelsComeBack_sg fun x _ => law2_ScriptLabelsComeBack N x.1 x.2.1) law2_ScriptLabelsComeBack_pk (fun _ _ => rfl) N (fun x y _ h => ((runL_eq (law2_ScriptLabelsComeBack_E N) N Tryz.f7 (law2_ScriptLabelsComeBack_sg fun x _ => law2_ScriptLabelsComeBack N x.1 x.2.1) law2_ScriptLabelsComeBack_pk (law2_ScriptLabelsComeBack_LP N) (show LoopsOk (law2_ScriptLabelsComeBack_LP N) (law2_ScriptLabelsComeBack_E N) N (resD (law2_ScriptLabelsComeBack_E N) Tryz.f7 (law2_ScriptLabelsComeBack_sg fun x _ => law2_ScriptLabelsComeBack N x.1 x.2.1) law2_ScriptLabelsComeBack_pk) [] from trivial) x y).trans (law2_ScriptLabelsComeBack_core N x y)).trans h)
end
end Go.Proofs.YtahjncefiegflaaGreatDoor


/- What functions of the program compute, as plain functions (printed). -/
namespace Go.Proofs.YtahjncefiegflaaGreatDoor
open Go Go.RowKit
set_option maxRecDepth 100000
set_option linter.unusedVariables false
noncomputable section
end
end Go.Proofs.YtahjncefiegflaaGreatDoor


/- What functions of the program compute, as plain functions (printed). -/
namespace Go.Proofs.YtahjncefiegflaaGreatDoor
open Go Go.RowKit
set_option maxRecDepth 100000
set_option linter.unusedVariables false
noncomputable section
end
end Go.Proofs.YtahjncefiegflaaGreatDoor


/- What functions of the program compute, as plain functions (printed). -/
namespace Go.Proofs.YtahjncefiegflaaGreatDoor
open Go Go.RowKit
set_option maxRecDepth 100000
set_option linter.unusedVariables false
noncomputable section
end
end Go.Proofs.YtahjncefiegflaaGreatDoor


/- What functions of the program compute, as plain functions (printed). -/
namespace Go.Proofs.YtahjncefiegflaaGreatDoor
open Go Go.RowKit
set_option maxRecDepth 100000
set_option linter.unusedVariables false
noncomputable section
def slices_Clone_string_string (_N : Nat) (x0 : List Str) : Option (List Str) :=
  br ((x0).isEmpty)
    (both
      (some ([] : List Str))
      (br (decide ((([] : List Str).length + x0.length) * (24 * Ty.sz .str) ≤ 140737488355328))
        (some (([] : List Str) ++ x0))
        none))
    (br (decide ((([] : List Str).length + x0.length) * (24 * Ty.sz .str) ≤ 140737488355328))
      (some (([] : List Str) ++ x0))
      none)
abbrev slices_Clone_string_string_sg (f : SV [.v (.sl .str)] → BV [] → Option (List Str)) : AF := { ps := [.v (.sl .str)], bs := [], rs := [.row 0], cs := [.row 9 .str true], R := List Str, out := fun z => (((), ()), (z, ())), f := f }
abbrev slices_Clone_string_string_pk : SV [.row 0] → BV [.row 9 .str true] → (List Str) := fun _ y => y.1
def slices_Clone_string_string_fn (_N : Nat) : FuncId → Option Tmp → Option AF := fun f _ =>
  match f with
    | _ => none
theorem slices_Clone_string_string_fn_ok (N : Nat) : ∀ f q F, slices_Clone_string_string_fn N f q = some F → Sound Tryz.prog GW B0G f F := by
  intro f q F h
  unfold slices_Clone_string_string_fn at h
  split at h
  · cases h
def slices_Clone_string_string_h : Nat → Hint := fun i =>
  match i with
  | _ => ⟨[], [], [], [], [], []⟩
abbrev slices_Clone_string_string_E (N : Nat) : Env := mkE slices_Clone_string_string_h (slices_Clone_string_string_fn N) (fun i => match i with | 2 => true | 5 => true | _ => false) (fun _ => false)
noncomputable def slices_Clone_string_string_LP (N : Nat) : Nat → Code → St → (Ex → St → Option (List Str)) → Option (List Str) := fun i c =>
  match i with
  | i => fun st k => iter (slices_Clone_string_string_h i) (exec (slices_Clone_string_string_E N) N c i) N st k
theorem slices_Clone_string_string_core (N : Nat) (x : SV [.v (.sl .str)]) (y : BV []) : runL (slices_Clone_string_string_E N) Tryz.f100 (slices_Clone_string_string_sg fun x _ => slices_Clone_string_string N x.1) slices_Clone_string_string_pk (slices_Clone_string_string_LP N) x y = slices_Clone_string_string N x.1 := by kernel_rfl
theorem slices_Clone_string_string_sound (N : Nat) : Sound Tryz.prog GW B0G 100 (slices_Clone_string_string_sg fun x _ => slices_Clone_string_string N x.1) :=
  runD_sound (mkE_ok slices_Clone_string_string_h (slices_Clone_string_string_fn N) _ _ (slices_Clone_string_string_fn_ok N)) Tryz.func100 rfl Tryz.call100 (slices_Clone_string_string_sg fun x _ => slices_Clone_string_string N x.1) slices_Clone_string_string_pk (fun _ _ => rfl) N (fun x y _ h => ((runL_eq (slices_Clone_string_string_E N) N Tryz.f100 (slices_Clone_string_string_sg fun x _ => slices_Clone_string_string N x.1) slices_Clone_string_string_pk (slices_Clone_string_string_LP N) (show LoopsOk (slices_Clone_string_string_LP N) (slices_Clone_string_string_E N) N (resD (slices_Clone_string_string_E N) Tryz.f100 (slices_Clone_string_string_sg fun x _ => slices_Clone_string_string N x.1) slices_Clone_string_string_pk) [] from trivial) x y).trans (slices_Clone_string_string_core N x y)).trans h)
end
end Go.Proofs.YtahjncefiegflaaGreatDoor


/- What functions of the program compute, as plain functions (printed). -/
namespace Go.Proofs.YtahjncefiegflaaGreatDoor
open Go Go.RowKit
set_option maxRecDepth 100000
set_option linter.unusedVariables false
noncomputable section
end
end Go.Proofs.YtahjncefiegflaaGreatDoor


/- Splitting, cutting and joining at one byte. No program in sight. -/
namespace Go.Proofs.YtahjncefiegflaaGreatDoor
set_option linter.unusedVariables false
set_option linter.unusedSimpArgs false
open Go Go.RowKit
def splitC (c : UInt8) : Str → List Str
  | [] => [[]]
  | b :: s => if b = c then [] :: splitC c s else match splitC c s with
    | x :: xs => (b :: x) :: xs
    | [] => [[b]]
theorem splitC_ne (c : UInt8) (s : Str) : splitC c s ≠ [] := by
  cases s with
  | nil => simp [splitC]
  | cons b s => unfold splitC; split; simp; split <;> simp
theorem indexByte_cons (b c : UInt8) (s : Str) : Lib.indexByte (b :: s) c = if b = c then 0 else if Lib.indexByte s c = -1 then -1 else Lib.indexByte s c + 1 := by
  have h := Lib.indexByte_ge s c
  rw [Lib.indexByte]
  by_cases hb : b = c
  · simp [hb]
  · simp only [beq_iff_eq, hb, if_false]
theorem splitK_one (c : UInt8) : ∀ (s : Str), Lib.splitK [c] 0 (Lib.count s [c]) s = splitC c s
  | [] => by simp [Lib.count_one, Lib.splitK, splitC]
  | b :: s => by
    have ih := splitK_one c s
    by_cases hb : b = c
    · subst hb
      rw [Lib.count_cons_eq, Nat.add_comm, Lib.splitK, Lib.index_one, indexByte_cons]
      simp only [if_true]
      show (_ :: Lib.splitK [b] 0 (Lib.count s [b]) s) = _
      rw [ih]
      simp [splitC]
    · rw [Lib.count_cons_ne _ _ _ hb]
      unfold splitC
      rw [if_neg hb, ← ih]
      cases hk : Lib.count s [c] with
      | zero => simp [Lib.splitK]
      | succ k =>
        rw [Lib.splitK, Lib.splitK, Lib.index_one, Lib.index_one, indexByte_cons, if_neg hb]
        have h0 := Lib.indexByte_ge s c
        by_cases h1 : Lib.indexByte s c = -1
        · simp [h1]
        · have h2 : ∃ n : Nat, Lib.indexByte s c = n := ⟨(Lib.indexByte s c).toNat, by omega⟩
          obtain ⟨n, hn⟩ := h2
          have e : ((n : Int) + 1).toNat = n + 1 := by omega
          have e1 : ¬ ((n : Int) = -1) := by omega
          have e2 : ¬ ((n : Int) + 1 = -1) := by omega
          simp [hn, e, e1, e2, Nat.add_right_comm]
theorem splitS_one (s : Str) (c : UInt8) : splitS s [c] = splitC c s := by
  unfold splitS
  have := Lib.splitB_data ⟨[c].toArray⟩ 0 (Lib.countB ⟨s.toArray⟩ ⟨[c].toArray⟩) ⟨s.toArray⟩
  rw [this]
  exact splitK_one c s
theorem splitC_len (c : UInt8) : ∀ s : Str, (splitC c s).length = s.count c + 1
  | [] => rfl
  | b :: s => by
    have ih := splitC_len c s
    unfold splitC
    by_cases hb : b = c
    · rw [if_pos hb]; simp [hb, ih]
    · rw [if_neg hb, List.count_cons_of_ne hb, ← ih]
      have := splitC_ne c s
      cases h : splitC c s with
      | nil => exact absurd h this
      | cons => rfl
theorem strings_Split_one (s : Str) (c : UInt8) (h : s.length < 4294967281) : strings_Split s [c] = some (splitC c s) := by
  have hc : s.count c ≤ s.length := List.count_le_length
  unfold strings_Split
  rw [splitS_one, splitC_len]
  refine if_pos ⟨h, by simp, ?_, by omega⟩
  show _ = Lib.count s [c] + 1
  rw [Lib.count_one]
theorem splitC_mem (c : UInt8) (s : Str) : ∀ x ∈ splitC c s, c ∉ x ∧ x.length ≤ s.length := by
  induction s with
  | nil => intro x hx; simp [splitC] at hx; subst hx; simp
  | cons b s ih =>
    intro x hx
    unfold splitC at hx
    by_cases hb : b = c
    · rw [if_pos hb] at hx
      rcases List.mem_cons.1 hx with rfl | hx
      · simp
      · have := ih x hx; exact ⟨this.1, by simp; omega⟩
    · rw [if_neg hb] at hx
      cases h : splitC c s with
      | nil => exact absurd h (splitC_ne c s)
      | cons y ys =>
        rw [h] at hx ih
        rcases List.mem_cons.1 hx with rfl | hx
        · have := ih y (by simp)
          refine ⟨fun hm => ?_, by simp; omega⟩
          rcases List.mem_cons.1 hm with e | hm
          · exact hb e.symm
          · exact this.1 hm
        · have := ih x (List.mem_cons_of_mem _ hx); exact ⟨this.1, by simp; omega⟩
/-- Cut at one byte. -/
theorem cut_hit {c : UInt8} {a : Str} (h : c ∉ a) (b : Str) : Lib.cut (a ++ c :: b) [c] = (a, b, true) := by
  have hi : ∀ a : Str, c ∉ a → Lib.indexByte (a ++ c :: b) c = a.length := by
    intro a
    induction a with
    | nil => intro _; simp [indexByte_cons]
    | cons x a ih =>
      intro h
      have := ih (fun e => h (by simp [e]))
      rw [List.cons_append, indexByte_cons, if_neg (fun e => h (by simp [e])), this, if_neg (by omega)]
      simp
  unfold Lib.cut
  simp only [Lib.index_one, hi a h]
  simp
theorem cut_miss {c : UInt8} {a : Str} (h : c ∉ a) : Lib.cut a [c] = (a, [], false) := by
  have hi : ∀ a : Str, c ∉ a → Lib.indexByte a c = -1 := by
    intro a
    induction a with
    | nil => intro _; rfl
    | cons x a ih =>
      intro h
      rw [indexByte_cons, if_neg (fun e => h (by simp [e])), ih (fun e => h (by simp [e])), if_pos rfl]
  unfold Lib.cut
  simp only [Lib.index_one, hi a h]
  simp
end Go.Proofs.YtahjncefiegflaaGreatDoor


/- The arguments of a law, as the statement's reading hands them over, as data of the machine: any type. -/
namespace Go.Proofs.YtahjncefiegflaaGreatDoor
set_option linter.unusedVariables false
set_option linter.unusedSimpArgs false
open Go Go.RowKit Go.ChangeShapes Go.WideShapes
/-- Nothing is longer than Go lets it be. -/
def FitG (RR : (i : RC) → i.den → Prop) : (t : Ty) → t.den → Prop
  | .u8, _ => True
  | .int k, x => (Lit.int k x).wf = true
  | .bool, _ => True
  | .str, x => x.length ≤ maxLen
  | .sl t, xs => xs.length ≤ maxLen ∧ ∀ x ∈ xs, FitG RR t x
  | .pr a b, x => FitG RR a x.1 ∧ FitG RR b x.2
  | .un, _ => True
  | .mp _, _ => True
  | .ptr _, _ => True
  | .np _, _ => True
  | .clo _ _, _ => True
  | .rc i, x => RR i x
def FitR (i : RC) (x : i.den) : Prop := ∀ RR : (i : RC) → i.den → Prop, (∀ j y, FitG RR j.body (j.un y) → RR j y) → RR i x
def Fit : (t : Ty) → t.den → Prop := FitG FitR
theorem FitG.mono {RR RR' : (i : RC) → i.den → Prop} (hR : ∀ i x, RR i x → RR' i x) : ∀ (t : Ty) (x : t.den), FitG RR t x → FitG RR' t x
  | .u8, _, h => h
  | .int _, _, h => h
  | .bool, _, h => h
  | .str, _, h => h
  | .sl t, _, h => ⟨h.1, fun x hx => FitG.mono hR t x (h.2 x hx)⟩
  | .pr a b, _, h => ⟨FitG.mono hR a _ h.1, FitG.mono hR b _ h.2⟩
  | .un, _, h => h
  | .mp _, _, h => h
  | .ptr _, _, h => h
  | .np _, _, h => h
  | .clo _ _, _, h => h
  | .rc i, x, h => hR i x h
theorem FitR.intro {i : RC} {x : i.den} (h : Fit i.body (i.un x)) : FitR i x :=
  fun RR hc => hc i x (FitG.mono (fun j y hy => hy RR hc) _ _ h)
theorem FitR.elim {i : RC} {x : i.den} (h : FitR i x) : Fit i.body (i.un x) :=
  h (fun j y => Fit j.body (j.un y)) fun _ _ hy => FitG.mono (fun _ _ h => FitR.intro h) _ _ hy
mutual
/-- A type of the program is this one, down to its parts. -/
inductive Deep (P : Program) (R : RC → Option TypeId) : Ty → TypeId → Prop where
  | u8 {T : TypeId} : P.underlying T = some (.int .u8) → Deep P R .u8 T
  | int {T : TypeId} {k : IntKind} : P.underlying T = some (.int k) → Deep P R (.int k) T
  | bool {T : TypeId} : P.underlying T = some .bool → Deep P R .bool T
  | str {T : TypeId} : P.underlying T = some .string → Deep P R .str T
  | sl {T e : TypeId} {t : Ty} : P.underlying T = some (.slice e) → P.cellsOf e = t.sz → Deep P R t e → Deep P R (.sl t) T
  | st {T : TypeId} {t : Ty} {fs : Array Field} : P.underlying T = some (.struct fs) → P.cellsOf T = t.sz → t.isAgg = true → DeepF P R t fs.toList 0 → Deep P R t T
  | rc {T : TypeId} {i : RC} : R i = some T → Deep P R (.rc i) T
/-- The same, of fields from a place on. -/
inductive DeepF (P : Program) (R : RC → Option TypeId) : Ty → List Field → Nat → Prop where
  | nil {o : Nat} : DeepF P R .un [] o
  | one {t : Ty} {f : Field} {o : Nat} : f.offset = o → P.cellsOf f.type = t.sz → Deep P R t f.type → DeepF P R t [f] o
  | single {t : Ty} {f : Field} {o : Nat} : f.offset = o → P.cellsOf f.type = t.sz → Deep P R t f.type → DeepF P R (.pr t .un) [f] o
  | cons {a b : Ty} {f : Field} {fs : List Field} {o : Nat} : f.offset = o → P.cellsOf f.type = a.sz → Deep P R a f.type → DeepF P R b fs (o + a.sz) → DeepF P R (.pr a b) (f :: fs) o
end
def RcOk (P : Program) (R : RC → Option TypeId) : Prop := ∀ i T, R i = some T → ∃ fs, P.underlying T = some (.struct fs) ∧ P.cellsOf T = i.sz ∧ DeepF P R i.body fs.toList 0
abbrev M00 : Nat → Nat → Prop := fun _ _ => False
section
variable {H : Type} {enc : TypeId × Value → H} {P : Program} {w : World} {spare : Nat → Bool} {held : Bool} {R : RC → Option TypeId}
theorem choose_list {α : Type} {p : Nat → α → Prop} : ∀ n, (∀ i, i < n → ∃ x, p i x) → ∃ l : List α, l.length = n ∧ ∀ i (h : i < l.length), p i l[i]
  | 0, _ => ⟨[], rfl, fun i h => absurd h (Nat.not_lt_zero _)⟩
  | n + 1, h => by
    obtain ⟨l, hl, hp⟩ := choose_list n fun i hi => h i (Nat.lt_succ_of_lt hi)
    obtain ⟨x, hx⟩ := h n (Nat.lt_succ_self _)
    refine ⟨l ++ [x], by simp [hl], fun i hi => ?_⟩
    rcases Nat.lt_or_ge i l.length with h' | h'
    · rw [List.getElem_append_left h']; exact hp i h'
    · have : i = l.length := by simp at hi; omega
      subst this
      simp [hl, hx]
theorem pl_of_cells {a : Addr} {n : Nat} {cs : List Value} (h : w.cells? 0 a n = some cs) : Pl M00 w a cs := by
  intro j u hu
  refine ⟨?_, id⟩
  unfold World.cells? at h
  rw [if_pos (Nat.zero_le _)] at h
  have hl := mapM_some_length h
  have hj : j < n := by
    rcases Nat.lt_or_ge j cs.length with h' | h'
    · rw [hl, List.length_range] at h'; exact h'
    · rw [List.getElem?_eq_none h'] at hu; cases hu
  have := mapM_some_get h j j (by rw [List.getElem?_range hj])
  rw [this]; exact hu
end
/-- A law is called. -/
theorem law_run {P : Program} {f : FuncId} {ps : List Sl} {F : SV ps → BV [] → Option Bool} {out : Bool → SV [.v .bool] × BV []} (hout : ∀ z, (out z).1 = (z, ())) (hs : Sound P GW B0G f ⟨ps, [], [.v .bool], [], Bool, out, F⟩)
    {W : World} {vs : List Value} {x : SV ps} (hg : GW W) (ha : All2 (RepD0 M00 W g0) (lays id ps x) vs) (hf : F x () = some true) : Calls P f vs.toArray W fun e W' => e = .returned (.bool true) ∧ Ext W W' := by
  refine (hs.2 M00 W g0 vs x () true hg (GW_size hg) { args := ha, res := fun r blk h => (by cases h), dom := fun r gx h => (by cases h), inj := fun _ _ _ _ _ h => (by cases h), low := fun _ _ _ h => (by cases h), chg := fun _ _ _ _ h => (by cases h), mlt := fun b o h => h.elim, row := fun _ _ _ h => (by cases h) } hf).mono fun e W' hp => ?_
  obtain ⟨vs', g', he, hE, _, hF, _⟩ := hp
  refine ⟨?_, hE.ext fun b hb => ?_⟩
  · have := hF.args
    rw [hout] at this
    match vs', this with
    | [v], ⟨h1, _⟩ =>
      have h2 := RepV.plain (t := .bool) rfl h1
      have h3 : [v] = [.bool true] := h2
      injection h3 with h3
      rw [he, h3]
      rfl
  · obtain ⟨r, x, h, _⟩ := hb
    cases h
end Go.Proofs.YtahjncefiegflaaGreatDoor

