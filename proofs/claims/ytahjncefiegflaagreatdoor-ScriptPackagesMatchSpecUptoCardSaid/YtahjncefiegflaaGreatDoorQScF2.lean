/- What functions of the program compute, as plain functions (printed). -/
import Derived.Test.YtahjncefiegflaaGreatDoorQScT
namespace Go.Proofs.YtahjncefiegflaaGreatDoor
open Go Go.RowKit
set_option maxRecDepth 100000
set_option linter.unusedVariables false
noncomputable section
def blob_inPart (_N : Nat) (x0 : UInt8) : Option Bool :=
  br (decide (x0 ≥ (97 : UInt8)))
    (br (decide (x0 ≤ (122 : UInt8)))
      (some true)
      (br (decide (x0 ≥ (65 : UInt8)))
        (br (decide (x0 ≤ (90 : UInt8)))
          (some true)
          (br (decide (x0 ≥ (48 : UInt8)))
            (br (decide (x0 ≤ (57 : UInt8)))
              (some true)
              (bnd (strings_IndexByte ([46, 95, 45, 43] : Str) x0) fun t27 =>
              some (decide (t27 ≥ (0 : Int)))))
            (bnd (strings_IndexByte ([46, 95, 45, 43] : Str) x0) fun t27_1 =>
            some (decide (t27_1 ≥ (0 : Int))))))
        (br (decide (x0 ≥ (48 : UInt8)))
          (br (decide (x0 ≤ (57 : UInt8)))
            (some true)
            (bnd (strings_IndexByte ([46, 95, 45, 43] : Str) x0) fun t27_2 =>
            some (decide (t27_2 ≥ (0 : Int)))))
          (bnd (strings_IndexByte ([46, 95, 45, 43] : Str) x0) fun t27_3 =>
          some (decide (t27_3 ≥ (0 : Int)))))))
    (br (decide (x0 ≥ (65 : UInt8)))
      (br (decide (x0 ≤ (90 : UInt8)))
        (some true)
        (br (decide (x0 ≥ (48 : UInt8)))
          (br (decide (x0 ≤ (57 : UInt8)))
            (some true)
            (bnd (strings_IndexByte ([46, 95, 45, 43] : Str) x0) fun t27_4 =>
            some (decide (t27_4 ≥ (0 : Int)))))
          (bnd (strings_IndexByte ([46, 95, 45, 43] : Str) x0) fun t27_5 =>
          some (decide (t27_5 ≥ (0 : Int))))))
      (br (decide (x0 ≥ (48 : UInt8)))
        (br (decide (x0 ≤ (57 : UInt8)))
          (some true)
          (bnd (strings_IndexByte ([46, 95, 45, 43] : Str) x0) fun t27_6 =>
          some (decide (t27_6 ≥ (0 : Int)))))
        (bnd (strings_IndexByte ([46, 95, 45, 43] : Str) x0) fun t27_7 =>
        some (decide (t27_7 ≥ (0 : Int))))))
abbrev blob_inPart_sg (f : SV [.v .u8] → BV [] → Option (Bool)) : AF := { ps := [.v .u8], bs := [], rs := [.v .bool], cs := [], R := Bool, out := fun z => ((z, ()), ()), f := f }
abbrev blob_inPart_pk : SV [.v .bool] → BV [] → Bool := fun x _ => x.1
def blob_inPart_fn (_N : Nat) : FuncId → Option Tmp → Option AF := fun f _ =>
  match f with
    | 116 => some (strings_IndexByte_sg fun x _ => strings_IndexByte x.1 x.2.1)
    | _ => none
theorem blob_inPart_fn_ok (N : Nat) : ∀ f q F, blob_inPart_fn N f q = some F → Sound Tryz.prog GW B0G f F := by
  intro f q F h
  unfold blob_inPart_fn at h
  split at h
  · cases h; exact strings_IndexByte_sound
  · cases h
def blob_inPart_h : Nat → Hint := fun i =>
  match i with
  | _ => ⟨[], [], [], [], [], []⟩
abbrev blob_inPart_E (N : Nat) : Env := mkE blob_inPart_h (blob_inPart_fn N) (fun _ => false) (fun _ => false)
noncomputable def blob_inPart_LP (N : Nat) : Nat → Code → St → (Ex → St → Option Bool) → Option Bool := fun i c =>
  match i with
  | i => fun st k => iter (blob_inPart_h i) (exec (blob_inPart_E N) N c i) N st k
theorem blob_inPart_core (N : Nat) (x : SV [.v .u8]) (y : BV []) : runL (blob_inPart_E N) Tryz.f137 (blob_inPart_sg fun x _ => blob_inPart N x.1) blob_inPart_pk (blob_inPart_LP N) x y = blob_inPart N x.1 := by kernel_rfl
theorem blob_inPart_sound (N : Nat) : Sound Tryz.prog GW B0G 137 (blob_inPart_sg fun x _ => blob_inPart N x.1) :=
  runD_sound (mkE_ok blob_inPart_h (blob_inPart_fn N) _ _ (blob_inPart_fn_ok N)) Tryz.func137 rfl Tryz.call137 (blob_inPart_sg fun x _ => blob_inPart N x.1) blob_inPart_pk (fun _ _ => rfl) N (fun x y _ h => ((runL_eq (blob_inPart_E N) N Tryz.f137 (blob_inPart_sg fun x _ => blob_inPart N x.1) blob_inPart_pk (blob_inPart_LP N) (show LoopsOk (blob_inPart_LP N) (blob_inPart_E N) N (resD (blob_inPart_E N) Tryz.f137 (blob_inPart_sg fun x _ => blob_inPart N x.1) blob_inPart_pk) [] from trivial) x y).trans (blob_inPart_core N x y)).trans h)
def blob_isPart_L0T (N : Nat) (x0 : Str) (c5 : Int) (k0 : Option Bool) (self : Int → Option Bool) (s6 : Int) : Option Bool :=
  br (decide (s6 < c5))
    (bnd (geti x0 s6) fun t11 =>
    bnd (blob_inPart N t11) fun t12 =>
    br (!t12)
      (some false)
      (self (IntKind.i64.wrap (s6 + (1 : Int)))))
    (k0)
def blob_isPart_L0 (N : Nat) (x0 : Str) (c5 : Int) (k0 : Option Bool) : Nat → Int → Option Bool
  | 0, _ => none
  | n + 1, s6 => blob_isPart_L0T N x0 c5 k0 (blob_isPart_L0 N x0 c5 k0 n) s6
def blob_isPart (N : Nat) (x0 : Str) : Option Bool :=
  blob_isPart_L0 N x0 (x0.length : Int) (br (!(x0 == ([] : Str)))
        (br (!(x0 == ([46] : Str)))
          (some (!(x0 == ([46, 46] : Str))))
          (some false))
        (some false)) N (0 : Int)
abbrev blob_isPart_sg (f : SV [.v .str] → BV [] → Option (Bool)) : AF := { ps := [.v .str], bs := [], rs := [.v .bool], cs := [], R := Bool, out := fun z => ((z, ()), ()), f := f }
abbrev blob_isPart_pk : SV [.v .bool] → BV [] → Bool := fun x _ => x.1
def blob_isPart_fn (N : Nat) : FuncId → Option Tmp → Option AF := fun f _ =>
  match f with
    | 137 => some (blob_inPart_sg fun x _ => blob_inPart N x.1)
    | _ => none
theorem blob_isPart_fn_ok (N : Nat) : ∀ f q F, blob_isPart_fn N f q = some F → Sound Tryz.prog GW B0G f F := by
  intro f q F h
  unfold blob_isPart_fn at h
  split at h
  · cases h; exact blob_inPart_sound N
  · cases h
def blob_isPart_h : Nat → Hint := fun i =>
  match i with
  | 0 => ⟨[], [0, 5, 6], [], [0], [], []⟩
  | _ => ⟨[], [], [], [], [], []⟩
abbrev blob_isPart_E (N : Nat) : Env := mkE blob_isPart_h (blob_isPart_fn N) (fun _ => false) (fun _ => false)
abbrev blob_isPart_L0_fs : List (Nat × Sl) := [(0, .v .str), (5, .v (.int .i64)), (6, .v (.int .i64))]
abbrev blob_isPart_L0_bs : List (Nat × Sb) := []
def blob_isPart_L0_hd (x0 : Str) (c5 : Int) (s6 : Int) : St := ⟨25, [(0, .v .str x0), (5, .v (.int .i64) c5), (6, .v (.int .i64) s6)], []⟩
def blob_isPart_L0_tl0 (x0 : Str) (_c5 : Int) : St := ⟨25, [(0, .v .str x0)], []⟩
def blob_isPart_L0_G (N : Nat) (x0 : Str) (c5 : Int) (s6 : Int) (k : Ex → St → Option Bool) : Option Bool :=
  blob_isPart_L0 N x0 c5 (k (.exit 0) (blob_isPart_L0_tl0 x0 c5)) N s6
abbrev blob_isPart_L0_F (N : Nat) : FV blob_isPart_L0_fs → HV blob_isPart_L0_bs → (Ex → St → Option Bool) → Option Bool := fun x _ k => blob_isPart_L0_G N x.1 x.2.1 x.2.2.1 k
noncomputable def blob_isPart_LP (N : Nat) : Nat → Code → St → (Ex → St → Option Bool) → Option Bool := fun i c =>
  match i with
  | 0 => (LPc 25 blob_isPart_L0_fs blob_isPart_L0_bs (blob_isPart_L0_F N) (fun st k => iter (blob_isPart_h 0) (exec (blob_isPart_E N) N c 0) N st k))
  | i => fun st k => iter (blob_isPart_h i) (exec (blob_isPart_E N) N c i) N st k
theorem blob_isPart_L0_step (N : Nat) (x0 : Str) (c5 : Int) (KX : Nat → St → Option Bool) (I : St → Option Bool) (s6 : Int) :
    execL (blob_isPart_LP N) (blob_isPart_E N) (cAt (bodyOf Tryz.f104) [true, false, true, false, false]) 0 (blob_isPart_L0_hd x0 c5 s6) (roundK (blob_isPart_h 0) I KX (resD (blob_isPart_E N) Tryz.f104 (blob_isPart_sg fun x _ => blob_isPart N x.1) blob_isPart_pk)) = blob_isPart_L0T N x0 c5 (KX 0 (blob_isPart_L0_tl0 x0 c5)) (fun s6 => I (blob_isPart_L0_hd x0 c5 s6)) s6 := by kernel_rfl
theorem blob_isPart_L0_ok (N : Nat) : ∀ x y k, (∀ st, k .ret st = (resD (blob_isPart_E N) Tryz.f104 (blob_isPart_sg fun x _ => blob_isPart N x.1) blob_isPart_pk) st) → iter (blob_isPart_h 0) (exec (blob_isPart_E N) N (cAt (bodyOf Tryz.f104) [true, false, true, false, false]) 0) N ⟨25, unF blob_isPart_L0_fs x, unH blob_isPart_L0_bs y⟩ k = blob_isPart_L0_F N x y k := fun x _ k hk =>
  iter_link (S := (Int) × Unit) (blob_isPart_h 0) _ (execL (blob_isPart_LP N) (blob_isPart_E N) (cAt (bodyOf Tryz.f104) [true, false, true, false, false]) 0) (resD (blob_isPart_E N) Tryz.f104 (blob_isPart_sg fun x _ => blob_isPart N x.1) blob_isPart_pk) (fun st k hk => execL_eq _ _ N _ (cAt (bodyOf Tryz.f104) [true, false, true, false, false]) 0 (show LoopsOk (blob_isPart_LP N) (blob_isPart_E N) N (resD (blob_isPart_E N) Tryz.f104 (blob_isPart_sg fun x _ => blob_isPart N x.1) blob_isPart_pk) [] from trivial) st k hk) (fun s => blob_isPart_L0_hd x.1 x.2.1 s.1) k hk
    (fun self s => blob_isPart_L0T N x.1 x.2.1 (k (.exit 0) (blob_isPart_L0_tl0 x.1 x.2.1)) (fun s6 => self (s6, ())) s.1) (fun n s => blob_isPart_L0 N x.1 x.2.1 (k (.exit 0) (blob_isPart_L0_tl0 x.1 x.2.1)) n s.1) (fun _ => rfl) (fun _ _ => rfl)
    (fun I s => blob_isPart_L0_step N x.1 x.2.1 (fun j => k (.exit j)) I s.1) N (x.2.2.1, ())
theorem blob_isPart_lp0 (N : Nat) : ∀ st k, (∀ st, k .ret st = (resD (blob_isPart_E N) Tryz.f104 (blob_isPart_sg fun x _ => blob_isPart N x.1) blob_isPart_pk) st) → blob_isPart_LP N 0 (cAt (bodyOf Tryz.f104) [true, false, true, false, false]) st k = iter (Env.hint (blob_isPart_E N) 0) (exec (blob_isPart_E N) N (cAt (bodyOf Tryz.f104) [true, false, true, false, false]) 0) N st k := fun st k hk => LPc_eq 25 blob_isPart_L0_fs blob_isPart_L0_bs _ _ (resD (blob_isPart_E N) Tryz.f104 (blob_isPart_sg fun x _ => blob_isPart N x.1) blob_isPart_pk) (blob_isPart_L0_ok N) _ st k hk (rfl)
theorem blob_isPart_core (N : Nat) (x : SV [.v .str]) (y : BV []) : runL (blob_isPart_E N) Tryz.f104 (blob_isPart_sg fun x _ => blob_isPart N x.1) blob_isPart_pk (blob_isPart_LP N) x y = blob_isPart N x.1 := by kernel_rfl
theorem blob_isPart_sound (N : Nat) : Sound Tryz.prog GW B0G 104 (blob_isPart_sg fun x _ => blob_isPart N x.1) :=
  runD_sound (mkE_ok blob_isPart_h (blob_isPart_fn N) _ _ (blob_isPart_fn_ok N)) Tryz.func104 rfl Tryz.call104 (blob_isPart_sg fun x _ => blob_isPart N x.1) blob_isPart_pk (fun _ _ => rfl) N (fun x y _ h => ((runL_eq (blob_isPart_E N) N Tryz.f104 (blob_isPart_sg fun x _ => blob_isPart N x.1) blob_isPart_pk (blob_isPart_LP N) (show LoopsOk (blob_isPart_LP N) (blob_isPart_E N) N (resD (blob_isPart_E N) Tryz.f104 (blob_isPart_sg fun x _ => blob_isPart N x.1) blob_isPart_pk) [(0, (cAt (bodyOf Tryz.f104) [true, false, true, false, false]))] from ⟨blob_isPart_lp0 N, trivial⟩) x y).trans (blob_isPart_core N x y)).trans h)
def blob_IsPath_L0T (N : Nat) (t14 : List Str) (c15 : Int) (k0 : Option Bool) (self : Int → Option Bool) (s16 : Int) : Option Bool :=
  br (decide (s16 < c15))
    (bnd (geti t14 s16) fun t18 =>
    bnd (blob_isPart N t18) fun t21 =>
    br (!t21)
      (some false)
      (self (IntKind.i64.wrap (s16 + (1 : Int)))))
    (k0)
def blob_IsPath_L0 (N : Nat) (t14 : List Str) (c15 : Int) (k0 : Option Bool) : Nat → Int → Option Bool
  | 0, _ => none
  | n + 1, s16 => blob_IsPath_L0T N t14 c15 k0 (blob_IsPath_L0 N t14 c15 k0 n) s16
def blob_IsPath (N : Nat) (x0 : Str) : Option Bool :=
  br (decide ((x0.length : Int) < (1 : Int)))
    (some false)
    (br (decide ((x0.length : Int) > (200 : Int)))
      (some false)
      (bnd (strings_Split x0 ([47] : Str)) fun t14 =>
      blob_IsPath_L0 N t14 (t14.length : Int) (some true) N (0 : Int)))
abbrev blob_IsPath_sg (f : SV [.v .str] → BV [] → Option (Bool)) : AF := { ps := [.v .str], bs := [], rs := [.v .bool], cs := [], R := Bool, out := fun z => ((z, ()), ()), f := f }
abbrev blob_IsPath_pk : SV [.v .bool] → BV [] → Bool := fun x _ => x.1
def blob_IsPath_fn (N : Nat) : FuncId → Option Tmp → Option AF := fun f _ =>
  match f with
    | 103 => some (strings_Split_sg fun x _ => strings_Split x.1 x.2.1)
    | 104 => some (blob_isPart_sg fun x _ => blob_isPart N x.1)
    | _ => none
theorem blob_IsPath_fn_ok (N : Nat) : ∀ f q F, blob_IsPath_fn N f q = some F → Sound Tryz.prog GW B0G f F := by
  intro f q F h
  unfold blob_IsPath_fn at h
  split at h
  · cases h; exact strings_Split_sound
  · cases h; exact blob_isPart_sound N
  · cases h
def blob_IsPath_h : Nat → Hint := fun i =>
  match i with
  | 0 => ⟨[], [14, 15, 16], [], [], [], []⟩
  | _ => ⟨[], [], [], [], [], []⟩
abbrev blob_IsPath_E (N : Nat) : Env := mkE blob_IsPath_h (blob_IsPath_fn N) (fun _ => false) (fun _ => false)
abbrev blob_IsPath_L0_fs : List (Nat × Sl) := [(14, .v (.sl .str)), (15, .v (.int .i64)), (16, .v (.int .i64))]
abbrev blob_IsPath_L0_bs : List (Nat × Sb) := []
def blob_IsPath_L0_hd (t14 : List Str) (c15 : Int) (s16 : Int) : St := ⟨24, [(14, .v (.sl .str) t14), (15, .v (.int .i64) c15), (16, .v (.int .i64) s16)], []⟩
def blob_IsPath_L0_tl0 (_t14 : List Str) (_c15 : Int) : St := ⟨24, [], []⟩
def blob_IsPath_L0_G (N : Nat) (t14 : List Str) (c15 : Int) (s16 : Int) (k : Ex → St → Option Bool) : Option Bool :=
  blob_IsPath_L0 N t14 c15 (k (.exit 0) (blob_IsPath_L0_tl0 t14 c15)) N s16
abbrev blob_IsPath_L0_F (N : Nat) : FV blob_IsPath_L0_fs → HV blob_IsPath_L0_bs → (Ex → St → Option Bool) → Option Bool := fun x _ k => blob_IsPath_L0_G N x.1 x.2.1 x.2.2.1 k
noncomputable def blob_IsPath_LP (N : Nat) : Nat → Code → St → (Ex → St → Option Bool) → Option Bool := fun i c =>
  match i with
  | 0 => (LPc 24 blob_IsPath_L0_fs blob_IsPath_L0_bs (blob_IsPath_L0_F N) (fun st k => iter (blob_IsPath_h 0) (exec (blob_IsPath_E N) N c 0) N st k))
  | i => fun st k => iter (blob_IsPath_h i) (exec (blob_IsPath_E N) N c i) N st k
theorem blob_IsPath_L0_step (N : Nat) (t14 : List Str) (c15 : Int) (KX : Nat → St → Option Bool) (I : St → Option Bool) (s16 : Int) :
    execL (blob_IsPath_LP N) (blob_IsPath_E N) (cAt (bodyOf Tryz.f56) [true, true, false, true, false, false]) 0 (blob_IsPath_L0_hd t14 c15 s16) (roundK (blob_IsPath_h 0) I KX (resD (blob_IsPath_E N) Tryz.f56 (blob_IsPath_sg fun x _ => blob_IsPath N x.1) blob_IsPath_pk)) = blob_IsPath_L0T N t14 c15 (KX 0 (blob_IsPath_L0_tl0 t14 c15)) (fun s16 => I (blob_IsPath_L0_hd t14 c15 s16)) s16 := by kernel_rfl
theorem blob_IsPath_L0_ok (N : Nat) : ∀ x y k, (∀ st, k .ret st = (resD (blob_IsPath_E N) Tryz.f56 (blob_IsPath_sg fun x _ => blob_IsPath N x.1) blob_IsPath_pk) st) → iter (blob_IsPath_h 0) (exec (blob_IsPath_E N) N (cAt (bodyOf Tryz.f56) [true, true, false, true, false, false]) 0) N ⟨24, unF blob_IsPath_L0_fs x, unH blob_IsPath_L0_bs y⟩ k = blob_IsPath_L0_F N x y k := fun x _ k hk =>
  iter_link (S := (Int) × Unit) (blob_IsPath_h 0) _ (execL (blob_IsPath_LP N) (blob_IsPath_E N) (cAt (bodyOf Tryz.f56) [true, true, false, true, false, false]) 0) (resD (blob_IsPath_E N) Tryz.f56 (blob_IsPath_sg fun x _ => blob_IsPath N x.1) blob_IsPath_pk) (fun st k hk => execL_eq _ _ N _ (cAt (bodyOf Tryz.f56) [true, true, false, true, false, false]) 0 (show LoopsOk (blob_IsPath_LP N) (blob_IsPath_E N) N (resD (blob_IsPath_E N) Tryz.f56 (blob_IsPath_sg fun x _ => blob_IsPath N x.1) blob_IsPath_pk) [] from trivial) st k hk) (fun s => blob_IsPath_L0_hd x.1 x.2.1 s.1) k hk
    (fun self s => blob_IsPath_L0T N x.1 x.2.1 (k (.exit 0) (blob_IsPath_L0_tl0 x.1 x.2.1)) (fun s16 => self (s16, ())) s.1) (fun n s => blob_IsPath_L0 N x.1 x.2.1 (k (.exit 0) (blob_IsPath_L0_tl0 x.1 x.2.1)) n s.1) (fun _ => rfl) (fun _ _ => rfl)
    (fun I s => blob_IsPath_L0_step N x.1 x.2.1 (fun j => k (.exit j)) I s.1) N (x.2.2.1, ())
theorem blob_IsPath_lp0 (N : Nat) : ∀ st k, (∀ st, k .ret st = (resD (blob_IsPath_E N) Tryz.f56 (blob_IsPath_sg fun x _ => blob_IsPath N x.1) blob_IsPath_pk) st) → blob_IsPath_LP N 0 (cAt (bodyOf Tryz.f56) [true, true, false, true, false, false]) st k = iter (Env.hint (blob_IsPath_E N) 0) (exec (blob_IsPath_E N) N (cAt (bodyOf Tryz.f56) [true, true, false, true, false, false]) 0) N st k := fun st k hk => LPc_eq 24 blob_IsPath_L0_fs blob_IsPath_L0_bs _ _ (resD (blob_IsPath_E N) Tryz.f56 (blob_IsPath_sg fun x _ => blob_IsPath N x.1) blob_IsPath_pk) (blob_IsPath_L0_ok N) _ st k hk (rfl)
theorem blob_IsPath_core (N : Nat) (x : SV [.v .str]) (y : BV []) : runL (blob_IsPath_E N) Tryz.f56 (blob_IsPath_sg fun x _ => blob_IsPath N x.1) blob_IsPath_pk (blob_IsPath_LP N) x y = blob_IsPath N x.1 := by kernel_rfl
theorem blob_IsPath_sound (N : Nat) : Sound Tryz.prog GW B0G 56 (blob_IsPath_sg fun x _ => blob_IsPath N x.1) :=
  runD_sound (mkE_ok blob_IsPath_h (blob_IsPath_fn N) _ _ (blob_IsPath_fn_ok N)) Tryz.func56 rfl Tryz.call56 (blob_IsPath_sg fun x _ => blob_IsPath N x.1) blob_IsPath_pk (fun _ _ => rfl) N (fun x y _ h => ((runL_eq (blob_IsPath_E N) N Tryz.f56 (blob_IsPath_sg fun x _ => blob_IsPath N x.1) blob_IsPath_pk (blob_IsPath_LP N) (show LoopsOk (blob_IsPath_LP N) (blob_IsPath_E N) N (resD (blob_IsPath_E N) Tryz.f56 (blob_IsPath_sg fun x _ => blob_IsPath N x.1) blob_IsPath_pk) [(0, (cAt (bodyOf Tryz.f56) [true, true, false, true, false, false]))] from ⟨blob_IsPath_lp0 N, trivial⟩) x y).trans (blob_IsPath_core N x y)).trans h)
def ref2_isPart_L0T (_N : Nat) (x0 : Str) (c6 : Int) (k0 : Option Bool) (self : Int → Option Bool) (s7 : Int) : Option Bool :=
  br (decide (s7 < c6))
    (bnd (geti x0 s7) fun t12 =>
    br (decide (t12 < (97 : UInt8)))
      (br (decide (t12 < (65 : UInt8)))
        (br (decide (t12 < (48 : UInt8)))
          (bnd (strings_IndexByte ([46, 95, 45, 43] : Str) t12) fun t37 =>
          br (decide (t37 < (0 : Int)))
            (some false)
            (self (IntKind.i64.wrap (s7 + (1 : Int)))))
          (br (decide (t12 > (57 : UInt8)))
            (bnd (strings_IndexByte ([46, 95, 45, 43] : Str) t12) fun t37_1 =>
            br (decide (t37_1 < (0 : Int)))
              (some false)
              (self (IntKind.i64.wrap (s7 + (1 : Int)))))
            (self (IntKind.i64.wrap (s7 + (1 : Int))))))
        (br (decide (t12 > (90 : UInt8)))
          (br (decide (t12 < (48 : UInt8)))
            (bnd (strings_IndexByte ([46, 95, 45, 43] : Str) t12) fun t37_2 =>
            br (decide (t37_2 < (0 : Int)))
              (some false)
              (self (IntKind.i64.wrap (s7 + (1 : Int)))))
            (br (decide (t12 > (57 : UInt8)))
              (bnd (strings_IndexByte ([46, 95, 45, 43] : Str) t12) fun t37_3 =>
              br (decide (t37_3 < (0 : Int)))
                (some false)
                (self (IntKind.i64.wrap (s7 + (1 : Int)))))
              (self (IntKind.i64.wrap (s7 + (1 : Int))))))
          (self (IntKind.i64.wrap (s7 + (1 : Int))))))
      (br (decide (t12 > (122 : UInt8)))
        (br (decide (t12 < (65 : UInt8)))
          (br (decide (t12 < (48 : UInt8)))
            (bnd (strings_IndexByte ([46, 95, 45, 43] : Str) t12) fun t37_4 =>
            br (decide (t37_4 < (0 : Int)))
              (some false)
              (self (IntKind.i64.wrap (s7 + (1 : Int)))))
            (br (decide (t12 > (57 : UInt8)))
              (bnd (strings_IndexByte ([46, 95, 45, 43] : Str) t12) fun t37_5 =>
              br (decide (t37_5 < (0 : Int)))
                (some false)
                (self (IntKind.i64.wrap (s7 + (1 : Int)))))
              (self (IntKind.i64.wrap (s7 + (1 : Int))))))
          (br (decide (t12 > (90 : UInt8)))
            (br (decide (t12 < (48 : UInt8)))
              (bnd (strings_IndexByte ([46, 95, 45, 43] : Str) t12) fun t37_6 =>
              br (decide (t37_6 < (0 : Int)))
                (some false)
                (self (IntKind.i64.wrap (s7 + (1 : Int)))))
              (br (decide (t12 > (57 : UInt8)))
                (bnd (strings_IndexByte ([46, 95, 45, 43] : Str) t12) fun t37_7 =>
                br (decide (t37_7 < (0 : Int)))
                  (some false)
                  (self (IntKind.i64.wrap (s7 + (1 : Int)))))
                (self (IntKind.i64.wrap (s7 + (1 : Int))))))
            (self (IntKind.i64.wrap (s7 + (1 : Int))))))
        (self (IntKind.i64.wrap (s7 + (1 : Int))))))
    (k0)
def ref2_isPart_L0 (N : Nat) (x0 : Str) (c6 : Int) (k0 : Option Bool) : Nat → Int → Option Bool
  | 0, _ => none
  | n + 1, s7 => ref2_isPart_L0T N x0 c6 k0 (ref2_isPart_L0 N x0 c6 k0 n) s7
def ref2_isPart (N : Nat) (x0 : Str) : Option Bool :=
  ref2_isPart_L0 N x0 (x0.length : Int) (br (!(x0 == ([] : Str)))
        (br (!(x0 == ([46] : Str)))
          (some (!(x0 == ([46, 46] : Str))))
          (some false))
        (some false)) N (0 : Int)
abbrev ref2_isPart_sg (f : SV [.v .str] → BV [] → Option (Bool)) : AF := { ps := [.v .str], bs := [], rs := [.v .bool], cs := [], R := Bool, out := fun z => ((z, ()), ()), f := f }
abbrev ref2_isPart_pk : SV [.v .bool] → BV [] → Bool := fun x _ => x.1
def ref2_isPart_fn (_N : Nat) : FuncId → Option Tmp → Option AF := fun f _ =>
  match f with
    | 116 => some (strings_IndexByte_sg fun x _ => strings_IndexByte x.1 x.2.1)
    | _ => none
theorem ref2_isPart_fn_ok (N : Nat) : ∀ f q F, ref2_isPart_fn N f q = some F → Sound Tryz.prog GW B0G f F := by
  intro f q F h
  unfold ref2_isPart_fn at h
  split at h
  · cases h; exact strings_IndexByte_sound
  · cases h
def ref2_isPart_h : Nat → Hint := fun i =>
  match i with
  | 0 => ⟨[], [0, 6, 7], [], [0], [], []⟩
  | _ => ⟨[], [], [], [], [], []⟩
abbrev ref2_isPart_E (N : Nat) : Env := mkE ref2_isPart_h (ref2_isPart_fn N) (fun _ => false) (fun _ => false)
abbrev ref2_isPart_L0_fs : List (Nat × Sl) := [(0, .v .str), (6, .v (.int .i64)), (7, .v (.int .i64))]
abbrev ref2_isPart_L0_bs : List (Nat × Sb) := []
def ref2_isPart_L0_hd (x0 : Str) (c6 : Int) (s7 : Int) : St := ⟨51, [(0, .v .str x0), (6, .v (.int .i64) c6), (7, .v (.int .i64) s7)], []⟩
def ref2_isPart_L0_tl0 (x0 : Str) (_c6 : Int) : St := ⟨51, [(0, .v .str x0)], []⟩
def ref2_isPart_L0_G (N : Nat) (x0 : Str) (c6 : Int) (s7 : Int) (k : Ex → St → Option Bool) : Option Bool :=
  ref2_isPart_L0 N x0 c6 (k (.exit 0) (ref2_isPart_L0_tl0 x0 c6)) N s7
abbrev ref2_isPart_L0_F (N : Nat) : FV ref2_isPart_L0_fs → HV ref2_isPart_L0_bs → (Ex → St → Option Bool) → Option Bool := fun x _ k => ref2_isPart_L0_G N x.1 x.2.1 x.2.2.1 k
noncomputable def ref2_isPart_LP (N : Nat) : Nat → Code → St → (Ex → St → Option Bool) → Option Bool := fun i c =>
  match i with
  | 0 => (LPc 51 ref2_isPart_L0_fs ref2_isPart_L0_bs (ref2_isPart_L0_F N) (fun st k => iter (ref2_isPart_h 0) (exec (ref2_isPart_E N) N c 0) N st k))
  | i => fun st k => iter (ref2_isPart_h i) (exec (ref2_isPart_E N) N c i) N st k
theorem ref2_isPart_L0_step (N : Nat) (x0 : Str) (c6 : Int) (KX : Nat → St → Option Bool) (I : St → Option Bool) (s7 : Int) :
    execL (ref2_isPart_LP N) (ref2_isPart_E N) (cAt (bodyOf Tryz.f108) [true, false, true, false, false]) 0 (ref2_isPart_L0_hd x0 c6 s7) (roundK (ref2_isPart_h 0) I KX (resD (ref2_isPart_E N) Tryz.f108 (ref2_isPart_sg fun x _ => ref2_isPart N x.1) ref2_isPart_pk)) = ref2_isPart_L0T N x0 c6 (KX 0 (ref2_isPart_L0_tl0 x0 c6)) (fun s7 => I (ref2_isPart_L0_hd x0 c6 s7)) s7 := by kernel_rfl
theorem ref2_isPart_L0_ok (N : Nat) : ∀ x y k, (∀ st, k .ret st = (resD (ref2_isPart_E N) Tryz.f108 (ref2_isPart_sg fun x _ => ref2_isPart N x.1) ref2_isPart_pk) st) → iter (ref2_isPart_h 0) (exec (ref2_isPart_E N) N (cAt (bodyOf Tryz.f108) [true, false, true, false, false]) 0) N ⟨51, unF ref2_isPart_L0_fs x, unH ref2_isPart_L0_bs y⟩ k = ref2_isPart_L0_F N x y k := fun x _ k hk =>
  iter_link (S := (Int) × Unit) (ref2_isPart_h 0) _ (execL (ref2_isPart_LP N) (ref2_isPart_E N) (cAt (bodyOf Tryz.f108) [true, false, true, false, false]) 0) (resD (ref2_isPart_E N) Tryz.f108 (ref2_isPart_sg fun x _ => ref2_isPart N x.1) ref2_isPart_pk) (fun st k hk => execL_eq _ _ N _ (cAt (bodyOf Tryz.f108) [true, false, true, false, false]) 0 (show LoopsOk (ref2_isPart_LP N) (ref2_isPart_E N) N (resD (ref2_isPart_E N) Tryz.f108 (ref2_isPart_sg fun x _ => ref2_isPart N x.1) ref2_isPart_pk) [] from trivial) st k hk) (fun s => ref2_isPart_L0_hd x.1 x.2.1 s.1) k hk
    (fun self s => ref2_isPart_L0T N x.1 x.2.1 (k (.exit 0) (ref2_isPart_L0_tl0 x.1 x.2.1)) (fun s7 => self (s7, ())) s.1) (fun n s => ref2_isPart_L0 N x.1 x.2.1 (k (.exit 0) (ref2_isPart_L0_tl0 x.1 x.2.1)) n s.1) (fun _ => rfl) (fun _ _ => rfl)
    (fun I s => ref2_isPart_L0_step N x.1 x.2.1 (fun j => k (.exit j)) I s.1) N (x.2.2.1, ())
theorem ref2_isPart_lp0 (N : Nat) : ∀ st k, (∀ st, k .ret st = (resD (ref2_isPart_E N) Tryz.f108 (ref2_isPart_sg fun x _ => ref2_isPart N x.1) ref2_isPart_pk) st) → ref2_isPart_LP N 0 (cAt (bodyOf Tryz.f108) [true, false, true, false, false]) st k = iter (Env.hint (ref2_isPart_E N) 0) (exec (ref2_isPart_E N) N (cAt (bodyOf Tryz.f108) [true, false, true, false, false]) 0) N st k := fun st k hk => LPc_eq 51 ref2_isPart_L0_fs ref2_isPart_L0_bs _ _ (resD (ref2_isPart_E N) Tryz.f108 (ref2_isPart_sg fun x _ => ref2_isPart N x.1) ref2_isPart_pk) (ref2_isPart_L0_ok N) _ st k hk (rfl)
theorem ref2_isPart_core (N : Nat) (x : SV [.v .str]) (y : BV []) : runL (ref2_isPart_E N) Tryz.f108 (ref2_isPart_sg fun x _ => ref2_isPart N x.1) ref2_isPart_pk (ref2_isPart_LP N) x y = ref2_isPart N x.1 := by kernel_rfl
theorem ref2_isPart_sound (N : Nat) : Sound Tryz.prog GW B0G 108 (ref2_isPart_sg fun x _ => ref2_isPart N x.1) :=
  runD_sound (mkE_ok ref2_isPart_h (ref2_isPart_fn N) _ _ (ref2_isPart_fn_ok N)) Tryz.func108 rfl Tryz.call108 (ref2_isPart_sg fun x _ => ref2_isPart N x.1) ref2_isPart_pk (fun _ _ => rfl) N (fun x y _ h => ((runL_eq (ref2_isPart_E N) N Tryz.f108 (ref2_isPart_sg fun x _ => ref2_isPart N x.1) ref2_isPart_pk (ref2_isPart_LP N) (show LoopsOk (ref2_isPart_LP N) (ref2_isPart_E N) N (resD (ref2_isPart_E N) Tryz.f108 (ref2_isPart_sg fun x _ => ref2_isPart N x.1) ref2_isPart_pk) [(0, (cAt (bodyOf Tryz.f108) [true, false, true, false, false]))] from ⟨ref2_isPart_lp0 N, trivial⟩) x y).trans (ref2_isPart_core N x y)).trans h)
def ref2_within (_N : Nat) (x0 : Int) (x1 : Int) (x2 : Int) : Option Bool :=
  br (decide (x1 ≤ x0))
    (some (decide (x0 ≤ x2)))
    (some false)
abbrev ref2_within_sg (f : SV [.v (.int .i64), .v (.int .i64), .v (.int .i64)] → BV [] → Option (Bool)) : AF := { ps := [.v (.int .i64), .v (.int .i64), .v (.int .i64)], bs := [], rs := [.v .bool], cs := [], R := Bool, out := fun z => ((z, ()), ()), f := f }
abbrev ref2_within_pk : SV [.v .bool] → BV [] → Bool := fun x _ => x.1
def ref2_within_fn (_N : Nat) : FuncId → Option Tmp → Option AF := fun f _ =>
  match f with
    | _ => none
theorem ref2_within_fn_ok (N : Nat) : ∀ f q F, ref2_within_fn N f q = some F → Sound Tryz.prog GW B0G f F := by
  intro f q F h
  unfold ref2_within_fn at h
  split at h
  · cases h
def ref2_within_h : Nat → Hint := fun i =>
  match i with
  | _ => ⟨[], [], [], [], [], []⟩
abbrev ref2_within_E (N : Nat) : Env := mkE ref2_within_h (ref2_within_fn N) (fun _ => false) (fun _ => false)
noncomputable def ref2_within_LP (N : Nat) : Nat → Code → St → (Ex → St → Option Bool) → Option Bool := fun i c =>
  match i with
  | i => fun st k => iter (ref2_within_h i) (exec (ref2_within_E N) N c i) N st k
theorem ref2_within_core (N : Nat) (x : SV [.v (.int .i64), .v (.int .i64), .v (.int .i64)]) (y : BV []) : runL (ref2_within_E N) Tryz.f47 (ref2_within_sg fun x _ => ref2_within N x.1 x.2.1 x.2.2.1) ref2_within_pk (ref2_within_LP N) x y = ref2_within N x.1 x.2.1 x.2.2.1 := by kernel_rfl
theorem ref2_within_sound (N : Nat) : Sound Tryz.prog GW B0G 47 (ref2_within_sg fun x _ => ref2_within N x.1 x.2.1 x.2.2.1) :=
  runD_sound (mkE_ok ref2_within_h (ref2_within_fn N) _ _ (ref2_within_fn_ok N)) Tryz.func47 rfl Tryz.call47 (ref2_within_sg fun x _ => ref2_within N x.1 x.2.1 x.2.2.1) ref2_within_pk (fun _ _ => rfl) N (fun x y _ h => ((runL_eq (ref2_within_E N) N Tryz.f47 (ref2_within_sg fun x _ => ref2_within N x.1 x.2.1 x.2.2.1) ref2_within_pk (ref2_within_LP N) (show LoopsOk (ref2_within_LP N) (ref2_within_E N) N (resD (ref2_within_E N) Tryz.f47 (ref2_within_sg fun x _ => ref2_within N x.1 x.2.1 x.2.2.1) ref2_within_pk) [] from trivial) x y).trans (ref2_within_core N x y)).trans h)
def ref2_IsPath_L0T (N : Nat) (t6 : List Str) (c7 : Int) (k0 : Option Bool) (self : Int → Option Bool) (s8 : Int) : Option Bool :=
  br (decide (s8 < c7))
    (bnd (geti t6 s8) fun t10 =>
    bnd (ref2_isPart N t10) fun t13 =>
    br (!t13)
      (some false)
      (self (IntKind.i64.wrap (s8 + (1 : Int)))))
    (k0)
def ref2_IsPath_L0 (N : Nat) (t6 : List Str) (c7 : Int) (k0 : Option Bool) : Nat → Int → Option Bool
  | 0, _ => none
  | n + 1, s8 => ref2_IsPath_L0T N t6 c7 k0 (ref2_IsPath_L0 N t6 c7 k0 n) s8
def ref2_IsPath (N : Nat) (x0 : Str) : Option Bool :=
  bnd (strings_Split x0 ([47] : Str)) fun t6 =>
  ref2_IsPath_L0 N t6 (t6.length : Int) (bnd (ref2_within N (x0.length : Int) (1 : Int) (200 : Int)) fun t18 =>
      some t18) N (0 : Int)
abbrev ref2_IsPath_sg (f : SV [.v .str] → BV [] → Option (Bool)) : AF := { ps := [.v .str], bs := [], rs := [.v .bool], cs := [], R := Bool, out := fun z => ((z, ()), ()), f := f }
abbrev ref2_IsPath_pk : SV [.v .bool] → BV [] → Bool := fun x _ => x.1
def ref2_IsPath_fn (N : Nat) : FuncId → Option Tmp → Option AF := fun f _ =>
  match f with
    | 47 => some (ref2_within_sg fun x _ => ref2_within N x.1 x.2.1 x.2.2.1)
    | 103 => some (strings_Split_sg fun x _ => strings_Split x.1 x.2.1)
    | 108 => some (ref2_isPart_sg fun x _ => ref2_isPart N x.1)
    | _ => none
theorem ref2_IsPath_fn_ok (N : Nat) : ∀ f q F, ref2_IsPath_fn N f q = some F → Sound Tryz.prog GW B0G f F := by
  intro f q F h
  unfold ref2_IsPath_fn at h
  split at h
  · cases h; exact ref2_within_sound N
  · cases h; exact strings_Split_sound
  · cases h; exact ref2_isPart_sound N
  · cases h
def ref2_IsPath_h : Nat → Hint := fun i =>
  match i with
  | 0 => ⟨[], [0, 6, 7, 8], [], [0], [], []⟩
  | _ => ⟨[], [], [], [], [], []⟩
abbrev ref2_IsPath_E (N : Nat) : Env := mkE ref2_IsPath_h (ref2_IsPath_fn N) (fun _ => false) (fun _ => false)
abbrev ref2_IsPath_L0_fs : List (Nat × Sl) := [(0, .v .str), (6, .v (.sl .str)), (7, .v (.int .i64)), (8, .v (.int .i64))]
abbrev ref2_IsPath_L0_bs : List (Nat × Sb) := []
def ref2_IsPath_L0_hd (x0 : Str) (t6 : List Str) (c7 : Int) (s8 : Int) : St := ⟨19, [(0, .v .str x0), (6, .v (.sl .str) t6), (7, .v (.int .i64) c7), (8, .v (.int .i64) s8)], []⟩
def ref2_IsPath_L0_tl0 (x0 : Str) (_t6 : List Str) (_c7 : Int) : St := ⟨19, [(0, .v .str x0)], []⟩
def ref2_IsPath_L0_G (N : Nat) (x0 : Str) (t6 : List Str) (c7 : Int) (s8 : Int) (k : Ex → St → Option Bool) : Option Bool :=
  ref2_IsPath_L0 N t6 c7 (k (.exit 0) (ref2_IsPath_L0_tl0 x0 t6 c7)) N s8
abbrev ref2_IsPath_L0_F (N : Nat) : FV ref2_IsPath_L0_fs → HV ref2_IsPath_L0_bs → (Ex → St → Option Bool) → Option Bool := fun x _ k => ref2_IsPath_L0_G N x.1 x.2.1 x.2.2.1 x.2.2.2.1 k
noncomputable def ref2_IsPath_LP (N : Nat) : Nat → Code → St → (Ex → St → Option Bool) → Option Bool := fun i c =>
  match i with
  | 0 => (LPc 19 ref2_IsPath_L0_fs ref2_IsPath_L0_bs (ref2_IsPath_L0_F N) (fun st k => iter (ref2_IsPath_h 0) (exec (ref2_IsPath_E N) N c 0) N st k))
  | i => fun st k => iter (ref2_IsPath_h i) (exec (ref2_IsPath_E N) N c i) N st k
theorem ref2_IsPath_L0_step (N : Nat) (x0 : Str) (t6 : List Str) (c7 : Int) (KX : Nat → St → Option Bool) (I : St → Option Bool) (s8 : Int) :
    execL (ref2_IsPath_LP N) (ref2_IsPath_E N) (cAt (bodyOf Tryz.f62) [true, false, true, false, false]) 0 (ref2_IsPath_L0_hd x0 t6 c7 s8) (roundK (ref2_IsPath_h 0) I KX (resD (ref2_IsPath_E N) Tryz.f62 (ref2_IsPath_sg fun x _ => ref2_IsPath N x.1) ref2_IsPath_pk)) = ref2_IsPath_L0T N t6 c7 (KX 0 (ref2_IsPath_L0_tl0 x0 t6 c7)) (fun s8 => I (ref2_IsPath_L0_hd x0 t6 c7 s8)) s8 := by kernel_rfl
theorem ref2_IsPath_L0_ok (N : Nat) : ∀ x y k, (∀ st, k .ret st = (resD (ref2_IsPath_E N) Tryz.f62 (ref2_IsPath_sg fun x _ => ref2_IsPath N x.1) ref2_IsPath_pk) st) → iter (ref2_IsPath_h 0) (exec (ref2_IsPath_E N) N (cAt (bodyOf Tryz.f62) [true, false, true, false, false]) 0) N ⟨19, unF ref2_IsPath_L0_fs x, unH ref2_IsPath_L0_bs y⟩ k = ref2_IsPath_L0_F N x y k := fun x _ k hk =>
  iter_link (S := (Int) × Unit) (ref2_IsPath_h 0) _ (execL (ref2_IsPath_LP N) (ref2_IsPath_E N) (cAt (bodyOf Tryz.f62) [true, false, true, false, false]) 0) (resD (ref2_IsPath_E N) Tryz.f62 (ref2_IsPath_sg fun x _ => ref2_IsPath N x.1) ref2_IsPath_pk) (fun st k hk => execL_eq _ _ N _ (cAt (bodyOf Tryz.f62) [true, false, true, false, false]) 0 (show LoopsOk (ref2_IsPath_LP N) (ref2_IsPath_E N) N (resD (ref2_IsPath_E N) Tryz.f62 (ref2_IsPath_sg fun x _ => ref2_IsPath N x.1) ref2_IsPath_pk) [] from trivial) st k hk) (fun s => ref2_IsPath_L0_hd x.1 x.2.1 x.2.2.1 s.1) k hk
    (fun self s => ref2_IsPath_L0T N x.2.1 x.2.2.1 (k (.exit 0) (ref2_IsPath_L0_tl0 x.1 x.2.1 x.2.2.1)) (fun s8 => self (s8, ())) s.1) (fun n s => ref2_IsPath_L0 N x.2.1 x.2.2.1 (k (.exit 0) (ref2_IsPath_L0_tl0 x.1 x.2.1 x.2.2.1)) n s.1) (fun _ => rfl) (fun _ _ => rfl)
    (fun I s => ref2_IsPath_L0_step N x.1 x.2.1 x.2.2.1 (fun j => k (.exit j)) I s.1) N (x.2.2.2.1, ())
theorem ref2_IsPath_lp0 (N : Nat) : ∀ st k, (∀ st, k .ret st = (resD (ref2_IsPath_E N) Tryz.f62 (ref2_IsPath_sg fun x _ => ref2_IsPath N x.1) ref2_IsPath_pk) st) → ref2_IsPath_LP N 0 (cAt (bodyOf Tryz.f62) [true, false, true, false, false]) st k = iter (Env.hint (ref2_IsPath_E N) 0) (exec (ref2_IsPath_E N) N (cAt (bodyOf Tryz.f62) [true, false, true, false, false]) 0) N st k := fun st k hk => LPc_eq 19 ref2_IsPath_L0_fs ref2_IsPath_L0_bs _ _ (resD (ref2_IsPath_E N) Tryz.f62 (ref2_IsPath_sg fun x _ => ref2_IsPath N x.1) ref2_IsPath_pk) (ref2_IsPath_L0_ok N) _ st k hk (rfl)
theorem ref2_IsPath_core (N : Nat) (x : SV [.v .str]) (y : BV []) : runL (ref2_IsPath_E N) Tryz.f62 (ref2_IsPath_sg fun x _ => ref2_IsPath N x.1) ref2_IsPath_pk (ref2_IsPath_LP N) x y = ref2_IsPath N x.1 := by kernel_rfl
theorem ref2_IsPath_sound (N : Nat) : Sound Tryz.prog GW B0G 62 (ref2_IsPath_sg fun x _ => ref2_IsPath N x.1) :=
  runD_sound (mkE_ok ref2_IsPath_h (ref2_IsPath_fn N) _ _ (ref2_IsPath_fn_ok N)) Tryz.func62 rfl Tryz.call62 (ref2_IsPath_sg fun x _ => ref2_IsPath N x.1) ref2_IsPath_pk (fun _ _ => rfl) N (fun x y _ h => ((runL_eq (ref2_IsPath_E N) N Tryz.f62 (ref2_IsPath_sg fun x _ => ref2_IsPath N x.1) ref2_IsPath_pk (ref2_IsPath_LP N) (show LoopsOk (ref2_IsPath_LP N) (ref2_IsPath_E N) N (resD (ref2_IsPath_E N) Tryz.f62 (ref2_IsPath_sg fun x _ => ref2_IsPath N x.1) ref2_IsPath_pk) [(0, (cAt (bodyOf Tryz.f62) [true, false, true, false, false]))] from ⟨ref2_IsPath_lp0 N, trivial⟩) x y).trans (ref2_IsPath_core N x y)).trans h)
def ref2_isPkg (N : Nat) (x0 : Str) : Option Bool :=
  br (x0 == ([] : Str))
    (some true)
    (bnd (ref2_IsPath N x0) fun t7 =>
    some t7)
abbrev ref2_isPkg_sg (f : SV [.v .str] → BV [] → Option (Bool)) : AF := { ps := [.v .str], bs := [], rs := [.v .bool], cs := [], R := Bool, out := fun z => ((z, ()), ()), f := f }
abbrev ref2_isPkg_pk : SV [.v .bool] → BV [] → Bool := fun x _ => x.1
def ref2_isPkg_fn (N : Nat) : FuncId → Option Tmp → Option AF := fun f _ =>
  match f with
    | 62 => some (ref2_IsPath_sg fun x _ => ref2_IsPath N x.1)
    | _ => none
theorem ref2_isPkg_fn_ok (N : Nat) : ∀ f q F, ref2_isPkg_fn N f q = some F → Sound Tryz.prog GW B0G f F := by
  intro f q F h
  unfold ref2_isPkg_fn at h
  split at h
  · cases h; exact ref2_IsPath_sound N
  · cases h
def ref2_isPkg_h : Nat → Hint := fun i =>
  match i with
  | _ => ⟨[], [], [], [], [], []⟩
abbrev ref2_isPkg_E (N : Nat) : Env := mkE ref2_isPkg_h (ref2_isPkg_fn N) (fun _ => false) (fun _ => false)
noncomputable def ref2_isPkg_LP (N : Nat) : Nat → Code → St → (Ex → St → Option Bool) → Option Bool := fun i c =>
  match i with
  | i => fun st k => iter (ref2_isPkg_h i) (exec (ref2_isPkg_E N) N c i) N st k
theorem ref2_isPkg_core (N : Nat) (x : SV [.v .str]) (y : BV []) : runL (ref2_isPkg_E N) Tryz.f57 (ref2_isPkg_sg fun x _ => ref2_isPkg N x.1) ref2_isPkg_pk (ref2_isPkg_LP N) x y = ref2_isPkg N x.1 := by kernel_rfl
theorem ref2_isPkg_sound (N : Nat) : Sound Tryz.prog GW B0G 57 (ref2_isPkg_sg fun x _ => ref2_isPkg N x.1) :=
  runD_sound (mkE_ok ref2_isPkg_h (ref2_isPkg_fn N) _ _ (ref2_isPkg_fn_ok N)) Tryz.func57 rfl Tryz.call57 (ref2_isPkg_sg fun x _ => ref2_isPkg N x.1) ref2_isPkg_pk (fun _ _ => rfl) N (fun x y _ h => ((runL_eq (ref2_isPkg_E N) N Tryz.f57 (ref2_isPkg_sg fun x _ => ref2_isPkg N x.1) ref2_isPkg_pk (ref2_isPkg_LP N) (show LoopsOk (ref2_isPkg_LP N) (ref2_isPkg_E N) N (resD (ref2_isPkg_E N) Tryz.f57 (ref2_isPkg_sg fun x _ => ref2_isPkg N x.1) ref2_isPkg_pk) [] from trivial) x y).trans (ref2_isPkg_core N x y)).trans h)
end
end Go.Proofs.YtahjncefiegflaaGreatDoor


/- What functions of the program compute, as plain functions (printed). -/
namespace Go.Proofs.YtahjncefiegflaaGreatDoor
open Go Go.RowKit
set_option maxRecDepth 100000
set_option linter.unusedVariables false
noncomputable section
def script_CheckValue_1 (_N : Nat) (x0 : Str) : Option Bool :=
  some (decide ((x0.length : Int) > (1000 : Int)))
abbrev script_CheckValue_1_sg (f : SV [.v .str] → BV [] → Option (Bool)) : AF := { ps := [.v .str], bs := [], rs := [.v .bool], cs := [], R := Bool, out := fun z => ((z, ()), ()), f := f }
abbrev script_CheckValue_1_pk : SV [.v .bool] → BV [] → Bool := fun x _ => x.1
def script_CheckValue_1_fn (_N : Nat) : FuncId → Option Tmp → Option AF := fun f _ =>
  match f with
    | _ => none
theorem script_CheckValue_1_fn_ok (N : Nat) : ∀ f q F, script_CheckValue_1_fn N f q = some F → Sound Tryz.prog GW B0G f F := by
  intro f q F h
  unfold script_CheckValue_1_fn at h
  split at h
  · cases h
def script_CheckValue_1_h : Nat → Hint := fun i =>
  match i with
  | _ => ⟨[], [], [], [], [], []⟩
abbrev script_CheckValue_1_E (N : Nat) : Env := mkE script_CheckValue_1_h (script_CheckValue_1_fn N) (fun _ => false) (fun _ => false)
noncomputable def script_CheckValue_1_LP (N : Nat) : Nat → Code → St → (Ex → St → Option Bool) → Option Bool := fun i c =>
  match i with
  | i => fun st k => iter (script_CheckValue_1_h i) (exec (script_CheckValue_1_E N) N c i) N st k
theorem script_CheckValue_1_core (N : Nat) (x : SV [.v .str]) (y : BV []) : runL (script_CheckValue_1_E N) Tryz.f41 (script_CheckValue_1_sg fun x _ => script_CheckValue_1 N x.1) script_CheckValue_1_pk (script_CheckValue_1_LP N) x y = script_CheckValue_1 N x.1 := by kernel_rfl
theorem script_CheckValue_1_sound (N : Nat) : Sound Tryz.prog GW B0G 41 (script_CheckValue_1_sg fun x _ => script_CheckValue_1 N x.1) :=
  runD_sound (mkE_ok script_CheckValue_1_h (script_CheckValue_1_fn N) _ _ (script_CheckValue_1_fn_ok N)) Tryz.func41 rfl Tryz.call41 (script_CheckValue_1_sg fun x _ => script_CheckValue_1 N x.1) script_CheckValue_1_pk (fun _ _ => rfl) N (fun x y _ h => ((runL_eq (script_CheckValue_1_E N) N Tryz.f41 (script_CheckValue_1_sg fun x _ => script_CheckValue_1 N x.1) script_CheckValue_1_pk (script_CheckValue_1_LP N) (show LoopsOk (script_CheckValue_1_LP N) (script_CheckValue_1_E N) N (resD (script_CheckValue_1_E N) Tryz.f41 (script_CheckValue_1_sg fun x _ => script_CheckValue_1 N x.1) script_CheckValue_1_pk) [] from trivial) x y).trans (script_CheckValue_1_core N x y)).trans h)
def script_isText_L0T (_N : Nat) (x0 : Str) (c5 : Int) (k0 : Option Bool) (self : Int → Option Bool) (s6 : Int) : Option Bool :=
  br (decide (s6 < c5))
    (bnd (geti x0 s6) fun t11 =>
    br (t11 != (10 : UInt8))
      (bnd (geti x0 s6) fun t16 =>
      br (decide (t16 < (32 : UInt8)))
        (some false)
        (bnd (geti x0 s6) fun t21 =>
        br (decide (t21 > (126 : UInt8)))
          (some false)
          (self (IntKind.i64.wrap (s6 + (1 : Int))))))
      (self (IntKind.i64.wrap (s6 + (1 : Int)))))
    (k0)
def script_isText_L0 (N : Nat) (x0 : Str) (c5 : Int) (k0 : Option Bool) : Nat → Int → Option Bool
  | 0, _ => none
  | n + 1, s6 => script_isText_L0T N x0 c5 k0 (script_isText_L0 N x0 c5 k0 n) s6
def script_isText (N : Nat) (x0 : Str) : Option Bool :=
  script_isText_L0 N x0 (x0.length : Int) (some true) N (0 : Int)
abbrev script_isText_sg (f : SV [.v .str] → BV [] → Option (Bool)) : AF := { ps := [.v .str], bs := [], rs := [.v .bool], cs := [], R := Bool, out := fun z => ((z, ()), ()), f := f }
abbrev script_isText_pk : SV [.v .bool] → BV [] → Bool := fun x _ => x.1
def script_isText_fn (_N : Nat) : FuncId → Option Tmp → Option AF := fun f _ =>
  match f with
    | _ => none
theorem script_isText_fn_ok (N : Nat) : ∀ f q F, script_isText_fn N f q = some F → Sound Tryz.prog GW B0G f F := by
  intro f q F h
  unfold script_isText_fn at h
  split at h
  · cases h
def script_isText_h : Nat → Hint := fun i =>
  match i with
  | 0 => ⟨[], [0, 5, 6], [], [], [], []⟩
  | _ => ⟨[], [], [], [], [], []⟩
abbrev script_isText_E (N : Nat) : Env := mkE script_isText_h (script_isText_fn N) (fun _ => false) (fun _ => false)
abbrev script_isText_L0_fs : List (Nat × Sl) := [(0, .v .str), (5, .v (.int .i64)), (6, .v (.int .i64))]
abbrev script_isText_L0_bs : List (Nat × Sb) := []
def script_isText_L0_hd (x0 : Str) (c5 : Int) (s6 : Int) : St := ⟨26, [(0, .v .str x0), (5, .v (.int .i64) c5), (6, .v (.int .i64) s6)], []⟩
def script_isText_L0_tl0 (_x0 : Str) (_c5 : Int) : St := ⟨26, [], []⟩
def script_isText_L0_G (N : Nat) (x0 : Str) (c5 : Int) (s6 : Int) (k : Ex → St → Option Bool) : Option Bool :=
  script_isText_L0 N x0 c5 (k (.exit 0) (script_isText_L0_tl0 x0 c5)) N s6
abbrev script_isText_L0_F (N : Nat) : FV script_isText_L0_fs → HV script_isText_L0_bs → (Ex → St → Option Bool) → Option Bool := fun x _ k => script_isText_L0_G N x.1 x.2.1 x.2.2.1 k
noncomputable def script_isText_LP (N : Nat) : Nat → Code → St → (Ex → St → Option Bool) → Option Bool := fun i c =>
  match i with
  | 0 => (LPc 26 script_isText_L0_fs script_isText_L0_bs (script_isText_L0_F N) (fun st k => iter (script_isText_h 0) (exec (script_isText_E N) N c 0) N st k))
  | i => fun st k => iter (script_isText_h i) (exec (script_isText_E N) N c i) N st k
theorem script_isText_L0_step (N : Nat) (x0 : Str) (c5 : Int) (KX : Nat → St → Option Bool) (I : St → Option Bool) (s6 : Int) :
    execL (script_isText_LP N) (script_isText_E N) (cAt (bodyOf Tryz.f42) [true, false, true, false, false]) 0 (script_isText_L0_hd x0 c5 s6) (roundK (script_isText_h 0) I KX (resD (script_isText_E N) Tryz.f42 (script_isText_sg fun x _ => script_isText N x.1) script_isText_pk)) = script_isText_L0T N x0 c5 (KX 0 (script_isText_L0_tl0 x0 c5)) (fun s6 => I (script_isText_L0_hd x0 c5 s6)) s6 := by kernel_rfl
theorem script_isText_L0_ok (N : Nat) : ∀ x y k, (∀ st, k .ret st = (resD (script_isText_E N) Tryz.f42 (script_isText_sg fun x _ => script_isText N x.1) script_isText_pk) st) → iter (script_isText_h 0) (exec (script_isText_E N) N (cAt (bodyOf Tryz.f42) [true, false, true, false, false]) 0) N ⟨26, unF script_isText_L0_fs x, unH script_isText_L0_bs y⟩ k = script_isText_L0_F N x y k := fun x _ k hk =>
  iter_link (S := (Int) × Unit) (script_isText_h 0) _ (execL (script_isText_LP N) (script_isText_E N) (cAt (bodyOf Tryz.f42) [true, false, true, false, false]) 0) (resD (script_isText_E N) Tryz.f42 (script_isText_sg fun x _ => script_isText N x.1) script_isText_pk) (fun st k hk => execL_eq _ _ N _ (cAt (bodyOf Tryz.f42) [true, false, true, false, false]) 0 (show LoopsOk (script_isText_LP N) (script_isText_E N) N (resD (script_isText_E N) Tryz.f42 (script_isText_sg fun x _ => script_isText N x.1) script_isText_pk) [] from trivial) st k hk) (fun s => script_isText_L0_hd x.1 x.2.1 s.1) k hk
    (fun self s => script_isText_L0T N x.1 x.2.1 (k (.exit 0) (script_isText_L0_tl0 x.1 x.2.1)) (fun s6 => self (s6, ())) s.1) (fun n s => script_isText_L0 N x.1 x.2.1 (k (.exit 0) (script_isText_L0_tl0 x.1 x.2.1)) n s.1) (fun _ => rfl) (fun _ _ => rfl)
    (fun I s => script_isText_L0_step N x.1 x.2.1 (fun j => k (.exit j)) I s.1) N (x.2.2.1, ())
theorem script_isText_lp0 (N : Nat) : ∀ st k, (∀ st, k .ret st = (resD (script_isText_E N) Tryz.f42 (script_isText_sg fun x _ => script_isText N x.1) script_isText_pk) st) → script_isText_LP N 0 (cAt (bodyOf Tryz.f42) [true, false, true, false, false]) st k = iter (Env.hint (script_isText_E N) 0) (exec (script_isText_E N) N (cAt (bodyOf Tryz.f42) [true, false, true, false, false]) 0) N st k := fun st k hk => LPc_eq 26 script_isText_L0_fs script_isText_L0_bs _ _ (resD (script_isText_E N) Tryz.f42 (script_isText_sg fun x _ => script_isText N x.1) script_isText_pk) (script_isText_L0_ok N) _ st k hk (rfl)
theorem script_isText_core (N : Nat) (x : SV [.v .str]) (y : BV []) : runL (script_isText_E N) Tryz.f42 (script_isText_sg fun x _ => script_isText N x.1) script_isText_pk (script_isText_LP N) x y = script_isText N x.1 := by kernel_rfl
theorem script_isText_sound (N : Nat) : Sound Tryz.prog GW B0G 42 (script_isText_sg fun x _ => script_isText N x.1) :=
  runD_sound (mkE_ok script_isText_h (script_isText_fn N) _ _ (script_isText_fn_ok N)) Tryz.func42 rfl Tryz.call42 (script_isText_sg fun x _ => script_isText N x.1) script_isText_pk (fun _ _ => rfl) N (fun x y _ h => ((runL_eq (script_isText_E N) N Tryz.f42 (script_isText_sg fun x _ => script_isText N x.1) script_isText_pk (script_isText_LP N) (show LoopsOk (script_isText_LP N) (script_isText_E N) N (resD (script_isText_E N) Tryz.f42 (script_isText_sg fun x _ => script_isText N x.1) script_isText_pk) [(0, (cAt (bodyOf Tryz.f42) [true, false, true, false, false]))] from ⟨script_isText_lp0 N, trivial⟩) x y).trans (script_isText_core N x y)).trans h)
def script_CheckValue_2 (N : Nat) (x0 : Str) : Option Bool :=
  bnd (script_isText N x0) fun t4 =>
  some (!t4)
abbrev script_CheckValue_2_sg (f : SV [.v .str] → BV [] → Option (Bool)) : AF := { ps := [.v .str], bs := [], rs := [.v .bool], cs := [], R := Bool, out := fun z => ((z, ()), ()), f := f }
abbrev script_CheckValue_2_pk : SV [.v .bool] → BV [] → Bool := fun x _ => x.1
def script_CheckValue_2_fn (N : Nat) : FuncId → Option Tmp → Option AF := fun f _ =>
  match f with
    | 42 => some (script_isText_sg fun x _ => script_isText N x.1)
    | _ => none
theorem script_CheckValue_2_fn_ok (N : Nat) : ∀ f q F, script_CheckValue_2_fn N f q = some F → Sound Tryz.prog GW B0G f F := by
  intro f q F h
  unfold script_CheckValue_2_fn at h
  split at h
  · cases h; exact script_isText_sound N
  · cases h
def script_CheckValue_2_h : Nat → Hint := fun i =>
  match i with
  | _ => ⟨[], [], [], [], [], []⟩
abbrev script_CheckValue_2_E (N : Nat) : Env := mkE script_CheckValue_2_h (script_CheckValue_2_fn N) (fun _ => false) (fun _ => false)
noncomputable def script_CheckValue_2_LP (N : Nat) : Nat → Code → St → (Ex → St → Option Bool) → Option Bool := fun i c =>
  match i with
  | i => fun st k => iter (script_CheckValue_2_h i) (exec (script_CheckValue_2_E N) N c i) N st k
theorem script_CheckValue_2_core (N : Nat) (x : SV [.v .str]) (y : BV []) : runL (script_CheckValue_2_E N) Tryz.f43 (script_CheckValue_2_sg fun x _ => script_CheckValue_2 N x.1) script_CheckValue_2_pk (script_CheckValue_2_LP N) x y = script_CheckValue_2 N x.1 := by kernel_rfl
theorem script_CheckValue_2_sound (N : Nat) : Sound Tryz.prog GW B0G 43 (script_CheckValue_2_sg fun x _ => script_CheckValue_2 N x.1) :=
  runD_sound (mkE_ok script_CheckValue_2_h (script_CheckValue_2_fn N) _ _ (script_CheckValue_2_fn_ok N)) Tryz.func43 rfl Tryz.call43 (script_CheckValue_2_sg fun x _ => script_CheckValue_2 N x.1) script_CheckValue_2_pk (fun _ _ => rfl) N (fun x y _ h => ((runL_eq (script_CheckValue_2_E N) N Tryz.f43 (script_CheckValue_2_sg fun x _ => script_CheckValue_2 N x.1) script_CheckValue_2_pk (script_CheckValue_2_LP N) (show LoopsOk (script_CheckValue_2_LP N) (script_CheckValue_2_E N) N (resD (script_CheckValue_2_E N) Tryz.f43 (script_CheckValue_2_sg fun x _ => script_CheckValue_2 N x.1) script_CheckValue_2_pk) [] from trivial) x y).trans (script_CheckValue_2_core N x y)).trans h)
def script_checkText (N : Nat) (x0 : Str) : Option Int :=
  br (decide ((x0.length : Int) > (1000 : Int)))
    (some (2 : Int))
    (bnd (script_isText N x0) fun t7 =>
    br (!t7)
      (some (3 : Int))
      (some (0 : Int)))
abbrev script_checkText_sg (f : SV [.v .str] → BV [] → Option (Int)) : AF := { ps := [.v .str], bs := [], rs := [.v (.int .i64)], cs := [], R := Int, out := fun z => ((z, ()), ()), f := f }
abbrev script_checkText_pk : SV [.v (.int .i64)] → BV [] → Int := fun x _ => x.1
def script_checkText_fn (N : Nat) : FuncId → Option Tmp → Option AF := fun f _ =>
  match f with
    | 42 => some (script_isText_sg fun x _ => script_isText N x.1)
    | _ => none
theorem script_checkText_fn_ok (N : Nat) : ∀ f q F, script_checkText_fn N f q = some F → Sound Tryz.prog GW B0G f F := by
  intro f q F h
  unfold script_checkText_fn at h
  split at h
  · cases h; exact script_isText_sound N
  · cases h
def script_checkText_h : Nat → Hint := fun i =>
  match i with
  | _ => ⟨[], [], [], [], [], []⟩
abbrev script_checkText_E (N : Nat) : Env := mkE script_checkText_h (script_checkText_fn N) (fun _ => false) (fun _ => false)
noncomputable def script_checkText_LP (N : Nat) : Nat → Code → St → (Ex → St → Option Int) → Option Int := fun i c =>
  match i with
  | i => fun st k => iter (script_checkText_h i) (exec (script_checkText_E N) N c i) N st k
theorem script_checkText_core (N : Nat) (x : SV [.v .str]) (y : BV []) : runL (script_checkText_E N) Tryz.f88 (script_checkText_sg fun x _ => script_checkText N x.1) script_checkText_pk (script_checkText_LP N) x y = script_checkText N x.1 := by kernel_rfl
theorem script_checkText_sound (N : Nat) : Sound Tryz.prog GW B0G 88 (script_checkText_sg fun x _ => script_checkText N x.1) :=
  runD_sound (mkE_ok script_checkText_h (script_checkText_fn N) _ _ (script_checkText_fn_ok N)) Tryz.func88 rfl Tryz.call88 (script_checkText_sg fun x _ => script_checkText N x.1) script_checkText_pk (fun _ _ => rfl) N (fun x y _ h => ((runL_eq (script_checkText_E N) N Tryz.f88 (script_checkText_sg fun x _ => script_checkText N x.1) script_checkText_pk (script_checkText_LP N) (show LoopsOk (script_checkText_LP N) (script_checkText_E N) N (resD (script_checkText_E N) Tryz.f88 (script_checkText_sg fun x _ => script_checkText N x.1) script_checkText_pk) [] from trivial) x y).trans (script_checkText_core N x y)).trans h)
def script_checkCases_1 (_N : Nat) (x0 : Str × GValue) (x1 : Str × GValue) : Option Bool :=
  some (x0.1 == x1.1)
abbrev script_checkCases_1_sg (f : SV [.v (.pr .str (.rc .value)), .v (.ptr (.pr .str (.rc .value)))] → BV [] → Option (Bool)) : AF := { ps := [.v (.pr .str (.rc .value)), .v (.ptr (.pr .str (.rc .value)))], bs := [], rs := [.v .bool], cs := [], R := Bool, out := fun z => ((z, ()), ()), f := f }
abbrev script_checkCases_1_pk : SV [.v .bool] → BV [] → Bool := fun x _ => x.1
def script_checkCases_1_fn (_N : Nat) : FuncId → Option Tmp → Option AF := fun f _ =>
  match f with
    | _ => none
theorem script_checkCases_1_fn_ok (N : Nat) : ∀ f q F, script_checkCases_1_fn N f q = some F → Sound Tryz.prog GW B0G f F := by
  intro f q F h
  unfold script_checkCases_1_fn at h
  split at h
  · cases h
def script_checkCases_1_h : Nat → Hint := fun i =>
  match i with
  | _ => ⟨[], [], [], [], [], []⟩
abbrev script_checkCases_1_E (N : Nat) : Env := mkE script_checkCases_1_h (script_checkCases_1_fn N) (fun _ => false) (fun _ => false)
noncomputable def script_checkCases_1_LP (N : Nat) : Nat → Code → St → (Ex → St → Option Bool) → Option Bool := fun i c =>
  match i with
  | i => fun st k => iter (script_checkCases_1_h i) (exec (script_checkCases_1_E N) N c i) N st k
theorem script_checkCases_1_core (N : Nat) (x : SV [.v (.pr .str (.rc .value)), .v (.ptr (.pr .str (.rc .value)))]) (y : BV []) : runL (script_checkCases_1_E N) Tryz.f90 (script_checkCases_1_sg fun x _ => script_checkCases_1 N x.1 x.2.1) script_checkCases_1_pk (script_checkCases_1_LP N) x y = script_checkCases_1 N x.1 x.2.1 := by kernel_rfl
theorem script_checkCases_1_sound (N : Nat) : Sound Tryz.prog GW B0G 90 (script_checkCases_1_sg fun x _ => script_checkCases_1 N x.1 x.2.1) :=
  runD_sound (mkE_ok script_checkCases_1_h (script_checkCases_1_fn N) _ _ (script_checkCases_1_fn_ok N)) Tryz.func90 rfl Tryz.call90 (script_checkCases_1_sg fun x _ => script_checkCases_1 N x.1 x.2.1) script_checkCases_1_pk (fun _ _ => rfl) N (fun x y _ h => ((runL_eq (script_checkCases_1_E N) N Tryz.f90 (script_checkCases_1_sg fun x _ => script_checkCases_1 N x.1 x.2.1) script_checkCases_1_pk (script_checkCases_1_LP N) (show LoopsOk (script_checkCases_1_LP N) (script_checkCases_1_E N) N (resD (script_checkCases_1_E N) Tryz.f90 (script_checkCases_1_sg fun x _ => script_checkCases_1 N x.1 x.2.1) script_checkCases_1_pk) [] from trivial) x y).trans (script_checkCases_1_core N x y)).trans h)
def slices_IndexFunc_api_Case_L0T (N : Nat) (x0 : List (Str × GValue)) (x1 : (Str × GValue) × Unit) (c7 : Int) (k0 : Option Int) (self : Int → Option Int) (s8 : Int) : Option Int :=
  br (decide (s8 < c7))
    (bnd (geti x0 s8) fun t14 =>
    bnd (script_checkCases_1 N t14 x1.1) fun t16 =>
    br (t16)
      (some s8)
      (self (IntKind.i64.wrap (s8 + (1 : Int)))))
    (k0)
def slices_IndexFunc_api_Case_L0 (N : Nat) (x0 : List (Str × GValue)) (x1 : (Str × GValue) × Unit) (c7 : Int) (k0 : Option Int) : Nat → Int → Option Int
  | 0, _ => none
  | n + 1, s8 => slices_IndexFunc_api_Case_L0T N x0 x1 c7 k0 (slices_IndexFunc_api_Case_L0 N x0 x1 c7 k0 n) s8
def slices_IndexFunc_api_Case (N : Nat) (x0 : List (Str × GValue)) (x1 : (Str × GValue) × Unit) : Option Int :=
  slices_IndexFunc_api_Case_L0 N x0 x1 (x0.length : Int) (some (-1 : Int)) N (0 : Int)
abbrev slices_IndexFunc_api_Case_sg (f : SV [.v (.sl (.pr .str (.rc .value))), .v (.clo 90 (.pr (.ptr (.pr .str (.rc .value))) .un))] → BV [] → Option (Int)) : AF := { ps := [.v (.sl (.pr .str (.rc .value))), .v (.clo 90 (.pr (.ptr (.pr .str (.rc .value))) .un))], bs := [], rs := [.v (.int .i64)], cs := [], R := Int, out := fun z => ((z, ()), ()), f := f }
abbrev slices_IndexFunc_api_Case_pk : SV [.v (.int .i64)] → BV [] → Int := fun x _ => x.1
def slices_IndexFunc_api_Case_fn (N : Nat) : FuncId → Option Tmp → Option AF := fun f _ =>
  match f with
    | 90 => some (script_checkCases_1_sg fun x _ => script_checkCases_1 N x.1 x.2.1)
    | _ => none
theorem slices_IndexFunc_api_Case_fn_ok (N : Nat) : ∀ f q F, slices_IndexFunc_api_Case_fn N f q = some F → Sound Tryz.prog GW B0G f F := by
  intro f q F h
  unfold slices_IndexFunc_api_Case_fn at h
  split at h
  · cases h; exact script_checkCases_1_sound N
  · cases h
def slices_IndexFunc_api_Case_h : Nat → Hint := fun i =>
  match i with
  | 0 => ⟨[], [0, 1, 7, 8], [], [], [], []⟩
  | _ => ⟨[], [], [], [], [], []⟩
abbrev slices_IndexFunc_api_Case_E (N : Nat) : Env := mkE slices_IndexFunc_api_Case_h (slices_IndexFunc_api_Case_fn N) (fun _ => false) (fun _ => false)
abbrev slices_IndexFunc_api_Case_L0_fs : List (Nat × Sl) := [(0, .v (.sl (.pr .str (.rc .value)))), (1, .v (.clo 90 (.pr (.ptr (.pr .str (.rc .value))) .un))), (7, .v (.int .i64)), (8, .v (.int .i64))]
abbrev slices_IndexFunc_api_Case_L0_bs : List (Nat × Sb) := []
def slices_IndexFunc_api_Case_L0_hd (x0 : List (Str × GValue)) (x1 : (Str × GValue) × Unit) (c7 : Int) (s8 : Int) : St := ⟨19, [(0, .v (.sl (.pr .str (.rc .value))) x0), (1, .v (.clo 90 (.pr (.ptr (.pr .str (.rc .value))) .un)) x1), (7, .v (.int .i64) c7), (8, .v (.int .i64) s8)], []⟩
def slices_IndexFunc_api_Case_L0_tl0 (_x0 : List (Str × GValue)) (_x1 : (Str × GValue) × Unit) (_c7 : Int) : St := ⟨19, [], []⟩
def slices_IndexFunc_api_Case_L0_G (N : Nat) (x0 : List (Str × GValue)) (x1 : (Str × GValue) × Unit) (c7 : Int) (s8 : Int) (k : Ex → St → Option Int) : Option Int :=
  slices_IndexFunc_api_Case_L0 N x0 x1 c7 (k (.exit 0) (slices_IndexFunc_api_Case_L0_tl0 x0 x1 c7)) N s8
abbrev slices_IndexFunc_api_Case_L0_F (N : Nat) : FV slices_IndexFunc_api_Case_L0_fs → HV slices_IndexFunc_api_Case_L0_bs → (Ex → St → Option Int) → Option Int := fun x _ k => slices_IndexFunc_api_Case_L0_G N x.1 x.2.1 x.2.2.1 x.2.2.2.1 k
noncomputable def slices_IndexFunc_api_Case_LP (N : Nat) : Nat → Code → St → (Ex → St → Option Int) → Option Int := fun i c =>
  match i with
  | 0 => (LPc 19 slices_IndexFunc_api_Case_L0_fs slices_IndexFunc_api_Case_L0_bs (slices_IndexFunc_api_Case_L0_F N) (fun st k => iter (slices_IndexFunc_api_Case_h 0) (exec (slices_IndexFunc_api_Case_E N) N c 0) N st k))
  | i => fun st k => iter (slices_IndexFunc_api_Case_h i) (exec (slices_IndexFunc_api_Case_E N) N c i) N st k
theorem slices_IndexFunc_api_Case_L0_step (N : Nat) (x0 : List (Str × GValue)) (x1 : (Str × GValue) × Unit) (c7 : Int) (KX : Nat → St → Option Int) (I : St → Option Int) (s8 : Int) :
    execL (slices_IndexFunc_api_Case_LP N) (slices_IndexFunc_api_Case_E N) (cAt (bodyOf Tryz.f133) [true, false, true, false, false]) 0 (slices_IndexFunc_api_Case_L0_hd x0 x1 c7 s8) (roundK (slices_IndexFunc_api_Case_h 0) I KX (resD (slices_IndexFunc_api_Case_E N) Tryz.f133 (slices_IndexFunc_api_Case_sg fun x _ => slices_IndexFunc_api_Case N x.1 x.2.1) slices_IndexFunc_api_Case_pk)) = slices_IndexFunc_api_Case_L0T N x0 x1 c7 (KX 0 (slices_IndexFunc_api_Case_L0_tl0 x0 x1 c7)) (fun s8 => I (slices_IndexFunc_api_Case_L0_hd x0 x1 c7 s8)) s8 := by kernel_rfl
theorem slices_IndexFunc_api_Case_L0_ok (N : Nat) : ∀ x y k, (∀ st, k .ret st = (resD (slices_IndexFunc_api_Case_E N) Tryz.f133 (slices_IndexFunc_api_Case_sg fun x _ => slices_IndexFunc_api_Case N x.1 x.2.1) slices_IndexFunc_api_Case_pk) st) → iter (slices_IndexFunc_api_Case_h 0) (exec (slices_IndexFunc_api_Case_E N) N (cAt (bodyOf Tryz.f133) [true, false, true, false, false]) 0) N ⟨19, unF slices_IndexFunc_api_Case_L0_fs x, unH slices_IndexFunc_api_Case_L0_bs y⟩ k = slices_IndexFunc_api_Case_L0_F N x y k := fun x _ k hk =>
  iter_link (S := (Int) × Unit) (slices_IndexFunc_api_Case_h 0) _ (execL (slices_IndexFunc_api_Case_LP N) (slices_IndexFunc_api_Case_E N) (cAt (bodyOf Tryz.f133) [true, false, true, false, false]) 0) (resD (slices_IndexFunc_api_Case_E N) Tryz.f133 (slices_IndexFunc_api_Case_sg fun x _ => slices_IndexFunc_api_Case N x.1 x.2.1) slices_IndexFunc_api_Case_pk) (fun st k hk => execL_eq _ _ N _ (cAt (bodyOf Tryz.f133) [true, false, true, false, false]) 0 (show LoopsOk (slices_IndexFunc_api_Case_LP N) (slices_IndexFunc_api_Case_E N) N (resD (slices_IndexFunc_api_Case_E N) Tryz.f133 (slices_IndexFunc_api_Case_sg fun x _ => slices_IndexFunc_api_Case N x.1 x.2.1) slices_IndexFunc_api_Case_pk) [] from trivial) st k hk) (fun s => slices_IndexFunc_api_Case_L0_hd x.1 x.2.1 x.2.2.1 s.1) k hk
    (fun self s => slices_IndexFunc_api_Case_L0T N x.1 x.2.1 x.2.2.1 (k (.exit 0) (slices_IndexFunc_api_Case_L0_tl0 x.1 x.2.1 x.2.2.1)) (fun s8 => self (s8, ())) s.1) (fun n s => slices_IndexFunc_api_Case_L0 N x.1 x.2.1 x.2.2.1 (k (.exit 0) (slices_IndexFunc_api_Case_L0_tl0 x.1 x.2.1 x.2.2.1)) n s.1) (fun _ => rfl) (fun _ _ => rfl)
    (fun I s => slices_IndexFunc_api_Case_L0_step N x.1 x.2.1 x.2.2.1 (fun j => k (.exit j)) I s.1) N (x.2.2.2.1, ())
theorem slices_IndexFunc_api_Case_lp0 (N : Nat) : ∀ st k, (∀ st, k .ret st = (resD (slices_IndexFunc_api_Case_E N) Tryz.f133 (slices_IndexFunc_api_Case_sg fun x _ => slices_IndexFunc_api_Case N x.1 x.2.1) slices_IndexFunc_api_Case_pk) st) → slices_IndexFunc_api_Case_LP N 0 (cAt (bodyOf Tryz.f133) [true, false, true, false, false]) st k = iter (Env.hint (slices_IndexFunc_api_Case_E N) 0) (exec (slices_IndexFunc_api_Case_E N) N (cAt (bodyOf Tryz.f133) [true, false, true, false, false]) 0) N st k := fun st k hk => LPc_eq 19 slices_IndexFunc_api_Case_L0_fs slices_IndexFunc_api_Case_L0_bs _ _ (resD (slices_IndexFunc_api_Case_E N) Tryz.f133 (slices_IndexFunc_api_Case_sg fun x _ => slices_IndexFunc_api_Case N x.1 x.2.1) slices_IndexFunc_api_Case_pk) (slices_IndexFunc_api_Case_L0_ok N) _ st k hk (rfl)
theorem slices_IndexFunc_api_Case_core (N : Nat) (x : SV [.v (.sl (.pr .str (.rc .value))), .v (.clo 90 (.pr (.ptr (.pr .str (.rc .value))) .un))]) (y : BV []) : runL (slices_IndexFunc_api_Case_E N) Tryz.f133 (slices_IndexFunc_api_Case_sg fun x _ => slices_IndexFunc_api_Case N x.1 x.2.1) slices_IndexFunc_api_Case_pk (slices_IndexFunc_api_Case_LP N) x y = slices_IndexFunc_api_Case N x.1 x.2.1 := by kernel_rfl
theorem slices_IndexFunc_api_Case_sound (N : Nat) : Sound Tryz.prog GW B0G 133 (slices_IndexFunc_api_Case_sg fun x _ => slices_IndexFunc_api_Case N x.1 x.2.1) :=
  runD_sound (mkE_ok slices_IndexFunc_api_Case_h (slices_IndexFunc_api_Case_fn N) _ _ (slices_IndexFunc_api_Case_fn_ok N)) Tryz.func133 rfl Tryz.call133 (slices_IndexFunc_api_Case_sg fun x _ => slices_IndexFunc_api_Case N x.1 x.2.1) slices_IndexFunc_api_Case_pk (fun _ _ => rfl) N (fun x y _ h => ((runL_eq (slices_IndexFunc_api_Case_E N) N Tryz.f133 (slices_IndexFunc_api_Case_sg fun x _ => slices_IndexFunc_api_Case N x.1 x.2.1) slices_IndexFunc_api_Case_pk (slices_IndexFunc_api_Case_LP N) (show LoopsOk (slices_IndexFunc_api_Case_LP N) (slices_IndexFunc_api_Case_E N) N (resD (slices_IndexFunc_api_Case_E N) Tryz.f133 (slices_IndexFunc_api_Case_sg fun x _ => slices_IndexFunc_api_Case N x.1 x.2.1) slices_IndexFunc_api_Case_pk) [(0, (cAt (bodyOf Tryz.f133) [true, false, true, false, false]))] from ⟨slices_IndexFunc_api_Case_lp0 N, trivial⟩) x y).trans (slices_IndexFunc_api_Case_core N x y)).trans h)
def slices_ContainsFunc_api_Case (N : Nat) (x0 : List (Str × GValue)) (x1 : (Str × GValue) × Unit) : Option Bool :=
  bnd (slices_IndexFunc_api_Case N x0 x1) fun t7 =>
  some (decide (t7 ≥ (0 : Int)))
abbrev slices_ContainsFunc_api_Case_sg (f : SV [.v (.sl (.pr .str (.rc .value))), .v (.clo 90 (.pr (.ptr (.pr .str (.rc .value))) .un))] → BV [] → Option (Bool)) : AF := { ps := [.v (.sl (.pr .str (.rc .value))), .v (.clo 90 (.pr (.ptr (.pr .str (.rc .value))) .un))], bs := [], rs := [.v .bool], cs := [], R := Bool, out := fun z => ((z, ()), ()), f := f }
abbrev slices_ContainsFunc_api_Case_pk : SV [.v .bool] → BV [] → Bool := fun x _ => x.1
def slices_ContainsFunc_api_Case_fn (N : Nat) : FuncId → Option Tmp → Option AF := fun f _ =>
  match f with
    | 133 => some (slices_IndexFunc_api_Case_sg fun x _ => slices_IndexFunc_api_Case N x.1 x.2.1)
    | _ => none
theorem slices_ContainsFunc_api_Case_fn_ok (N : Nat) : ∀ f q F, slices_ContainsFunc_api_Case_fn N f q = some F → Sound Tryz.prog GW B0G f F := by
  intro f q F h
  unfold slices_ContainsFunc_api_Case_fn at h
  split at h
  · cases h; exact slices_IndexFunc_api_Case_sound N
  · cases h
def slices_ContainsFunc_api_Case_h : Nat → Hint := fun i =>
  match i with
  | _ => ⟨[], [], [], [], [], []⟩
abbrev slices_ContainsFunc_api_Case_E (N : Nat) : Env := mkE slices_ContainsFunc_api_Case_h (slices_ContainsFunc_api_Case_fn N) (fun _ => false) (fun _ => false)
noncomputable def slices_ContainsFunc_api_Case_LP (N : Nat) : Nat → Code → St → (Ex → St → Option Bool) → Option Bool := fun i c =>
  match i with
  | i => fun st k => iter (slices_ContainsFunc_api_Case_h i) (exec (slices_ContainsFunc_api_Case_E N) N c i) N st k
theorem slices_ContainsFunc_api_Case_core (N : Nat) (x : SV [.v (.sl (.pr .str (.rc .value))), .v (.clo 90 (.pr (.ptr (.pr .str (.rc .value))) .un))]) (y : BV []) : runL (slices_ContainsFunc_api_Case_E N) Tryz.f89 (slices_ContainsFunc_api_Case_sg fun x _ => slices_ContainsFunc_api_Case N x.1 x.2.1) slices_ContainsFunc_api_Case_pk (slices_ContainsFunc_api_Case_LP N) x y = slices_ContainsFunc_api_Case N x.1 x.2.1 := by kernel_rfl
theorem slices_ContainsFunc_api_Case_sound (N : Nat) : Sound Tryz.prog GW B0G 89 (slices_ContainsFunc_api_Case_sg fun x _ => slices_ContainsFunc_api_Case N x.1 x.2.1) :=
  runD_sound (mkE_ok slices_ContainsFunc_api_Case_h (slices_ContainsFunc_api_Case_fn N) _ _ (slices_ContainsFunc_api_Case_fn_ok N)) Tryz.func89 rfl Tryz.call89 (slices_ContainsFunc_api_Case_sg fun x _ => slices_ContainsFunc_api_Case N x.1 x.2.1) slices_ContainsFunc_api_Case_pk (fun _ _ => rfl) N (fun x y _ h => ((runL_eq (slices_ContainsFunc_api_Case_E N) N Tryz.f89 (slices_ContainsFunc_api_Case_sg fun x _ => slices_ContainsFunc_api_Case N x.1 x.2.1) slices_ContainsFunc_api_Case_pk (slices_ContainsFunc_api_Case_LP N) (show LoopsOk (slices_ContainsFunc_api_Case_LP N) (slices_ContainsFunc_api_Case_E N) N (resD (slices_ContainsFunc_api_Case_E N) Tryz.f89 (slices_ContainsFunc_api_Case_sg fun x _ => slices_ContainsFunc_api_Case N x.1 x.2.1) slices_ContainsFunc_api_Case_pk) [] from trivial) x y).trans (slices_ContainsFunc_api_Case_core N x y)).trans h)
def slices_IndexFunc_string_string_L0T (N : Nat) (x0 : List Str) (c7 : Int) (k0 : Option Int) (self : Int → Option Int) (s8 : Int) : Option Int :=
  br (decide (s8 < c7))
    (bnd (geti x0 s8) fun t14 =>
    bnd (script_CheckValue_1 N t14) fun t16 =>
    br (t16)
      (some s8)
      (self (IntKind.i64.wrap (s8 + (1 : Int)))))
    (k0)
def slices_IndexFunc_string_string_L0 (N : Nat) (x0 : List Str) (c7 : Int) (k0 : Option Int) : Nat → Int → Option Int
  | 0, _ => none
  | n + 1, s8 => slices_IndexFunc_string_string_L0T N x0 c7 k0 (slices_IndexFunc_string_string_L0 N x0 c7 k0 n) s8
def slices_IndexFunc_string_string (N : Nat) (x0 : List Str) (_x1 : Unit) : Option Int :=
  slices_IndexFunc_string_string_L0 N x0 (x0.length : Int) (some (-1 : Int)) N (0 : Int)
abbrev slices_IndexFunc_string_string_sg (f : SV [.v (.sl .str), .v (.clo 41 .un)] → BV [] → Option (Int)) : AF := { ps := [.v (.sl .str), .v (.clo 41 .un)], bs := [], rs := [.v (.int .i64)], cs := [], R := Int, out := fun z => ((z, ()), ()), f := f }
abbrev slices_IndexFunc_string_string_pk : SV [.v (.int .i64)] → BV [] → Int := fun x _ => x.1
def slices_IndexFunc_string_string_fn (N : Nat) : FuncId → Option Tmp → Option AF := fun f _ =>
  match f with
    | 41 => some (script_CheckValue_1_sg fun x _ => script_CheckValue_1 N x.1)
    | _ => none
theorem slices_IndexFunc_string_string_fn_ok (N : Nat) : ∀ f q F, slices_IndexFunc_string_string_fn N f q = some F → Sound Tryz.prog GW B0G f F := by
  intro f q F h
  unfold slices_IndexFunc_string_string_fn at h
  split at h
  · cases h; exact script_CheckValue_1_sound N
  · cases h
def slices_IndexFunc_string_string_h : Nat → Hint := fun i =>
  match i with
  | 0 => ⟨[], [0, 1, 7, 8], [], [], [], []⟩
  | _ => ⟨[], [], [], [], [], []⟩
abbrev slices_IndexFunc_string_string_E (N : Nat) : Env := mkE slices_IndexFunc_string_string_h (slices_IndexFunc_string_string_fn N) (fun _ => false) (fun _ => false)
abbrev slices_IndexFunc_string_string_L0_fs : List (Nat × Sl) := [(0, .v (.sl .str)), (1, .v (.clo 41 .un)), (7, .v (.int .i64)), (8, .v (.int .i64))]
abbrev slices_IndexFunc_string_string_L0_bs : List (Nat × Sb) := []
def slices_IndexFunc_string_string_L0_hd (x0 : List Str) (x1 : Unit) (c7 : Int) (s8 : Int) : St := ⟨19, [(0, .v (.sl .str) x0), (1, .v (.clo 41 .un) x1), (7, .v (.int .i64) c7), (8, .v (.int .i64) s8)], []⟩
def slices_IndexFunc_string_string_L0_tl0 (_x0 : List Str) (_x1 : Unit) (_c7 : Int) : St := ⟨19, [], []⟩
def slices_IndexFunc_string_string_L0_G (N : Nat) (x0 : List Str) (x1 : Unit) (c7 : Int) (s8 : Int) (k : Ex → St → Option Int) : Option Int :=
  slices_IndexFunc_string_string_L0 N x0 c7 (k (.exit 0) (slices_IndexFunc_string_string_L0_tl0 x0 x1 c7)) N s8
abbrev slices_IndexFunc_string_string_L0_F (N : Nat) : FV slices_IndexFunc_string_string_L0_fs → HV slices_IndexFunc_string_string_L0_bs → (Ex → St → Option Int) → Option Int := fun x _ k => slices_IndexFunc_string_string_L0_G N x.1 x.2.1 x.2.2.1 x.2.2.2.1 k
noncomputable def slices_IndexFunc_string_string_LP (N : Nat) : Nat → Code → St → (Ex → St → Option Int) → Option Int := fun i c =>
  match i with
  | 0 => (LPc 19 slices_IndexFunc_string_string_L0_fs slices_IndexFunc_string_string_L0_bs (slices_IndexFunc_string_string_L0_F N) (fun st k => iter (slices_IndexFunc_string_string_h 0) (exec (slices_IndexFunc_string_string_E N) N c 0) N st k))
  | i => fun st k => iter (slices_IndexFunc_string_string_h i) (exec (slices_IndexFunc_string_string_E N) N c i) N st k
theorem slices_IndexFunc_string_string_L0_step (N : Nat) (x0 : List Str) (x1 : Unit) (c7 : Int) (KX : Nat → St → Option Int) (I : St → Option Int) (s8 : Int) :
    execL (slices_IndexFunc_string_string_LP N) (slices_IndexFunc_string_string_E N) (cAt (bodyOf Tryz.f87) [true, false, true, false, false]) 0 (slices_IndexFunc_string_string_L0_hd x0 x1 c7 s8) (roundK (slices_IndexFunc_string_string_h 0) I KX (resD (slices_IndexFunc_string_string_E N) Tryz.f87 (slices_IndexFunc_string_string_sg fun x _ => slices_IndexFunc_string_string N x.1 x.2.1) slices_IndexFunc_string_string_pk)) = slices_IndexFunc_string_string_L0T N x0 c7 (KX 0 (slices_IndexFunc_string_string_L0_tl0 x0 x1 c7)) (fun s8 => I (slices_IndexFunc_string_string_L0_hd x0 x1 c7 s8)) s8 := by kernel_rfl
theorem slices_IndexFunc_string_string_L0_ok (N : Nat) : ∀ x y k, (∀ st, k .ret st = (resD (slices_IndexFunc_string_string_E N) Tryz.f87 (slices_IndexFunc_string_string_sg fun x _ => slices_IndexFunc_string_string N x.1 x.2.1) slices_IndexFunc_string_string_pk) st) → iter (slices_IndexFunc_string_string_h 0) (exec (slices_IndexFunc_string_string_E N) N (cAt (bodyOf Tryz.f87) [true, false, true, false, false]) 0) N ⟨19, unF slices_IndexFunc_string_string_L0_fs x, unH slices_IndexFunc_string_string_L0_bs y⟩ k = slices_IndexFunc_string_string_L0_F N x y k := fun x _ k hk =>
  iter_link (S := (Int) × Unit) (slices_IndexFunc_string_string_h 0) _ (execL (slices_IndexFunc_string_string_LP N) (slices_IndexFunc_string_string_E N) (cAt (bodyOf Tryz.f87) [true, false, true, false, false]) 0) (resD (slices_IndexFunc_string_string_E N) Tryz.f87 (slices_IndexFunc_string_string_sg fun x _ => slices_IndexFunc_string_string N x.1 x.2.1) slices_IndexFunc_string_string_pk) (fun st k hk => execL_eq _ _ N _ (cAt (bodyOf Tryz.f87) [true, false, true, false, false]) 0 (show LoopsOk (slices_IndexFunc_string_string_LP N) (slices_IndexFunc_string_string_E N) N (resD (slices_IndexFunc_string_string_E N) Tryz.f87 (slices_IndexFunc_string_string_sg fun x _ => slices_IndexFunc_string_string N x.1 x.2.1) slices_IndexFunc_string_string_pk) [] from trivial) st k hk) (fun s => slices_IndexFunc_string_string_L0_hd x.1 x.2.1 x.2.2.1 s.1) k hk
    (fun self s => slices_IndexFunc_string_string_L0T N x.1 x.2.2.1 (k (.exit 0) (slices_IndexFunc_string_string_L0_tl0 x.1 x.2.1 x.2.2.1)) (fun s8 => self (s8, ())) s.1) (fun n s => slices_IndexFunc_string_string_L0 N x.1 x.2.2.1 (k (.exit 0) (slices_IndexFunc_string_string_L0_tl0 x.1 x.2.1 x.2.2.1)) n s.1) (fun _ => rfl) (fun _ _ => rfl)
    (fun I s => slices_IndexFunc_string_string_L0_step N x.1 x.2.1 x.2.2.1 (fun j => k (.exit j)) I s.1) N (x.2.2.2.1, ())
theorem slices_IndexFunc_string_string_lp0 (N : Nat) : ∀ st k, (∀ st, k .ret st = (resD (slices_IndexFunc_string_string_E N) Tryz.f87 (slices_IndexFunc_string_string_sg fun x _ => slices_IndexFunc_string_string N x.1 x.2.1) slices_IndexFunc_string_string_pk) st) → slices_IndexFunc_string_string_LP N 0 (cAt (bodyOf Tryz.f87) [true, false, true, false, false]) st k = iter (Env.hint (slices_IndexFunc_string_string_E N) 0) (exec (slices_IndexFunc_string_string_E N) N (cAt (bodyOf Tryz.f87) [true, false, true, false, false]) 0) N st k := fun st k hk => LPc_eq 19 slices_IndexFunc_string_string_L0_fs slices_IndexFunc_string_string_L0_bs _ _ (resD (slices_IndexFunc_string_string_E N) Tryz.f87 (slices_IndexFunc_string_string_sg fun x _ => slices_IndexFunc_string_string N x.1 x.2.1) slices_IndexFunc_string_string_pk) (slices_IndexFunc_string_string_L0_ok N) _ st k hk (rfl)
theorem slices_IndexFunc_string_string_core (N : Nat) (x : SV [.v (.sl .str), .v (.clo 41 .un)]) (y : BV []) : runL (slices_IndexFunc_string_string_E N) Tryz.f87 (slices_IndexFunc_string_string_sg fun x _ => slices_IndexFunc_string_string N x.1 x.2.1) slices_IndexFunc_string_string_pk (slices_IndexFunc_string_string_LP N) x y = slices_IndexFunc_string_string N x.1 x.2.1 := by kernel_rfl
theorem slices_IndexFunc_string_string_sound (N : Nat) : Sound Tryz.prog GW B0G 87 (slices_IndexFunc_string_string_sg fun x _ => slices_IndexFunc_string_string N x.1 x.2.1) :=
  runD_sound (mkE_ok slices_IndexFunc_string_string_h (slices_IndexFunc_string_string_fn N) _ _ (slices_IndexFunc_string_string_fn_ok N)) Tryz.func87 rfl Tryz.call87 (slices_IndexFunc_string_string_sg fun x _ => slices_IndexFunc_string_string N x.1 x.2.1) slices_IndexFunc_string_string_pk (fun _ _ => rfl) N (fun x y _ h => ((runL_eq (slices_IndexFunc_string_string_E N) N Tryz.f87 (slices_IndexFunc_string_string_sg fun x _ => slices_IndexFunc_string_string N x.1 x.2.1) slices_IndexFunc_string_string_pk (slices_IndexFunc_string_string_LP N) (show LoopsOk (slices_IndexFunc_string_string_LP N) (slices_IndexFunc_string_string_E N) N (resD (slices_IndexFunc_string_string_E N) Tryz.f87 (slices_IndexFunc_string_string_sg fun x _ => slices_IndexFunc_string_string N x.1 x.2.1) slices_IndexFunc_string_string_pk) [(0, (cAt (bodyOf Tryz.f87) [true, false, true, false, false]))] from ⟨slices_IndexFunc_string_string_lp0 N, trivial⟩) x y).trans (slices_IndexFunc_string_string_core N x y)).trans h)
def slices_ContainsFunc_string_string (N : Nat) (x0 : List Str) (x1 : Unit) : Option Bool :=
  bnd (slices_IndexFunc_string_string N x0 x1) fun t7 =>
  some (decide (t7 ≥ (0 : Int)))
abbrev slices_ContainsFunc_string_string_sg (f : SV [.v (.sl .str), .v (.clo 41 .un)] → BV [] → Option (Bool)) : AF := { ps := [.v (.sl .str), .v (.clo 41 .un)], bs := [], rs := [.v .bool], cs := [], R := Bool, out := fun z => ((z, ()), ()), f := f }
abbrev slices_ContainsFunc_string_string_pk : SV [.v .bool] → BV [] → Bool := fun x _ => x.1
def slices_ContainsFunc_string_string_fn (N : Nat) : FuncId → Option Tmp → Option AF := fun f _ =>
  match f with
    | 87 => some (slices_IndexFunc_string_string_sg fun x _ => slices_IndexFunc_string_string N x.1 x.2.1)
    | _ => none
theorem slices_ContainsFunc_string_string_fn_ok (N : Nat) : ∀ f q F, slices_ContainsFunc_string_string_fn N f q = some F → Sound Tryz.prog GW B0G f F := by
  intro f q F h
  unfold slices_ContainsFunc_string_string_fn at h
  split at h
  · cases h; exact slices_IndexFunc_string_string_sound N
  · cases h
def slices_ContainsFunc_string_string_h : Nat → Hint := fun i =>
  match i with
  | _ => ⟨[], [], [], [], [], []⟩
abbrev slices_ContainsFunc_string_string_E (N : Nat) : Env := mkE slices_ContainsFunc_string_string_h (slices_ContainsFunc_string_string_fn N) (fun _ => false) (fun _ => false)
noncomputable def slices_ContainsFunc_string_string_LP (N : Nat) : Nat → Code → St → (Ex → St → Option Bool) → Option Bool := fun i c =>
  match i with
  | i => fun st k => iter (slices_ContainsFunc_string_string_h i) (exec (slices_ContainsFunc_string_string_E N) N c i) N st k
theorem slices_ContainsFunc_string_string_core (N : Nat) (x : SV [.v (.sl .str), .v (.clo 41 .un)]) (y : BV []) : runL (slices_ContainsFunc_string_string_E N) Tryz.f40 (slices_ContainsFunc_string_string_sg fun x _ => slices_ContainsFunc_string_string N x.1 x.2.1) slices_ContainsFunc_string_string_pk (slices_ContainsFunc_string_string_LP N) x y = slices_ContainsFunc_string_string N x.1 x.2.1 := by kernel_rfl
theorem slices_ContainsFunc_string_string_sound (N : Nat) : Sound Tryz.prog GW B0G 40 (slices_ContainsFunc_string_string_sg fun x _ => slices_ContainsFunc_string_string N x.1 x.2.1) :=
  runD_sound (mkE_ok slices_ContainsFunc_string_string_h (slices_ContainsFunc_string_string_fn N) _ _ (slices_ContainsFunc_string_string_fn_ok N)) Tryz.func40 rfl Tryz.call40 (slices_ContainsFunc_string_string_sg fun x _ => slices_ContainsFunc_string_string N x.1 x.2.1) slices_ContainsFunc_string_string_pk (fun _ _ => rfl) N (fun x y _ h => ((runL_eq (slices_ContainsFunc_string_string_E N) N Tryz.f40 (slices_ContainsFunc_string_string_sg fun x _ => slices_ContainsFunc_string_string N x.1 x.2.1) slices_ContainsFunc_string_string_pk (slices_ContainsFunc_string_string_LP N) (show LoopsOk (slices_ContainsFunc_string_string_LP N) (slices_ContainsFunc_string_string_E N) N (resD (slices_ContainsFunc_string_string_E N) Tryz.f40 (slices_ContainsFunc_string_string_sg fun x _ => slices_ContainsFunc_string_string N x.1 x.2.1) slices_ContainsFunc_string_string_pk) [] from trivial) x y).trans (slices_ContainsFunc_string_string_core N x y)).trans h)
def slices_IndexFunc_string_string_2_L0T (N : Nat) (x0 : List Str) (c7 : Int) (k0 : Option Int) (self : Int → Option Int) (s8 : Int) : Option Int :=
  br (decide (s8 < c7))
    (bnd (geti x0 s8) fun t14 =>
    bnd (script_CheckValue_2 N t14) fun t16 =>
    br (t16)
      (some s8)
      (self (IntKind.i64.wrap (s8 + (1 : Int)))))
    (k0)
def slices_IndexFunc_string_string_2_L0 (N : Nat) (x0 : List Str) (c7 : Int) (k0 : Option Int) : Nat → Int → Option Int
  | 0, _ => none
  | n + 1, s8 => slices_IndexFunc_string_string_2_L0T N x0 c7 k0 (slices_IndexFunc_string_string_2_L0 N x0 c7 k0 n) s8
def slices_IndexFunc_string_string_2 (N : Nat) (x0 : List Str) (_x1 : Unit) : Option Int :=
  slices_IndexFunc_string_string_2_L0 N x0 (x0.length : Int) (some (-1 : Int)) N (0 : Int)
abbrev slices_IndexFunc_string_string_2_sg (f : SV [.v (.sl .str), .v (.clo 43 .un)] → BV [] → Option (Int)) : AF := { ps := [.v (.sl .str), .v (.clo 43 .un)], bs := [], rs := [.v (.int .i64)], cs := [], R := Int, out := fun z => ((z, ()), ()), f := f }
abbrev slices_IndexFunc_string_string_2_pk : SV [.v (.int .i64)] → BV [] → Int := fun x _ => x.1
def slices_IndexFunc_string_string_2_fn (N : Nat) : FuncId → Option Tmp → Option AF := fun f _ =>
  match f with
    | 43 => some (script_CheckValue_2_sg fun x _ => script_CheckValue_2 N x.1)
    | _ => none
theorem slices_IndexFunc_string_string_2_fn_ok (N : Nat) : ∀ f q F, slices_IndexFunc_string_string_2_fn N f q = some F → Sound Tryz.prog GW B0G f F := by
  intro f q F h
  unfold slices_IndexFunc_string_string_2_fn at h
  split at h
  · cases h; exact script_CheckValue_2_sound N
  · cases h
def slices_IndexFunc_string_string_2_h : Nat → Hint := fun i =>
  match i with
  | 0 => ⟨[], [0, 1, 7, 8], [], [], [], []⟩
  | _ => ⟨[], [], [], [], [], []⟩
abbrev slices_IndexFunc_string_string_2_E (N : Nat) : Env := mkE slices_IndexFunc_string_string_2_h (slices_IndexFunc_string_string_2_fn N) (fun _ => false) (fun _ => false)
abbrev slices_IndexFunc_string_string_2_L0_fs : List (Nat × Sl) := [(0, .v (.sl .str)), (1, .v (.clo 43 .un)), (7, .v (.int .i64)), (8, .v (.int .i64))]
abbrev slices_IndexFunc_string_string_2_L0_bs : List (Nat × Sb) := []
def slices_IndexFunc_string_string_2_L0_hd (x0 : List Str) (x1 : Unit) (c7 : Int) (s8 : Int) : St := ⟨19, [(0, .v (.sl .str) x0), (1, .v (.clo 43 .un) x1), (7, .v (.int .i64) c7), (8, .v (.int .i64) s8)], []⟩
def slices_IndexFunc_string_string_2_L0_tl0 (_x0 : List Str) (_x1 : Unit) (_c7 : Int) : St := ⟨19, [], []⟩
def slices_IndexFunc_string_string_2_L0_G (N : Nat) (x0 : List Str) (x1 : Unit) (c7 : Int) (s8 : Int) (k : Ex → St → Option Int) : Option Int :=
  slices_IndexFunc_string_string_2_L0 N x0 c7 (k (.exit 0) (slices_IndexFunc_string_string_2_L0_tl0 x0 x1 c7)) N s8
abbrev slices_IndexFunc_string_string_2_L0_F (N : Nat) : FV slices_IndexFunc_string_string_2_L0_fs → HV slices_IndexFunc_string_string_2_L0_bs → (Ex → St → Option Int) → Option Int := fun x _ k => slices_IndexFunc_string_string_2_L0_G N x.1 x.2.1 x.2.2.1 x.2.2.2.1 k
noncomputable def slices_IndexFunc_string_string_2_LP (N : Nat) : Nat → Code → St → (Ex → St → Option Int) → Option Int := fun i c =>
  match i with
  | 0 => (LPc 19 slices_IndexFunc_string_string_2_L0_fs slices_IndexFunc_string_string_2_L0_bs (slices_IndexFunc_string_string_2_L0_F N) (fun st k => iter (slices_IndexFunc_string_string_2_h 0) (exec (slices_IndexFunc_string_string_2_E N) N c 0) N st k))
  | i => fun st k => iter (slices_IndexFunc_string_string_2_h i) (exec (slices_IndexFunc_string_string_2_E N) N c i) N st k
theorem slices_IndexFunc_string_string_2_L0_step (N : Nat) (x0 : List Str) (x1 : Unit) (c7 : Int) (KX : Nat → St → Option Int) (I : St → Option Int) (s8 : Int) :
    execL (slices_IndexFunc_string_string_2_LP N) (slices_IndexFunc_string_string_2_E N) (cAt (bodyOf Tryz.f87) [true, false, true, false, false]) 0 (slices_IndexFunc_string_string_2_L0_hd x0 x1 c7 s8) (roundK (slices_IndexFunc_string_string_2_h 0) I KX (resD (slices_IndexFunc_string_string_2_E N) Tryz.f87 (slices_IndexFunc_string_string_2_sg fun x _ => slices_IndexFunc_string_string_2 N x.1 x.2.1) slices_IndexFunc_string_string_2_pk)) = slices_IndexFunc_string_string_2_L0T N x0 c7 (KX 0 (slices_IndexFunc_string_string_2_L0_tl0 x0 x1 c7)) (fun s8 => I (slices_IndexFunc_string_string_2_L0_hd x0 x1 c7 s8)) s8 := by kernel_rfl
theorem slices_IndexFunc_string_string_2_L0_ok (N : Nat) : ∀ x y k, (∀ st, k .ret st = (resD (slices_IndexFunc_string_string_2_E N) Tryz.f87 (slices_IndexFunc_string_string_2_sg fun x _ => slices_IndexFunc_string_string_2 N x.1 x.2.1) slices_IndexFunc_string_string_2_pk) st) → iter (slices_IndexFunc_string_string_2_h 0) (exec (slices_IndexFunc_string_string_2_E N) N (cAt (bodyOf Tryz.f87) [true, false, true, false, false]) 0) N ⟨19, unF slices_IndexFunc_string_string_2_L0_fs x, unH slices_IndexFunc_string_string_2_L0_bs y⟩ k = slices_IndexFunc_string_string_2_L0_F N x y k := fun x _ k hk =>
  iter_link (S := (Int) × Unit) (slices_IndexFunc_string_string_2_h 0) _ (execL (slices_IndexFunc_string_string_2_LP N) (slices_IndexFunc_string_string_2_E N) (cAt (bodyOf Tryz.f87) [true, false, true, false, false]) 0) (resD (slices_IndexFunc_string_string_2_E N) Tryz.f87 (slices_IndexFunc_string_string_2_sg fun x _ => slices_IndexFunc_string_string_2 N x.1 x.2.1) slices_IndexFunc_string_string_2_pk) (fun st k hk => execL_eq _ _ N _ (cAt (bodyOf Tryz.f87) [true, false, true, false, false]) 0 (show LoopsOk (slices_IndexFunc_string_string_2_LP N) (slices_IndexFunc_string_string_2_E N) N (resD (slices_IndexFunc_string_string_2_E N) Tryz.f87 (slices_IndexFunc_string_string_2_sg fun x _ => slices_IndexFunc_string_string_2 N x.1 x.2.1) slices_IndexFunc_string_string_2_pk) [] from trivial) st k hk) (fun s => slices_IndexFunc_string_string_2_L0_hd x.1 x.2.1 x.2.2.1 s.1) k hk
    (fun self s => slices_IndexFunc_string_string_2_L0T N x.1 x.2.2.1 (k (.exit 0) (slices_IndexFunc_string_string_2_L0_tl0 x.1 x.2.1 x.2.2.1)) (fun s8 => self (s8, ())) s.1) (fun n s => slices_IndexFunc_string_string_2_L0 N x.1 x.2.2.1 (k (.exit 0) (slices_IndexFunc_string_string_2_L0_tl0 x.1 x.2.1 x.2.2.1)) n s.1) (fun _ => rfl) (fun _ _ => rfl)
    (fun I s => slices_IndexFunc_string_string_2_L0_step N x.1 x.2.1 x.2.2.1 (fun j => k (.exit j)) I s.1) N (x.2.2.2.1, ())
theorem slices_IndexFunc_string_string_2_lp0 (N : Nat) : ∀ st k, (∀ st, k .ret st = (resD (slices_IndexFunc_string_string_2_E N) Tryz.f87 (slices_IndexFunc_string_string_2_sg fun x _ => slices_IndexFunc_string_string_2 N x.1 x.2.1) slices_IndexFunc_string_string_2_pk) st) → slices_IndexFunc_string_string_2_LP N 0 (cAt (bodyOf Tryz.f87) [true, false, true, false, false]) st k = iter (Env.hint (slices_IndexFunc_string_string_2_E N) 0) (exec (slices_IndexFunc_string_string_2_E N) N (cAt (bodyOf Tryz.f87) [true, false, true, false, false]) 0) N st k := fun st k hk => LPc_eq 19 slices_IndexFunc_string_string_2_L0_fs slices_IndexFunc_string_string_2_L0_bs _ _ (resD (slices_IndexFunc_string_string_2_E N) Tryz.f87 (slices_IndexFunc_string_string_2_sg fun x _ => slices_IndexFunc_string_string_2 N x.1 x.2.1) slices_IndexFunc_string_string_2_pk) (slices_IndexFunc_string_string_2_L0_ok N) _ st k hk (rfl)
theorem slices_IndexFunc_string_string_2_core (N : Nat) (x : SV [.v (.sl .str), .v (.clo 43 .un)]) (y : BV []) : runL (slices_IndexFunc_string_string_2_E N) Tryz.f87 (slices_IndexFunc_string_string_2_sg fun x _ => slices_IndexFunc_string_string_2 N x.1 x.2.1) slices_IndexFunc_string_string_2_pk (slices_IndexFunc_string_string_2_LP N) x y = slices_IndexFunc_string_string_2 N x.1 x.2.1 := by kernel_rfl
theorem slices_IndexFunc_string_string_2_sound (N : Nat) : Sound Tryz.prog GW B0G 87 (slices_IndexFunc_string_string_2_sg fun x _ => slices_IndexFunc_string_string_2 N x.1 x.2.1) :=
  runD_sound (mkE_ok slices_IndexFunc_string_string_2_h (slices_IndexFunc_string_string_2_fn N) _ _ (slices_IndexFunc_string_string_2_fn_ok N)) Tryz.func87 rfl Tryz.call87 (slices_IndexFunc_string_string_2_sg fun x _ => slices_IndexFunc_string_string_2 N x.1 x.2.1) slices_IndexFunc_string_string_2_pk (fun _ _ => rfl) N (fun x y _ h => ((runL_eq (slices_IndexFunc_string_string_2_E N) N Tryz.f87 (slices_IndexFunc_string_string_2_sg fun x _ => slices_IndexFunc_string_string_2 N x.1 x.2.1) slices_IndexFunc_string_string_2_pk (slices_IndexFunc_string_string_2_LP N) (show LoopsOk (slices_IndexFunc_string_string_2_LP N) (slices_IndexFunc_string_string_2_E N) N (resD (slices_IndexFunc_string_string_2_E N) Tryz.f87 (slices_IndexFunc_string_string_2_sg fun x _ => slices_IndexFunc_string_string_2 N x.1 x.2.1) slices_IndexFunc_string_string_2_pk) [(0, (cAt (bodyOf Tryz.f87) [true, false, true, false, false]))] from ⟨slices_IndexFunc_string_string_2_lp0 N, trivial⟩) x y).trans (slices_IndexFunc_string_string_2_core N x y)).trans h)
def slices_ContainsFunc_string_string_2 (N : Nat) (x0 : List Str) (x1 : Unit) : Option Bool :=
  bnd (slices_IndexFunc_string_string_2 N x0 x1) fun t7 =>
  some (decide (t7 ≥ (0 : Int)))
abbrev slices_ContainsFunc_string_string_2_sg (f : SV [.v (.sl .str), .v (.clo 43 .un)] → BV [] → Option (Bool)) : AF := { ps := [.v (.sl .str), .v (.clo 43 .un)], bs := [], rs := [.v .bool], cs := [], R := Bool, out := fun z => ((z, ()), ()), f := f }
abbrev slices_ContainsFunc_string_string_2_pk : SV [.v .bool] → BV [] → Bool := fun x _ => x.1
def slices_ContainsFunc_string_string_2_fn (N : Nat) : FuncId → Option Tmp → Option AF := fun f _ =>
  match f with
    | 87 => some (slices_IndexFunc_string_string_2_sg fun x _ => slices_IndexFunc_string_string_2 N x.1 x.2.1)
    | _ => none
theorem slices_ContainsFunc_string_string_2_fn_ok (N : Nat) : ∀ f q F, slices_ContainsFunc_string_string_2_fn N f q = some F → Sound Tryz.prog GW B0G f F := by
  intro f q F h
  unfold slices_ContainsFunc_string_string_2_fn at h
  split at h
  · cases h; exact slices_IndexFunc_string_string_2_sound N
  · cases h
def slices_ContainsFunc_string_string_2_h : Nat → Hint := fun i =>
  match i with
  | _ => ⟨[], [], [], [], [], []⟩
abbrev slices_ContainsFunc_string_string_2_E (N : Nat) : Env := mkE slices_ContainsFunc_string_string_2_h (slices_ContainsFunc_string_string_2_fn N) (fun _ => false) (fun _ => false)
noncomputable def slices_ContainsFunc_string_string_2_LP (N : Nat) : Nat → Code → St → (Ex → St → Option Bool) → Option Bool := fun i c =>
  match i with
  | i => fun st k => iter (slices_ContainsFunc_string_string_2_h i) (exec (slices_ContainsFunc_string_string_2_E N) N c i) N st k
theorem slices_ContainsFunc_string_string_2_core (N : Nat) (x : SV [.v (.sl .str), .v (.clo 43 .un)]) (y : BV []) : runL (slices_ContainsFunc_string_string_2_E N) Tryz.f40 (slices_ContainsFunc_string_string_2_sg fun x _ => slices_ContainsFunc_string_string_2 N x.1 x.2.1) slices_ContainsFunc_string_string_2_pk (slices_ContainsFunc_string_string_2_LP N) x y = slices_ContainsFunc_string_string_2 N x.1 x.2.1 := by kernel_rfl
theorem slices_ContainsFunc_string_string_2_sound (N : Nat) : Sound Tryz.prog GW B0G 40 (slices_ContainsFunc_string_string_2_sg fun x _ => slices_ContainsFunc_string_string_2 N x.1 x.2.1) :=
  runD_sound (mkE_ok slices_ContainsFunc_string_string_2_h (slices_ContainsFunc_string_string_2_fn N) _ _ (slices_ContainsFunc_string_string_2_fn_ok N)) Tryz.func40 rfl Tryz.call40 (slices_ContainsFunc_string_string_2_sg fun x _ => slices_ContainsFunc_string_string_2 N x.1 x.2.1) slices_ContainsFunc_string_string_2_pk (fun _ _ => rfl) N (fun x y _ h => ((runL_eq (slices_ContainsFunc_string_string_2_E N) N Tryz.f40 (slices_ContainsFunc_string_string_2_sg fun x _ => slices_ContainsFunc_string_string_2 N x.1 x.2.1) slices_ContainsFunc_string_string_2_pk (slices_ContainsFunc_string_string_2_LP N) (show LoopsOk (slices_ContainsFunc_string_string_2_LP N) (slices_ContainsFunc_string_string_2_E N) N (resD (slices_ContainsFunc_string_string_2_E N) Tryz.f40 (slices_ContainsFunc_string_string_2_sg fun x _ => slices_ContainsFunc_string_string_2 N x.1 x.2.1) slices_ContainsFunc_string_string_2_pk) [] from trivial) x y).trans (slices_ContainsFunc_string_string_2_core N x y)).trans h)
abbrev script_checkCases_sg (f : SV [.v (.sl (.pr .str (.rc .value)))] → BV [] → Option (Int)) : AF := { ps := [.v (.sl (.pr .str (.rc .value)))], bs := [], rs := [.v (.int .i64)], cs := [], R := Int, out := fun z => ((z, ()), ()), f := f }
end
end Go.Proofs.YtahjncefiegflaaGreatDoor

