/- What functions of the program compute, as plain functions (printed). -/
import Derived.Test.YtefbpbkjijbepaaDoorQLStC
import Derived.Test.YtefbpbkjijbepaaDoorQNm
import Derived.Test.YtefbpbkjijbepaaDoorQTrT
import Derived.Shelf.SortM.Plain
namespace Go.Proofs.YtefbpbkjijbepaaDoor
open Go Go.RowKit
set_option maxRecDepth 100000
set_option linter.unusedVariables false
noncomputable section
def blob_inPart (_N : Nat) (x0 : UInt8) : Option Bool :=
  br (decide (x0 ≥ (97 : UInt8)))
    (br (decide (x0 ≤ (122 : UInt8)))
      (some true)
      (br (decide (x0 ≥ (65 : UInt8)))
        (br (decide (x0 ≤ (90 : UInt8)))
          (some true)
          (br (decide (x0 ≥ (48 : UInt8)))
            (br (decide (x0 ≤ (57 : UInt8)))
              (some true)
              (bnd (strings_IndexByte ([46, 95, 45, 43] : Str) x0) fun t27 =>
              some (decide (t27 ≥ (0 : Int)))))
            (bnd (strings_IndexByte ([46, 95, 45, 43] : Str) x0) fun t27_1 =>
            some (decide (t27_1 ≥ (0 : Int))))))
        (br (decide (x0 ≥ (48 : UInt8)))
          (br (decide (x0 ≤ (57 : UInt8)))
            (some true)
            (bnd (strings_IndexByte ([46, 95, 45, 43] : Str) x0) fun t27_2 =>
            some (decide (t27_2 ≥ (0 : Int)))))
          (bnd (strings_IndexByte ([46, 95, 45, 43] : Str) x0) fun t27_3 =>
          some (decide (t27_3 ≥ (0 : Int)))))))
    (br (decide (x0 ≥ (65 : UInt8)))
      (br (decide (x0 ≤ (90 : UInt8)))
        (some true)
        (br (decide (x0 ≥ (48 : UInt8)))
          (br (decide (x0 ≤ (57 : UInt8)))
            (some true)
            (bnd (strings_IndexByte ([46, 95, 45, 43] : Str) x0) fun t27_4 =>
            some (decide (t27_4 ≥ (0 : Int)))))
          (bnd (strings_IndexByte ([46, 95, 45, 43] : Str) x0) fun t27_5 =>
          some (decide (t27_5 ≥ (0 : Int))))))
      (br (decide (x0 ≥ (48 : UInt8)))
        (br (decide (x0 ≤ (57 : UInt8)))
          (some true)
          (bnd (strings_IndexByte ([46, 95, 45, 43] : Str) x0) fun t27_6 =>
          some (decide (t27_6 ≥ (0 : Int)))))
        (bnd (strings_IndexByte ([46, 95, 45, 43] : Str) x0) fun t27_7 =>
        some (decide (t27_7 ≥ (0 : Int))))))
abbrev blob_inPart_sg (f : SV [.v .u8] → BV [] → Option (Bool)) : AF := { ps := [.v .u8], bs := [], rs := [.v .bool], cs := [], R := Bool, out := fun z => ((z, ()), ()), f := f }
abbrev blob_inPart_pk : SV [.v .bool] → BV [] → Bool := fun x _ => x.1
def blob_inPart_fn (_N : Nat) : FuncId → Option Tmp → Option AF := fun f _ =>
  match f with
    | 68 => some (strings_IndexByte_sg fun x _ => strings_IndexByte x.1 x.2.1)
    | _ => none
theorem blob_inPart_fn_ok (N : Nat) : ∀ f q F, blob_inPart_fn N f q = some F → Sound Tryd.prog GW B0G f F := by
  intro f q F h
  unfold blob_inPart_fn at h
  split at h
  · cases h; exact strings_IndexByte_sound
  · cases h
def blob_inPart_h : Nat → Hint := fun i =>
  match i with
  | _ => ⟨[], [], [], [], [], []⟩
abbrev blob_inPart_E (N : Nat) : Env := mkE blob_inPart_h (blob_inPart_fn N) (fun _ => false) (fun _ => false)
noncomputable def blob_inPart_LP (N : Nat) : Nat → Code → St → (Ex → St → Option Bool) → Option Bool := fun i c =>
  match i with
  | i => fun st k => iter (blob_inPart_h i) (exec (blob_inPart_E N) N c i) N st k
theorem blob_inPart_core (N : Nat) (x : SV [.v .u8]) (y : BV []) : runL (blob_inPart_E N) Tryd.f55 (blob_inPart_sg fun x _ => blob_inPart N x.1) blob_inPart_pk (blob_inPart_LP N) x y = blob_inPart N x.1 := by kernel_rfl
theorem blob_inPart_sound (N : Nat) : Sound Tryd.prog GW B0G 55 (blob_inPart_sg fun x _ => blob_inPart N x.1) :=
  runD_sound (mkE_ok blob_inPart_h (blob_inPart_fn N) _ _ (blob_inPart_fn_ok N)) Tryd.func55 rfl Tryd.call55 (blob_inPart_sg fun x _ => blob_inPart N x.1) blob_inPart_pk (fun _ _ => rfl) N (fun x y _ h => ((runL_eq (blob_inPart_E N) N Tryd.f55 (blob_inPart_sg fun x _ => blob_inPart N x.1) blob_inPart_pk (blob_inPart_LP N) (show LoopsOk (blob_inPart_LP N) (blob_inPart_E N) N (resD (blob_inPart_E N) Tryd.f55 (blob_inPart_sg fun x _ => blob_inPart N x.1) blob_inPart_pk) [] from trivial) x y).trans (blob_inPart_core N x y)).trans h)
def blob_isPart_L0T (N : Nat) (x0 : Str) (c5 : Int) (k0 : Option Bool) (self : Int → Option Bool) (s6 : Int) : Option Bool :=
  br (decide (s6 < c5))
    (bnd (geti x0 s6) fun t11 =>
    bnd (blob_inPart N t11) fun t12 =>
    br (!t12)
      (some false)
      (self (IntKind.i64.wrap (s6 + (1 : Int)))))
    (k0)
def blob_isPart_L0 (N : Nat) (x0 : Str) (c5 : Int) (k0 : Option Bool) : Nat → Int → Option Bool
  | 0, _ => none
  | n + 1, s6 => blob_isPart_L0T N x0 c5 k0 (blob_isPart_L0 N x0 c5 k0 n) s6
def blob_isPart (N : Nat) (x0 : Str) : Option Bool :=
  blob_isPart_L0 N x0 (x0.length : Int) (br (!(x0 == ([] : Str)))
        (br (!(x0 == ([46] : Str)))
          (some (!(x0 == ([46, 46] : Str))))
          (some false))
        (some false)) N (0 : Int)
abbrev blob_isPart_sg (f : SV [.v .str] → BV [] → Option (Bool)) : AF := { ps := [.v .str], bs := [], rs := [.v .bool], cs := [], R := Bool, out := fun z => ((z, ()), ()), f := f }
abbrev blob_isPart_pk : SV [.v .bool] → BV [] → Bool := fun x _ => x.1
def blob_isPart_fn (N : Nat) : FuncId → Option Tmp → Option AF := fun f _ =>
  match f with
    | 55 => some (blob_inPart_sg fun x _ => blob_inPart N x.1)
    | _ => none
theorem blob_isPart_fn_ok (N : Nat) : ∀ f q F, blob_isPart_fn N f q = some F → Sound Tryd.prog GW B0G f F := by
  intro f q F h
  unfold blob_isPart_fn at h
  split at h
  · cases h; exact blob_inPart_sound N
  · cases h
def blob_isPart_h : Nat → Hint := fun i =>
  match i with
  | 0 => ⟨[], [0, 5, 6], [], [0], [], []⟩
  | _ => ⟨[], [], [], [], [], []⟩
abbrev blob_isPart_E (N : Nat) : Env := mkE blob_isPart_h (blob_isPart_fn N) (fun _ => false) (fun _ => false)
abbrev blob_isPart_L0_fs : List (Nat × Sl) := [(0, .v .str), (5, .v (.int .i64)), (6, .v (.int .i64))]
abbrev blob_isPart_L0_bs : List (Nat × Sb) := []
def blob_isPart_L0_hd (x0 : Str) (c5 : Int) (s6 : Int) : St := ⟨25, [(0, .v .str x0), (5, .v (.int .i64) c5), (6, .v (.int .i64) s6)], []⟩
def blob_isPart_L0_tl0 (x0 : Str) (_c5 : Int) : St := ⟨25, [(0, .v .str x0)], []⟩
def blob_isPart_L0_G (N : Nat) (x0 : Str) (c5 : Int) (s6 : Int) (k : Ex → St → Option Bool) : Option Bool :=
  blob_isPart_L0 N x0 c5 (k (.exit 0) (blob_isPart_L0_tl0 x0 c5)) N s6
abbrev blob_isPart_L0_F (N : Nat) : FV blob_isPart_L0_fs → HV blob_isPart_L0_bs → (Ex → St → Option Bool) → Option Bool := fun x _ k => blob_isPart_L0_G N x.1 x.2.1 x.2.2.1 k
noncomputable def blob_isPart_LP (N : Nat) : Nat → Code → St → (Ex → St → Option Bool) → Option Bool := fun i c =>
  match i with
  | 0 => (LPc 25 blob_isPart_L0_fs blob_isPart_L0_bs (blob_isPart_L0_F N) (fun st k => iter (blob_isPart_h 0) (exec (blob_isPart_E N) N c 0) N st k))
  | i => fun st k => iter (blob_isPart_h i) (exec (blob_isPart_E N) N c i) N st k
theorem blob_isPart_L0_step (N : Nat) (x0 : Str) (c5 : Int) (KX : Nat → St → Option Bool) (I : St → Option Bool) (s6 : Int) :
    execL (blob_isPart_LP N) (blob_isPart_E N) (cAt (bodyOf Tryd.f34) [true, false, true, false, false]) 0 (blob_isPart_L0_hd x0 c5 s6) (roundK (blob_isPart_h 0) I KX (resD (blob_isPart_E N) Tryd.f34 (blob_isPart_sg fun x _ => blob_isPart N x.1) blob_isPart_pk)) = blob_isPart_L0T N x0 c5 (KX 0 (blob_isPart_L0_tl0 x0 c5)) (fun s6 => I (blob_isPart_L0_hd x0 c5 s6)) s6 := by kernel_rfl
theorem blob_isPart_L0_ok (N : Nat) : ∀ x y k, (∀ st, k .ret st = (resD (blob_isPart_E N) Tryd.f34 (blob_isPart_sg fun x _ => blob_isPart N x.1) blob_isPart_pk) st) → iter (blob_isPart_h 0) (exec (blob_isPart_E N) N (cAt (bodyOf Tryd.f34) [true, false, true, false, false]) 0) N ⟨25, unF blob_isPart_L0_fs x, unH blob_isPart_L0_bs y⟩ k = blob_isPart_L0_F N x y k := fun x _ k hk =>
  iter_link (S := (Int) × Unit) (blob_isPart_h 0) _ (execL (blob_isPart_LP N) (blob_isPart_E N) (cAt (bodyOf Tryd.f34) [true, false, true, false, false]) 0) (resD (blob_isPart_E N) Tryd.f34 (blob_isPart_sg fun x _ => blob_isPart N x.1) blob_isPart_pk) (fun st k hk => execL_eq _ _ N _ (cAt (bodyOf Tryd.f34) [true, false, true, false, false]) 0 (show LoopsOk (blob_isPart_LP N) (blob_isPart_E N) N (resD (blob_isPart_E N) Tryd.f34 (blob_isPart_sg fun x _ => blob_isPart N x.1) blob_isPart_pk) [] from trivial) st k hk) (fun s => blob_isPart_L0_hd x.1 x.2.1 s.1) k hk
    (fun self s => blob_isPart_L0T N x.1 x.2.1 (k (.exit 0) (blob_isPart_L0_tl0 x.1 x.2.1)) (fun s6 => self (s6, ())) s.1) (fun n s => blob_isPart_L0 N x.1 x.2.1 (k (.exit 0) (blob_isPart_L0_tl0 x.1 x.2.1)) n s.1) (fun _ => rfl) (fun _ _ => rfl)
    (fun I s => blob_isPart_L0_step N x.1 x.2.1 (fun j => k (.exit j)) I s.1) N (x.2.2.1, ())
theorem blob_isPart_lp0 (N : Nat) : ∀ st k, (∀ st, k .ret st = (resD (blob_isPart_E N) Tryd.f34 (blob_isPart_sg fun x _ => blob_isPart N x.1) blob_isPart_pk) st) → blob_isPart_LP N 0 (cAt (bodyOf Tryd.f34) [true, false, true, false, false]) st k = iter (Env.hint (blob_isPart_E N) 0) (exec (blob_isPart_E N) N (cAt (bodyOf Tryd.f34) [true, false, true, false, false]) 0) N st k := fun st k hk => LPc_eq 25 blob_isPart_L0_fs blob_isPart_L0_bs _ _ (resD (blob_isPart_E N) Tryd.f34 (blob_isPart_sg fun x _ => blob_isPart N x.1) blob_isPart_pk) (blob_isPart_L0_ok N) _ st k hk (rfl)
theorem blob_isPart_core (N : Nat) (x : SV [.v .str]) (y : BV []) : runL (blob_isPart_E N) Tryd.f34 (blob_isPart_sg fun x _ => blob_isPart N x.1) blob_isPart_pk (blob_isPart_LP N) x y = blob_isPart N x.1 := by kernel_rfl
theorem blob_isPart_sound (N : Nat) : Sound Tryd.prog GW B0G 34 (blob_isPart_sg fun x _ => blob_isPart N x.1) :=
  runD_sound (mkE_ok blob_isPart_h (blob_isPart_fn N) _ _ (blob_isPart_fn_ok N)) Tryd.func34 rfl Tryd.call34 (blob_isPart_sg fun x _ => blob_isPart N x.1) blob_isPart_pk (fun _ _ => rfl) N (fun x y _ h => ((runL_eq (blob_isPart_E N) N Tryd.f34 (blob_isPart_sg fun x _ => blob_isPart N x.1) blob_isPart_pk (blob_isPart_LP N) (show LoopsOk (blob_isPart_LP N) (blob_isPart_E N) N (resD (blob_isPart_E N) Tryd.f34 (blob_isPart_sg fun x _ => blob_isPart N x.1) blob_isPart_pk) [(0, (cAt (bodyOf Tryd.f34) [true, false, true, false, false]))] from ⟨blob_isPart_lp0 N, trivial⟩) x y).trans (blob_isPart_core N x y)).trans h)
def blob_IsPath_L0T (N : Nat) (t14 : List Str) (c15 : Int) (k0 : Option Bool) (self : Int → Option Bool) (s16 : Int) : Option Bool :=
  br (decide (s16 < c15))
    (bnd (geti t14 s16) fun t18 =>
    bnd (blob_isPart N t18) fun t21 =>
    br (!t21)
      (some false)
      (self (IntKind.i64.wrap (s16 + (1 : Int)))))
    (k0)
def blob_IsPath_L0 (N : Nat) (t14 : List Str) (c15 : Int) (k0 : Option Bool) : Nat → Int → Option Bool
  | 0, _ => none
  | n + 1, s16 => blob_IsPath_L0T N t14 c15 k0 (blob_IsPath_L0 N t14 c15 k0 n) s16
def blob_IsPath (N : Nat) (x0 : Str) : Option Bool :=
  br (decide ((x0.length : Int) < (1 : Int)))
    (some false)
    (br (decide ((x0.length : Int) > (200 : Int)))
      (some false)
      (bnd (strings_Split x0 ([47] : Str)) fun t14 =>
      blob_IsPath_L0 N t14 (t14.length : Int) (some true) N (0 : Int)))
abbrev blob_IsPath_sg (f : SV [.v .str] → BV [] → Option (Bool)) : AF := { ps := [.v .str], bs := [], rs := [.v .bool], cs := [], R := Bool, out := fun z => ((z, ()), ()), f := f }
abbrev blob_IsPath_pk : SV [.v .bool] → BV [] → Bool := fun x _ => x.1
def blob_IsPath_fn (N : Nat) : FuncId → Option Tmp → Option AF := fun f _ =>
  match f with
    | 33 => some (strings_Split_sg fun x _ => strings_Split x.1 x.2.1)
    | 34 => some (blob_isPart_sg fun x _ => blob_isPart N x.1)
    | _ => none
theorem blob_IsPath_fn_ok (N : Nat) : ∀ f q F, blob_IsPath_fn N f q = some F → Sound Tryd.prog GW B0G f F := by
  intro f q F h
  unfold blob_IsPath_fn at h
  split at h
  · cases h; exact strings_Split_sound
  · cases h; exact blob_isPart_sound N
  · cases h
def blob_IsPath_h : Nat → Hint := fun i =>
  match i with
  | 0 => ⟨[], [14, 15, 16], [], [], [], []⟩
  | _ => ⟨[], [], [], [], [], []⟩
abbrev blob_IsPath_E (N : Nat) : Env := mkE blob_IsPath_h (blob_IsPath_fn N) (fun _ => false) (fun _ => false)
abbrev blob_IsPath_L0_fs : List (Nat × Sl) := [(14, .v (.sl .str)), (15, .v (.int .i64)), (16, .v (.int .i64))]
abbrev blob_IsPath_L0_bs : List (Nat × Sb) := []
def blob_IsPath_L0_hd (t14 : List Str) (c15 : Int) (s16 : Int) : St := ⟨24, [(14, .v (.sl .str) t14), (15, .v (.int .i64) c15), (16, .v (.int .i64) s16)], []⟩
def blob_IsPath_L0_tl0 (_t14 : List Str) (_c15 : Int) : St := ⟨24, [], []⟩
def blob_IsPath_L0_G (N : Nat) (t14 : List Str) (c15 : Int) (s16 : Int) (k : Ex → St → Option Bool) : Option Bool :=
  blob_IsPath_L0 N t14 c15 (k (.exit 0) (blob_IsPath_L0_tl0 t14 c15)) N s16
abbrev blob_IsPath_L0_F (N : Nat) : FV blob_IsPath_L0_fs → HV blob_IsPath_L0_bs → (Ex → St → Option Bool) → Option Bool := fun x _ k => blob_IsPath_L0_G N x.1 x.2.1 x.2.2.1 k
noncomputable def blob_IsPath_LP (N : Nat) : Nat → Code → St → (Ex → St → Option Bool) → Option Bool := fun i c =>
  match i with
  | 0 => (LPc 24 blob_IsPath_L0_fs blob_IsPath_L0_bs (blob_IsPath_L0_F N) (fun st k => iter (blob_IsPath_h 0) (exec (blob_IsPath_E N) N c 0) N st k))
  | i => fun st k => iter (blob_IsPath_h i) (exec (blob_IsPath_E N) N c i) N st k
theorem blob_IsPath_L0_step (N : Nat) (t14 : List Str) (c15 : Int) (KX : Nat → St → Option Bool) (I : St → Option Bool) (s16 : Int) :
    execL (blob_IsPath_LP N) (blob_IsPath_E N) (cAt (bodyOf Tryd.f16) [true, true, false, true, false, false]) 0 (blob_IsPath_L0_hd t14 c15 s16) (roundK (blob_IsPath_h 0) I KX (resD (blob_IsPath_E N) Tryd.f16 (blob_IsPath_sg fun x _ => blob_IsPath N x.1) blob_IsPath_pk)) = blob_IsPath_L0T N t14 c15 (KX 0 (blob_IsPath_L0_tl0 t14 c15)) (fun s16 => I (blob_IsPath_L0_hd t14 c15 s16)) s16 := by kernel_rfl
theorem blob_IsPath_L0_ok (N : Nat) : ∀ x y k, (∀ st, k .ret st = (resD (blob_IsPath_E N) Tryd.f16 (blob_IsPath_sg fun x _ => blob_IsPath N x.1) blob_IsPath_pk) st) → iter (blob_IsPath_h 0) (exec (blob_IsPath_E N) N (cAt (bodyOf Tryd.f16) [true, true, false, true, false, false]) 0) N ⟨24, unF blob_IsPath_L0_fs x, unH blob_IsPath_L0_bs y⟩ k = blob_IsPath_L0_F N x y k := fun x _ k hk =>
  iter_link (S := (Int) × Unit) (blob_IsPath_h 0) _ (execL (blob_IsPath_LP N) (blob_IsPath_E N) (cAt (bodyOf Tryd.f16) [true, true, false, true, false, false]) 0) (resD (blob_IsPath_E N) Tryd.f16 (blob_IsPath_sg fun x _ => blob_IsPath N x.1) blob_IsPath_pk) (fun st k hk => execL_eq _ _ N _ (cAt (bodyOf Tryd.f16) [true, true, false, true, false, false]) 0 (show LoopsOk (blob_IsPath_LP N) (blob_IsPath_E N) N (resD (blob_IsPath_E N) Tryd.f16 (blob_IsPath_sg fun x _ => blob_IsPath N x.1) blob_IsPath_pk) [] from trivial) st k hk) (fun s => blob_IsPath_L0_hd x.1 x.2.1 s.1) k hk
    (fun self s => blob_IsPath_L0T N x.1 x.2.1 (k (.exit 0) (blob_IsPath_L0_tl0 x.1 x.2.1)) (fun s16 => self (s16, ())) s.1) (fun n s => blob_IsPath_L0 N x.1 x.2.1 (k (.exit 0) (blob_IsPath_L0_tl0 x.1 x.2.1)) n s.1) (fun _ => rfl) (fun _ _ => rfl)
    (fun I s => blob_IsPath_L0_step N x.1 x.2.1 (fun j => k (.exit j)) I s.1) N (x.2.2.1, ())
theorem blob_IsPath_lp0 (N : Nat) : ∀ st k, (∀ st, k .ret st = (resD (blob_IsPath_E N) Tryd.f16 (blob_IsPath_sg fun x _ => blob_IsPath N x.1) blob_IsPath_pk) st) → blob_IsPath_LP N 0 (cAt (bodyOf Tryd.f16) [true, true, false, true, false, false]) st k = iter (Env.hint (blob_IsPath_E N) 0) (exec (blob_IsPath_E N) N (cAt (bodyOf Tryd.f16) [true, true, false, true, false, false]) 0) N st k := fun st k hk => LPc_eq 24 blob_IsPath_L0_fs blob_IsPath_L0_bs _ _ (resD (blob_IsPath_E N) Tryd.f16 (blob_IsPath_sg fun x _ => blob_IsPath N x.1) blob_IsPath_pk) (blob_IsPath_L0_ok N) _ st k hk (rfl)
theorem blob_IsPath_core (N : Nat) (x : SV [.v .str]) (y : BV []) : runL (blob_IsPath_E N) Tryd.f16 (blob_IsPath_sg fun x _ => blob_IsPath N x.1) blob_IsPath_pk (blob_IsPath_LP N) x y = blob_IsPath N x.1 := by kernel_rfl
theorem blob_IsPath_sound (N : Nat) : Sound Tryd.prog GW B0G 16 (blob_IsPath_sg fun x _ => blob_IsPath N x.1) :=
  runD_sound (mkE_ok blob_IsPath_h (blob_IsPath_fn N) _ _ (blob_IsPath_fn_ok N)) Tryd.func16 rfl Tryd.call16 (blob_IsPath_sg fun x _ => blob_IsPath N x.1) blob_IsPath_pk (fun _ _ => rfl) N (fun x y _ h => ((runL_eq (blob_IsPath_E N) N Tryd.f16 (blob_IsPath_sg fun x _ => blob_IsPath N x.1) blob_IsPath_pk (blob_IsPath_LP N) (show LoopsOk (blob_IsPath_LP N) (blob_IsPath_E N) N (resD (blob_IsPath_E N) Tryd.f16 (blob_IsPath_sg fun x _ => blob_IsPath N x.1) blob_IsPath_pk) [(0, (cAt (bodyOf Tryd.f16) [true, true, false, true, false, false]))] from ⟨blob_IsPath_lp0 N, trivial⟩) x y).trans (blob_IsPath_core N x y)).trans h)
def blob_clashes_L0T (_N : Nat) (x0 : List (Str × Bool)) (x1 : Str) (c7 : Int) (k0 : Option Bool) (self : Int → Option Bool) (s8 : Int) : Option Bool :=
  br (decide (s8 < c7))
    (bnd (geti x1 s8) fun t13 =>
    br (t13 == (47 : UInt8))
      (bnd (slc x1 (0 : Int) s8) fun t19 =>
      br ((mget x0 t19).getD (zero .bool))
        (some true)
        (self (IntKind.i64.wrap (s8 + (1 : Int)))))
      (self (IntKind.i64.wrap (s8 + (1 : Int)))))
    (k0)
def blob_clashes_L0 (N : Nat) (x0 : List (Str × Bool)) (x1 : Str) (c7 : Int) (k0 : Option Bool) : Nat → Int → Option Bool
  | 0, _ => none
  | n + 1, s8 => blob_clashes_L0T N x0 x1 c7 k0 (blob_clashes_L0 N x0 x1 c7 k0 n) s8
def blob_clashes (N : Nat) (x0 : List (Str × Bool)) (x1 : Str) : Option Bool :=
  blob_clashes_L0 N x0 x1 (x1.length : Int) (some false) N (0 : Int)
abbrev blob_clashes_sg (f : SV [.v (.mp .bool), .v .str] → BV [] → Option (Bool)) : AF := { ps := [.v (.mp .bool), .v .str], bs := [], rs := [.v .bool], cs := [], R := Bool, out := fun z => ((z, ()), ()), f := f }
abbrev blob_clashes_pk : SV [.v .bool] → BV [] → Bool := fun x _ => x.1
def blob_clashes_fn (_N : Nat) : FuncId → Option Tmp → Option AF := fun f _ =>
  match f with
    | _ => none
theorem blob_clashes_fn_ok (N : Nat) : ∀ f q F, blob_clashes_fn N f q = some F → Sound Tryd.prog GW B0G f F := by
  intro f q F h
  unfold blob_clashes_fn at h
  split at h
  · cases h
def blob_clashes_h : Nat → Hint := fun i =>
  match i with
  | 0 => ⟨[], [0, 1, 7, 8], [], [], [], []⟩
  | _ => ⟨[], [], [], [], [], []⟩
abbrev blob_clashes_E (N : Nat) : Env := mkE blob_clashes_h (blob_clashes_fn N) (fun _ => false) (fun _ => false)
abbrev blob_clashes_L0_fs : List (Nat × Sl) := [(0, .v (.mp .bool)), (1, .v .str), (7, .v (.int .i64)), (8, .v (.int .i64))]
abbrev blob_clashes_L0_bs : List (Nat × Sb) := []
def blob_clashes_L0_hd (x0 : List (Str × Bool)) (x1 : Str) (c7 : Int) (s8 : Int) : St := ⟨23, [(0, .v (.mp .bool) x0), (1, .v .str x1), (7, .v (.int .i64) c7), (8, .v (.int .i64) s8)], []⟩
def blob_clashes_L0_tl0 (_x0 : List (Str × Bool)) (_x1 : Str) (_c7 : Int) : St := ⟨23, [], []⟩
def blob_clashes_L0_G (N : Nat) (x0 : List (Str × Bool)) (x1 : Str) (c7 : Int) (s8 : Int) (k : Ex → St → Option Bool) : Option Bool :=
  blob_clashes_L0 N x0 x1 c7 (k (.exit 0) (blob_clashes_L0_tl0 x0 x1 c7)) N s8
abbrev blob_clashes_L0_F (N : Nat) : FV blob_clashes_L0_fs → HV blob_clashes_L0_bs → (Ex → St → Option Bool) → Option Bool := fun x _ k => blob_clashes_L0_G N x.1 x.2.1 x.2.2.1 x.2.2.2.1 k
noncomputable def blob_clashes_LP (N : Nat) : Nat → Code → St → (Ex → St → Option Bool) → Option Bool := fun i c =>
  match i with
  | 0 => (LPc 23 blob_clashes_L0_fs blob_clashes_L0_bs (blob_clashes_L0_F N) (fun st k => iter (blob_clashes_h 0) (exec (blob_clashes_E N) N c 0) N st k))
  | i => fun st k => iter (blob_clashes_h i) (exec (blob_clashes_E N) N c i) N st k
theorem blob_clashes_L0_step (N : Nat) (x0 : List (Str × Bool)) (x1 : Str) (c7 : Int) (KX : Nat → St → Option Bool) (I : St → Option Bool) (s8 : Int) :
    execL (blob_clashes_LP N) (blob_clashes_E N) (cAt (bodyOf Tryd.f17) [true, false, true, false, false]) 0 (blob_clashes_L0_hd x0 x1 c7 s8) (roundK (blob_clashes_h 0) I KX (resD (blob_clashes_E N) Tryd.f17 (blob_clashes_sg fun x _ => blob_clashes N x.1 x.2.1) blob_clashes_pk)) = blob_clashes_L0T N x0 x1 c7 (KX 0 (blob_clashes_L0_tl0 x0 x1 c7)) (fun s8 => I (blob_clashes_L0_hd x0 x1 c7 s8)) s8 := by kernel_rfl
theorem blob_clashes_L0_ok (N : Nat) : ∀ x y k, (∀ st, k .ret st = (resD (blob_clashes_E N) Tryd.f17 (blob_clashes_sg fun x _ => blob_clashes N x.1 x.2.1) blob_clashes_pk) st) → iter (blob_clashes_h 0) (exec (blob_clashes_E N) N (cAt (bodyOf Tryd.f17) [true, false, true, false, false]) 0) N ⟨23, unF blob_clashes_L0_fs x, unH blob_clashes_L0_bs y⟩ k = blob_clashes_L0_F N x y k := fun x _ k hk =>
  iter_link (S := (Int) × Unit) (blob_clashes_h 0) _ (execL (blob_clashes_LP N) (blob_clashes_E N) (cAt (bodyOf Tryd.f17) [true, false, true, false, false]) 0) (resD (blob_clashes_E N) Tryd.f17 (blob_clashes_sg fun x _ => blob_clashes N x.1 x.2.1) blob_clashes_pk) (fun st k hk => execL_eq _ _ N _ (cAt (bodyOf Tryd.f17) [true, false, true, false, false]) 0 (show LoopsOk (blob_clashes_LP N) (blob_clashes_E N) N (resD (blob_clashes_E N) Tryd.f17 (blob_clashes_sg fun x _ => blob_clashes N x.1 x.2.1) blob_clashes_pk) [] from trivial) st k hk) (fun s => blob_clashes_L0_hd x.1 x.2.1 x.2.2.1 s.1) k hk
    (fun self s => blob_clashes_L0T N x.1 x.2.1 x.2.2.1 (k (.exit 0) (blob_clashes_L0_tl0 x.1 x.2.1 x.2.2.1)) (fun s8 => self (s8, ())) s.1) (fun n s => blob_clashes_L0 N x.1 x.2.1 x.2.2.1 (k (.exit 0) (blob_clashes_L0_tl0 x.1 x.2.1 x.2.2.1)) n s.1) (fun _ => rfl) (fun _ _ => rfl)
    (fun I s => blob_clashes_L0_step N x.1 x.2.1 x.2.2.1 (fun j => k (.exit j)) I s.1) N (x.2.2.2.1, ())
theorem blob_clashes_lp0 (N : Nat) : ∀ st k, (∀ st, k .ret st = (resD (blob_clashes_E N) Tryd.f17 (blob_clashes_sg fun x _ => blob_clashes N x.1 x.2.1) blob_clashes_pk) st) → blob_clashes_LP N 0 (cAt (bodyOf Tryd.f17) [true, false, true, false, false]) st k = iter (Env.hint (blob_clashes_E N) 0) (exec (blob_clashes_E N) N (cAt (bodyOf Tryd.f17) [true, false, true, false, false]) 0) N st k := fun st k hk => LPc_eq 23 blob_clashes_L0_fs blob_clashes_L0_bs _ _ (resD (blob_clashes_E N) Tryd.f17 (blob_clashes_sg fun x _ => blob_clashes N x.1 x.2.1) blob_clashes_pk) (blob_clashes_L0_ok N) _ st k hk (rfl)
theorem blob_clashes_core (N : Nat) (x : SV [.v (.mp .bool), .v .str]) (y : BV []) : runL (blob_clashes_E N) Tryd.f17 (blob_clashes_sg fun x _ => blob_clashes N x.1 x.2.1) blob_clashes_pk (blob_clashes_LP N) x y = blob_clashes N x.1 x.2.1 := by kernel_rfl
theorem blob_clashes_sound (N : Nat) : Sound Tryd.prog GW B0G 17 (blob_clashes_sg fun x _ => blob_clashes N x.1 x.2.1) :=
  runD_sound (mkE_ok blob_clashes_h (blob_clashes_fn N) _ _ (blob_clashes_fn_ok N)) Tryd.func17 rfl Tryd.call17 (blob_clashes_sg fun x _ => blob_clashes N x.1 x.2.1) blob_clashes_pk (fun _ _ => rfl) N (fun x y _ h => ((runL_eq (blob_clashes_E N) N Tryd.f17 (blob_clashes_sg fun x _ => blob_clashes N x.1 x.2.1) blob_clashes_pk (blob_clashes_LP N) (show LoopsOk (blob_clashes_LP N) (blob_clashes_E N) N (resD (blob_clashes_E N) Tryd.f17 (blob_clashes_sg fun x _ => blob_clashes N x.1 x.2.1) blob_clashes_pk) [(0, (cAt (bodyOf Tryd.f17) [true, false, true, false, false]))] from ⟨blob_clashes_lp0 N, trivial⟩) x y).trans (blob_clashes_core N x y)).trans h)
def blob_CheckFiles_L0T (N : Nat) (x0 : List (Str × Bool × List UInt8)) (c13 : List (Str × Bool × List UInt8)) (c14 : Int) (k0 : Int → (List (Str × Bool)) → Option Int) (self : Int → Int → (List (Str × Bool)) → Option Int) (s3 : Int) (s15 : Int) (m1012 : List (Str × Bool)) : Option Int :=
  br (decide (s15 < c14))
    (bnd (geti c13 s15) fun t18 =>
    bnd (blob_IsPath N t18.1) fun t23 =>
    br (!t23)
      (some (3 : Int))
      (br (decide ((t18.2.2.length : Int) > (100000 : Int)))
        (some (2 : Int))
        (br (decide (s15 > (0 : Int)))
          (bnd (geti x0 (IntKind.i64.wrap (s15 - (1 : Int)))) fun t39 =>
          br (Op.bytesLess t18.1 t39.1 || t18.1 == t39.1)
            (some (8 : Int))
            (self (IntKind.i64.wrap (s3 + (t18.2.2.length : Int))) (IntKind.i64.wrap (s15 + (1 : Int))) (mset m1012 t18.1 true)))
          (self (IntKind.i64.wrap (s3 + (t18.2.2.length : Int))) (IntKind.i64.wrap (s15 + (1 : Int))) (mset m1012 t18.1 true)))))
    (k0 s3 m1012)
def blob_CheckFiles_L0 (N : Nat) (x0 : List (Str × Bool × List UInt8)) (c13 : List (Str × Bool × List UInt8)) (c14 : Int) (k0 : Int → (List (Str × Bool)) → Option Int) : Nat → Int → Int → (List (Str × Bool)) → Option Int
  | 0, _, _, _ => none
  | n + 1, s3, s15, m1012 => blob_CheckFiles_L0T N x0 c13 c14 k0 (blob_CheckFiles_L0 N x0 c13 c14 k0 n) s3 s15 m1012
def blob_CheckFiles_L1T (N : Nat) (x0 : List (Str × Bool × List UInt8)) (c54 : Int) (o0_m1012 : List (Str × Bool)) (k3 : Option Int) (self : Int → Option Int) (s55 : Int) : Option Int :=
  br (decide (s55 < c54))
    (bnd (geti x0 s55) fun t57 =>
    bnd (blob_clashes N o0_m1012 t57.1) fun t62 =>
    br (t62)
      (some (12 : Int))
      (self (IntKind.i64.wrap (s55 + (1 : Int)))))
    (k3)
def blob_CheckFiles_L1 (N : Nat) (x0 : List (Str × Bool × List UInt8)) (c54 : Int) (o0_m1012 : List (Str × Bool)) (k3 : Option Int) : Nat → Int → Option Int
  | 0, _ => none
  | n + 1, s55 => blob_CheckFiles_L1T N x0 c54 o0_m1012 k3 (blob_CheckFiles_L1 N x0 c54 o0_m1012 k3 n) s55
def blob_CheckFiles (N : Nat) (x0 : List (Str × Bool × List UInt8)) : Option Int :=
  br (decide ((x0.length : Int) > (1000 : Int)))
    (some (2 : Int))
    (blob_CheckFiles_L0 N x0 x0 (x0.length : Int) (fun o0_3 o0_m1012 =>
        blob_CheckFiles_L1 N x0 (x0.length : Int) o0_m1012 (br (decide (o0_3 > (2000000 : Int)))
              (some (2 : Int))
              (some (0 : Int))) N (0 : Int)) N (0 : Int) (0 : Int) ([] : List (Str × Bool)))
abbrev blob_CheckFiles_sg (f : SV [.v (.sl (.pr .str (.pr .bool (.sl .u8))))] → BV [] → Option (Int)) : AF := { ps := [.v (.sl (.pr .str (.pr .bool (.sl .u8))))], bs := [], rs := [.v (.int .i64)], cs := [], R := Int, out := fun z => ((z, ()), ()), f := f }
abbrev blob_CheckFiles_pk : SV [.v (.int .i64)] → BV [] → Int := fun x _ => x.1
def blob_CheckFiles_fn (N : Nat) : FuncId → Option Tmp → Option AF := fun f _ =>
  match f with
    | 16 => some (blob_IsPath_sg fun x _ => blob_IsPath N x.1)
    | 17 => some (blob_clashes_sg fun x _ => blob_clashes N x.1 x.2.1)
    | _ => none
theorem blob_CheckFiles_fn_ok (N : Nat) : ∀ f q F, blob_CheckFiles_fn N f q = some F → Sound Tryd.prog GW B0G f F := by
  intro f q F h
  unfold blob_CheckFiles_fn at h
  split at h
  · cases h; exact blob_IsPath_sound N
  · cases h; exact blob_clashes_sound N
  · cases h
def blob_CheckFiles_h : Nat → Hint := fun i =>
  match i with
  | 0 => ⟨[], [0, 3, 4, 13, 14, 15], [1012], [0, 3, 4], [1012], []⟩
  | 3 => ⟨[], [3, 4, 53, 54, 55], [1012], [3], [], []⟩
  | _ => ⟨[], [], [], [], [], []⟩
abbrev blob_CheckFiles_E (N : Nat) : Env := mkE blob_CheckFiles_h (blob_CheckFiles_fn N) (fun _ => false) (fun _ => false)
abbrev blob_CheckFiles_L0_fs : List (Nat × Sl) := [(0, .v (.sl (.pr .str (.pr .bool (.sl .u8))))), (3, .v (.int .i64)), (4, .mref 1012), (13, .v (.sl (.pr .str (.pr .bool (.sl .u8))))), (14, .v (.int .i64)), (15, .v (.int .i64))]
abbrev blob_CheckFiles_L0_bs : List (Nat × Sb) := [(1012, .map .bool)]
def blob_CheckFiles_L0_hd (x0 : List (Str × Bool × List UInt8)) (c13 : List (Str × Bool × List UInt8)) (c14 : Int) (s3 : Int) (s15 : Int) (m1012 : List (Str × Bool)) : St := ⟨66, [(0, .v (.sl (.pr .str (.pr .bool (.sl .u8)))) x0), (3, .v (.int .i64) s3), (4, .mref 1012), (13, .v (.sl (.pr .str (.pr .bool (.sl .u8)))) c13), (14, .v (.int .i64) c14), (15, .v (.int .i64) s15)], [(1012, .map .bool m1012)]⟩
def blob_CheckFiles_L0_tl0 (x0 : List (Str × Bool × List UInt8)) (_c13 : List (Str × Bool × List UInt8)) (_c14 : Int) (o0_3 : Int) (o0_m1012 : List (Str × Bool)) : St := ⟨66, [(0, .v (.sl (.pr .str (.pr .bool (.sl .u8)))) x0), (3, .v (.int .i64) o0_3), (4, .mref 1012)], [(1012, .map .bool o0_m1012)]⟩
def blob_CheckFiles_L0_G (N : Nat) (x0 : List (Str × Bool × List UInt8)) (c13 : List (Str × Bool × List UInt8)) (c14 : Int) (s3 : Int) (s15 : Int) (m1012 : List (Str × Bool)) (k : Ex → St → Option Int) : Option Int :=
  blob_CheckFiles_L0 N x0 c13 c14 (fun o0_3 o0_m1012 => k (.exit 0) (blob_CheckFiles_L0_tl0 x0 c13 c14 o0_3 o0_m1012)) N s3 s15 m1012
abbrev blob_CheckFiles_L0_F (N : Nat) : FV blob_CheckFiles_L0_fs → HV blob_CheckFiles_L0_bs → (Ex → St → Option Int) → Option Int := fun x y k => blob_CheckFiles_L0_G N x.1 x.2.2.2.1 x.2.2.2.2.1 x.2.1 x.2.2.2.2.2.1 y.1 k
abbrev blob_CheckFiles_L1_fs : List (Nat × Sl) := [(3, .v (.int .i64)), (4, .mref 1012), (53, .v (.sl (.pr .str (.pr .bool (.sl .u8))))), (54, .v (.int .i64)), (55, .v (.int .i64))]
abbrev blob_CheckFiles_L1_bs : List (Nat × Sb) := [(1012, .map .bool)]
def blob_CheckFiles_L1_hd (o0_3 : Int) (x0 : List (Str × Bool × List UInt8)) (c54 : Int) (o0_m1012 : List (Str × Bool)) (s55 : Int) : St := ⟨66, [(3, .v (.int .i64) o0_3), (4, .mref 1012), (53, .v (.sl (.pr .str (.pr .bool (.sl .u8)))) x0), (54, .v (.int .i64) c54), (55, .v (.int .i64) s55)], [(1012, .map .bool o0_m1012)]⟩
def blob_CheckFiles_L1_tl3 (o0_3 : Int) (_x0 : List (Str × Bool × List UInt8)) (_c54 : Int) (_o0_m1012 : List (Str × Bool)) : St := ⟨66, [(3, .v (.int .i64) o0_3)], []⟩
def blob_CheckFiles_L1_G (N : Nat) (o0_3 : Int) (x0 : List (Str × Bool × List UInt8)) (c54 : Int) (o0_m1012 : List (Str × Bool)) (s55 : Int) (k : Ex → St → Option Int) : Option Int :=
  blob_CheckFiles_L1 N x0 c54 o0_m1012 (k (.exit 3) (blob_CheckFiles_L1_tl3 o0_3 x0 c54 o0_m1012)) N s55
abbrev blob_CheckFiles_L1_F (N : Nat) : FV blob_CheckFiles_L1_fs → HV blob_CheckFiles_L1_bs → (Ex → St → Option Int) → Option Int := fun x y k => blob_CheckFiles_L1_G N x.1 x.2.2.1 x.2.2.2.1 y.1 x.2.2.2.2.1 k
noncomputable def blob_CheckFiles_LP (N : Nat) : Nat → Code → St → (Ex → St → Option Int) → Option Int := fun i c =>
  match i with
  | 0 => (LPc 66 blob_CheckFiles_L0_fs blob_CheckFiles_L0_bs (blob_CheckFiles_L0_F N) (fun st k => iter (blob_CheckFiles_h 0) (exec (blob_CheckFiles_E N) N c 0) N st k))
  | 3 => (LPc 66 blob_CheckFiles_L1_fs blob_CheckFiles_L1_bs (blob_CheckFiles_L1_F N) (fun st k => iter (blob_CheckFiles_h 3) (exec (blob_CheckFiles_E N) N c 3) N st k))
  | i => fun st k => iter (blob_CheckFiles_h i) (exec (blob_CheckFiles_E N) N c i) N st k
theorem blob_CheckFiles_L1_step (N : Nat) (o0_3 : Int) (x0 : List (Str × Bool × List UInt8)) (c54 : Int) (o0_m1012 : List (Str × Bool)) (KX : Nat → St → Option Int) (I : St → Option Int) (s55 : Int) :
    execL (blob_CheckFiles_LP N) (blob_CheckFiles_E N) (cAt (bodyOf Tryd.f6) [true, true, true, true, true, false, true, false, false]) 3 (blob_CheckFiles_L1_hd o0_3 x0 c54 o0_m1012 s55) (roundK (blob_CheckFiles_h 3) I KX (resD (blob_CheckFiles_E N) Tryd.f6 (blob_CheckFiles_sg fun x _ => blob_CheckFiles N x.1) blob_CheckFiles_pk)) = blob_CheckFiles_L1T N x0 c54 o0_m1012 (KX 3 (blob_CheckFiles_L1_tl3 o0_3 x0 c54 o0_m1012)) (fun s55 => I (blob_CheckFiles_L1_hd o0_3 x0 c54 o0_m1012 s55)) s55 := by kernel_rfl
theorem blob_CheckFiles_L1_ok (N : Nat) : ∀ x y k, (∀ st, k .ret st = (resD (blob_CheckFiles_E N) Tryd.f6 (blob_CheckFiles_sg fun x _ => blob_CheckFiles N x.1) blob_CheckFiles_pk) st) → iter (blob_CheckFiles_h 3) (exec (blob_CheckFiles_E N) N (cAt (bodyOf Tryd.f6) [true, true, true, true, true, false, true, false, false]) 3) N ⟨66, unF blob_CheckFiles_L1_fs x, unH blob_CheckFiles_L1_bs y⟩ k = blob_CheckFiles_L1_F N x y k := fun x y k hk =>
  iter_link (S := (Int) × Unit) (blob_CheckFiles_h 3) _ (execL (blob_CheckFiles_LP N) (blob_CheckFiles_E N) (cAt (bodyOf Tryd.f6) [true, true, true, true, true, false, true, false, false]) 3) (resD (blob_CheckFiles_E N) Tryd.f6 (blob_CheckFiles_sg fun x _ => blob_CheckFiles N x.1) blob_CheckFiles_pk) (fun st k hk => execL_eq _ _ N _ (cAt (bodyOf Tryd.f6) [true, true, true, true, true, false, true, false, false]) 3 (show LoopsOk (blob_CheckFiles_LP N) (blob_CheckFiles_E N) N (resD (blob_CheckFiles_E N) Tryd.f6 (blob_CheckFiles_sg fun x _ => blob_CheckFiles N x.1) blob_CheckFiles_pk) [] from trivial) st k hk) (fun s => blob_CheckFiles_L1_hd x.1 x.2.2.1 x.2.2.2.1 y.1 s.1) k hk
    (fun self s => blob_CheckFiles_L1T N x.2.2.1 x.2.2.2.1 y.1 (k (.exit 3) (blob_CheckFiles_L1_tl3 x.1 x.2.2.1 x.2.2.2.1 y.1)) (fun s55 => self (s55, ())) s.1) (fun n s => blob_CheckFiles_L1 N x.2.2.1 x.2.2.2.1 y.1 (k (.exit 3) (blob_CheckFiles_L1_tl3 x.1 x.2.2.1 x.2.2.2.1 y.1)) n s.1) (fun _ => rfl) (fun _ _ => rfl)
    (fun I s => blob_CheckFiles_L1_step N x.1 x.2.2.1 x.2.2.2.1 y.1 (fun j => k (.exit j)) I s.1) N (x.2.2.2.2.1, ())
theorem blob_CheckFiles_lp3 (N : Nat) : ∀ st k, (∀ st, k .ret st = (resD (blob_CheckFiles_E N) Tryd.f6 (blob_CheckFiles_sg fun x _ => blob_CheckFiles N x.1) blob_CheckFiles_pk) st) → blob_CheckFiles_LP N 3 (cAt (bodyOf Tryd.f6) [true, true, true, true, true, false, true, false, false]) st k = iter (Env.hint (blob_CheckFiles_E N) 3) (exec (blob_CheckFiles_E N) N (cAt (bodyOf Tryd.f6) [true, true, true, true, true, false, true, false, false]) 3) N st k := fun st k hk => LPc_eq 66 blob_CheckFiles_L1_fs blob_CheckFiles_L1_bs _ _ (resD (blob_CheckFiles_E N) Tryd.f6 (blob_CheckFiles_sg fun x _ => blob_CheckFiles N x.1) blob_CheckFiles_pk) (blob_CheckFiles_L1_ok N) _ st k hk (rfl)
theorem blob_CheckFiles_L0_step (N : Nat) (x0 : List (Str × Bool × List UInt8)) (c13 : List (Str × Bool × List UInt8)) (c14 : Int) (KX : Nat → St → Option Int) (I : St → Option Int) (s3 : Int) (s15 : Int) (m1012 : List (Str × Bool)) :
    execL (blob_CheckFiles_LP N) (blob_CheckFiles_E N) (cAt (bodyOf Tryd.f6) [true, true, true, true, false, true, false, false]) 0 (blob_CheckFiles_L0_hd x0 c13 c14 s3 s15 m1012) (roundK (blob_CheckFiles_h 0) I KX (resD (blob_CheckFiles_E N) Tryd.f6 (blob_CheckFiles_sg fun x _ => blob_CheckFiles N x.1) blob_CheckFiles_pk)) = blob_CheckFiles_L0T N x0 c13 c14 (fun o0_3 o0_m1012 => KX 0 (blob_CheckFiles_L0_tl0 x0 c13 c14 o0_3 o0_m1012)) (fun s3 s15 m1012 => I (blob_CheckFiles_L0_hd x0 c13 c14 s3 s15 m1012)) s3 s15 m1012 := by kernel_rfl
theorem blob_CheckFiles_L0_ok (N : Nat) : ∀ x y k, (∀ st, k .ret st = (resD (blob_CheckFiles_E N) Tryd.f6 (blob_CheckFiles_sg fun x _ => blob_CheckFiles N x.1) blob_CheckFiles_pk) st) → iter (blob_CheckFiles_h 0) (exec (blob_CheckFiles_E N) N (cAt (bodyOf Tryd.f6) [true, true, true, true, false, true, false, false]) 0) N ⟨66, unF blob_CheckFiles_L0_fs x, unH blob_CheckFiles_L0_bs y⟩ k = blob_CheckFiles_L0_F N x y k := fun x y k hk =>
  iter_link (S := (Int) × (Int) × (List (Str × Bool)) × Unit) (blob_CheckFiles_h 0) _ (execL (blob_CheckFiles_LP N) (blob_CheckFiles_E N) (cAt (bodyOf Tryd.f6) [true, true, true, true, false, true, false, false]) 0) (resD (blob_CheckFiles_E N) Tryd.f6 (blob_CheckFiles_sg fun x _ => blob_CheckFiles N x.1) blob_CheckFiles_pk) (fun st k hk => execL_eq _ _ N _ (cAt (bodyOf Tryd.f6) [true, true, true, true, false, true, false, false]) 0 (show LoopsOk (blob_CheckFiles_LP N) (blob_CheckFiles_E N) N (resD (blob_CheckFiles_E N) Tryd.f6 (blob_CheckFiles_sg fun x _ => blob_CheckFiles N x.1) blob_CheckFiles_pk) [] from trivial) st k hk) (fun s => blob_CheckFiles_L0_hd x.1 x.2.2.2.1 x.2.2.2.2.1 s.1 s.2.1 s.2.2.1) k hk
    (fun self s => blob_CheckFiles_L0T N x.1 x.2.2.2.1 x.2.2.2.2.1 (fun o0_3 o0_m1012 => k (.exit 0) (blob_CheckFiles_L0_tl0 x.1 x.2.2.2.1 x.2.2.2.2.1 o0_3 o0_m1012)) (fun s3 s15 m1012 => self (s3, s15, m1012, ())) s.1 s.2.1 s.2.2.1) (fun n s => blob_CheckFiles_L0 N x.1 x.2.2.2.1 x.2.2.2.2.1 (fun o0_3 o0_m1012 => k (.exit 0) (blob_CheckFiles_L0_tl0 x.1 x.2.2.2.1 x.2.2.2.2.1 o0_3 o0_m1012)) n s.1 s.2.1 s.2.2.1) (fun _ => rfl) (fun _ _ => rfl)
    (fun I s => blob_CheckFiles_L0_step N x.1 x.2.2.2.1 x.2.2.2.2.1 (fun j => k (.exit j)) I s.1 s.2.1 s.2.2.1) N (x.2.1, x.2.2.2.2.2.1, y.1, ())
theorem blob_CheckFiles_lp0 (N : Nat) : ∀ st k, (∀ st, k .ret st = (resD (blob_CheckFiles_E N) Tryd.f6 (blob_CheckFiles_sg fun x _ => blob_CheckFiles N x.1) blob_CheckFiles_pk) st) → blob_CheckFiles_LP N 0 (cAt (bodyOf Tryd.f6) [true, true, true, true, false, true, false, false]) st k = iter (Env.hint (blob_CheckFiles_E N) 0) (exec (blob_CheckFiles_E N) N (cAt (bodyOf Tryd.f6) [true, true, true, true, false, true, false, false]) 0) N st k := fun st k hk => LPc_eq 66 blob_CheckFiles_L0_fs blob_CheckFiles_L0_bs _ _ (resD (blob_CheckFiles_E N) Tryd.f6 (blob_CheckFiles_sg fun x _ => blob_CheckFiles N x.1) blob_CheckFiles_pk) (blob_CheckFiles_L0_ok N) _ st k hk (rfl)
theorem blob_CheckFiles_core (N : Nat) (x : SV [.v (.sl (.pr .str (.pr .bool (.sl .u8))))]) (y : BV []) : runL (blob_CheckFiles_E N) Tryd.f6 (blob_CheckFiles_sg fun x _ => blob_CheckFiles N x.1) blob_CheckFiles_pk (blob_CheckFiles_LP N) x y = blob_CheckFiles N x.1 := by kernel_rfl
theorem blob_CheckFiles_sound (N : Nat) : Sound Tryd.prog GW B0G 6 (blob_CheckFiles_sg fun x _ => blob_CheckFiles N x.1) :=
  runD_sound (mkE_ok blob_CheckFiles_h (blob_CheckFiles_fn N) _ _ (blob_CheckFiles_fn_ok N)) Tryd.func6 rfl Tryd.call6 (blob_CheckFiles_sg fun x _ => blob_CheckFiles N x.1) blob_CheckFiles_pk (fun _ _ => rfl) N (fun x y _ h => ((runL_eq (blob_CheckFiles_E N) N Tryd.f6 (blob_CheckFiles_sg fun x _ => blob_CheckFiles N x.1) blob_CheckFiles_pk (blob_CheckFiles_LP N) (show LoopsOk (blob_CheckFiles_LP N) (blob_CheckFiles_E N) N (resD (blob_CheckFiles_E N) Tryd.f6 (blob_CheckFiles_sg fun x _ => blob_CheckFiles N x.1) blob_CheckFiles_pk) [(0, (cAt (bodyOf Tryd.f6) [true, true, true, true, false, true, false, false])), (3, (cAt (bodyOf Tryd.f6) [true, true, true, true, true, false, true, false, false]))] from ⟨blob_CheckFiles_lp0 N, blob_CheckFiles_lp3 N, trivial⟩) x y).trans (blob_CheckFiles_core N x y)).trans h)
def blob_Digest_L0T (_N : Nat) (x0 : List UInt8) (c9 : Int) (k0 : Int → Option Str) (self : Int → Int → Option Str) (s3 : Int) (s10 : Int) : Option Str :=
  br (decide (s10 < c9))
    (bnd (geti x0 s10) fun t12 =>
    self (IntKind.u64.wrap ((xorI .u64 s3 (IntKind.u64.wrap (UInt8.toNat t12 : Int))) * (1099511628211 : Int))) (IntKind.i64.wrap (s10 + (1 : Int))))
    (k0 s3)
def blob_Digest_L0 (N : Nat) (x0 : List UInt8) (c9 : Int) (k0 : Int → Option Str) : Nat → Int → Int → Option Str
  | 0, _, _ => none
  | n + 1, s3, s10 => blob_Digest_L0T N x0 c9 k0 (blob_Digest_L0 N x0 c9 k0 n) s3 s10
def blob_Digest_L1T (_N : Nat) (c22 : Int) (k2 : (List UInt8) → Option Str) (self : Int → Int → (List UInt8) → Option Str) (s3_1 : Int) (s23 : Int) (w1020 : List UInt8) : Option Str :=
  br (decide (s23 < c22))
    (bnd (geti ([48, 49, 50, 51, 52, 53, 54, 55, 56, 57, 97, 98, 99, 100, 101, 102] : Str) (andI .u64 s3_1 (15 : Int))) fun t31 =>
    br (decide (0 ≤ (IntKind.i64.wrap ((15 : Int) - s23)) ∧ (IntKind.i64.wrap ((15 : Int) - s23)) < (w1020.length : Int)))
      (bnd (geti w1020 (IntKind.i64.wrap ((15 : Int) - s23))) fun _ =>
      br (decide (0 ≤ (4 : Int)))
        (self (shrI .u64 s3_1 (4 : Int)) (IntKind.i64.wrap (s23 + (1 : Int))) (seti w1020 (IntKind.i64.wrap ((15 : Int) - s23)) t31))
        none)
      none)
    (k2 w1020)
def blob_Digest_L1 (N : Nat) (c22 : Int) (k2 : (List UInt8) → Option Str) : Nat → Int → Int → (List UInt8) → Option Str
  | 0, _, _, _ => none
  | n + 1, s3_1, s23, w1020 => blob_Digest_L1T N c22 k2 (blob_Digest_L1 N c22 k2 n) s3_1 s23 w1020
def blob_Digest (N : Nat) (x0 : List UInt8) : Option Str :=
  blob_Digest_L0 N x0 (x0.length : Int) (fun o0_3 =>
      br (decide (0 ≤ (16 : Int) ∧ (16 : Int) ≤ (16 : Int) ∧ (16 : Int) * (24 * Ty.sz .u8 : Nat) ≤ 140737488355328))
        (blob_Digest_L1 N ((mk0 (16 : Int) (zero .u8)).length : Int) (fun o1_w1020 =>
            some o1_w1020) N o0_3 (0 : Int) (mk0 (16 : Int) (zero .u8)))
        none) N (14695981039346656037 : Int) (0 : Int)
abbrev blob_Digest_sg (f : SV [.v (.sl .u8)] → BV [] → Option (Str)) : AF := { ps := [.v (.sl .u8)], bs := [], rs := [.v .str], cs := [], R := Str, out := fun z => ((z, ()), ()), f := f }
abbrev blob_Digest_pk : SV [.v .str] → BV [] → Str := fun x _ => x.1
def blob_Digest_fn (_N : Nat) : FuncId → Option Tmp → Option AF := fun f _ =>
  match f with
    | _ => none
theorem blob_Digest_fn_ok (N : Nat) : ∀ f q F, blob_Digest_fn N f q = some F → Sound Tryd.prog GW B0G f F := by
  intro f q F h
  unfold blob_Digest_fn at h
  split at h
  · cases h
def blob_Digest_h : Nat → Hint := fun i =>
  match i with
  | 0 => ⟨[], [3, 8, 9, 10], [], [3], [], []⟩
  | 2 => ⟨[], [3, 6, 22, 23], [1020], [6], [1020], []⟩
  | _ => ⟨[], [], [], [], [], []⟩
abbrev blob_Digest_E (N : Nat) : Env := mkE blob_Digest_h (blob_Digest_fn N) (fun i => match i with | 20 => true | _ => false) (fun _ => false)
abbrev blob_Digest_L0_fs : List (Nat × Sl) := [(3, .v (.int .u64)), (8, .v (.sl .u8)), (9, .v (.int .i64)), (10, .v (.int .i64))]
abbrev blob_Digest_L0_bs : List (Nat × Sb) := []
def blob_Digest_L0_hd (x0 : List UInt8) (c9 : Int) (s3 : Int) (s10 : Int) : St := ⟨38, [(3, .v (.int .u64) s3), (8, .v (.sl .u8) x0), (9, .v (.int .i64) c9), (10, .v (.int .i64) s10)], []⟩
def blob_Digest_L0_tl0 (_x0 : List UInt8) (_c9 : Int) (o0_3 : Int) : St := ⟨38, [(3, .v (.int .u64) o0_3)], []⟩
def blob_Digest_L0_G (N : Nat) (x0 : List UInt8) (c9 : Int) (s3 : Int) (s10 : Int) (k : Ex → St → Option Str) : Option Str :=
  blob_Digest_L0 N x0 c9 (fun o0_3 => k (.exit 0) (blob_Digest_L0_tl0 x0 c9 o0_3)) N s3 s10
abbrev blob_Digest_L0_F (N : Nat) : FV blob_Digest_L0_fs → HV blob_Digest_L0_bs → (Ex → St → Option Str) → Option Str := fun x _ k => blob_Digest_L0_G N x.2.1 x.2.2.1 x.1 x.2.2.2.1 k
abbrev blob_Digest_L1_fs : List (Nat × Sl) := [(3, .v (.int .u64)), (6, .row 1020), (22, .v (.int .i64)), (23, .v (.int .i64))]
abbrev blob_Digest_L1_bs : List (Nat × Sb) := [(1020, .row 5 .u8 true)]
def blob_Digest_L1_hd (c22 : Int) (s3_1 : Int) (s23 : Int) (w1020 : List UInt8) : St := ⟨38, [(3, .v (.int .u64) s3_1), (6, .row 1020), (22, .v (.int .i64) c22), (23, .v (.int .i64) s23)], [(1020, .row 5 .u8 true w1020)]⟩
def blob_Digest_L1_tl2 (_c22 : Int) (o1_w1020 : List UInt8) : St := ⟨38, [(6, .row 1020)], [(1020, .row 5 .u8 true o1_w1020)]⟩
def blob_Digest_L1_G (N : Nat) (c22 : Int) (s3_1 : Int) (s23 : Int) (w1020 : List UInt8) (k : Ex → St → Option Str) : Option Str :=
  blob_Digest_L1 N c22 (fun o1_w1020 => k (.exit 2) (blob_Digest_L1_tl2 c22 o1_w1020)) N s3_1 s23 w1020
abbrev blob_Digest_L1_F (N : Nat) : FV blob_Digest_L1_fs → HV blob_Digest_L1_bs → (Ex → St → Option Str) → Option Str := fun x y k => blob_Digest_L1_G N x.2.2.1 x.1 x.2.2.2.1 y.1 k
noncomputable def blob_Digest_LP (N : Nat) : Nat → Code → St → (Ex → St → Option Str) → Option Str := fun i c =>
  match i with
  | 0 => (LPc 38 blob_Digest_L0_fs blob_Digest_L0_bs (blob_Digest_L0_F N) (fun st k => iter (blob_Digest_h 0) (exec (blob_Digest_E N) N c 0) N st k))
  | 2 => (LPc 38 blob_Digest_L1_fs blob_Digest_L1_bs (blob_Digest_L1_F N) (fun st k => iter (blob_Digest_h 2) (exec (blob_Digest_E N) N c 2) N st k))
  | i => fun st k => iter (blob_Digest_h i) (exec (blob_Digest_E N) N c i) N st k
theorem blob_Digest_L1_step (N : Nat) (c22 : Int) (KX : Nat → St → Option Str) (I : St → Option Str) (s3_1 : Int) (s23 : Int) (w1020 : List UInt8) :
    execL (blob_Digest_LP N) (blob_Digest_E N) (cAt (bodyOf Tryd.f21) [true, true, true, true, false, true, false, false]) 2 (blob_Digest_L1_hd c22 s3_1 s23 w1020) (roundK (blob_Digest_h 2) I KX (resD (blob_Digest_E N) Tryd.f21 (blob_Digest_sg fun x _ => blob_Digest N x.1) blob_Digest_pk)) = blob_Digest_L1T N c22 (fun o1_w1020 => KX 2 (blob_Digest_L1_tl2 c22 o1_w1020)) (fun s3_1 s23 w1020 => I (blob_Digest_L1_hd c22 s3_1 s23 w1020)) s3_1 s23 w1020 := by kernel_rfl
theorem blob_Digest_L1_ok (N : Nat) : ∀ x y k, (∀ st, k .ret st = (resD (blob_Digest_E N) Tryd.f21 (blob_Digest_sg fun x _ => blob_Digest N x.1) blob_Digest_pk) st) → iter (blob_Digest_h 2) (exec (blob_Digest_E N) N (cAt (bodyOf Tryd.f21) [true, true, true, true, false, true, false, false]) 2) N ⟨38, unF blob_Digest_L1_fs x, unH blob_Digest_L1_bs y⟩ k = blob_Digest_L1_F N x y k := fun x y k hk =>
  iter_link (S := (Int) × (Int) × (List UInt8) × Unit) (blob_Digest_h 2) _ (execL (blob_Digest_LP N) (blob_Digest_E N) (cAt (bodyOf Tryd.f21) [true, true, true, true, false, true, false, false]) 2) (resD (blob_Digest_E N) Tryd.f21 (blob_Digest_sg fun x _ => blob_Digest N x.1) blob_Digest_pk) (fun st k hk => execL_eq _ _ N _ (cAt (bodyOf Tryd.f21) [true, true, true, true, false, true, false, false]) 2 (show LoopsOk (blob_Digest_LP N) (blob_Digest_E N) N (resD (blob_Digest_E N) Tryd.f21 (blob_Digest_sg fun x _ => blob_Digest N x.1) blob_Digest_pk) [] from trivial) st k hk) (fun s => blob_Digest_L1_hd x.2.2.1 s.1 s.2.1 s.2.2.1) k hk
    (fun self s => blob_Digest_L1T N x.2.2.1 (fun o1_w1020 => k (.exit 2) (blob_Digest_L1_tl2 x.2.2.1 o1_w1020)) (fun s3_1 s23 w1020 => self (s3_1, s23, w1020, ())) s.1 s.2.1 s.2.2.1) (fun n s => blob_Digest_L1 N x.2.2.1 (fun o1_w1020 => k (.exit 2) (blob_Digest_L1_tl2 x.2.2.1 o1_w1020)) n s.1 s.2.1 s.2.2.1) (fun _ => rfl) (fun _ _ => rfl)
    (fun I s => blob_Digest_L1_step N x.2.2.1 (fun j => k (.exit j)) I s.1 s.2.1 s.2.2.1) N (x.1, x.2.2.2.1, y.1, ())
theorem blob_Digest_lp2 (N : Nat) : ∀ st k, (∀ st, k .ret st = (resD (blob_Digest_E N) Tryd.f21 (blob_Digest_sg fun x _ => blob_Digest N x.1) blob_Digest_pk) st) → blob_Digest_LP N 2 (cAt (bodyOf Tryd.f21) [true, true, true, true, false, true, false, false]) st k = iter (Env.hint (blob_Digest_E N) 2) (exec (blob_Digest_E N) N (cAt (bodyOf Tryd.f21) [true, true, true, true, false, true, false, false]) 2) N st k := fun st k hk => LPc_eq 38 blob_Digest_L1_fs blob_Digest_L1_bs _ _ (resD (blob_Digest_E N) Tryd.f21 (blob_Digest_sg fun x _ => blob_Digest N x.1) blob_Digest_pk) (blob_Digest_L1_ok N) _ st k hk (rfl)
theorem blob_Digest_L0_step (N : Nat) (x0 : List UInt8) (c9 : Int) (KX : Nat → St → Option Str) (I : St → Option Str) (s3 : Int) (s10 : Int) :
    execL (blob_Digest_LP N) (blob_Digest_E N) (cAt (bodyOf Tryd.f21) [true, true, false, true, false, false]) 0 (blob_Digest_L0_hd x0 c9 s3 s10) (roundK (blob_Digest_h 0) I KX (resD (blob_Digest_E N) Tryd.f21 (blob_Digest_sg fun x _ => blob_Digest N x.1) blob_Digest_pk)) = blob_Digest_L0T N x0 c9 (fun o0_3 => KX 0 (blob_Digest_L0_tl0 x0 c9 o0_3)) (fun s3 s10 => I (blob_Digest_L0_hd x0 c9 s3 s10)) s3 s10 := by kernel_rfl
theorem blob_Digest_L0_ok (N : Nat) : ∀ x y k, (∀ st, k .ret st = (resD (blob_Digest_E N) Tryd.f21 (blob_Digest_sg fun x _ => blob_Digest N x.1) blob_Digest_pk) st) → iter (blob_Digest_h 0) (exec (blob_Digest_E N) N (cAt (bodyOf Tryd.f21) [true, true, false, true, false, false]) 0) N ⟨38, unF blob_Digest_L0_fs x, unH blob_Digest_L0_bs y⟩ k = blob_Digest_L0_F N x y k := fun x _ k hk =>
  iter_link (S := (Int) × (Int) × Unit) (blob_Digest_h 0) _ (execL (blob_Digest_LP N) (blob_Digest_E N) (cAt (bodyOf Tryd.f21) [true, true, false, true, false, false]) 0) (resD (blob_Digest_E N) Tryd.f21 (blob_Digest_sg fun x _ => blob_Digest N x.1) blob_Digest_pk) (fun st k hk => execL_eq _ _ N _ (cAt (bodyOf Tryd.f21) [true, true, false, true, false, false]) 0 (show LoopsOk (blob_Digest_LP N) (blob_Digest_E N) N (resD (blob_Digest_E N) Tryd.f21 (blob_Digest_sg fun x _ => blob_Digest N x.1) blob_Digest_pk) [] from trivial) st k hk) (fun s => blob_Digest_L0_hd x.2.1 x.2.2.1 s.1 s.2.1) k hk
    (fun self s => blob_Digest_L0T N x.2.1 x.2.2.1 (fun o0_3 => k (.exit 0) (blob_Digest_L0_tl0 x.2.1 x.2.2.1 o0_3)) (fun s3 s10 => self (s3, s10, ())) s.1 s.2.1) (fun n s => blob_Digest_L0 N x.2.1 x.2.2.1 (fun o0_3 => k (.exit 0) (blob_Digest_L0_tl0 x.2.1 x.2.2.1 o0_3)) n s.1 s.2.1) (fun _ => rfl) (fun _ _ => rfl)
    (fun I s => blob_Digest_L0_step N x.2.1 x.2.2.1 (fun j => k (.exit j)) I s.1 s.2.1) N (x.1, x.2.2.2.1, ())
theorem blob_Digest_lp0 (N : Nat) : ∀ st k, (∀ st, k .ret st = (resD (blob_Digest_E N) Tryd.f21 (blob_Digest_sg fun x _ => blob_Digest N x.1) blob_Digest_pk) st) → blob_Digest_LP N 0 (cAt (bodyOf Tryd.f21) [true, true, false, true, false, false]) st k = iter (Env.hint (blob_Digest_E N) 0) (exec (blob_Digest_E N) N (cAt (bodyOf Tryd.f21) [true, true, false, true, false, false]) 0) N st k := fun st k hk => LPc_eq 38 blob_Digest_L0_fs blob_Digest_L0_bs _ _ (resD (blob_Digest_E N) Tryd.f21 (blob_Digest_sg fun x _ => blob_Digest N x.1) blob_Digest_pk) (blob_Digest_L0_ok N) _ st k hk (rfl)
theorem blob_Digest_core (N : Nat) (x : SV [.v (.sl .u8)]) (y : BV []) : runL (blob_Digest_E N) Tryd.f21 (blob_Digest_sg fun x _ => blob_Digest N x.1) blob_Digest_pk (blob_Digest_LP N) x y = blob_Digest N x.1 := by kernel_rfl
theorem blob_Digest_sound (N : Nat) : Sound Tryd.prog GW B0G 21 (blob_Digest_sg fun x _ => blob_Digest N x.1) :=
  runD_sound (mkE_ok blob_Digest_h (blob_Digest_fn N) _ _ (blob_Digest_fn_ok N)) Tryd.func21 rfl Tryd.call21 (blob_Digest_sg fun x _ => blob_Digest N x.1) blob_Digest_pk (fun _ _ => rfl) N (fun x y _ h => ((runL_eq (blob_Digest_E N) N Tryd.f21 (blob_Digest_sg fun x _ => blob_Digest N x.1) blob_Digest_pk (blob_Digest_LP N) (show LoopsOk (blob_Digest_LP N) (blob_Digest_E N) N (resD (blob_Digest_E N) Tryd.f21 (blob_Digest_sg fun x _ => blob_Digest N x.1) blob_Digest_pk) [(0, (cAt (bodyOf Tryd.f21) [true, true, false, true, false, false])), (2, (cAt (bodyOf Tryd.f21) [true, true, true, true, false, true, false, false]))] from ⟨blob_Digest_lp0 N, blob_Digest_lp2 N, trivial⟩) x y).trans (blob_Digest_core N x y)).trans h)
abbrev blob_dirText_sg (f : SV [.v (.sl (.pr .str (.pr (.np (.pr .str (.pr .bool (.sl .u8)))) (.sl (.pr .str (.pr .bool (.sl .u8)))))))] → BV [] → Option (List UInt8)) : AF := { ps := [.v (.sl (.pr .str (.pr (.np (.pr .str (.pr .bool (.sl .u8)))) (.sl (.pr .str (.pr .bool (.sl .u8)))))))], bs := [], rs := [.v (.sl .u8)], cs := [], R := List UInt8, out := fun z => ((z, ()), ()), f := f }
def blob_dirText_b_L0T (N : Nat) (r_blob_dirText : (List (Str × (Option (Str × Bool × List UInt8)) × List (Str × Bool × List UInt8))) → Option (List UInt8)) (x0 : List (Str × (Option (Str × Bool × List UInt8)) × List (Str × Bool × List UInt8))) (c8 : Int) (k0 : (List UInt8) → Option (List UInt8)) (self : Int → (List UInt8) → Option (List UInt8)) (s9 : Int) (w1003 : List UInt8) : Option (List UInt8) :=
  br (decide (s9 < c8))
    (bnd (geti x0 s9) fun t11 =>
    br (!t11.2.1.isNone)
      (bnd (t11.2.1) fun t18 =>
      br (t18.2.1)
        (br (decide (([102, 105, 108, 101, 32] : Str).length + t11.1.length ≤ 9223372036854775807))
          (br (decide ((([102, 105, 108, 101, 32] : Str) ++ t11.1).length + ([32] : Str).length ≤ 9223372036854775807))
            (bnd (t11.2.1) fun t28 =>
            bnd (blob_Digest N t28.2.2) fun t31 =>
            br (decide (((([102, 105, 108, 101, 32] : Str) ++ t11.1) ++ ([32] : Str)).length + t31.length ≤ 9223372036854775807))
              (br (decide ((((([102, 105, 108, 101, 32] : Str) ++ t11.1) ++ ([32] : Str)) ++ t31).length + ([32] : Str).length ≤ 9223372036854775807))
                (br (decide (((((([102, 105, 108, 101, 32] : Str) ++ t11.1) ++ ([32] : Str)) ++ t31) ++ ([32] : Str)).length + ([120] : Str).length ≤ 9223372036854775807))
                  (br (decide ((((((([102, 105, 108, 101, 32] : Str) ++ t11.1) ++ ([32] : Str)) ++ t31) ++ ([32] : Str)) ++ ([120] : Str)).length + ([10] : Str).length ≤ 9223372036854775807))
                    (br (decide ((w1003.length + ((((((([102, 105, 108, 101, 32] : Str) ++ t11.1) ++ ([32] : Str)) ++ t31) ++ ([32] : Str)) ++ ([120] : Str)) ++ ([10] : Str)).length) * (24 * Ty.sz .u8) ≤ 140737488355328))
                      (self (IntKind.i64.wrap (s9 + (1 : Int))) (w1003 ++ ((((((([102, 105, 108, 101, 32] : Str) ++ t11.1) ++ ([32] : Str)) ++ t31) ++ ([32] : Str)) ++ ([120] : Str)) ++ ([10] : Str))))
                      none)
                    none)
                  none)
                none)
              none)
            none)
          none)
        (br (decide (([102, 105, 108, 101, 32] : Str).length + t11.1.length ≤ 9223372036854775807))
          (br (decide ((([102, 105, 108, 101, 32] : Str) ++ t11.1).length + ([32] : Str).length ≤ 9223372036854775807))
            (bnd (t11.2.1) fun t28_1 =>
            bnd (blob_Digest N t28_1.2.2) fun t31_2 =>
            br (decide (((([102, 105, 108, 101, 32] : Str) ++ t11.1) ++ ([32] : Str)).length + t31_2.length ≤ 9223372036854775807))
              (br (decide ((((([102, 105, 108, 101, 32] : Str) ++ t11.1) ++ ([32] : Str)) ++ t31_2).length + ([32] : Str).length ≤ 9223372036854775807))
                (br (decide (((((([102, 105, 108, 101, 32] : Str) ++ t11.1) ++ ([32] : Str)) ++ t31_2) ++ ([32] : Str)).length + ([45] : Str).length ≤ 9223372036854775807))
                  (br (decide ((((((([102, 105, 108, 101, 32] : Str) ++ t11.1) ++ ([32] : Str)) ++ t31_2) ++ ([32] : Str)) ++ ([45] : Str)).length + ([10] : Str).length ≤ 9223372036854775807))
                    (br (decide ((w1003.length + ((((((([102, 105, 108, 101, 32] : Str) ++ t11.1) ++ ([32] : Str)) ++ t31_2) ++ ([32] : Str)) ++ ([45] : Str)) ++ ([10] : Str)).length) * (24 * Ty.sz .u8) ≤ 140737488355328))
                      (self (IntKind.i64.wrap (s9 + (1 : Int))) (w1003 ++ ((((((([102, 105, 108, 101, 32] : Str) ++ t11.1) ++ ([32] : Str)) ++ t31_2) ++ ([32] : Str)) ++ ([45] : Str)) ++ ([10] : Str))))
                      none)
                    none)
                  none)
                none)
              none)
            none)
          none))
      (br (decide (([100, 105, 114, 32] : Str).length + t11.1.length ≤ 9223372036854775807))
        (br (decide ((([100, 105, 114, 32] : Str) ++ t11.1).length + ([32] : Str).length ≤ 9223372036854775807))
          (bnd (blob_nodes t11.2.2) fun t45 =>
          bnd (r_blob_dirText t45) fun t46 =>
          bnd (blob_Digest N t46) fun t47 =>
          br (decide (((([100, 105, 114, 32] : Str) ++ t11.1) ++ ([32] : Str)).length + t47.length ≤ 9223372036854775807))
            (br (decide ((((([100, 105, 114, 32] : Str) ++ t11.1) ++ ([32] : Str)) ++ t47).length + ([10] : Str).length ≤ 9223372036854775807))
              (br (decide ((w1003.length + ((((([100, 105, 114, 32] : Str) ++ t11.1) ++ ([32] : Str)) ++ t47) ++ ([10] : Str)).length) * (24 * Ty.sz .u8) ≤ 140737488355328))
                (self (IntKind.i64.wrap (s9 + (1 : Int))) (w1003 ++ ((((([100, 105, 114, 32] : Str) ++ t11.1) ++ ([32] : Str)) ++ t47) ++ ([10] : Str))))
                none)
              none)
            none)
          none)
        none))
    (k0 w1003)
def blob_dirText_b_L0 (N : Nat) (r_blob_dirText : (List (Str × (Option (Str × Bool × List UInt8)) × List (Str × Bool × List UInt8))) → Option (List UInt8)) (x0 : List (Str × (Option (Str × Bool × List UInt8)) × List (Str × Bool × List UInt8))) (c8 : Int) (k0 : (List UInt8) → Option (List UInt8)) : Nat → Int → (List UInt8) → Option (List UInt8)
  | 0, _, _ => none
  | n + 1, s9, w1003 => blob_dirText_b_L0T N r_blob_dirText x0 c8 k0 (blob_dirText_b_L0 N r_blob_dirText x0 c8 k0 n) s9 w1003
def blob_dirText_b (N : Nat) (r_blob_dirText : (List (Str × (Option (Str × Bool × List UInt8)) × List (Str × Bool × List UInt8))) → Option (List UInt8)) (x0 : List (Str × (Option (Str × Bool × List UInt8)) × List (Str × Bool × List UInt8))) : Option (List UInt8) :=
  blob_dirText_b_L0 N r_blob_dirText x0 (x0.length : Int) (fun o0_w1003 =>
      some o0_w1003) N (0 : Int) ([] : List UInt8)
abbrev blob_dirText_b_sg (f : SV [.v (.sl (.pr .str (.pr (.np (.pr .str (.pr .bool (.sl .u8)))) (.sl (.pr .str (.pr .bool (.sl .u8)))))))] → BV [] → Option (List UInt8)) : AF := { ps := [.v (.sl (.pr .str (.pr (.np (.pr .str (.pr .bool (.sl .u8)))) (.sl (.pr .str (.pr .bool (.sl .u8)))))))], bs := [], rs := [.v (.sl .u8)], cs := [], R := List UInt8, out := fun z => ((z, ()), ()), f := f }
abbrev blob_dirText_b_pk : SV [.v (.sl .u8)] → BV [] → (List UInt8) := fun x _ => x.1
def blob_dirText_b_fn (N : Nat) (r_blob_dirText : (List (Str × (Option (Str × Bool × List UInt8)) × List (Str × Bool × List UInt8))) → Option (List UInt8)) : FuncId → Option Tmp → Option AF := fun f _ =>
  match f with
    | 21 => some (blob_Digest_sg fun x _ => blob_Digest N x.1)
    | 22 => some (blob_nodes_sg fun x _ => blob_nodes x.1)
    | 24 => some (blob_dirText_sg fun x _ => r_blob_dirText x.1)
    | _ => none
theorem blob_dirText_b_fn_ok (N : Nat) (r_blob_dirText : (List (Str × (Option (Str × Bool × List UInt8)) × List (Str × Bool × List UInt8))) → Option (List UInt8)) (h_blob_dirText : Sound Tryd.prog GW B0G 24 (blob_dirText_sg fun x y => r_blob_dirText x.1)) : ∀ f q F, blob_dirText_b_fn N r_blob_dirText f q = some F → Sound Tryd.prog GW B0G f F := by
  intro f q F h
  unfold blob_dirText_b_fn at h
  split at h
  · cases h; exact blob_Digest_sound N
  · cases h; exact blob_nodes_sound
  · cases h; exact h_blob_dirText
  · cases h
def blob_dirText_b_h : Nat → Hint := fun i =>
  match i with
  | 0 => ⟨[], [3, 7, 8, 9], [1003], [3], [1003], []⟩
  | 100009 => ⟨[1005], [], [], [], [], []⟩
  | 100010 => ⟨[1005], [], [], [], [], []⟩
  | _ => ⟨[], [], [], [], [], []⟩
abbrev blob_dirText_b_E (N : Nat) (r_blob_dirText : (List (Str × (Option (Str × Bool × List UInt8)) × List (Str × Bool × List UInt8))) → Option (List UInt8)) : Env := mkE blob_dirText_b_h (blob_dirText_b_fn N r_blob_dirText) (fun _ => false) (fun _ => false)
abbrev blob_dirText_b_L0_fs : List (Nat × Sl) := [(3, .row 1003), (7, .v (.sl (.pr .str (.pr (.np (.pr .str (.pr .bool (.sl .u8)))) (.sl (.pr .str (.pr .bool (.sl .u8)))))))), (8, .v (.int .i64)), (9, .v (.int .i64))]
abbrev blob_dirText_b_L0_bs : List (Nat × Sb) := [(1003, .row 5 .u8 false)]
def blob_dirText_b_L0_hd (x0 : List (Str × (Option (Str × Bool × List UInt8)) × List (Str × Bool × List UInt8))) (c8 : Int) (s9 : Int) (w1003 : List UInt8) : St := ⟨53, [(3, .row 1003), (7, .v (.sl (.pr .str (.pr (.np (.pr .str (.pr .bool (.sl .u8)))) (.sl (.pr .str (.pr .bool (.sl .u8))))))) x0), (8, .v (.int .i64) c8), (9, .v (.int .i64) s9)], [(1003, .row 5 .u8 false w1003)]⟩
def blob_dirText_b_L0_tl0 (_x0 : List (Str × (Option (Str × Bool × List UInt8)) × List (Str × Bool × List UInt8))) (_c8 : Int) (o0_w1003 : List UInt8) : St := ⟨53, [(3, .row 1003)], [(1003, .row 5 .u8 false o0_w1003)]⟩
def blob_dirText_b_L0_G (N : Nat) (r_blob_dirText : (List (Str × (Option (Str × Bool × List UInt8)) × List (Str × Bool × List UInt8))) → Option (List UInt8)) (x0 : List (Str × (Option (Str × Bool × List UInt8)) × List (Str × Bool × List UInt8))) (c8 : Int) (s9 : Int) (w1003 : List UInt8) (k : Ex → St → Option (List UInt8)) : Option (List UInt8) :=
  blob_dirText_b_L0 N r_blob_dirText x0 c8 (fun o0_w1003 => k (.exit 0) (blob_dirText_b_L0_tl0 x0 c8 o0_w1003)) N s9 w1003
abbrev blob_dirText_b_L0_F (N : Nat) (r_blob_dirText : (List (Str × (Option (Str × Bool × List UInt8)) × List (Str × Bool × List UInt8))) → Option (List UInt8)) : FV blob_dirText_b_L0_fs → HV blob_dirText_b_L0_bs → (Ex → St → Option (List UInt8)) → Option (List UInt8) := fun x y k => blob_dirText_b_L0_G N r_blob_dirText x.2.1 x.2.2.1 x.2.2.2.1 y.1 k
noncomputable def blob_dirText_b_LP (N : Nat) (r_blob_dirText : (List (Str × (Option (Str × Bool × List UInt8)) × List (Str × Bool × List UInt8))) → Option (List UInt8)) : Nat → Code → St → (Ex → St → Option (List UInt8)) → Option (List UInt8) := fun i c =>
  match i with
  | 0 => (LPc 53 blob_dirText_b_L0_fs blob_dirText_b_L0_bs (blob_dirText_b_L0_F N r_blob_dirText) (fun st k => iter (blob_dirText_b_h 0) (exec (blob_dirText_b_E N r_blob_dirText) N c 0) N st k))
  | i => fun st k => iter (blob_dirText_b_h i) (exec (blob_dirText_b_E N r_blob_dirText) N c i) N st k
theorem blob_dirText_b_L0_step (N : Nat) (r_blob_dirText : (List (Str × (Option (Str × Bool × List UInt8)) × List (Str × Bool × List UInt8))) → Option (List UInt8)) (x0 : List (Str × (Option (Str × Bool × List UInt8)) × List (Str × Bool × List UInt8))) (c8 : Int) (KX : Nat → St → Option (List UInt8)) (I : St → Option (List UInt8)) (s9 : Int) (w1003 : List UInt8) :
    execL (blob_dirText_b_LP N r_blob_dirText) (blob_dirText_b_E N r_blob_dirText) (cAt (bodyOf Tryd.f24) [true, true, false, true, false, false]) 0 (blob_dirText_b_L0_hd x0 c8 s9 w1003) (roundK (blob_dirText_b_h 0) I KX (resD (blob_dirText_b_E N r_blob_dirText) Tryd.f24 (blob_dirText_b_sg fun x _ => blob_dirText_b N r_blob_dirText x.1) blob_dirText_b_pk)) = blob_dirText_b_L0T N r_blob_dirText x0 c8 (fun o0_w1003 => KX 0 (blob_dirText_b_L0_tl0 x0 c8 o0_w1003)) (fun s9 w1003 => I (blob_dirText_b_L0_hd x0 c8 s9 w1003)) s9 w1003 := by kernel_rfl
theorem blob_dirText_b_L0_ok (N : Nat) (r_blob_dirText : (List (Str × (Option (Str × Bool × List UInt8)) × List (Str × Bool × List UInt8))) → Option (List UInt8)) : ∀ x y k, (∀ st, k .ret st = (resD (blob_dirText_b_E N r_blob_dirText) Tryd.f24 (blob_dirText_b_sg fun x _ => blob_dirText_b N r_blob_dirText x.1) blob_dirText_b_pk) st) → iter (blob_dirText_b_h 0) (exec (blob_dirText_b_E N r_blob_dirText) N (cAt (bodyOf Tryd.f24) [true, true, false, true, false, false]) 0) N ⟨53, unF blob_dirText_b_L0_fs x, unH blob_dirText_b_L0_bs y⟩ k = blob_dirText_b_L0_F N r_blob_dirText x y k := fun x y k hk =>
  iter_link (S := (Int) × (List UInt8) × Unit) (blob_dirText_b_h 0) _ (execL (blob_dirText_b_LP N r_blob_dirText) (blob_dirText_b_E N r_blob_dirText) (cAt (bodyOf Tryd.f24) [true, true, false, true, false, false]) 0) (resD (blob_dirText_b_E N r_blob_dirText) Tryd.f24 (blob_dirText_b_sg fun x _ => blob_dirText_b N r_blob_dirText x.1) blob_dirText_b_pk) (fun st k hk => execL_eq _ _ N _ (cAt (bodyOf Tryd.f24) [true, true, false, true, false, false]) 0 (show LoopsOk (blob_dirText_b_LP N r_blob_dirText) (blob_dirText_b_E N r_blob_dirText) N (resD (blob_dirText_b_E N r_blob_dirText) Tryd.f24 (blob_dirText_b_sg fun x _ => blob_dirText_b N r_blob_dirText x.1) blob_dirText_b_pk) [] from trivial) st k hk) (fun s => blob_dirText_b_L0_hd x.2.1 x.2.2.1 s.1 s.2.1) k hk
    (fun self s => blob_dirText_b_L0T N r_blob_dirText x.2.1 x.2.2.1 (fun o0_w1003 => k (.exit 0) (blob_dirText_b_L0_tl0 x.2.1 x.2.2.1 o0_w1003)) (fun s9 w1003 => self (s9, w1003, ())) s.1 s.2.1) (fun n s => blob_dirText_b_L0 N r_blob_dirText x.2.1 x.2.2.1 (fun o0_w1003 => k (.exit 0) (blob_dirText_b_L0_tl0 x.2.1 x.2.2.1 o0_w1003)) n s.1 s.2.1) (fun _ => rfl) (fun _ _ => rfl)
    (fun I s => blob_dirText_b_L0_step N r_blob_dirText x.2.1 x.2.2.1 (fun j => k (.exit j)) I s.1 s.2.1) N (x.2.2.2.1, y.1, ())
theorem blob_dirText_b_lp0 (N : Nat) (r_blob_dirText : (List (Str × (Option (Str × Bool × List UInt8)) × List (Str × Bool × List UInt8))) → Option (List UInt8)) : ∀ st k, (∀ st, k .ret st = (resD (blob_dirText_b_E N r_blob_dirText) Tryd.f24 (blob_dirText_b_sg fun x _ => blob_dirText_b N r_blob_dirText x.1) blob_dirText_b_pk) st) → blob_dirText_b_LP N r_blob_dirText 0 (cAt (bodyOf Tryd.f24) [true, true, false, true, false, false]) st k = iter (Env.hint (blob_dirText_b_E N r_blob_dirText) 0) (exec (blob_dirText_b_E N r_blob_dirText) N (cAt (bodyOf Tryd.f24) [true, true, false, true, false, false]) 0) N st k := fun st k hk => LPc_eq 53 blob_dirText_b_L0_fs blob_dirText_b_L0_bs _ _ (resD (blob_dirText_b_E N r_blob_dirText) Tryd.f24 (blob_dirText_b_sg fun x _ => blob_dirText_b N r_blob_dirText x.1) blob_dirText_b_pk) (blob_dirText_b_L0_ok N r_blob_dirText) _ st k hk (rfl)
theorem blob_dirText_b_core (N : Nat) (r_blob_dirText : (List (Str × (Option (Str × Bool × List UInt8)) × List (Str × Bool × List UInt8))) → Option (List UInt8)) (x : SV [.v (.sl (.pr .str (.pr (.np (.pr .str (.pr .bool (.sl .u8)))) (.sl (.pr .str (.pr .bool (.sl .u8)))))))]) (y : BV []) : runL (blob_dirText_b_E N r_blob_dirText) Tryd.f24 (blob_dirText_b_sg fun x _ => blob_dirText_b N r_blob_dirText x.1) blob_dirText_b_pk (blob_dirText_b_LP N r_blob_dirText) x y = blob_dirText_b N r_blob_dirText x.1 := by kernel_rfl
theorem blob_dirText_b_sound (N : Nat) (r_blob_dirText : (List (Str × (Option (Str × Bool × List UInt8)) × List (Str × Bool × List UInt8))) → Option (List UInt8)) (h_blob_dirText : Sound Tryd.prog GW B0G 24 (blob_dirText_sg fun x y => r_blob_dirText x.1)) : Sound Tryd.prog GW B0G 24 (blob_dirText_b_sg fun x _ => blob_dirText_b N r_blob_dirText x.1) :=
  runD_sound (mkE_ok blob_dirText_b_h (blob_dirText_b_fn N r_blob_dirText) _ _ (blob_dirText_b_fn_ok N r_blob_dirText h_blob_dirText)) Tryd.func24 rfl Tryd.call24 (blob_dirText_b_sg fun x _ => blob_dirText_b N r_blob_dirText x.1) blob_dirText_b_pk (fun _ _ => rfl) N (fun x y _ h => ((runL_eq (blob_dirText_b_E N r_blob_dirText) N Tryd.f24 (blob_dirText_b_sg fun x _ => blob_dirText_b N r_blob_dirText x.1) blob_dirText_b_pk (blob_dirText_b_LP N r_blob_dirText) (show LoopsOk (blob_dirText_b_LP N r_blob_dirText) (blob_dirText_b_E N r_blob_dirText) N (resD (blob_dirText_b_E N r_blob_dirText) Tryd.f24 (blob_dirText_b_sg fun x _ => blob_dirText_b N r_blob_dirText x.1) blob_dirText_b_pk) [(0, (cAt (bodyOf Tryd.f24) [true, true, false, true, false, false]))] from ⟨blob_dirText_b_lp0 N r_blob_dirText, trivial⟩) x y).trans (blob_dirText_b_core N r_blob_dirText x y)).trans h)
def blob_dirText (N : Nat) : Nat → (List (Str × (Option (Str × Bool × List UInt8)) × List (Str × Bool × List UInt8))) → Option (List UInt8)
  | 0 => fun _ => none
  | d + 1 => blob_dirText_b N (blob_dirText N d)
theorem blob_dirText_sound (N : Nat) : ∀ d, Sound Tryd.prog GW B0G 24 (blob_dirText_sg fun x y => blob_dirText N d x.1)
  | 0 => Sound.never Tryd.call24 (fun _ _ => rfl)
  | d + 1 => blob_dirText_b_sound N (blob_dirText N d) (blob_dirText_sound N d)
def slices_Clone_byte_byte (_N : Nat) (x0 : List UInt8) : Option (List UInt8) :=
  br ((x0).isEmpty)
    (both
      (some ([] : List UInt8))
      (br (decide ((([] : List UInt8).length + x0.length) * (24 * Ty.sz .u8) ≤ 140737488355328))
        (some (([] : List UInt8) ++ x0))
        none))
    (br (decide ((([] : List UInt8).length + x0.length) * (24 * Ty.sz .u8) ≤ 140737488355328))
      (some (([] : List UInt8) ++ x0))
      none)
abbrev slices_Clone_byte_byte_sg (f : SV [.v (.sl .u8)] → BV [] → Option (List UInt8)) : AF := { ps := [.v (.sl .u8)], bs := [], rs := [.row 0], cs := [.row 5 .u8 true], R := List UInt8, out := fun z => (((), ()), (z, ())), f := f }
abbrev slices_Clone_byte_byte_pk : SV [.row 0] → BV [.row 5 .u8 true] → (List UInt8) := fun _ y => y.1
def slices_Clone_byte_byte_fn (_N : Nat) : FuncId → Option Tmp → Option AF := fun f _ =>
  match f with
    | _ => none
theorem slices_Clone_byte_byte_fn_ok (N : Nat) : ∀ f q F, slices_Clone_byte_byte_fn N f q = some F → Sound Tryd.prog GW B0G f F := by
  intro f q F h
  unfold slices_Clone_byte_byte_fn at h
  split at h
  · cases h
def slices_Clone_byte_byte_h : Nat → Hint := fun i =>
  match i with
  | _ => ⟨[], [], [], [], [], []⟩
abbrev slices_Clone_byte_byte_E (N : Nat) : Env := mkE slices_Clone_byte_byte_h (slices_Clone_byte_byte_fn N) (fun i => match i with | 2 => true | 5 => true | _ => false) (fun _ => false)
noncomputable def slices_Clone_byte_byte_LP (N : Nat) : Nat → Code → St → (Ex → St → Option (List UInt8)) → Option (List UInt8) := fun i c =>
  match i with
  | i => fun st k => iter (slices_Clone_byte_byte_h i) (exec (slices_Clone_byte_byte_E N) N c i) N st k
theorem slices_Clone_byte_byte_core (N : Nat) (x : SV [.v (.sl .u8)]) (y : BV []) : runL (slices_Clone_byte_byte_E N) Tryd.f41 (slices_Clone_byte_byte_sg fun x _ => slices_Clone_byte_byte N x.1) slices_Clone_byte_byte_pk (slices_Clone_byte_byte_LP N) x y = slices_Clone_byte_byte N x.1 := by kernel_rfl
theorem slices_Clone_byte_byte_sound (N : Nat) : Sound Tryd.prog GW B0G 41 (slices_Clone_byte_byte_sg fun x _ => slices_Clone_byte_byte N x.1) :=
  runD_sound (mkE_ok slices_Clone_byte_byte_h (slices_Clone_byte_byte_fn N) _ _ (slices_Clone_byte_byte_fn_ok N)) Tryd.func41 rfl Tryd.call41 (slices_Clone_byte_byte_sg fun x _ => slices_Clone_byte_byte N x.1) slices_Clone_byte_byte_pk (fun _ _ => rfl) N (fun x y _ h => ((runL_eq (slices_Clone_byte_byte_E N) N Tryd.f41 (slices_Clone_byte_byte_sg fun x _ => slices_Clone_byte_byte N x.1) slices_Clone_byte_byte_pk (slices_Clone_byte_byte_LP N) (show LoopsOk (slices_Clone_byte_byte_LP N) (slices_Clone_byte_byte_E N) N (resD (slices_Clone_byte_byte_E N) Tryd.f41 (slices_Clone_byte_byte_sg fun x _ => slices_Clone_byte_byte N x.1) slices_Clone_byte_byte_pk) [] from trivial) x y).trans (slices_Clone_byte_byte_core N x y)).trans h)
def blob_writer_put (N : Nat) (x1 : List UInt8) (m1 : List (Str × (List UInt8))) : Option (Str × List (Str × (List UInt8))) :=
  bnd (blob_Digest N x1) fun t9 =>
  br (!((mget m1 t9).isSome))
    (bnd (slices_Clone_byte_byte N x1) fun t27 =>
    some (t9, mset m1 t9 t27))
    (some (t9, m1))
abbrev blob_writer_put_sg (f : SV [.box 0 0, .v (.sl .u8)] → BV [.cells [.mref 1], .map (.sl .u8)] → Option (Str × List (Str × (List UInt8)))) : AF := { ps := [.box 0 0, .v (.sl .u8)], bs := [.cells [.mref 1], .map (.sl .u8)], rs := [.v .str], cs := [.cells [.mref 1], .map (.sl .u8)], R := Str × List (Str × (List UInt8)), out := fun z => ((z.1, ()), (((), ()), z.2, ())), f := f }
abbrev blob_writer_put_pk : SV [.v .str] → BV [.cells [.mref 1], .map (.sl .u8)] → (Str × List (Str × (List UInt8))) := fun x y => (x.1, y.2.1)
def blob_writer_put_fn (N : Nat) : FuncId → Option Tmp → Option AF := fun f _ =>
  match f with
    | 21 => some (blob_Digest_sg fun x _ => blob_Digest N x.1)
    | 41 => some (slices_Clone_byte_byte_sg fun x _ => slices_Clone_byte_byte N x.1)
    | _ => none
theorem blob_writer_put_fn_ok (N : Nat) : ∀ f q F, blob_writer_put_fn N f q = some F → Sound Tryd.prog GW B0G f F := by
  intro f q F h
  unfold blob_writer_put_fn at h
  split at h
  · cases h; exact blob_Digest_sound N
  · cases h; exact slices_Clone_byte_byte_sound N
  · cases h
def blob_writer_put_h : Nat → Hint := fun i =>
  match i with
  | 100004 => ⟨[0, 1], [], [], [], [], []⟩
  | _ => ⟨[], [], [], [], [], []⟩
abbrev blob_writer_put_E (N : Nat) : Env := mkE blob_writer_put_h (blob_writer_put_fn N) (fun _ => false) (fun _ => false)
noncomputable def blob_writer_put_LP (N : Nat) : Nat → Code → St → (Ex → St → Option (Str × List (Str × (List UInt8)))) → Option (Str × List (Str × (List UInt8))) := fun i c =>
  match i with
  | i => fun st k => iter (blob_writer_put_h i) (exec (blob_writer_put_E N) N c i) N st k
theorem blob_writer_put_core (N : Nat) (x : SV [.box 0 0, .v (.sl .u8)]) (y : BV [.cells [.mref 1], .map (.sl .u8)]) : runL (blob_writer_put_E N) Tryd.f23 (blob_writer_put_sg fun x y => blob_writer_put N x.2.1 y.2.1) blob_writer_put_pk (blob_writer_put_LP N) x y = blob_writer_put N x.2.1 y.2.1 := by kernel_rfl
theorem blob_writer_put_sound (N : Nat) : Sound Tryd.prog GW B0G 23 (blob_writer_put_sg fun x y => blob_writer_put N x.2.1 y.2.1) :=
  runD_sound (mkE_ok blob_writer_put_h (blob_writer_put_fn N) _ _ (blob_writer_put_fn_ok N)) Tryd.func23 rfl Tryd.call23 (blob_writer_put_sg fun x y => blob_writer_put N x.2.1 y.2.1) blob_writer_put_pk (fun _ _ => rfl) N (fun x y _ h => ((runL_eq (blob_writer_put_E N) N Tryd.f23 (blob_writer_put_sg fun x y => blob_writer_put N x.2.1 y.2.1) blob_writer_put_pk (blob_writer_put_LP N) (show LoopsOk (blob_writer_put_LP N) (blob_writer_put_E N) N (resD (blob_writer_put_E N) Tryd.f23 (blob_writer_put_sg fun x y => blob_writer_put N x.2.1 y.2.1) blob_writer_put_pk) [] from trivial) x y).trans (blob_writer_put_core N x y)).trans h)
abbrev blob_writer_dir_sg (f : SV [.box 0 0, .v (.sl (.pr .str (.pr .bool (.sl .u8))))] → BV [.cells [.mref 1], .map (.sl .u8)] → Option (Str × List (Str × (List UInt8)))) : AF := { ps := [.box 0 0, .v (.sl (.pr .str (.pr .bool (.sl .u8))))], bs := [.cells [.mref 1], .map (.sl .u8)], rs := [.v .str], cs := [.cells [.mref 1], .map (.sl .u8)], R := Str × List (Str × (List UInt8)), out := fun z => ((z.1, ()), (((), ()), z.2, ())), f := f }
end
end Go.Proofs.YtefbpbkjijbepaaDoor


/- A function that turns a row of its caller's where it lies, and gives nothing back: the caller's slice is the one it was. -/
namespace Go.Proofs.YtefbpbkjijbepaaDoor
set_option linter.unusedVariables false
set_option linter.unusedSimpArgs false
open Go Go.RowKit Go.Shelf
theorem Sound.ofRowKept {P : Program} {G : World → Prop} {B0 : Nat} {f : FuncId} {ps : List Sl} {e : TypeId} {t : Ty} {F : SV ps → List t.den → Option (List t.den)}
    (hcall : ∀ (args : Array Value) (w : World), (callFunc f args).run P w = .ok (.enter f args) w) (hz : 0 < t.sz)
    (h : ∀ (M : Nat → Nat → Prop) (w : World) (g : Gh) (v0 : Value) (vs : List Value) (x : SV ps) (xs zs : List t.den) (cs : List Value), G w → (∀ b o, M b o → b < w.heap.size) → (∀ b, v0.ownBlock = some b → ∀ o, M b o) →
      w.ownsRow 0 e t.sz v0 xs.length cs → Els M w t xs cs → All2 (RepD0 M w g) (lays id ps x) vs → F x xs = some zs →
      Calls P f (v0 :: vs).toArray w fun en w' => ∃ cs', en = .returned (.tuple #[]) ∧ ExtX (fun b => v0.ownBlock = some b) w w' ∧
        w'.ownsRow 0 e t.sz v0 zs.length cs' ∧ Els M w t zs cs') :
    Sound P G B0 f ⟨.row 0 :: ps, [.row e t true], [], [.row e t true, .none], List t.den, fun z => ((), (z, ((), ()))), fun x y => F x.2 y.1⟩ := by
  refine ⟨hcall, fun M w g vs0 x y zs hG hB hF hz' => ?_⟩
  obtain ⟨_, x⟩ := x
  obtain ⟨xs, _⟩ := y
  match vs0, hF.args with
  | v0 :: vs, ⟨h0, hA⟩ =>
    obtain ⟨gx, A, n, c, hg0, hv, hv2⟩ := h0
    obtain ⟨gx', hg', _, cs, hown, hblk, hlo, hels⟩ := hF.res 0 (.row e t true xs) rfl
    replace hg0 : g 0 = some gx := hg0
    rw [hg'] at hg0
    cases hg0
    have hlo : gx.lo = 0 := hlo
    rw [← hv] at hown hblk
    have hM : ∀ b, v0.ownBlock = some b → ∀ o, M b o := fun b hb o => (hF.chg 0 gx b o hg' (by rw [hblk]; exact hb)).2 (by rw [hlo]; exact Nat.zero_le _)
    have honly : ∀ r gy, g r = some gy → r = 0 := fun r gy hr => by have := hF.dom r gy hr; exact Nat.lt_one_iff.1 this
    have hX : ∀ b, Xof g b ↔ v0.ownBlock = some b := fun b => by
      constructor
      · rintro ⟨r, gy, hr, hb⟩
        obtain rfl := honly r gy hr
        rw [hg'] at hr; cases hr
        rw [← hblk]; exact hb
      · intro hb
        exact ⟨0, gx, hg', by rw [hblk]; exact hb⟩
    refine (h M w g v0 vs x xs zs cs hG hF.mlt hM hown hels hA hz').mono fun en w' hp => ?_
    obtain ⟨cs', he, hE, hown', hels'⟩ := hp
    have hblk' : ∀ b, v0.ownBlock = some b → v0.ownBlock = some b ∨ w.heap.size ≤ b := fun b h => .inl h
    obtain ⟨v', hv0⟩ : ∃ v', v' = v0 := ⟨v0, rfl⟩
    rw [← hv0] at hown'
    replace hblk' : ∀ b, v'.ownBlock = some b → v0.ownBlock = some b ∨ w.heap.size ≤ b := by rw [hv0]; exact hblk'
    obtain ⟨g', hgd⟩ : ∃ g' : Gh, g' = fun r => if r = 0 then some ⟨v'.ownBlock, 0, v'⟩ else none := ⟨_, rfl⟩
    have hg0' : g' 0 = some ⟨v'.ownBlock, 0, v'⟩ := by rw [hgd]; rfl
    have hgo : ∀ r gy, g' r = some gy → r = 0 ∧ gy = ⟨v'.ownBlock, 0, v'⟩ := fun r gy hr => by
      rw [hgd] at hr
      by_cases h0 : r = 0
      · subst h0; simp at hr; exact ⟨rfl, hr.symm⟩
      · simp [h0] at hr
    have hnew : ∀ b o, Mafter M g g' b o → (M b o ∧ v0.ownBlock ≠ some b) ∨ v'.ownBlock = some b := fun b o hm => by
      rcases hm with ⟨hm, hx⟩ | ⟨r, gy, hr, hb, _⟩
      · exact .inl ⟨hm, fun hb => hx ((hX b).2 hb)⟩
      · obtain ⟨_, rfl⟩ := hgo r gy hr
        exact .inr hb
    have hstep : Step M w (Mafter M g g') w' := by
      have key : ∀ b o, b < w.heap.size → ¬ M b o → w'.heap[b]? = w.heap[b]? ∧ ¬ Mafter M g g' b o := fun b o hb hm => by
        have hnb : v0.ownBlock ≠ some b := fun h => hm (hM b h o)
        refine ⟨hE.block b hb hnb, fun hm' => ?_⟩
        rcases hnew b o hm' with ⟨h1, _⟩ | h1
        · exact hm h1
        · rcases hblk' b h1 with h2 | h2
          · exact hnb h2
          · omega
      refine ⟨fun ad u hu hm => ?_, fun b es c hb hm => ?_⟩
      · have hlt : ad.block < w.heap.size := World.block_lt_of_cell? w _ hu
        obtain ⟨h1, h2⟩ := key ad.block ad.off hlt hm
        exact ⟨(cell_of_block h1).trans hu, h2⟩
      · obtain ⟨h1, h2⟩ := key b 0 (lt_of_map hb) hm
        exact ⟨h1.trans hb, h2⟩
    obtain ⟨A', c', hv', _⟩ := Row.of_own' hown'
    have hlow : ∀ b, v'.ownBlock = some b → B0 ≤ b ∧ b < w'.heap.size := fun b hb => by
      refine ⟨?_, own_lt hown' hb⟩
      rcases hblk' b hb with h1 | h1
      · exact (hF.low 0 gx b hg' (by rw [hblk]; exact h1)).1
      · omega
    have hrow : RepD0 (Mafter M g g') w' g' (.row 0) v' := ⟨_, A', _, c', hg0', rfl, hv'⟩
    refine ⟨[], g', ?_, ⟨hE.os, hE.tape, hE.output, hE.size, fun k hk hx => hE.block k hk fun hb => hx ((hX k).2 hb)⟩, hstep, ?_, fun r gy hr => ?_, fun b hb => ?_⟩
    · rw [he]
      rfl
    · exact {
        args := trivial
        res := fun r blk hr => by
          cases r with
          | zero =>
            obtain rfl : Blk.row e t true zs = blk := Option.some.inj hr
            exact ⟨_, hg0', hz, cs', hown', rfl, rfl, fun i hi => RepC.step hstep _ _ _ (hels' i hi)⟩
          | succ r =>
            cases r with
            | zero => cases hr
            | succ r => cases hr
        dom := fun r gy hr => by obtain ⟨rfl, _⟩ := hgo r gy hr; exact Nat.zero_lt_two
        inj := fun r r' gy gy' b hr hr' _ _ => by obtain ⟨rfl, _⟩ := hgo r gy hr; obtain ⟨rfl, _⟩ := hgo r' gy' hr'; rfl
        low := fun r gy b hr hb => by obtain ⟨_, rfl⟩ := hgo r gy hr; exact hlow b hb
        chg := fun r gy b o hr hb => ⟨fun _ => by obtain ⟨_, rfl⟩ := hgo r gy hr; exact Nat.zero_le _, fun hle => .inr ⟨r, gy, hr, hb, hle⟩⟩
        mlt := fun b o hm => by
          rcases hnew b o hm with ⟨h1, _⟩ | h1
          · exact Nat.lt_of_lt_of_le (hF.mlt b o h1) hE.size
          · exact (hlow b h1).2
        row := fun r gy b hr hb h0 => by obtain ⟨_, rfl⟩ := hgo r gy hr; exact absurd h0 (Nat.lt_irrefl 0) }
    · obtain rfl := honly r gy hr
      rw [hg'] at hr; cases hr
      rw [hg0']
      obtain ⟨gb, gl, gv⟩ := gx
      simp only at hblk hlo hv
      subst hv0 hlo hv hblk
      rfl
    · obtain ⟨r, gy, hr, hb⟩ := hb
      obtain ⟨_, rfl⟩ := hgo r gy hr
      rcases hblk' b hb with h1 | h1
      · exact .inl ((hX b).2 h1)
      · exact .inr h1
end Go.Proofs.YtefbpbkjijbepaaDoor


/- What the kit's worlds of a sort hold. -/
namespace Go.Proofs.YtefbpbkjijbepaaDoor
set_option linter.unusedVariables false
set_option linter.unusedSimpArgs false
open Go Go.RowKit Go.Shelf
theorem sortW_block {α : Type} [Inhabited α] (enc : α → Value) {w : World} {n b : Nat} {d : Array α} {os : Array Obj} {cur : Array Value} {e : TypeId} {fz : Nat × Nat} (h : w.heap[b]? = some (.cells cur e fz)) :
    (Sort.grow (Sort.putRow enc (Sort.ahead w n) b 0 d) os).heap[b]? = some (.cells (Sort.putCells enc 0 d cur) e fz) := by
  have hb : b < w.heap.size := by
    apply Classical.byContradiction
    intro hn
    rw [Array.getElem?_eq_none (by omega)] at h
    cases h
  have hb2 : b < (w.heap.modify b (Sort.onCells (Sort.putCells enc 0 d))).size := by rw [Array.size_modify]; exact hb
  show (w.heap.modify b (Sort.onCells (Sort.putCells enc 0 d)) ++ os)[b]? = _
  rw [Array.getElem?_append_left hb2, Array.getElem?_modify, if_pos rfl, h]
  rfl
theorem sortW_ext {α : Type} [Inhabited α] (enc : α → Value) {w : World} {n b : Nat} {d : Array α} {os : Array Obj} : ExtX (fun k => b = k) w (Sort.grow (Sort.putRow enc (Sort.ahead w n) b 0 d) os) := by
  refine ⟨rfl, rfl, rfl, ?_, fun k hk hx => ?_⟩
  · show w.heap.size ≤ (w.heap.modify b (Sort.onCells (Sort.putCells enc 0 d)) ++ os).size
    rw [Array.size_append, Array.size_modify]; omega
  · have hb2 : k < (w.heap.modify b (Sort.onCells (Sort.putCells enc 0 d))).size := by rw [Array.size_modify]; exact hk
    show (w.heap.modify b (Sort.onCells (Sort.putCells enc 0 d)) ++ os)[k]? = _
    rw [Array.getElem?_append_left hb2, Array.getElem?_modify, if_neg hx]
theorem putCells_size {α : Type} [Inhabited α] (enc : α → Value) (d : Array α) (cur : Array Value) : (Sort.putCells enc 0 d cur).size = cur.size := by
  unfold Sort.putCells; simp
theorem putCells_take {α : Type} [Inhabited α] (enc : α → Value) (zs : List α) (cur : Array Value) (h : zs.length ≤ cur.size) : (Sort.putCells enc 0 zs.toArray cur).toList.take zs.length = zs.map enc := by
  apply List.ext_getElem
  · have e : (Sort.putCells enc 0 zs.toArray cur).toList.length = cur.size := by
      rw [Array.length_toList]; exact putCells_size _ _ _
    rw [List.length_take, List.length_map, e]; omega
  · intro k h1 h2
    rw [List.length_map] at h2
    rw [List.getElem_take, Array.getElem_toList, List.getElem_map]
    unfold Sort.putCells
    rw [Array.getElem_mapIdx, if_pos ⟨Nat.zero_le _, by simpa using h2⟩]
    simp [h2]
end Go.Proofs.YtefbpbkjijbepaaDoor

