/- What functions of the program compute, as plain functions (printed). -/
import Derived.Test.YtahjncefiegflaaGreatDoorQScF1
namespace Go.Proofs.YtahjncefiegflaaGreatDoor
open Go Go.RowKit
set_option maxRecDepth 100000
set_option linter.unusedVariables false
noncomputable section
def script_CheckValue_1 (_N : Nat) (x0 : Str) : Option Bool :=
  some (decide ((x0.length : Int) > (1000 : Int)))
abbrev script_CheckValue_1_sg (f : SV [.v .str] → BV [] → Option (Bool)) : AF := { ps := [.v .str], bs := [], rs := [.v .bool], cs := [], R := Bool, out := fun z => ((z, ()), ()), f := f }
abbrev script_CheckValue_1_pk : SV [.v .bool] → BV [] → Bool := fun x _ => x.1
def script_CheckValue_1_fn (_N : Nat) : FuncId → Option Tmp → Option AF := fun f _ =>
  match f with
    | _ => none
theorem script_CheckValue_1_fn_ok (N : Nat) : ∀ f q F, script_CheckValue_1_fn N f q = some F → Sound Tryz.prog GW B0G f F := by
  intro f q F h
  unfold script_CheckValue_1_fn at h
  split at h
  · cases h
def script_CheckValue_1_h : Nat → Hint := fun i =>
  match i with
  | _ => ⟨[], [], [], [], [], []⟩
abbrev script_CheckValue_1_E (N : Nat) : Env := mkE script_CheckValue_1_h (script_CheckValue_1_fn N) (fun _ => false) (fun _ => false)
noncomputable def script_CheckValue_1_LP (N : Nat) : Nat → Code → St → (Ex → St → Option Bool) → Option Bool := fun i c =>
  match i with
  | i => fun st k => iter (script_CheckValue_1_h i) (exec (script_CheckValue_1_E N) N c i) N st k
theorem script_CheckValue_1_core (N : Nat) (x : SV [.v .str]) (y : BV []) : runL (script_CheckValue_1_E N) Tryz.f41 (script_CheckValue_1_sg fun x _ => script_CheckValue_1 N x.1) script_CheckValue_1_pk (script_CheckValue_1_LP N) x y = script_CheckValue_1 N x.1 := by kernel_rfl
theorem script_CheckValue_1_sound (N : Nat) : Sound Tryz.prog GW B0G 41 (script_CheckValue_1_sg fun x _ => script_CheckValue_1 N x.1) :=
  runD_sound (mkE_ok script_CheckValue_1_h (script_CheckValue_1_fn N) _ _ (script_CheckValue_1_fn_ok N)) Tryz.func41 rfl Tryz.call41 (script_CheckValue_1_sg fun x _ => script_CheckValue_1 N x.1) script_CheckValue_1_pk (fun _ _ => rfl) N (fun x y _ h => ((runL_eq (script_CheckValue_1_E N) N Tryz.f41 (script_CheckValue_1_sg fun x _ => script_CheckValue_1 N x.1) script_CheckValue_1_pk (script_CheckValue_1_LP N) (show LoopsOk (script_CheckValue_1_LP N) (script_CheckValue_1_E N) N (resD (script_CheckValue_1_E N) Tryz.f41 (script_CheckValue_1_sg fun x _ => script_CheckValue_1 N x.1) script_CheckValue_1_pk) [] from trivial) x y).trans (script_CheckValue_1_core N x y)).trans h)
def script_isText_L0T (_N : Nat) (x0 : Str) (c5 : Int) (k0 : Option Bool) (self : Int → Option Bool) (s6 : Int) : Option Bool :=
  br (decide (s6 < c5))
    (bnd (geti x0 s6) fun t11 =>
    br (t11 != (10 : UInt8))
      (bnd (geti x0 s6) fun t16 =>
      br (decide (t16 < (32 : UInt8)))
        (some false)
        (bnd (geti x0 s6) fun t21 =>
        br (decide (t21 > (126 : UInt8)))
          (some false)
          (self (IntKind.i64.wrap (s6 + (1 : Int))))))
      (self (IntKind.i64.wrap (s6 + (1 : Int)))))
    (k0)
def script_isText_L0 (N : Nat) (x0 : Str) (c5 : Int) (k0 : Option Bool) : Nat → Int → Option Bool
  | 0, _ => none
  | n + 1, s6 => script_isText_L0T N x0 c5 k0 (script_isText_L0 N x0 c5 k0 n) s6
def script_isText (N : Nat) (x0 : Str) : Option Bool :=
  script_isText_L0 N x0 (x0.length : Int) (some true) N (0 : Int)
abbrev script_isText_sg (f : SV [.v .str] → BV [] → Option (Bool)) : AF := { ps := [.v .str], bs := [], rs := [.v .bool], cs := [], R := Bool, out := fun z => ((z, ()), ()), f := f }
abbrev script_isText_pk : SV [.v .bool] → BV [] → Bool := fun x _ => x.1
def script_isText_fn (_N : Nat) : FuncId → Option Tmp → Option AF := fun f _ =>
  match f with
    | _ => none
theorem script_isText_fn_ok (N : Nat) : ∀ f q F, script_isText_fn N f q = some F → Sound Tryz.prog GW B0G f F := by
  intro f q F h
  unfold script_isText_fn at h
  split at h
  · cases h
def script_isText_h : Nat → Hint := fun i =>
  match i with
  | 0 => ⟨[], [0, 5, 6], [], [], [], []⟩
  | _ => ⟨[], [], [], [], [], []⟩
abbrev script_isText_E (N : Nat) : Env := mkE script_isText_h (script_isText_fn N) (fun _ => false) (fun _ => false)
abbrev script_isText_L0_fs : List (Nat × Sl) := [(0, .v .str), (5, .v (.int .i64)), (6, .v (.int .i64))]
abbrev script_isText_L0_bs : List (Nat × Sb) := []
def script_isText_L0_hd (x0 : Str) (c5 : Int) (s6 : Int) : St := ⟨26, [(0, .v .str x0), (5, .v (.int .i64) c5), (6, .v (.int .i64) s6)], []⟩
def script_isText_L0_tl0 (_x0 : Str) (_c5 : Int) : St := ⟨26, [], []⟩
def script_isText_L0_G (N : Nat) (x0 : Str) (c5 : Int) (s6 : Int) (k : Ex → St → Option Bool) : Option Bool :=
  script_isText_L0 N x0 c5 (k (.exit 0) (script_isText_L0_tl0 x0 c5)) N s6
abbrev script_isText_L0_F (N : Nat) : FV script_isText_L0_fs → HV script_isText_L0_bs → (Ex → St → Option Bool) → Option Bool := fun x _ k => script_isText_L0_G N x.1 x.2.1 x.2.2.1 k
noncomputable def script_isText_LP (N : Nat) : Nat → Code → St → (Ex → St → Option Bool) → Option Bool := fun i c =>
  match i with
  | 0 => (LPc 26 script_isText_L0_fs script_isText_L0_bs (script_isText_L0_F N) (fun st k => iter (script_isText_h 0) (exec (script_isText_E N) N c 0) N st k))
  | i => fun st k => iter (script_isText_h i) (exec (script_isText_E N) N c i) N st k
theorem script_isText_L0_step (N : Nat) (x0 : Str) (c5 : Int) (KX : Nat → St → Option Bool) (I : St → Option Bool) (s6 : Int) :
    execL (script_isText_LP N) (script_isText_E N) (cAt (bodyOf Tryz.f42) [true, false, true, false, false]) 0 (script_isText_L0_hd x0 c5 s6) (roundK (script_isText_h 0) I KX (resD (script_isText_E N) Tryz.f42 (script_isText_sg fun x _ => script_isText N x.1) script_isText_pk)) = script_isText_L0T N x0 c5 (KX 0 (script_isText_L0_tl0 x0 c5)) (fun s6 => I (script_isText_L0_hd x0 c5 s6)) s6 := by kernel_rfl
theorem script_isText_L0_ok (N : Nat) : ∀ x y k, (∀ st, k .ret st = (resD (script_isText_E N) Tryz.f42 (script_isText_sg fun x _ => script_isText N x.1) script_isText_pk) st) → iter (script_isText_h 0) (exec (script_isText_E N) N (cAt (bodyOf Tryz.f42) [true, false, true, false, false]) 0) N ⟨26, unF script_isText_L0_fs x, unH script_isText_L0_bs y⟩ k = script_isText_L0_F N x y k := fun x _ k hk =>
  iter_link (S := (Int) × Unit) (script_isText_h 0) _ (execL (script_isText_LP N) (script_isText_E N) (cAt (bodyOf Tryz.f42) [true, false, true, false, false]) 0) (resD (script_isText_E N) Tryz.f42 (script_isText_sg fun x _ => script_isText N x.1) script_isText_pk) (fun st k hk => execL_eq _ _ N _ (cAt (bodyOf Tryz.f42) [true, false, true, false, false]) 0 (show LoopsOk (script_isText_LP N) (script_isText_E N) N (resD (script_isText_E N) Tryz.f42 (script_isText_sg fun x _ => script_isText N x.1) script_isText_pk) [] from trivial) st k hk) (fun s => script_isText_L0_hd x.1 x.2.1 s.1) k hk
    (fun self s => script_isText_L0T N x.1 x.2.1 (k (.exit 0) (script_isText_L0_tl0 x.1 x.2.1)) (fun s6 => self (s6, ())) s.1) (fun n s => script_isText_L0 N x.1 x.2.1 (k (.exit 0) (script_isText_L0_tl0 x.1 x.2.1)) n s.1) (fun _ => rfl) (fun _ _ => rfl)
    (fun I s => script_isText_L0_step N x.1 x.2.1 (fun j => k (.exit j)) I s.1) N (x.2.2.1, ())
theorem script_isText_lp0 (N : Nat) : ∀ st k, (∀ st, k .ret st = (resD (script_isText_E N) Tryz.f42 (script_isText_sg fun x _ => script_isText N x.1) script_isText_pk) st) → script_isText_LP N 0 (cAt (bodyOf Tryz.f42) [true, false, true, false, false]) st k = iter (Env.hint (script_isText_E N) 0) (exec (script_isText_E N) N (cAt (bodyOf Tryz.f42) [true, false, true, false, false]) 0) N st k := fun st k hk => LPc_eq 26 script_isText_L0_fs script_isText_L0_bs _ _ (resD (script_isText_E N) Tryz.f42 (script_isText_sg fun x _ => script_isText N x.1) script_isText_pk) (script_isText_L0_ok N) _ st k hk (rfl)
theorem script_isText_core (N : Nat) (x : SV [.v .str]) (y : BV []) : runL (script_isText_E N) Tryz.f42 (script_isText_sg fun x _ => script_isText N x.1) script_isText_pk (script_isText_LP N) x y = script_isText N x.1 := by kernel_rfl
theorem script_isText_sound (N : Nat) : Sound Tryz.prog GW B0G 42 (script_isText_sg fun x _ => script_isText N x.1) :=
  runD_sound (mkE_ok script_isText_h (script_isText_fn N) _ _ (script_isText_fn_ok N)) Tryz.func42 rfl Tryz.call42 (script_isText_sg fun x _ => script_isText N x.1) script_isText_pk (fun _ _ => rfl) N (fun x y _ h => ((runL_eq (script_isText_E N) N Tryz.f42 (script_isText_sg fun x _ => script_isText N x.1) script_isText_pk (script_isText_LP N) (show LoopsOk (script_isText_LP N) (script_isText_E N) N (resD (script_isText_E N) Tryz.f42 (script_isText_sg fun x _ => script_isText N x.1) script_isText_pk) [(0, (cAt (bodyOf Tryz.f42) [true, false, true, false, false]))] from ⟨script_isText_lp0 N, trivial⟩) x y).trans (script_isText_core N x y)).trans h)
def script_CheckValue_2 (N : Nat) (x0 : Str) : Option Bool :=
  bnd (script_isText N x0) fun t4 =>
  some (!t4)
abbrev script_CheckValue_2_sg (f : SV [.v .str] → BV [] → Option (Bool)) : AF := { ps := [.v .str], bs := [], rs := [.v .bool], cs := [], R := Bool, out := fun z => ((z, ()), ()), f := f }
abbrev script_CheckValue_2_pk : SV [.v .bool] → BV [] → Bool := fun x _ => x.1
def script_CheckValue_2_fn (N : Nat) : FuncId → Option Tmp → Option AF := fun f _ =>
  match f with
    | 42 => some (script_isText_sg fun x _ => script_isText N x.1)
    | _ => none
theorem script_CheckValue_2_fn_ok (N : Nat) : ∀ f q F, script_CheckValue_2_fn N f q = some F → Sound Tryz.prog GW B0G f F := by
  intro f q F h
  unfold script_CheckValue_2_fn at h
  split at h
  · cases h; exact script_isText_sound N
  · cases h
def script_CheckValue_2_h : Nat → Hint := fun i =>
  match i with
  | _ => ⟨[], [], [], [], [], []⟩
abbrev script_CheckValue_2_E (N : Nat) : Env := mkE script_CheckValue_2_h (script_CheckValue_2_fn N) (fun _ => false) (fun _ => false)
noncomputable def script_CheckValue_2_LP (N : Nat) : Nat → Code → St → (Ex → St → Option Bool) → Option Bool := fun i c =>
  match i with
  | i => fun st k => iter (script_CheckValue_2_h i) (exec (script_CheckValue_2_E N) N c i) N st k
theorem script_CheckValue_2_core (N : Nat) (x : SV [.v .str]) (y : BV []) : runL (script_CheckValue_2_E N) Tryz.f43 (script_CheckValue_2_sg fun x _ => script_CheckValue_2 N x.1) script_CheckValue_2_pk (script_CheckValue_2_LP N) x y = script_CheckValue_2 N x.1 := by kernel_rfl
theorem script_CheckValue_2_sound (N : Nat) : Sound Tryz.prog GW B0G 43 (script_CheckValue_2_sg fun x _ => script_CheckValue_2 N x.1) :=
  runD_sound (mkE_ok script_CheckValue_2_h (script_CheckValue_2_fn N) _ _ (script_CheckValue_2_fn_ok N)) Tryz.func43 rfl Tryz.call43 (script_CheckValue_2_sg fun x _ => script_CheckValue_2 N x.1) script_CheckValue_2_pk (fun _ _ => rfl) N (fun x y _ h => ((runL_eq (script_CheckValue_2_E N) N Tryz.f43 (script_CheckValue_2_sg fun x _ => script_CheckValue_2 N x.1) script_CheckValue_2_pk (script_CheckValue_2_LP N) (show LoopsOk (script_CheckValue_2_LP N) (script_CheckValue_2_E N) N (resD (script_CheckValue_2_E N) Tryz.f43 (script_CheckValue_2_sg fun x _ => script_CheckValue_2 N x.1) script_CheckValue_2_pk) [] from trivial) x y).trans (script_CheckValue_2_core N x y)).trans h)
def script_checkText (N : Nat) (x0 : Str) : Option Int :=
  br (decide ((x0.length : Int) > (1000 : Int)))
    (some (2 : Int))
    (bnd (script_isText N x0) fun t7 =>
    br (!t7)
      (some (3 : Int))
      (some (0 : Int)))
abbrev script_checkText_sg (f : SV [.v .str] → BV [] → Option (Int)) : AF := { ps := [.v .str], bs := [], rs := [.v (.int .i64)], cs := [], R := Int, out := fun z => ((z, ()), ()), f := f }
abbrev script_checkText_pk : SV [.v (.int .i64)] → BV [] → Int := fun x _ => x.1
def script_checkText_fn (N : Nat) : FuncId → Option Tmp → Option AF := fun f _ =>
  match f with
    | 42 => some (script_isText_sg fun x _ => script_isText N x.1)
    | _ => none
theorem script_checkText_fn_ok (N : Nat) : ∀ f q F, script_checkText_fn N f q = some F → Sound Tryz.prog GW B0G f F := by
  intro f q F h
  unfold script_checkText_fn at h
  split at h
  · cases h; exact script_isText_sound N
  · cases h
def script_checkText_h : Nat → Hint := fun i =>
  match i with
  | _ => ⟨[], [], [], [], [], []⟩
abbrev script_checkText_E (N : Nat) : Env := mkE script_checkText_h (script_checkText_fn N) (fun _ => false) (fun _ => false)
noncomputable def script_checkText_LP (N : Nat) : Nat → Code → St → (Ex → St → Option Int) → Option Int := fun i c =>
  match i with
  | i => fun st k => iter (script_checkText_h i) (exec (script_checkText_E N) N c i) N st k
theorem script_checkText_core (N : Nat) (x : SV [.v .str]) (y : BV []) : runL (script_checkText_E N) Tryz.f88 (script_checkText_sg fun x _ => script_checkText N x.1) script_checkText_pk (script_checkText_LP N) x y = script_checkText N x.1 := by kernel_rfl
theorem script_checkText_sound (N : Nat) : Sound Tryz.prog GW B0G 88 (script_checkText_sg fun x _ => script_checkText N x.1) :=
  runD_sound (mkE_ok script_checkText_h (script_checkText_fn N) _ _ (script_checkText_fn_ok N)) Tryz.func88 rfl Tryz.call88 (script_checkText_sg fun x _ => script_checkText N x.1) script_checkText_pk (fun _ _ => rfl) N (fun x y _ h => ((runL_eq (script_checkText_E N) N Tryz.f88 (script_checkText_sg fun x _ => script_checkText N x.1) script_checkText_pk (script_checkText_LP N) (show LoopsOk (script_checkText_LP N) (script_checkText_E N) N (resD (script_checkText_E N) Tryz.f88 (script_checkText_sg fun x _ => script_checkText N x.1) script_checkText_pk) [] from trivial) x y).trans (script_checkText_core N x y)).trans h)
def script_checkCases_1 (_N : Nat) (x0 : Str × GValue) (x1 : Str × GValue) : Option Bool :=
  some (x0.1 == x1.1)
abbrev script_checkCases_1_sg (f : SV [.v (.pr .str (.rc .value)), .v (.ptr (.pr .str (.rc .value)))] → BV [] → Option (Bool)) : AF := { ps := [.v (.pr .str (.rc .value)), .v (.ptr (.pr .str (.rc .value)))], bs := [], rs := [.v .bool], cs := [], R := Bool, out := fun z => ((z, ()), ()), f := f }
abbrev script_checkCases_1_pk : SV [.v .bool] → BV [] → Bool := fun x _ => x.1
def script_checkCases_1_fn (_N : Nat) : FuncId → Option Tmp → Option AF := fun f _ =>
  match f with
    | _ => none
theorem script_checkCases_1_fn_ok (N : Nat) : ∀ f q F, script_checkCases_1_fn N f q = some F → Sound Tryz.prog GW B0G f F := by
  intro f q F h
  unfold script_checkCases_1_fn at h
  split at h
  · cases h
def script_checkCases_1_h : Nat → Hint := fun i =>
  match i with
  | _ => ⟨[], [], [], [], [], []⟩
abbrev script_checkCases_1_E (N : Nat) : Env := mkE script_checkCases_1_h (script_checkCases_1_fn N) (fun _ => false) (fun _ => false)
noncomputable def script_checkCases_1_LP (N : Nat) : Nat → Code → St → (Ex → St → Option Bool) → Option Bool := fun i c =>
  match i with
  | i => fun st k => iter (script_checkCases_1_h i) (exec (script_checkCases_1_E N) N c i) N st k
theorem script_checkCases_1_core (N : Nat) (x : SV [.v (.pr .str (.rc .value)), .v (.ptr (.pr .str (.rc .value)))]) (y : BV []) : runL (script_checkCases_1_E N) Tryz.f90 (script_checkCases_1_sg fun x _ => script_checkCases_1 N x.1 x.2.1) script_checkCases_1_pk (script_checkCases_1_LP N) x y = script_checkCases_1 N x.1 x.2.1 := by kernel_rfl
theorem script_checkCases_1_sound (N : Nat) : Sound Tryz.prog GW B0G 90 (script_checkCases_1_sg fun x _ => script_checkCases_1 N x.1 x.2.1) :=
  runD_sound (mkE_ok script_checkCases_1_h (script_checkCases_1_fn N) _ _ (script_checkCases_1_fn_ok N)) Tryz.func90 rfl Tryz.call90 (script_checkCases_1_sg fun x _ => script_checkCases_1 N x.1 x.2.1) script_checkCases_1_pk (fun _ _ => rfl) N (fun x y _ h => ((runL_eq (script_checkCases_1_E N) N Tryz.f90 (script_checkCases_1_sg fun x _ => script_checkCases_1 N x.1 x.2.1) script_checkCases_1_pk (script_checkCases_1_LP N) (show LoopsOk (script_checkCases_1_LP N) (script_checkCases_1_E N) N (resD (script_checkCases_1_E N) Tryz.f90 (script_checkCases_1_sg fun x _ => script_checkCases_1 N x.1 x.2.1) script_checkCases_1_pk) [] from trivial) x y).trans (script_checkCases_1_core N x y)).trans h)
def slices_IndexFunc_api_Case_L0T (N : Nat) (x0 : List (Str × GValue)) (x1 : (Str × GValue) × Unit) (c7 : Int) (k0 : Option Int) (self : Int → Option Int) (s8 : Int) : Option Int :=
  br (decide (s8 < c7))
    (bnd (geti x0 s8) fun t14 =>
    bnd (script_checkCases_1 N t14 x1.1) fun t16 =>
    br (t16)
      (some s8)
      (self (IntKind.i64.wrap (s8 + (1 : Int)))))
    (k0)
def slices_IndexFunc_api_Case_L0 (N : Nat) (x0 : List (Str × GValue)) (x1 : (Str × GValue) × Unit) (c7 : Int) (k0 : Option Int) : Nat → Int → Option Int
  | 0, _ => none
  | n + 1, s8 => slices_IndexFunc_api_Case_L0T N x0 x1 c7 k0 (slices_IndexFunc_api_Case_L0 N x0 x1 c7 k0 n) s8
def slices_IndexFunc_api_Case (N : Nat) (x0 : List (Str × GValue)) (x1 : (Str × GValue) × Unit) : Option Int :=
  slices_IndexFunc_api_Case_L0 N x0 x1 (x0.length : Int) (some (-1 : Int)) N (0 : Int)
abbrev slices_IndexFunc_api_Case_sg (f : SV [.v (.sl (.pr .str (.rc .value))), .v (.clo 90 (.pr (.ptr (.pr .str (.rc .value))) .un))] → BV [] → Option (Int)) : AF := { ps := [.v (.sl (.pr .str (.rc .value))), .v (.clo 90 (.pr (.ptr (.pr .str (.rc .value))) .un))], bs := [], rs := [.v (.int .i64)], cs := [], R := Int, out := fun z => ((z, ()), ()), f := f }
abbrev slices_IndexFunc_api_Case_pk : SV [.v (.int .i64)] → BV [] → Int := fun x _ => x.1
def slices_IndexFunc_api_Case_fn (N : Nat) : FuncId → Option Tmp → Option AF := fun f _ =>
  match f with
    | 90 => some (script_checkCases_1_sg fun x _ => script_checkCases_1 N x.1 x.2.1)
    | _ => none
theorem slices_IndexFunc_api_Case_fn_ok (N : Nat) : ∀ f q F, slices_IndexFunc_api_Case_fn N f q = some F → Sound Tryz.prog GW B0G f F := by
  intro f q F h
  unfold slices_IndexFunc_api_Case_fn at h
  split at h
  · cases h; exact script_checkCases_1_sound N
  · cases h
def slices_IndexFunc_api_Case_h : Nat → Hint := fun i =>
  match i with
  | 0 => ⟨[], [0, 1, 7, 8], [], [], [], []⟩
  | _ => ⟨[], [], [], [], [], []⟩
abbrev slices_IndexFunc_api_Case_E (N : Nat) : Env := mkE slices_IndexFunc_api_Case_h (slices_IndexFunc_api_Case_fn N) (fun _ => false) (fun _ => false)
abbrev slices_IndexFunc_api_Case_L0_fs : List (Nat × Sl) := [(0, .v (.sl (.pr .str (.rc .value)))), (1, .v (.clo 90 (.pr (.ptr (.pr .str (.rc .value))) .un))), (7, .v (.int .i64)), (8, .v (.int .i64))]
abbrev slices_IndexFunc_api_Case_L0_bs : List (Nat × Sb) := []
def slices_IndexFunc_api_Case_L0_hd (x0 : List (Str × GValue)) (x1 : (Str × GValue) × Unit) (c7 : Int) (s8 : Int) : St := ⟨19, [(0, .v (.sl (.pr .str (.rc .value))) x0), (1, .v (.clo 90 (.pr (.ptr (.pr .str (.rc .value))) .un)) x1), (7, .v (.int .i64) c7), (8, .v (.int .i64) s8)], []⟩
def slices_IndexFunc_api_Case_L0_tl0 (_x0 : List (Str × GValue)) (_x1 : (Str × GValue) × Unit) (_c7 : Int) : St := ⟨19, [], []⟩
def slices_IndexFunc_api_Case_L0_G (N : Nat) (x0 : List (Str × GValue)) (x1 : (Str × GValue) × Unit) (c7 : Int) (s8 : Int) (k : Ex → St → Option Int) : Option Int :=
  slices_IndexFunc_api_Case_L0 N x0 x1 c7 (k (.exit 0) (slices_IndexFunc_api_Case_L0_tl0 x0 x1 c7)) N s8
abbrev slices_IndexFunc_api_Case_L0_F (N : Nat) : FV slices_IndexFunc_api_Case_L0_fs → HV slices_IndexFunc_api_Case_L0_bs → (Ex → St → Option Int) → Option Int := fun x _ k => slices_IndexFunc_api_Case_L0_G N x.1 x.2.1 x.2.2.1 x.2.2.2.1 k
noncomputable def slices_IndexFunc_api_Case_LP (N : Nat) : Nat → Code → St → (Ex → St → Option Int) → Option Int := fun i c =>
  match i with
  | 0 => (LPc 19 slices_IndexFunc_api_Case_L0_fs slices_IndexFunc_api_Case_L0_bs (slices_IndexFunc_api_Case_L0_F N) (fun st k => iter (slices_IndexFunc_api_Case_h 0) (exec (slices_IndexFunc_api_Case_E N) N c 0) N st k))
  | i => fun st k => iter (slices_IndexFunc_api_Case_h i) (exec (slices_IndexFunc_api_Case_E N) N c i) N st k
theorem slices_IndexFunc_api_Case_L0_step (N : Nat) (x0 : List (Str × GValue)) (x1 : (Str × GValue) × Unit) (c7 : Int) (KX : Nat → St → Option Int) (I : St → Option Int) (s8 : Int) :
    execL (slices_IndexFunc_api_Case_LP N) (slices_IndexFunc_api_Case_E N) (cAt (bodyOf Tryz.f133) [true, false, true, false, false]) 0 (slices_IndexFunc_api_Case_L0_hd x0 x1 c7 s8) (roundK (slices_IndexFunc_api_Case_h 0) I KX (resD (slices_IndexFunc_api_Case_E N) Tryz.f133 (slices_IndexFunc_api_Case_sg fun x _ => slices_IndexFunc_api_Case N x.1 x.2.1) slices_IndexFunc_api_Case_pk)) = slices_IndexFunc_api_Case_L0T N x0 x1 c7 (KX 0 (slices_IndexFunc_api_Case_L0_tl0 x0 x1 c7)) (fun s8 => I (slices_IndexFunc_api_Case_L0_hd x0 x1 c7 s8)) s8 := by kernel_rfl
theorem slices_IndexFunc_api_Case_L0_ok (N : Nat) : ∀ x y k, (∀ st, k .ret st = (resD (slices_IndexFunc_api_Case_E N) Tryz.f133 (slices_IndexFunc_api_Case_sg fun x _ => slices_IndexFunc_api_Case N x.1 x.2.1) slices_IndexFunc_api_Case_pk) st) → iter (slices_IndexFunc_api_Case_h 0) (exec (slices_IndexFunc_api_Case_E N) N (cAt (bodyOf Tryz.f133) [true, false, true, false, false]) 0) N ⟨19, unF slices_IndexFunc_api_Case_L0_fs x, unH slices_IndexFunc_api_Case_L0_bs y⟩ k = slices_IndexFunc_api_Case_L0_F N x y k := fun x _ k hk =>
  iter_link (S := (Int) × Unit) (slices_IndexFunc_api_Case_h 0) _ (execL (slices_IndexFunc_api_Case_LP N) (slices_IndexFunc_api_Case_E N) (cAt (bodyOf Tryz.f133) [true, false, true, false, false]) 0) (resD (slices_IndexFunc_api_Case_E N) Tryz.f133 (slices_IndexFunc_api_Case_sg fun x _ => slices_IndexFunc_api_Case N x.1 x.2.1) slices_IndexFunc_api_Case_pk) (fun st k hk => execL_eq _ _ N _ (cAt (bodyOf Tryz.f133) [true, false, true, false, false]) 0 (show LoopsOk (slices_IndexFunc_api_Case_LP N) (slices_IndexFunc_api_Case_E N) N (resD (slices_IndexFunc_api_Case_E N) Tryz.f133 (slices_IndexFunc_api_Case_sg fun x _ => slices_IndexFunc_api_Case N x.1 x.2.1) slices_IndexFunc_api_Case_pk) [] from trivial) st k hk) (fun s => slices_IndexFunc_api_Case_L0_hd x.1 x.2.1 x.2.2.1 s.1) k hk
    (fun self s => slices_IndexFunc_api_Case_L0T N x.1 x.2.1 x.2.2.1 (k (.exit 0) (slices_IndexFunc_api_Case_L0_tl0 x.1 x.2.1 x.2.2.1)) (fun s8 => self (s8, ())) s.1) (fun n s => slices_IndexFunc_api_Case_L0 N x.1 x.2.1 x.2.2.1 (k (.exit 0) (slices_IndexFunc_api_Case_L0_tl0 x.1 x.2.1 x.2.2.1)) n s.1) (fun _ => rfl) (fun _ _ => rfl)
    (fun I s => slices_IndexFunc_api_Case_L0_step N x.1 x.2.1 x.2.2.1 (fun j => k (.exit j)) I s.1) N (x.2.2.2.1, ())
theorem slices_IndexFunc_api_Case_lp0 (N : Nat) : ∀ st k, (∀ st, k .ret st = (resD (slices_IndexFunc_api_Case_E N) Tryz.f133 (slices_IndexFunc_api_Case_sg fun x _ => slices_IndexFunc_api_Case N x.1 x.2.1) slices_IndexFunc_api_Case_pk) st) → slices_IndexFunc_api_Case_LP N 0 (cAt (bodyOf Tryz.f133) [true, false, true, false, false]) st k = iter (Env.hint (slices_IndexFunc_api_Case_E N) 0) (exec (slices_IndexFunc_api_Case_E N) N (cAt (bodyOf Tryz.f133) [true, false, true, false, false]) 0) N st k := fun st k hk => LPc_eq 19 slices_IndexFunc_api_Case_L0_fs slices_IndexFunc_api_Case_L0_bs _ _ (resD (slices_IndexFunc_api_Case_E N) Tryz.f133 (slices_IndexFunc_api_Case_sg fun x _ => slices_IndexFunc_api_Case N x.1 x.2.1) slices_IndexFunc_api_Case_pk) (slices_IndexFunc_api_Case_L0_ok N) _ st k hk (rfl)
theorem slices_IndexFunc_api_Case_core (N : Nat) (x : SV [.v (.sl (.pr .str (.rc .value))), .v (.clo 90 (.pr (.ptr (.pr .str (.rc .value))) .un))]) (y : BV []) : runL (slices_IndexFunc_api_Case_E N) Tryz.f133 (slices_IndexFunc_api_Case_sg fun x _ => slices_IndexFunc_api_Case N x.1 x.2.1) slices_IndexFunc_api_Case_pk (slices_IndexFunc_api_Case_LP N) x y = slices_IndexFunc_api_Case N x.1 x.2.1 := by kernel_rfl
theorem slices_IndexFunc_api_Case_sound (N : Nat) : Sound Tryz.prog GW B0G 133 (slices_IndexFunc_api_Case_sg fun x _ => slices_IndexFunc_api_Case N x.1 x.2.1) :=
  runD_sound (mkE_ok slices_IndexFunc_api_Case_h (slices_IndexFunc_api_Case_fn N) _ _ (slices_IndexFunc_api_Case_fn_ok N)) Tryz.func133 rfl Tryz.call133 (slices_IndexFunc_api_Case_sg fun x _ => slices_IndexFunc_api_Case N x.1 x.2.1) slices_IndexFunc_api_Case_pk (fun _ _ => rfl) N (fun x y _ h => ((runL_eq (slices_IndexFunc_api_Case_E N) N Tryz.f133 (slices_IndexFunc_api_Case_sg fun x _ => slices_IndexFunc_api_Case N x.1 x.2.1) slices_IndexFunc_api_Case_pk (slices_IndexFunc_api_Case_LP N) (show LoopsOk (slices_IndexFunc_api_Case_LP N) (slices_IndexFunc_api_Case_E N) N (resD (slices_IndexFunc_api_Case_E N) Tryz.f133 (slices_IndexFunc_api_Case_sg fun x _ => slices_IndexFunc_api_Case N x.1 x.2.1) slices_IndexFunc_api_Case_pk) [(0, (cAt (bodyOf Tryz.f133) [true, false, true, false, false]))] from ⟨slices_IndexFunc_api_Case_lp0 N, trivial⟩) x y).trans (slices_IndexFunc_api_Case_core N x y)).trans h)
def slices_ContainsFunc_api_Case (N : Nat) (x0 : List (Str × GValue)) (x1 : (Str × GValue) × Unit) : Option Bool :=
  bnd (slices_IndexFunc_api_Case N x0 x1) fun t7 =>
  some (decide (t7 ≥ (0 : Int)))
abbrev slices_ContainsFunc_api_Case_sg (f : SV [.v (.sl (.pr .str (.rc .value))), .v (.clo 90 (.pr (.ptr (.pr .str (.rc .value))) .un))] → BV [] → Option (Bool)) : AF := { ps := [.v (.sl (.pr .str (.rc .value))), .v (.clo 90 (.pr (.ptr (.pr .str (.rc .value))) .un))], bs := [], rs := [.v .bool], cs := [], R := Bool, out := fun z => ((z, ()), ()), f := f }
abbrev slices_ContainsFunc_api_Case_pk : SV [.v .bool] → BV [] → Bool := fun x _ => x.1
def slices_ContainsFunc_api_Case_fn (N : Nat) : FuncId → Option Tmp → Option AF := fun f _ =>
  match f with
    | 133 => some (slices_IndexFunc_api_Case_sg fun x _ => slices_IndexFunc_api_Case N x.1 x.2.1)
    | _ => none
theorem slices_ContainsFunc_api_Case_fn_ok (N : Nat) : ∀ f q F, slices_ContainsFunc_api_Case_fn N f q = some F → Sound Tryz.prog GW B0G f F := by
  intro f q F h
  unfold slices_ContainsFunc_api_Case_fn at h
  split at h
  · cases h; exact slices_IndexFunc_api_Case_sound N
  · cases h
def slices_ContainsFunc_api_Case_h : Nat → Hint := fun i =>
  match i with
  | _ => ⟨[], [], [], [], [], []⟩
abbrev slices_ContainsFunc_api_Case_E (N : Nat) : Env := mkE slices_ContainsFunc_api_Case_h (slices_ContainsFunc_api_Case_fn N) (fun _ => false) (fun _ => false)
noncomputable def slices_ContainsFunc_api_Case_LP (N : Nat) : Nat → Code → St → (Ex → St → Option Bool) → Option Bool := fun i c =>
  match i with
  | i => fun st k => iter (slices_ContainsFunc_api_Case_h i) (exec (slices_ContainsFunc_api_Case_E N) N c i) N st k
theorem slices_ContainsFunc_api_Case_core (N : Nat) (x : SV [.v (.sl (.pr .str (.rc .value))), .v (.clo 90 (.pr (.ptr (.pr .str (.rc .value))) .un))]) (y : BV []) : runL (slices_ContainsFunc_api_Case_E N) Tryz.f89 (slices_ContainsFunc_api_Case_sg fun x _ => slices_ContainsFunc_api_Case N x.1 x.2.1) slices_ContainsFunc_api_Case_pk (slices_ContainsFunc_api_Case_LP N) x y = slices_ContainsFunc_api_Case N x.1 x.2.1 := by kernel_rfl
theorem slices_ContainsFunc_api_Case_sound (N : Nat) : Sound Tryz.prog GW B0G 89 (slices_ContainsFunc_api_Case_sg fun x _ => slices_ContainsFunc_api_Case N x.1 x.2.1) :=
  runD_sound (mkE_ok slices_ContainsFunc_api_Case_h (slices_ContainsFunc_api_Case_fn N) _ _ (slices_ContainsFunc_api_Case_fn_ok N)) Tryz.func89 rfl Tryz.call89 (slices_ContainsFunc_api_Case_sg fun x _ => slices_ContainsFunc_api_Case N x.1 x.2.1) slices_ContainsFunc_api_Case_pk (fun _ _ => rfl) N (fun x y _ h => ((runL_eq (slices_ContainsFunc_api_Case_E N) N Tryz.f89 (slices_ContainsFunc_api_Case_sg fun x _ => slices_ContainsFunc_api_Case N x.1 x.2.1) slices_ContainsFunc_api_Case_pk (slices_ContainsFunc_api_Case_LP N) (show LoopsOk (slices_ContainsFunc_api_Case_LP N) (slices_ContainsFunc_api_Case_E N) N (resD (slices_ContainsFunc_api_Case_E N) Tryz.f89 (slices_ContainsFunc_api_Case_sg fun x _ => slices_ContainsFunc_api_Case N x.1 x.2.1) slices_ContainsFunc_api_Case_pk) [] from trivial) x y).trans (slices_ContainsFunc_api_Case_core N x y)).trans h)
def slices_IndexFunc_string_string_L0T (N : Nat) (x0 : List Str) (c7 : Int) (k0 : Option Int) (self : Int → Option Int) (s8 : Int) : Option Int :=
  br (decide (s8 < c7))
    (bnd (geti x0 s8) fun t14 =>
    bnd (script_CheckValue_1 N t14) fun t16 =>
    br (t16)
      (some s8)
      (self (IntKind.i64.wrap (s8 + (1 : Int)))))
    (k0)
def slices_IndexFunc_string_string_L0 (N : Nat) (x0 : List Str) (c7 : Int) (k0 : Option Int) : Nat → Int → Option Int
  | 0, _ => none
  | n + 1, s8 => slices_IndexFunc_string_string_L0T N x0 c7 k0 (slices_IndexFunc_string_string_L0 N x0 c7 k0 n) s8
def slices_IndexFunc_string_string (N : Nat) (x0 : List Str) (_x1 : Unit) : Option Int :=
  slices_IndexFunc_string_string_L0 N x0 (x0.length : Int) (some (-1 : Int)) N (0 : Int)
abbrev slices_IndexFunc_string_string_sg (f : SV [.v (.sl .str), .v (.clo 41 .un)] → BV [] → Option (Int)) : AF := { ps := [.v (.sl .str), .v (.clo 41 .un)], bs := [], rs := [.v (.int .i64)], cs := [], R := Int, out := fun z => ((z, ()), ()), f := f }
abbrev slices_IndexFunc_string_string_pk : SV [.v (.int .i64)] → BV [] → Int := fun x _ => x.1
def slices_IndexFunc_string_string_fn (N : Nat) : FuncId → Option Tmp → Option AF := fun f _ =>
  match f with
    | 41 => some (script_CheckValue_1_sg fun x _ => script_CheckValue_1 N x.1)
    | _ => none
theorem slices_IndexFunc_string_string_fn_ok (N : Nat) : ∀ f q F, slices_IndexFunc_string_string_fn N f q = some F → Sound Tryz.prog GW B0G f F := by
  intro f q F h
  unfold slices_IndexFunc_string_string_fn at h
  split at h
  · cases h; exact script_CheckValue_1_sound N
  · cases h
def slices_IndexFunc_string_string_h : Nat → Hint := fun i =>
  match i with
  | 0 => ⟨[], [0, 1, 7, 8], [], [], [], []⟩
  | _ => ⟨[], [], [], [], [], []⟩
abbrev slices_IndexFunc_string_string_E (N : Nat) : Env := mkE slices_IndexFunc_string_string_h (slices_IndexFunc_string_string_fn N) (fun _ => false) (fun _ => false)
abbrev slices_IndexFunc_string_string_L0_fs : List (Nat × Sl) := [(0, .v (.sl .str)), (1, .v (.clo 41 .un)), (7, .v (.int .i64)), (8, .v (.int .i64))]
abbrev slices_IndexFunc_string_string_L0_bs : List (Nat × Sb) := []
def slices_IndexFunc_string_string_L0_hd (x0 : List Str) (x1 : Unit) (c7 : Int) (s8 : Int) : St := ⟨19, [(0, .v (.sl .str) x0), (1, .v (.clo 41 .un) x1), (7, .v (.int .i64) c7), (8, .v (.int .i64) s8)], []⟩
def slices_IndexFunc_string_string_L0_tl0 (_x0 : List Str) (_x1 : Unit) (_c7 : Int) : St := ⟨19, [], []⟩
def slices_IndexFunc_string_string_L0_G (N : Nat) (x0 : List Str) (x1 : Unit) (c7 : Int) (s8 : Int) (k : Ex → St → Option Int) : Option Int :=
  slices_IndexFunc_string_string_L0 N x0 c7 (k (.exit 0) (slices_IndexFunc_string_string_L0_tl0 x0 x1 c7)) N s8
abbrev slices_IndexFunc_string_string_L0_F (N : Nat) : FV slices_IndexFunc_string_string_L0_fs → HV slices_IndexFunc_string_string_L0_bs → (Ex → St → Option Int) → Option Int := fun x _ k => slices_IndexFunc_string_string_L0_G N x.1 x.2.1 x.2.2.1 x.2.2.2.1 k
noncomputable def slices_IndexFunc_string_string_LP (N : Nat) : Nat → Code → St → (Ex → St → Option Int) → Option Int := fun i c =>
  match i with
  | 0 => (LPc 19 slices_IndexFunc_string_string_L0_fs slices_IndexFunc_string_string_L0_bs (slices_IndexFunc_string_string_L0_F N) (fun st k => iter (slices_IndexFunc_string_string_h 0) (exec (slices_IndexFunc_string_string_E N) N c 0) N st k))
  | i => fun st k => iter (slices_IndexFunc_string_string_h i) (exec (slices_IndexFunc_string_string_E N) N c i) N st k
theorem slices_IndexFunc_string_string_L0_step (N : Nat) (x0 : List Str) (x1 : Unit) (c7 : Int) (KX : Nat → St → Option Int) (I : St → Option Int) (s8 : Int) :
    execL (slices_IndexFunc_string_string_LP N) (slices_IndexFunc_string_string_E N) (cAt (bodyOf Tryz.f87) [true, false, true, false, false]) 0 (slices_IndexFunc_string_string_L0_hd x0 x1 c7 s8) (roundK (slices_IndexFunc_string_string_h 0) I KX (resD (slices_IndexFunc_string_string_E N) Tryz.f87 (slices_IndexFunc_string_string_sg fun x _ => slices_IndexFunc_string_string N x.1 x.2.1) slices_IndexFunc_string_string_pk)) = slices_IndexFunc_string_string_L0T N x0 c7 (KX 0 (slices_IndexFunc_string_string_L0_tl0 x0 x1 c7)) (fun s8 => I (slices_IndexFunc_string_string_L0_hd x0 x1 c7 s8)) s8 := by kernel_rfl
theorem slices_IndexFunc_string_string_L0_ok (N : Nat) : ∀ x y k, (∀ st, k .ret st = (resD (slices_IndexFunc_string_string_E N) Tryz.f87 (slices_IndexFunc_string_string_sg fun x _ => slices_IndexFunc_string_string N x.1 x.2.1) slices_IndexFunc_string_string_pk) st) → iter (slices_IndexFunc_string_string_h 0) (exec (slices_IndexFunc_string_string_E N) N (cAt (bodyOf Tryz.f87) [true, false, true, false, false]) 0) N ⟨19, unF slices_IndexFunc_string_string_L0_fs x, unH slices_IndexFunc_string_string_L0_bs y⟩ k = slices_IndexFunc_string_string_L0_F N x y k := fun x _ k hk =>
  iter_link (S := (Int) × Unit) (slices_IndexFunc_string_string_h 0) _ (execL (slices_IndexFunc_string_string_LP N) (slices_IndexFunc_string_string_E N) (cAt (bodyOf Tryz.f87) [true, false, true, false, false]) 0) (resD (slices_IndexFunc_string_string_E N) Tryz.f87 (slices_IndexFunc_string_string_sg fun x _ => slices_IndexFunc_string_string N x.1 x.2.1) slices_IndexFunc_string_string_pk) (fun st k hk => execL_eq _ _ N _ (cAt (bodyOf Tryz.f87) [true, false, true, false, false]) 0 (show LoopsOk (slices_IndexFunc_string_string_LP N) (slices_IndexFunc_string_string_E N) N (resD (slices_IndexFunc_string_string_E N) Tryz.f87 (slices_IndexFunc_string_string_sg fun x _ => slices_IndexFunc_string_string N x.1 x.2.1) slices_IndexFunc_string_string_pk) [] from trivial) st k hk) (fun s => slices_IndexFunc_string_string_L0_hd x.1 x.2.1 x.2.2.1 s.1) k hk
    (fun self s => slices_IndexFunc_string_string_L0T N x.1 x.2.2.1 (k (.exit 0) (slices_IndexFunc_string_string_L0_tl0 x.1 x.2.1 x.2.2.1)) (fun s8 => self (s8, ())) s.1) (fun n s => slices_IndexFunc_string_string_L0 N x.1 x.2.2.1 (k (.exit 0) (slices_IndexFunc_string_string_L0_tl0 x.1 x.2.1 x.2.2.1)) n s.1) (fun _ => rfl) (fun _ _ => rfl)
    (fun I s => slices_IndexFunc_string_string_L0_step N x.1 x.2.1 x.2.2.1 (fun j => k (.exit j)) I s.1) N (x.2.2.2.1, ())
theorem slices_IndexFunc_string_string_lp0 (N : Nat) : ∀ st k, (∀ st, k .ret st = (resD (slices_IndexFunc_string_string_E N) Tryz.f87 (slices_IndexFunc_string_string_sg fun x _ => slices_IndexFunc_string_string N x.1 x.2.1) slices_IndexFunc_string_string_pk) st) → slices_IndexFunc_string_string_LP N 0 (cAt (bodyOf Tryz.f87) [true, false, true, false, false]) st k = iter (Env.hint (slices_IndexFunc_string_string_E N) 0) (exec (slices_IndexFunc_string_string_E N) N (cAt (bodyOf Tryz.f87) [true, false, true, false, false]) 0) N st k := fun st k hk => LPc_eq 19 slices_IndexFunc_string_string_L0_fs slices_IndexFunc_string_string_L0_bs _ _ (resD (slices_IndexFunc_string_string_E N) Tryz.f87 (slices_IndexFunc_string_string_sg fun x _ => slices_IndexFunc_string_string N x.1 x.2.1) slices_IndexFunc_string_string_pk) (slices_IndexFunc_string_string_L0_ok N) _ st k hk (rfl)
theorem slices_IndexFunc_string_string_core (N : Nat) (x : SV [.v (.sl .str), .v (.clo 41 .un)]) (y : BV []) : runL (slices_IndexFunc_string_string_E N) Tryz.f87 (slices_IndexFunc_string_string_sg fun x _ => slices_IndexFunc_string_string N x.1 x.2.1) slices_IndexFunc_string_string_pk (slices_IndexFunc_string_string_LP N) x y = slices_IndexFunc_string_string N x.1 x.2.1 := by kernel_rfl
theorem slices_IndexFunc_string_string_sound (N : Nat) : Sound Tryz.prog GW B0G 87 (slices_IndexFunc_string_string_sg fun x _ => slices_IndexFunc_string_string N x.1 x.2.1) :=
  runD_sound (mkE_ok slices_IndexFunc_string_string_h (slices_IndexFunc_string_string_fn N) _ _ (slices_IndexFunc_string_string_fn_ok N)) Tryz.func87 rfl Tryz.call87 (slices_IndexFunc_string_string_sg fun x _ => slices_IndexFunc_string_string N x.1 x.2.1) slices_IndexFunc_string_string_pk (fun _ _ => rfl) N (fun x y _ h => ((runL_eq (slices_IndexFunc_string_string_E N) N Tryz.f87 (slices_IndexFunc_string_string_sg fun x _ => slices_IndexFunc_string_string N x.1 x.2.1) slices_IndexFunc_string_string_pk (slices_IndexFunc_string_string_LP N) (show LoopsOk (slices_IndexFunc_string_string_LP N) (slices_IndexFunc_string_string_E N) N (resD (slices_IndexFunc_string_string_E N) Tryz.f87 (slices_IndexFunc_string_string_sg fun x _ => slices_IndexFunc_string_string N x.1 x.2.1) slices_IndexFunc_string_string_pk) [(0, (cAt (bodyOf Tryz.f87) [true, false, true, false, false]))] from ⟨slices_IndexFunc_string_string_lp0 N, trivial⟩) x y).trans (slices_IndexFunc_string_string_core N x y)).trans h)
def slices_ContainsFunc_string_string (N : Nat) (x0 : List Str) (x1 : Unit) : Option Bool :=
  bnd (slices_IndexFunc_string_string N x0 x1) fun t7 =>
  some (decide (t7 ≥ (0 : Int)))
abbrev slices_ContainsFunc_string_string_sg (f : SV [.v (.sl .str), .v (.clo 41 .un)] → BV [] → Option (Bool)) : AF := { ps := [.v (.sl .str), .v (.clo 41 .un)], bs := [], rs := [.v .bool], cs := [], R := Bool, out := fun z => ((z, ()), ()), f := f }
abbrev slices_ContainsFunc_string_string_pk : SV [.v .bool] → BV [] → Bool := fun x _ => x.1
def slices_ContainsFunc_string_string_fn (N : Nat) : FuncId → Option Tmp → Option AF := fun f _ =>
  match f with
    | 87 => some (slices_IndexFunc_string_string_sg fun x _ => slices_IndexFunc_string_string N x.1 x.2.1)
    | _ => none
theorem slices_ContainsFunc_string_string_fn_ok (N : Nat) : ∀ f q F, slices_ContainsFunc_string_string_fn N f q = some F → Sound Tryz.prog GW B0G f F := by
  intro f q F h
  unfold slices_ContainsFunc_string_string_fn at h
  split at h
  · cases h; exact slices_IndexFunc_string_string_sound N
  · cases h
def slices_ContainsFunc_string_string_h : Nat → Hint := fun i =>
  match i with
  | _ => ⟨[], [], [], [], [], []⟩
abbrev slices_ContainsFunc_string_string_E (N : Nat) : Env := mkE slices_ContainsFunc_string_string_h (slices_ContainsFunc_string_string_fn N) (fun _ => false) (fun _ => false)
noncomputable def slices_ContainsFunc_string_string_LP (N : Nat) : Nat → Code → St → (Ex → St → Option Bool) → Option Bool := fun i c =>
  match i with
  | i => fun st k => iter (slices_ContainsFunc_string_string_h i) (exec (slices_ContainsFunc_string_string_E N) N c i) N st k
theorem slices_ContainsFunc_string_string_core (N : Nat) (x : SV [.v (.sl .str), .v (.clo 41 .un)]) (y : BV []) : runL (slices_ContainsFunc_string_string_E N) Tryz.f40 (slices_ContainsFunc_string_string_sg fun x _ => slices_ContainsFunc_string_string N x.1 x.2.1) slices_ContainsFunc_string_string_pk (slices_ContainsFunc_string_string_LP N) x y = slices_ContainsFunc_string_string N x.1 x.2.1 := by kernel_rfl
theorem slices_ContainsFunc_string_string_sound (N : Nat) : Sound Tryz.prog GW B0G 40 (slices_ContainsFunc_string_string_sg fun x _ => slices_ContainsFunc_string_string N x.1 x.2.1) :=
  runD_sound (mkE_ok slices_ContainsFunc_string_string_h (slices_ContainsFunc_string_string_fn N) _ _ (slices_ContainsFunc_string_string_fn_ok N)) Tryz.func40 rfl Tryz.call40 (slices_ContainsFunc_string_string_sg fun x _ => slices_ContainsFunc_string_string N x.1 x.2.1) slices_ContainsFunc_string_string_pk (fun _ _ => rfl) N (fun x y _ h => ((runL_eq (slices_ContainsFunc_string_string_E N) N Tryz.f40 (slices_ContainsFunc_string_string_sg fun x _ => slices_ContainsFunc_string_string N x.1 x.2.1) slices_ContainsFunc_string_string_pk (slices_ContainsFunc_string_string_LP N) (show LoopsOk (slices_ContainsFunc_string_string_LP N) (slices_ContainsFunc_string_string_E N) N (resD (slices_ContainsFunc_string_string_E N) Tryz.f40 (slices_ContainsFunc_string_string_sg fun x _ => slices_ContainsFunc_string_string N x.1 x.2.1) slices_ContainsFunc_string_string_pk) [] from trivial) x y).trans (slices_ContainsFunc_string_string_core N x y)).trans h)
def slices_IndexFunc_string_string_2_L0T (N : Nat) (x0 : List Str) (c7 : Int) (k0 : Option Int) (self : Int → Option Int) (s8 : Int) : Option Int :=
  br (decide (s8 < c7))
    (bnd (geti x0 s8) fun t14 =>
    bnd (script_CheckValue_2 N t14) fun t16 =>
    br (t16)
      (some s8)
      (self (IntKind.i64.wrap (s8 + (1 : Int)))))
    (k0)
def slices_IndexFunc_string_string_2_L0 (N : Nat) (x0 : List Str) (c7 : Int) (k0 : Option Int) : Nat → Int → Option Int
  | 0, _ => none
  | n + 1, s8 => slices_IndexFunc_string_string_2_L0T N x0 c7 k0 (slices_IndexFunc_string_string_2_L0 N x0 c7 k0 n) s8
def slices_IndexFunc_string_string_2 (N : Nat) (x0 : List Str) (_x1 : Unit) : Option Int :=
  slices_IndexFunc_string_string_2_L0 N x0 (x0.length : Int) (some (-1 : Int)) N (0 : Int)
abbrev slices_IndexFunc_string_string_2_sg (f : SV [.v (.sl .str), .v (.clo 43 .un)] → BV [] → Option (Int)) : AF := { ps := [.v (.sl .str), .v (.clo 43 .un)], bs := [], rs := [.v (.int .i64)], cs := [], R := Int, out := fun z => ((z, ()), ()), f := f }
abbrev slices_IndexFunc_string_string_2_pk : SV [.v (.int .i64)] → BV [] → Int := fun x _ => x.1
def slices_IndexFunc_string_string_2_fn (N : Nat) : FuncId → Option Tmp → Option AF := fun f _ =>
  match f with
    | 43 => some (script_CheckValue_2_sg fun x _ => script_CheckValue_2 N x.1)
    | _ => none
theorem slices_IndexFunc_string_string_2_fn_ok (N : Nat) : ∀ f q F, slices_IndexFunc_string_string_2_fn N f q = some F → Sound Tryz.prog GW B0G f F := by
  intro f q F h
  unfold slices_IndexFunc_string_string_2_fn at h
  split at h
  · cases h; exact script_CheckValue_2_sound N
  · cases h
def slices_IndexFunc_string_string_2_h : Nat → Hint := fun i =>
  match i with
  | 0 => ⟨[], [0, 1, 7, 8], [], [], [], []⟩
  | _ => ⟨[], [], [], [], [], []⟩
abbrev slices_IndexFunc_string_string_2_E (N : Nat) : Env := mkE slices_IndexFunc_string_string_2_h (slices_IndexFunc_string_string_2_fn N) (fun _ => false) (fun _ => false)
abbrev slices_IndexFunc_string_string_2_L0_fs : List (Nat × Sl) := [(0, .v (.sl .str)), (1, .v (.clo 43 .un)), (7, .v (.int .i64)), (8, .v (.int .i64))]
abbrev slices_IndexFunc_string_string_2_L0_bs : List (Nat × Sb) := []
def slices_IndexFunc_string_string_2_L0_hd (x0 : List Str) (x1 : Unit) (c7 : Int) (s8 : Int) : St := ⟨19, [(0, .v (.sl .str) x0), (1, .v (.clo 43 .un) x1), (7, .v (.int .i64) c7), (8, .v (.int .i64) s8)], []⟩
def slices_IndexFunc_string_string_2_L0_tl0 (_x0 : List Str) (_x1 : Unit) (_c7 : Int) : St := ⟨19, [], []⟩
def slices_IndexFunc_string_string_2_L0_G (N : Nat) (x0 : List Str) (x1 : Unit) (c7 : Int) (s8 : Int) (k : Ex → St → Option Int) : Option Int :=
  slices_IndexFunc_string_string_2_L0 N x0 c7 (k (.exit 0) (slices_IndexFunc_string_string_2_L0_tl0 x0 x1 c7)) N s8
abbrev slices_IndexFunc_string_string_2_L0_F (N : Nat) : FV slices_IndexFunc_string_string_2_L0_fs → HV slices_IndexFunc_string_string_2_L0_bs → (Ex → St → Option Int) → Option Int := fun x _ k => slices_IndexFunc_string_string_2_L0_G N x.1 x.2.1 x.2.2.1 x.2.2.2.1 k
noncomputable def slices_IndexFunc_string_string_2_LP (N : Nat) : Nat → Code → St → (Ex → St → Option Int) → Option Int := fun i c =>
  match i with
  | 0 => (LPc 19 slices_IndexFunc_string_string_2_L0_fs slices_IndexFunc_string_string_2_L0_bs (slices_IndexFunc_string_string_2_L0_F N) (fun st k => iter (slices_IndexFunc_string_string_2_h 0) (exec (slices_IndexFunc_string_string_2_E N) N c 0) N st k))
  | i => fun st k => iter (slices_IndexFunc_string_string_2_h i) (exec (slices_IndexFunc_string_string_2_E N) N c i) N st k
theorem slices_IndexFunc_string_string_2_L0_step (N : Nat) (x0 : List Str) (x1 : Unit) (c7 : Int) (KX : Nat → St → Option Int) (I : St → Option Int) (s8 : Int) :
    execL (slices_IndexFunc_string_string_2_LP N) (slices_IndexFunc_string_string_2_E N) (cAt (bodyOf Tryz.f87) [true, false, true, false, false]) 0 (slices_IndexFunc_string_string_2_L0_hd x0 x1 c7 s8) (roundK (slices_IndexFunc_string_string_2_h 0) I KX (resD (slices_IndexFunc_string_string_2_E N) Tryz.f87 (slices_IndexFunc_string_string_2_sg fun x _ => slices_IndexFunc_string_string_2 N x.1 x.2.1) slices_IndexFunc_string_string_2_pk)) = slices_IndexFunc_string_string_2_L0T N x0 c7 (KX 0 (slices_IndexFunc_string_string_2_L0_tl0 x0 x1 c7)) (fun s8 => I (slices_IndexFunc_string_string_2_L0_hd x0 x1 c7 s8)) s8 := by kernel_rfl
theorem slices_IndexFunc_string_string_2_L0_ok (N : Nat) : ∀ x y k, (∀ st, k .ret st = (resD (slices_IndexFunc_string_string_2_E N) Tryz.f87 (slices_IndexFunc_string_string_2_sg fun x _ => slices_IndexFunc_string_string_2 N x.1 x.2.1) slices_IndexFunc_string_string_2_pk) st) → iter (slices_IndexFunc_string_string_2_h 0) (exec (slices_IndexFunc_string_string_2_E N) N (cAt (bodyOf Tryz.f87) [true, false, true, false, false]) 0) N ⟨19, unF slices_IndexFunc_string_string_2_L0_fs x, unH slices_IndexFunc_string_string_2_L0_bs y⟩ k = slices_IndexFunc_string_string_2_L0_F N x y k := fun x _ k hk =>
  iter_link (S := (Int) × Unit) (slices_IndexFunc_string_string_2_h 0) _ (execL (slices_IndexFunc_string_string_2_LP N) (slices_IndexFunc_string_string_2_E N) (cAt (bodyOf Tryz.f87) [true, false, true, false, false]) 0) (resD (slices_IndexFunc_string_string_2_E N) Tryz.f87 (slices_IndexFunc_string_string_2_sg fun x _ => slices_IndexFunc_string_string_2 N x.1 x.2.1) slices_IndexFunc_string_string_2_pk) (fun st k hk => execL_eq _ _ N _ (cAt (bodyOf Tryz.f87) [true, false, true, false, false]) 0 (show LoopsOk (slices_IndexFunc_string_string_2_LP N) (slices_IndexFunc_string_string_2_E N) N (resD (slices_IndexFunc_string_string_2_E N) Tryz.f87 (slices_IndexFunc_string_string_2_sg fun x _ => slices_IndexFunc_string_string_2 N x.1 x.2.1) slices_IndexFunc_string_string_2_pk) [] from trivial) st k hk) (fun s => slices_IndexFunc_string_string_2_L0_hd x.1 x.2.1 x.2.2.1 s.1) k hk
    (fun self s => slices_IndexFunc_string_string_2_L0T N x.1 x.2.2.1 (k (.exit 0) (slices_IndexFunc_string_string_2_L0_tl0 x.1 x.2.1 x.2.2.1)) (fun s8 => self (s8, ())) s.1) (fun n s => slices_IndexFunc_string_string_2_L0 N x.1 x.2.2.1 (k (.exit 0) (slices_IndexFunc_string_string_2_L0_tl0 x.1 x.2.1 x.2.2.1)) n s.1) (fun _ => rfl) (fun _ _ => rfl)
    (fun I s => slices_IndexFunc_string_string_2_L0_step N x.1 x.2.1 x.2.2.1 (fun j => k (.exit j)) I s.1) N (x.2.2.2.1, ())
theorem slices_IndexFunc_string_string_2_lp0 (N : Nat) : ∀ st k, (∀ st, k .ret st = (resD (slices_IndexFunc_string_string_2_E N) Tryz.f87 (slices_IndexFunc_string_string_2_sg fun x _ => slices_IndexFunc_string_string_2 N x.1 x.2.1) slices_IndexFunc_string_string_2_pk) st) → slices_IndexFunc_string_string_2_LP N 0 (cAt (bodyOf Tryz.f87) [true, false, true, false, false]) st k = iter (Env.hint (slices_IndexFunc_string_string_2_E N) 0) (exec (slices_IndexFunc_string_string_2_E N) N (cAt (bodyOf Tryz.f87) [true, false, true, false, false]) 0) N st k := fun st k hk => LPc_eq 19 slices_IndexFunc_string_string_2_L0_fs slices_IndexFunc_string_string_2_L0_bs _ _ (resD (slices_IndexFunc_string_string_2_E N) Tryz.f87 (slices_IndexFunc_string_string_2_sg fun x _ => slices_IndexFunc_string_string_2 N x.1 x.2.1) slices_IndexFunc_string_string_2_pk) (slices_IndexFunc_string_string_2_L0_ok N) _ st k hk (rfl)
theorem slices_IndexFunc_string_string_2_core (N : Nat) (x : SV [.v (.sl .str), .v (.clo 43 .un)]) (y : BV []) : runL (slices_IndexFunc_string_string_2_E N) Tryz.f87 (slices_IndexFunc_string_string_2_sg fun x _ => slices_IndexFunc_string_string_2 N x.1 x.2.1) slices_IndexFunc_string_string_2_pk (slices_IndexFunc_string_string_2_LP N) x y = slices_IndexFunc_string_string_2 N x.1 x.2.1 := by kernel_rfl
theorem slices_IndexFunc_string_string_2_sound (N : Nat) : Sound Tryz.prog GW B0G 87 (slices_IndexFunc_string_string_2_sg fun x _ => slices_IndexFunc_string_string_2 N x.1 x.2.1) :=
  runD_sound (mkE_ok slices_IndexFunc_string_string_2_h (slices_IndexFunc_string_string_2_fn N) _ _ (slices_IndexFunc_string_string_2_fn_ok N)) Tryz.func87 rfl Tryz.call87 (slices_IndexFunc_string_string_2_sg fun x _ => slices_IndexFunc_string_string_2 N x.1 x.2.1) slices_IndexFunc_string_string_2_pk (fun _ _ => rfl) N (fun x y _ h => ((runL_eq (slices_IndexFunc_string_string_2_E N) N Tryz.f87 (slices_IndexFunc_string_string_2_sg fun x _ => slices_IndexFunc_string_string_2 N x.1 x.2.1) slices_IndexFunc_string_string_2_pk (slices_IndexFunc_string_string_2_LP N) (show LoopsOk (slices_IndexFunc_string_string_2_LP N) (slices_IndexFunc_string_string_2_E N) N (resD (slices_IndexFunc_string_string_2_E N) Tryz.f87 (slices_IndexFunc_string_string_2_sg fun x _ => slices_IndexFunc_string_string_2 N x.1 x.2.1) slices_IndexFunc_string_string_2_pk) [(0, (cAt (bodyOf Tryz.f87) [true, false, true, false, false]))] from ⟨slices_IndexFunc_string_string_2_lp0 N, trivial⟩) x y).trans (slices_IndexFunc_string_string_2_core N x y)).trans h)
def slices_ContainsFunc_string_string_2 (N : Nat) (x0 : List Str) (x1 : Unit) : Option Bool :=
  bnd (slices_IndexFunc_string_string_2 N x0 x1) fun t7 =>
  some (decide (t7 ≥ (0 : Int)))
abbrev slices_ContainsFunc_string_string_2_sg (f : SV [.v (.sl .str), .v (.clo 43 .un)] → BV [] → Option (Bool)) : AF := { ps := [.v (.sl .str), .v (.clo 43 .un)], bs := [], rs := [.v .bool], cs := [], R := Bool, out := fun z => ((z, ()), ()), f := f }
abbrev slices_ContainsFunc_string_string_2_pk : SV [.v .bool] → BV [] → Bool := fun x _ => x.1
def slices_ContainsFunc_string_string_2_fn (N : Nat) : FuncId → Option Tmp → Option AF := fun f _ =>
  match f with
    | 87 => some (slices_IndexFunc_string_string_2_sg fun x _ => slices_IndexFunc_string_string_2 N x.1 x.2.1)
    | _ => none
theorem slices_ContainsFunc_string_string_2_fn_ok (N : Nat) : ∀ f q F, slices_ContainsFunc_string_string_2_fn N f q = some F → Sound Tryz.prog GW B0G f F := by
  intro f q F h
  unfold slices_ContainsFunc_string_string_2_fn at h
  split at h
  · cases h; exact slices_IndexFunc_string_string_2_sound N
  · cases h
def slices_ContainsFunc_string_string_2_h : Nat → Hint := fun i =>
  match i with
  | _ => ⟨[], [], [], [], [], []⟩
abbrev slices_ContainsFunc_string_string_2_E (N : Nat) : Env := mkE slices_ContainsFunc_string_string_2_h (slices_ContainsFunc_string_string_2_fn N) (fun _ => false) (fun _ => false)
noncomputable def slices_ContainsFunc_string_string_2_LP (N : Nat) : Nat → Code → St → (Ex → St → Option Bool) → Option Bool := fun i c =>
  match i with
  | i => fun st k => iter (slices_ContainsFunc_string_string_2_h i) (exec (slices_ContainsFunc_string_string_2_E N) N c i) N st k
theorem slices_ContainsFunc_string_string_2_core (N : Nat) (x : SV [.v (.sl .str), .v (.clo 43 .un)]) (y : BV []) : runL (slices_ContainsFunc_string_string_2_E N) Tryz.f40 (slices_ContainsFunc_string_string_2_sg fun x _ => slices_ContainsFunc_string_string_2 N x.1 x.2.1) slices_ContainsFunc_string_string_2_pk (slices_ContainsFunc_string_string_2_LP N) x y = slices_ContainsFunc_string_string_2 N x.1 x.2.1 := by kernel_rfl
theorem slices_ContainsFunc_string_string_2_sound (N : Nat) : Sound Tryz.prog GW B0G 40 (slices_ContainsFunc_string_string_2_sg fun x _ => slices_ContainsFunc_string_string_2 N x.1 x.2.1) :=
  runD_sound (mkE_ok slices_ContainsFunc_string_string_2_h (slices_ContainsFunc_string_string_2_fn N) _ _ (slices_ContainsFunc_string_string_2_fn_ok N)) Tryz.func40 rfl Tryz.call40 (slices_ContainsFunc_string_string_2_sg fun x _ => slices_ContainsFunc_string_string_2 N x.1 x.2.1) slices_ContainsFunc_string_string_2_pk (fun _ _ => rfl) N (fun x y _ h => ((runL_eq (slices_ContainsFunc_string_string_2_E N) N Tryz.f40 (slices_ContainsFunc_string_string_2_sg fun x _ => slices_ContainsFunc_string_string_2 N x.1 x.2.1) slices_ContainsFunc_string_string_2_pk (slices_ContainsFunc_string_string_2_LP N) (show LoopsOk (slices_ContainsFunc_string_string_2_LP N) (slices_ContainsFunc_string_string_2_E N) N (resD (slices_ContainsFunc_string_string_2_E N) Tryz.f40 (slices_ContainsFunc_string_string_2_sg fun x _ => slices_ContainsFunc_string_string_2 N x.1 x.2.1) slices_ContainsFunc_string_string_2_pk) [] from trivial) x y).trans (slices_ContainsFunc_string_string_2_core N x y)).trans h)
abbrev script_checkCases_sg (f : SV [.v (.sl (.pr .str (.rc .value)))] → BV [] → Option (Int)) : AF := { ps := [.v (.sl (.pr .str (.rc .value)))], bs := [], rs := [.v (.int .i64)], cs := [], R := Int, out := fun z => ((z, ()), ()), f := f }
end
end Go.Proofs.YtahjncefiegflaaGreatDoor

