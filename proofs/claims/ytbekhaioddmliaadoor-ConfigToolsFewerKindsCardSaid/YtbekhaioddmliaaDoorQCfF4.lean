/- What functions of the program compute, as plain functions (printed). -/
import Derived.Test.YtbekhaioddmliaaDoorQCfF3
namespace Go.Proofs.YtbekhaioddmliaaDoor
open Go Go.RowKit
set_option maxRecDepth 100000
set_option linter.unusedVariables false
noncomputable section
def config_CheckTools_1 (_N : Nat) (x0 : Str × Str × List (Str × Str) × List (Str × Str)) (x1 : Str × Str × List (Str × Str) × List (Str × Str)) : Option Bool :=
  some (x0.1 == x1.1)
abbrev config_CheckTools_1_sg (f : SV [.v (.pr .str (.pr .str (.pr (.sl (.pr .str .str)) (.sl (.pr .str .str))))), .v (.ptr (.pr .str (.pr .str (.pr (.sl (.pr .str .str)) (.sl (.pr .str .str))))))] → BV [] → Option (Bool)) : AF := { ps := [.v (.pr .str (.pr .str (.pr (.sl (.pr .str .str)) (.sl (.pr .str .str))))), .v (.ptr (.pr .str (.pr .str (.pr (.sl (.pr .str .str)) (.sl (.pr .str .str))))))], bs := [], rs := [.v .bool], cs := [], R := Bool, out := fun z => ((z, ()), ()), f := f }
abbrev config_CheckTools_1_pk : SV [.v .bool] → BV [] → Bool := fun x _ => x.1
def config_CheckTools_1_fn (_N : Nat) : FuncId → Option Tmp → Option AF := fun f _ =>
  match f with
    | _ => none
theorem config_CheckTools_1_fn_ok (N : Nat) : ∀ f q F, config_CheckTools_1_fn N f q = some F → Sound Tryd.prog GW B0G f F := by
  intro f q F h
  unfold config_CheckTools_1_fn at h
  split at h
  · cases h
def config_CheckTools_1_h : Nat → Hint := fun i =>
  match i with
  | _ => ⟨[], [], [], [], []⟩
abbrev config_CheckTools_1_E (N : Nat) : Env := mkE config_CheckTools_1_h (config_CheckTools_1_fn N) (fun _ => false) (fun _ => false)
noncomputable def config_CheckTools_1_LP (N : Nat) : Nat → Code → St → (Ex → St → Option Bool) → Option Bool := fun i c =>
  match i with
  | i => fun st k => iter (config_CheckTools_1_h i) (exec (config_CheckTools_1_E N) N c i) N st k
theorem config_CheckTools_1_core (N : Nat) (x : SV [.v (.pr .str (.pr .str (.pr (.sl (.pr .str .str)) (.sl (.pr .str .str))))), .v (.ptr (.pr .str (.pr .str (.pr (.sl (.pr .str .str)) (.sl (.pr .str .str))))))]) (y : BV []) : runL (config_CheckTools_1_E N) Tryd.f71 (config_CheckTools_1_sg fun x _ => config_CheckTools_1 N x.1 x.2.1) config_CheckTools_1_pk (config_CheckTools_1_LP N) x y = config_CheckTools_1 N x.1 x.2.1 := by kernel_rfl
theorem config_CheckTools_1_sound (N : Nat) : Sound Tryd.prog GW B0G 71 (config_CheckTools_1_sg fun x _ => config_CheckTools_1 N x.1 x.2.1) :=
  runD_sound (mkE_ok config_CheckTools_1_h (config_CheckTools_1_fn N) _ _ (config_CheckTools_1_fn_ok N)) Tryd.func71 rfl Tryd.call71 (config_CheckTools_1_sg fun x _ => config_CheckTools_1 N x.1 x.2.1) config_CheckTools_1_pk (fun _ _ => rfl) N (fun x y _ h => ((runL_eq (config_CheckTools_1_E N) N Tryd.f71 (config_CheckTools_1_sg fun x _ => config_CheckTools_1 N x.1 x.2.1) config_CheckTools_1_pk (config_CheckTools_1_LP N) (show LoopsOk (config_CheckTools_1_LP N) (config_CheckTools_1_E N) N (resD (config_CheckTools_1_E N) Tryd.f71 (config_CheckTools_1_sg fun x _ => config_CheckTools_1 N x.1 x.2.1) config_CheckTools_1_pk) [] from trivial) x y).trans (config_CheckTools_1_core N x y)).trans h)
def slices_IndexFunc_api_Tool_L0T (N : Nat) (x0 : List (Str × Str × List (Str × Str) × List (Str × Str))) (x1 : (Str × Str × List (Str × Str) × List (Str × Str)) × Unit) (c7 : Int) (k0 : Option Int) (self : Int → Option Int) (s8 : Int) : Option Int :=
  br (decide (s8 < c7))
    (bnd (geti x0 s8) fun t14 =>
    bnd (config_CheckTools_1 N t14 x1.1) fun t16 =>
    br (t16)
      (some s8)
      (self (IntKind.i64.wrap (s8 + (1 : Int)))))
    (k0)
def slices_IndexFunc_api_Tool_L0 (N : Nat) (x0 : List (Str × Str × List (Str × Str) × List (Str × Str))) (x1 : (Str × Str × List (Str × Str) × List (Str × Str)) × Unit) (c7 : Int) (k0 : Option Int) : Nat → Int → Option Int
  | 0, _ => none
  | n + 1, s8 => slices_IndexFunc_api_Tool_L0T N x0 x1 c7 k0 (slices_IndexFunc_api_Tool_L0 N x0 x1 c7 k0 n) s8
def slices_IndexFunc_api_Tool (N : Nat) (x0 : List (Str × Str × List (Str × Str) × List (Str × Str))) (x1 : (Str × Str × List (Str × Str) × List (Str × Str)) × Unit) : Option Int :=
  slices_IndexFunc_api_Tool_L0 N x0 x1 (x0.length : Int) (some (-1 : Int)) N (0 : Int)
abbrev slices_IndexFunc_api_Tool_sg (f : SV [.v (.sl (.pr .str (.pr .str (.pr (.sl (.pr .str .str)) (.sl (.pr .str .str)))))), .v (.clo 71 (.pr (.ptr (.pr .str (.pr .str (.pr (.sl (.pr .str .str)) (.sl (.pr .str .str)))))) .un))] → BV [] → Option (Int)) : AF := { ps := [.v (.sl (.pr .str (.pr .str (.pr (.sl (.pr .str .str)) (.sl (.pr .str .str)))))), .v (.clo 71 (.pr (.ptr (.pr .str (.pr .str (.pr (.sl (.pr .str .str)) (.sl (.pr .str .str)))))) .un))], bs := [], rs := [.v (.int .i64)], cs := [], R := Int, out := fun z => ((z, ()), ()), f := f }
abbrev slices_IndexFunc_api_Tool_pk : SV [.v (.int .i64)] → BV [] → Int := fun x _ => x.1
def slices_IndexFunc_api_Tool_fn (N : Nat) : FuncId → Option Tmp → Option AF := fun f _ =>
  match f with
    | 71 => some (config_CheckTools_1_sg fun x _ => config_CheckTools_1 N x.1 x.2.1)
    | _ => none
theorem slices_IndexFunc_api_Tool_fn_ok (N : Nat) : ∀ f q F, slices_IndexFunc_api_Tool_fn N f q = some F → Sound Tryd.prog GW B0G f F := by
  intro f q F h
  unfold slices_IndexFunc_api_Tool_fn at h
  split at h
  · cases h; exact config_CheckTools_1_sound N
  · cases h
def slices_IndexFunc_api_Tool_h : Nat → Hint := fun i =>
  match i with
  | 0 => ⟨[], [0, 1, 7, 8], [], [], []⟩
  | _ => ⟨[], [], [], [], []⟩
abbrev slices_IndexFunc_api_Tool_E (N : Nat) : Env := mkE slices_IndexFunc_api_Tool_h (slices_IndexFunc_api_Tool_fn N) (fun _ => false) (fun _ => false)
abbrev slices_IndexFunc_api_Tool_L0_fs : List (Nat × Sl) := [(0, .v (.sl (.pr .str (.pr .str (.pr (.sl (.pr .str .str)) (.sl (.pr .str .str))))))), (1, .v (.clo 71 (.pr (.ptr (.pr .str (.pr .str (.pr (.sl (.pr .str .str)) (.sl (.pr .str .str)))))) .un))), (7, .v (.int .i64)), (8, .v (.int .i64))]
abbrev slices_IndexFunc_api_Tool_L0_bs : List (Nat × Sb) := []
def slices_IndexFunc_api_Tool_L0_hd (x0 : List (Str × Str × List (Str × Str) × List (Str × Str))) (x1 : (Str × Str × List (Str × Str) × List (Str × Str)) × Unit) (c7 : Int) (s8 : Int) : St := ⟨19, [(0, .v (.sl (.pr .str (.pr .str (.pr (.sl (.pr .str .str)) (.sl (.pr .str .str)))))) x0), (1, .v (.clo 71 (.pr (.ptr (.pr .str (.pr .str (.pr (.sl (.pr .str .str)) (.sl (.pr .str .str)))))) .un)) x1), (7, .v (.int .i64) c7), (8, .v (.int .i64) s8)], []⟩
def slices_IndexFunc_api_Tool_L0_tl0 (_x0 : List (Str × Str × List (Str × Str) × List (Str × Str))) (_x1 : (Str × Str × List (Str × Str) × List (Str × Str)) × Unit) (_c7 : Int) : St := ⟨19, [], []⟩
def slices_IndexFunc_api_Tool_L0_G (N : Nat) (x0 : List (Str × Str × List (Str × Str) × List (Str × Str))) (x1 : (Str × Str × List (Str × Str) × List (Str × Str)) × Unit) (c7 : Int) (s8 : Int) (k : Ex → St → Option Int) : Option Int :=
  slices_IndexFunc_api_Tool_L0 N x0 x1 c7 (k (.exit 0) (slices_IndexFunc_api_Tool_L0_tl0 x0 x1 c7)) N s8
abbrev slices_IndexFunc_api_Tool_L0_F (N : Nat) : FV slices_IndexFunc_api_Tool_L0_fs → HV slices_IndexFunc_api_Tool_L0_bs → (Ex → St → Option Int) → Option Int := fun x _ k => slices_IndexFunc_api_Tool_L0_G N x.1 x.2.1 x.2.2.1 x.2.2.2.1 k
noncomputable def slices_IndexFunc_api_Tool_LP (N : Nat) : Nat → Code → St → (Ex → St → Option Int) → Option Int := fun i c =>
  match i with
  | 0 => (LPc 19 slices_IndexFunc_api_Tool_L0_fs slices_IndexFunc_api_Tool_L0_bs (slices_IndexFunc_api_Tool_L0_F N) (fun st k => iter (slices_IndexFunc_api_Tool_h 0) (exec (slices_IndexFunc_api_Tool_E N) N c 0) N st k))
  | i => fun st k => iter (slices_IndexFunc_api_Tool_h i) (exec (slices_IndexFunc_api_Tool_E N) N c i) N st k
theorem slices_IndexFunc_api_Tool_L0_step (N : Nat) (x0 : List (Str × Str × List (Str × Str) × List (Str × Str))) (x1 : (Str × Str × List (Str × Str) × List (Str × Str)) × Unit) (c7 : Int) (KX : Nat → St → Option Int) (I : St → Option Int) (s8 : Int) :
    execL (slices_IndexFunc_api_Tool_LP N) (slices_IndexFunc_api_Tool_E N) (cAt (bodyOf Tryd.f99) [true, false, true, false, false]) 0 (slices_IndexFunc_api_Tool_L0_hd x0 x1 c7 s8) (roundK (slices_IndexFunc_api_Tool_h 0) I KX (resD (slices_IndexFunc_api_Tool_E N) Tryd.f99 (slices_IndexFunc_api_Tool_sg fun x _ => slices_IndexFunc_api_Tool N x.1 x.2.1) slices_IndexFunc_api_Tool_pk)) = slices_IndexFunc_api_Tool_L0T N x0 x1 c7 (KX 0 (slices_IndexFunc_api_Tool_L0_tl0 x0 x1 c7)) (fun s8 => I (slices_IndexFunc_api_Tool_L0_hd x0 x1 c7 s8)) s8 := by kernel_rfl
theorem slices_IndexFunc_api_Tool_L0_ok (N : Nat) : ∀ x y k, (∀ st, k .ret st = (resD (slices_IndexFunc_api_Tool_E N) Tryd.f99 (slices_IndexFunc_api_Tool_sg fun x _ => slices_IndexFunc_api_Tool N x.1 x.2.1) slices_IndexFunc_api_Tool_pk) st) → iter (slices_IndexFunc_api_Tool_h 0) (exec (slices_IndexFunc_api_Tool_E N) N (cAt (bodyOf Tryd.f99) [true, false, true, false, false]) 0) N ⟨19, unF slices_IndexFunc_api_Tool_L0_fs x, unH slices_IndexFunc_api_Tool_L0_bs y⟩ k = slices_IndexFunc_api_Tool_L0_F N x y k := fun x _ k hk =>
  iter_link (S := (Int) × Unit) (slices_IndexFunc_api_Tool_h 0) _ (execL (slices_IndexFunc_api_Tool_LP N) (slices_IndexFunc_api_Tool_E N) (cAt (bodyOf Tryd.f99) [true, false, true, false, false]) 0) (resD (slices_IndexFunc_api_Tool_E N) Tryd.f99 (slices_IndexFunc_api_Tool_sg fun x _ => slices_IndexFunc_api_Tool N x.1 x.2.1) slices_IndexFunc_api_Tool_pk) (fun st k hk => execL_eq _ _ N _ (cAt (bodyOf Tryd.f99) [true, false, true, false, false]) 0 (show LoopsOk (slices_IndexFunc_api_Tool_LP N) (slices_IndexFunc_api_Tool_E N) N (resD (slices_IndexFunc_api_Tool_E N) Tryd.f99 (slices_IndexFunc_api_Tool_sg fun x _ => slices_IndexFunc_api_Tool N x.1 x.2.1) slices_IndexFunc_api_Tool_pk) [] from trivial) st k hk) (fun s => slices_IndexFunc_api_Tool_L0_hd x.1 x.2.1 x.2.2.1 s.1) k hk
    (fun self s => slices_IndexFunc_api_Tool_L0T N x.1 x.2.1 x.2.2.1 (k (.exit 0) (slices_IndexFunc_api_Tool_L0_tl0 x.1 x.2.1 x.2.2.1)) (fun s8 => self (s8, ())) s.1) (fun n s => slices_IndexFunc_api_Tool_L0 N x.1 x.2.1 x.2.2.1 (k (.exit 0) (slices_IndexFunc_api_Tool_L0_tl0 x.1 x.2.1 x.2.2.1)) n s.1) (fun _ => rfl) (fun _ _ => rfl)
    (fun I s => slices_IndexFunc_api_Tool_L0_step N x.1 x.2.1 x.2.2.1 (fun j => k (.exit j)) I s.1) N (x.2.2.2.1, ())
theorem slices_IndexFunc_api_Tool_lp0 (N : Nat) : ∀ st k, (∀ st, k .ret st = (resD (slices_IndexFunc_api_Tool_E N) Tryd.f99 (slices_IndexFunc_api_Tool_sg fun x _ => slices_IndexFunc_api_Tool N x.1 x.2.1) slices_IndexFunc_api_Tool_pk) st) → slices_IndexFunc_api_Tool_LP N 0 (cAt (bodyOf Tryd.f99) [true, false, true, false, false]) st k = iter (Env.hint (slices_IndexFunc_api_Tool_E N) 0) (exec (slices_IndexFunc_api_Tool_E N) N (cAt (bodyOf Tryd.f99) [true, false, true, false, false]) 0) N st k := fun st k hk => LPc_eq 19 slices_IndexFunc_api_Tool_L0_fs slices_IndexFunc_api_Tool_L0_bs _ _ (resD (slices_IndexFunc_api_Tool_E N) Tryd.f99 (slices_IndexFunc_api_Tool_sg fun x _ => slices_IndexFunc_api_Tool N x.1 x.2.1) slices_IndexFunc_api_Tool_pk) (slices_IndexFunc_api_Tool_L0_ok N) _ st k hk (rfl)
theorem slices_IndexFunc_api_Tool_core (N : Nat) (x : SV [.v (.sl (.pr .str (.pr .str (.pr (.sl (.pr .str .str)) (.sl (.pr .str .str)))))), .v (.clo 71 (.pr (.ptr (.pr .str (.pr .str (.pr (.sl (.pr .str .str)) (.sl (.pr .str .str)))))) .un))]) (y : BV []) : runL (slices_IndexFunc_api_Tool_E N) Tryd.f99 (slices_IndexFunc_api_Tool_sg fun x _ => slices_IndexFunc_api_Tool N x.1 x.2.1) slices_IndexFunc_api_Tool_pk (slices_IndexFunc_api_Tool_LP N) x y = slices_IndexFunc_api_Tool N x.1 x.2.1 := by kernel_rfl
theorem slices_IndexFunc_api_Tool_sound (N : Nat) : Sound Tryd.prog GW B0G 99 (slices_IndexFunc_api_Tool_sg fun x _ => slices_IndexFunc_api_Tool N x.1 x.2.1) :=
  runD_sound (mkE_ok slices_IndexFunc_api_Tool_h (slices_IndexFunc_api_Tool_fn N) _ _ (slices_IndexFunc_api_Tool_fn_ok N)) Tryd.func99 rfl Tryd.call99 (slices_IndexFunc_api_Tool_sg fun x _ => slices_IndexFunc_api_Tool N x.1 x.2.1) slices_IndexFunc_api_Tool_pk (fun _ _ => rfl) N (fun x y _ h => ((runL_eq (slices_IndexFunc_api_Tool_E N) N Tryd.f99 (slices_IndexFunc_api_Tool_sg fun x _ => slices_IndexFunc_api_Tool N x.1 x.2.1) slices_IndexFunc_api_Tool_pk (slices_IndexFunc_api_Tool_LP N) (show LoopsOk (slices_IndexFunc_api_Tool_LP N) (slices_IndexFunc_api_Tool_E N) N (resD (slices_IndexFunc_api_Tool_E N) Tryd.f99 (slices_IndexFunc_api_Tool_sg fun x _ => slices_IndexFunc_api_Tool N x.1 x.2.1) slices_IndexFunc_api_Tool_pk) [(0, (cAt (bodyOf Tryd.f99) [true, false, true, false, false]))] from ⟨slices_IndexFunc_api_Tool_lp0 N, trivial⟩) x y).trans (slices_IndexFunc_api_Tool_core N x y)).trans h)
def slices_ContainsFunc_api_Tool (N : Nat) (x0 : List (Str × Str × List (Str × Str) × List (Str × Str))) (x1 : (Str × Str × List (Str × Str) × List (Str × Str)) × Unit) : Option Bool :=
  bnd (slices_IndexFunc_api_Tool N x0 x1) fun t7 =>
  some (decide (t7 ≥ (0 : Int)))
abbrev slices_ContainsFunc_api_Tool_sg (f : SV [.v (.sl (.pr .str (.pr .str (.pr (.sl (.pr .str .str)) (.sl (.pr .str .str)))))), .v (.clo 71 (.pr (.ptr (.pr .str (.pr .str (.pr (.sl (.pr .str .str)) (.sl (.pr .str .str)))))) .un))] → BV [] → Option (Bool)) : AF := { ps := [.v (.sl (.pr .str (.pr .str (.pr (.sl (.pr .str .str)) (.sl (.pr .str .str)))))), .v (.clo 71 (.pr (.ptr (.pr .str (.pr .str (.pr (.sl (.pr .str .str)) (.sl (.pr .str .str)))))) .un))], bs := [], rs := [.v .bool], cs := [], R := Bool, out := fun z => ((z, ()), ()), f := f }
abbrev slices_ContainsFunc_api_Tool_pk : SV [.v .bool] → BV [] → Bool := fun x _ => x.1
def slices_ContainsFunc_api_Tool_fn (N : Nat) : FuncId → Option Tmp → Option AF := fun f _ =>
  match f with
    | 99 => some (slices_IndexFunc_api_Tool_sg fun x _ => slices_IndexFunc_api_Tool N x.1 x.2.1)
    | _ => none
theorem slices_ContainsFunc_api_Tool_fn_ok (N : Nat) : ∀ f q F, slices_ContainsFunc_api_Tool_fn N f q = some F → Sound Tryd.prog GW B0G f F := by
  intro f q F h
  unfold slices_ContainsFunc_api_Tool_fn at h
  split at h
  · cases h; exact slices_IndexFunc_api_Tool_sound N
  · cases h
def slices_ContainsFunc_api_Tool_h : Nat → Hint := fun i =>
  match i with
  | _ => ⟨[], [], [], [], []⟩
abbrev slices_ContainsFunc_api_Tool_E (N : Nat) : Env := mkE slices_ContainsFunc_api_Tool_h (slices_ContainsFunc_api_Tool_fn N) (fun _ => false) (fun _ => false)
noncomputable def slices_ContainsFunc_api_Tool_LP (N : Nat) : Nat → Code → St → (Ex → St → Option Bool) → Option Bool := fun i c =>
  match i with
  | i => fun st k => iter (slices_ContainsFunc_api_Tool_h i) (exec (slices_ContainsFunc_api_Tool_E N) N c i) N st k
theorem slices_ContainsFunc_api_Tool_core (N : Nat) (x : SV [.v (.sl (.pr .str (.pr .str (.pr (.sl (.pr .str .str)) (.sl (.pr .str .str)))))), .v (.clo 71 (.pr (.ptr (.pr .str (.pr .str (.pr (.sl (.pr .str .str)) (.sl (.pr .str .str)))))) .un))]) (y : BV []) : runL (slices_ContainsFunc_api_Tool_E N) Tryd.f70 (slices_ContainsFunc_api_Tool_sg fun x _ => slices_ContainsFunc_api_Tool N x.1 x.2.1) slices_ContainsFunc_api_Tool_pk (slices_ContainsFunc_api_Tool_LP N) x y = slices_ContainsFunc_api_Tool N x.1 x.2.1 := by kernel_rfl
theorem slices_ContainsFunc_api_Tool_sound (N : Nat) : Sound Tryd.prog GW B0G 70 (slices_ContainsFunc_api_Tool_sg fun x _ => slices_ContainsFunc_api_Tool N x.1 x.2.1) :=
  runD_sound (mkE_ok slices_ContainsFunc_api_Tool_h (slices_ContainsFunc_api_Tool_fn N) _ _ (slices_ContainsFunc_api_Tool_fn_ok N)) Tryd.func70 rfl Tryd.call70 (slices_ContainsFunc_api_Tool_sg fun x _ => slices_ContainsFunc_api_Tool N x.1 x.2.1) slices_ContainsFunc_api_Tool_pk (fun _ _ => rfl) N (fun x y _ h => ((runL_eq (slices_ContainsFunc_api_Tool_E N) N Tryd.f70 (slices_ContainsFunc_api_Tool_sg fun x _ => slices_ContainsFunc_api_Tool N x.1 x.2.1) slices_ContainsFunc_api_Tool_pk (slices_ContainsFunc_api_Tool_LP N) (show LoopsOk (slices_ContainsFunc_api_Tool_LP N) (slices_ContainsFunc_api_Tool_E N) N (resD (slices_ContainsFunc_api_Tool_E N) Tryd.f70 (slices_ContainsFunc_api_Tool_sg fun x _ => slices_ContainsFunc_api_Tool N x.1 x.2.1) slices_ContainsFunc_api_Tool_pk) [] from trivial) x y).trans (slices_ContainsFunc_api_Tool_core N x y)).trans h)
def config_CheckTools_L0T (N : Nat) (x0 : List (Str × Str × List (Str × Str) × List (Str × Str))) (c10 : List (Str × Str × List (Str × Str) × List (Str × Str))) (c11 : Int) (k0 : Option Int) (self : Int → Option Int) (s12 : Int) : Option Int :=
  br (decide (s12 < c11))
    (bnd (geti c10 s12) fun t15 =>
    bnd (config_IsWord N t15.1) fun t19 =>
    br (!t19)
      (some (5 : Int))
      (bnd (config_IsWord N t15.2.1) fun t24 =>
      br (!t24)
        (some (5 : Int))
        (bnd (config_CheckPairs N t15.2.2.1) fun t29 =>
        br (t29 != (0 : Int))
          (some t29)
          (bnd (config_CheckPairs N t15.2.2.2) fun t35 =>
          br (t35 != (0 : Int))
            (some t35)
            (bnd (slc x0 (0 : Int) s12) fun t41 =>
            bnd (slices_ContainsFunc_api_Tool N t41 (t15, ())) fun t43 =>
            br (t43)
              (some (7 : Int))
              (self (IntKind.i64.wrap (s12 + (1 : Int)))))))))
    (k0)
def config_CheckTools_L0 (N : Nat) (x0 : List (Str × Str × List (Str × Str) × List (Str × Str))) (c10 : List (Str × Str × List (Str × Str) × List (Str × Str))) (c11 : Int) (k0 : Option Int) : Nat → Int → Option Int
  | 0, _ => none
  | n + 1, s12 => config_CheckTools_L0T N x0 c10 c11 k0 (config_CheckTools_L0 N x0 c10 c11 k0 n) s12
def config_CheckTools (N : Nat) (x0 : List (Str × Str × List (Str × Str) × List (Str × Str))) : Option Int :=
  br (decide ((x0.length : Int) > (100 : Int)))
    (some (2 : Int))
    (config_CheckTools_L0 N x0 x0 (x0.length : Int) (some (0 : Int)) N (0 : Int))
abbrev config_CheckTools_sg (f : SV [.v (.sl (.pr .str (.pr .str (.pr (.sl (.pr .str .str)) (.sl (.pr .str .str))))))] → BV [] → Option (Int)) : AF := { ps := [.v (.sl (.pr .str (.pr .str (.pr (.sl (.pr .str .str)) (.sl (.pr .str .str))))))], bs := [], rs := [.v (.int .i64)], cs := [], R := Int, out := fun z => ((z, ()), ()), f := f }
abbrev config_CheckTools_pk : SV [.v (.int .i64)] → BV [] → Int := fun x _ => x.1
def config_CheckTools_fn (N : Nat) : FuncId → Option Tmp → Option AF := fun f _ =>
  match f with
    | 53 => some (config_IsWord_sg fun x _ => config_IsWord N x.1)
    | 59 => some (config_CheckPairs_sg fun x _ => config_CheckPairs N x.1)
    | 70 => some (slices_ContainsFunc_api_Tool_sg fun x _ => slices_ContainsFunc_api_Tool N x.1 x.2.1)
    | 71 => some (noneAF [.v (.ptr (.pr .str (.pr .str (.pr (.sl (.pr .str .str)) (.sl (.pr .str .str))))))])
    | _ => none
theorem config_CheckTools_fn_ok (N : Nat) : ∀ f q F, config_CheckTools_fn N f q = some F → Sound Tryd.prog GW B0G f F := by
  intro f q F h
  unfold config_CheckTools_fn at h
  split at h
  · cases h; exact config_IsWord_sound N
  · cases h; exact config_CheckPairs_sound N
  · cases h; exact slices_ContainsFunc_api_Tool_sound N
  · cases h; exact noneAF_sound Tryd.call71 _
  · cases h
def config_CheckTools_h : Nat → Hint := fun i =>
  match i with
  | 0 => ⟨[], [0, 10, 11, 12], [], [], []⟩
  | _ => ⟨[], [], [], [], []⟩
abbrev config_CheckTools_E (N : Nat) : Env := mkE config_CheckTools_h (config_CheckTools_fn N) (fun _ => false) (fun _ => false)
abbrev config_CheckTools_L0_fs : List (Nat × Sl) := [(0, .v (.sl (.pr .str (.pr .str (.pr (.sl (.pr .str .str)) (.sl (.pr .str .str))))))), (10, .v (.sl (.pr .str (.pr .str (.pr (.sl (.pr .str .str)) (.sl (.pr .str .str))))))), (11, .v (.int .i64)), (12, .v (.int .i64))]
abbrev config_CheckTools_L0_bs : List (Nat × Sb) := []
def config_CheckTools_L0_hd (x0 : List (Str × Str × List (Str × Str) × List (Str × Str))) (c10 : List (Str × Str × List (Str × Str) × List (Str × Str))) (c11 : Int) (s12 : Int) : St := ⟨45, [(0, .v (.sl (.pr .str (.pr .str (.pr (.sl (.pr .str .str)) (.sl (.pr .str .str)))))) x0), (10, .v (.sl (.pr .str (.pr .str (.pr (.sl (.pr .str .str)) (.sl (.pr .str .str)))))) c10), (11, .v (.int .i64) c11), (12, .v (.int .i64) s12)], []⟩
def config_CheckTools_L0_tl0 (_x0 : List (Str × Str × List (Str × Str) × List (Str × Str))) (_c10 : List (Str × Str × List (Str × Str) × List (Str × Str))) (_c11 : Int) : St := ⟨45, [], []⟩
def config_CheckTools_L0_G (N : Nat) (x0 : List (Str × Str × List (Str × Str) × List (Str × Str))) (c10 : List (Str × Str × List (Str × Str) × List (Str × Str))) (c11 : Int) (s12 : Int) (k : Ex → St → Option Int) : Option Int :=
  config_CheckTools_L0 N x0 c10 c11 (k (.exit 0) (config_CheckTools_L0_tl0 x0 c10 c11)) N s12
abbrev config_CheckTools_L0_F (N : Nat) : FV config_CheckTools_L0_fs → HV config_CheckTools_L0_bs → (Ex → St → Option Int) → Option Int := fun x _ k => config_CheckTools_L0_G N x.1 x.2.1 x.2.2.1 x.2.2.2.1 k
noncomputable def config_CheckTools_LP (N : Nat) : Nat → Code → St → (Ex → St → Option Int) → Option Int := fun i c =>
  match i with
  | 0 => (LPc 45 config_CheckTools_L0_fs config_CheckTools_L0_bs (config_CheckTools_L0_F N) (fun st k => iter (config_CheckTools_h 0) (exec (config_CheckTools_E N) N c 0) N st k))
  | i => fun st k => iter (config_CheckTools_h i) (exec (config_CheckTools_E N) N c i) N st k
theorem config_CheckTools_L0_step (N : Nat) (x0 : List (Str × Str × List (Str × Str) × List (Str × Str))) (c10 : List (Str × Str × List (Str × Str) × List (Str × Str))) (c11 : Int) (KX : Nat → St → Option Int) (I : St → Option Int) (s12 : Int) :
    execL (config_CheckTools_LP N) (config_CheckTools_E N) (cAt (bodyOf Tryd.f29) [true, true, false, true, false, false]) 0 (config_CheckTools_L0_hd x0 c10 c11 s12) (roundK (config_CheckTools_h 0) I KX (resD (config_CheckTools_E N) Tryd.f29 (config_CheckTools_sg fun x _ => config_CheckTools N x.1) config_CheckTools_pk)) = config_CheckTools_L0T N x0 c10 c11 (KX 0 (config_CheckTools_L0_tl0 x0 c10 c11)) (fun s12 => I (config_CheckTools_L0_hd x0 c10 c11 s12)) s12 := by kernel_rfl
theorem config_CheckTools_L0_ok (N : Nat) : ∀ x y k, (∀ st, k .ret st = (resD (config_CheckTools_E N) Tryd.f29 (config_CheckTools_sg fun x _ => config_CheckTools N x.1) config_CheckTools_pk) st) → iter (config_CheckTools_h 0) (exec (config_CheckTools_E N) N (cAt (bodyOf Tryd.f29) [true, true, false, true, false, false]) 0) N ⟨45, unF config_CheckTools_L0_fs x, unH config_CheckTools_L0_bs y⟩ k = config_CheckTools_L0_F N x y k := fun x _ k hk =>
  iter_link (S := (Int) × Unit) (config_CheckTools_h 0) _ (execL (config_CheckTools_LP N) (config_CheckTools_E N) (cAt (bodyOf Tryd.f29) [true, true, false, true, false, false]) 0) (resD (config_CheckTools_E N) Tryd.f29 (config_CheckTools_sg fun x _ => config_CheckTools N x.1) config_CheckTools_pk) (fun st k hk => execL_eq _ _ N _ (cAt (bodyOf Tryd.f29) [true, true, false, true, false, false]) 0 (show LoopsOk (config_CheckTools_LP N) (config_CheckTools_E N) N (resD (config_CheckTools_E N) Tryd.f29 (config_CheckTools_sg fun x _ => config_CheckTools N x.1) config_CheckTools_pk) [] from trivial) st k hk) (fun s => config_CheckTools_L0_hd x.1 x.2.1 x.2.2.1 s.1) k hk
    (fun self s => config_CheckTools_L0T N x.1 x.2.1 x.2.2.1 (k (.exit 0) (config_CheckTools_L0_tl0 x.1 x.2.1 x.2.2.1)) (fun s12 => self (s12, ())) s.1) (fun n s => config_CheckTools_L0 N x.1 x.2.1 x.2.2.1 (k (.exit 0) (config_CheckTools_L0_tl0 x.1 x.2.1 x.2.2.1)) n s.1) (fun _ => rfl) (fun _ _ => rfl)
    (fun I s => config_CheckTools_L0_step N x.1 x.2.1 x.2.2.1 (fun j => k (.exit j)) I s.1) N (x.2.2.2.1, ())
theorem config_CheckTools_lp0 (N : Nat) : ∀ st k, (∀ st, k .ret st = (resD (config_CheckTools_E N) Tryd.f29 (config_CheckTools_sg fun x _ => config_CheckTools N x.1) config_CheckTools_pk) st) → config_CheckTools_LP N 0 (cAt (bodyOf Tryd.f29) [true, true, false, true, false, false]) st k = iter (Env.hint (config_CheckTools_E N) 0) (exec (config_CheckTools_E N) N (cAt (bodyOf Tryd.f29) [true, true, false, true, false, false]) 0) N st k := fun st k hk => LPc_eq 45 config_CheckTools_L0_fs config_CheckTools_L0_bs _ _ (resD (config_CheckTools_E N) Tryd.f29 (config_CheckTools_sg fun x _ => config_CheckTools N x.1) config_CheckTools_pk) (config_CheckTools_L0_ok N) _ st k hk (rfl)
theorem config_CheckTools_core (N : Nat) (x : SV [.v (.sl (.pr .str (.pr .str (.pr (.sl (.pr .str .str)) (.sl (.pr .str .str))))))]) (y : BV []) : runL (config_CheckTools_E N) Tryd.f29 (config_CheckTools_sg fun x _ => config_CheckTools N x.1) config_CheckTools_pk (config_CheckTools_LP N) x y = config_CheckTools N x.1 := by kernel_rfl
theorem config_CheckTools_sound (N : Nat) : Sound Tryd.prog GW B0G 29 (config_CheckTools_sg fun x _ => config_CheckTools N x.1) :=
  runD_sound (mkE_ok config_CheckTools_h (config_CheckTools_fn N) _ _ (config_CheckTools_fn_ok N)) Tryd.func29 rfl Tryd.call29 (config_CheckTools_sg fun x _ => config_CheckTools N x.1) config_CheckTools_pk (fun _ _ => rfl) N (fun x y _ h => ((runL_eq (config_CheckTools_E N) N Tryd.f29 (config_CheckTools_sg fun x _ => config_CheckTools N x.1) config_CheckTools_pk (config_CheckTools_LP N) (show LoopsOk (config_CheckTools_LP N) (config_CheckTools_E N) N (resD (config_CheckTools_E N) Tryd.f29 (config_CheckTools_sg fun x _ => config_CheckTools N x.1) config_CheckTools_pk) [(0, (cAt (bodyOf Tryd.f29) [true, true, false, true, false, false]))] from ⟨config_CheckTools_lp0 N, trivial⟩) x y).trans (config_CheckTools_core N x y)).trans h)
end
end Go.Proofs.YtbekhaioddmliaaDoor
