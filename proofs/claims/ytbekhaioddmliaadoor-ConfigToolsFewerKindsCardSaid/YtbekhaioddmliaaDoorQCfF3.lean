/- What functions of the program compute, as plain functions (printed). -/
import Derived.Test.YtbekhaioddmliaaDoorQCfF2
namespace Go.Proofs.YtbekhaioddmliaaDoor
open Go Go.RowKit
set_option maxRecDepth 100000
set_option linter.unusedVariables false
noncomputable section
def slices_IndexFunc_api_Platform_L0T (N : Nat) (x0 : List (Str × List (Str × Str))) (x1 : (Str × List (Str × Str)) × Unit) (c7 : Int) (k0 : Option Int) (self : Int → Option Int) (s8 : Int) : Option Int :=
  br (decide (s8 < c7))
    (bnd (geti x0 s8) fun t14 =>
    bnd (config_CheckPlatforms_1 N t14 x1.1) fun t16 =>
    br (t16)
      (some s8)
      (self (IntKind.i64.wrap (s8 + (1 : Int)))))
    (k0)
def slices_IndexFunc_api_Platform_L0 (N : Nat) (x0 : List (Str × List (Str × Str))) (x1 : (Str × List (Str × Str)) × Unit) (c7 : Int) (k0 : Option Int) : Nat → Int → Option Int
  | 0, _ => none
  | n + 1, s8 => slices_IndexFunc_api_Platform_L0T N x0 x1 c7 k0 (slices_IndexFunc_api_Platform_L0 N x0 x1 c7 k0 n) s8
def slices_IndexFunc_api_Platform (N : Nat) (x0 : List (Str × List (Str × Str))) (x1 : (Str × List (Str × Str)) × Unit) : Option Int :=
  slices_IndexFunc_api_Platform_L0 N x0 x1 (x0.length : Int) (some (-1 : Int)) N (0 : Int)
abbrev slices_IndexFunc_api_Platform_sg (f : SV [.v (.sl (.pr .str (.sl (.pr .str .str)))), .v (.clo 61 (.pr (.ptr (.pr .str (.sl (.pr .str .str)))) .un))] → BV [] → Option (Int)) : AF := { ps := [.v (.sl (.pr .str (.sl (.pr .str .str)))), .v (.clo 61 (.pr (.ptr (.pr .str (.sl (.pr .str .str)))) .un))], bs := [], rs := [.v (.int .i64)], cs := [], R := Int, out := fun z => ((z, ()), ()), f := f }
abbrev slices_IndexFunc_api_Platform_pk : SV [.v (.int .i64)] → BV [] → Int := fun x _ => x.1
def slices_IndexFunc_api_Platform_fn (N : Nat) : FuncId → Option Tmp → Option AF := fun f _ =>
  match f with
    | 61 => some (config_CheckPlatforms_1_sg fun x _ => config_CheckPlatforms_1 N x.1 x.2.1)
    | _ => none
theorem slices_IndexFunc_api_Platform_fn_ok (N : Nat) : ∀ f q F, slices_IndexFunc_api_Platform_fn N f q = some F → Sound Tryd.prog GW B0G f F := by
  intro f q F h
  unfold slices_IndexFunc_api_Platform_fn at h
  split at h
  · cases h; exact config_CheckPlatforms_1_sound N
  · cases h
def slices_IndexFunc_api_Platform_h : Nat → Hint := fun i =>
  match i with
  | 0 => ⟨[], [0, 1, 7, 8], [], [], []⟩
  | _ => ⟨[], [], [], [], []⟩
abbrev slices_IndexFunc_api_Platform_E (N : Nat) : Env := mkE slices_IndexFunc_api_Platform_h (slices_IndexFunc_api_Platform_fn N) (fun _ => false) (fun _ => false)
abbrev slices_IndexFunc_api_Platform_L0_fs : List (Nat × Sl) := [(0, .v (.sl (.pr .str (.sl (.pr .str .str))))), (1, .v (.clo 61 (.pr (.ptr (.pr .str (.sl (.pr .str .str)))) .un))), (7, .v (.int .i64)), (8, .v (.int .i64))]
abbrev slices_IndexFunc_api_Platform_L0_bs : List (Nat × Sb) := []
def slices_IndexFunc_api_Platform_L0_hd (x0 : List (Str × List (Str × Str))) (x1 : (Str × List (Str × Str)) × Unit) (c7 : Int) (s8 : Int) : St := ⟨19, [(0, .v (.sl (.pr .str (.sl (.pr .str .str)))) x0), (1, .v (.clo 61 (.pr (.ptr (.pr .str (.sl (.pr .str .str)))) .un)) x1), (7, .v (.int .i64) c7), (8, .v (.int .i64) s8)], []⟩
def slices_IndexFunc_api_Platform_L0_tl0 (_x0 : List (Str × List (Str × Str))) (_x1 : (Str × List (Str × Str)) × Unit) (_c7 : Int) : St := ⟨19, [], []⟩
def slices_IndexFunc_api_Platform_L0_G (N : Nat) (x0 : List (Str × List (Str × Str))) (x1 : (Str × List (Str × Str)) × Unit) (c7 : Int) (s8 : Int) (k : Ex → St → Option Int) : Option Int :=
  slices_IndexFunc_api_Platform_L0 N x0 x1 c7 (k (.exit 0) (slices_IndexFunc_api_Platform_L0_tl0 x0 x1 c7)) N s8
abbrev slices_IndexFunc_api_Platform_L0_F (N : Nat) : FV slices_IndexFunc_api_Platform_L0_fs → HV slices_IndexFunc_api_Platform_L0_bs → (Ex → St → Option Int) → Option Int := fun x _ k => slices_IndexFunc_api_Platform_L0_G N x.1 x.2.1 x.2.2.1 x.2.2.2.1 k
noncomputable def slices_IndexFunc_api_Platform_LP (N : Nat) : Nat → Code → St → (Ex → St → Option Int) → Option Int := fun i c =>
  match i with
  | 0 => (LPc 19 slices_IndexFunc_api_Platform_L0_fs slices_IndexFunc_api_Platform_L0_bs (slices_IndexFunc_api_Platform_L0_F N) (fun st k => iter (slices_IndexFunc_api_Platform_h 0) (exec (slices_IndexFunc_api_Platform_E N) N c 0) N st k))
  | i => fun st k => iter (slices_IndexFunc_api_Platform_h i) (exec (slices_IndexFunc_api_Platform_E N) N c i) N st k
theorem slices_IndexFunc_api_Platform_L0_step (N : Nat) (x0 : List (Str × List (Str × Str))) (x1 : (Str × List (Str × Str)) × Unit) (c7 : Int) (KX : Nat → St → Option Int) (I : St → Option Int) (s8 : Int) :
    execL (slices_IndexFunc_api_Platform_LP N) (slices_IndexFunc_api_Platform_E N) (cAt (bodyOf Tryd.f97) [true, false, true, false, false]) 0 (slices_IndexFunc_api_Platform_L0_hd x0 x1 c7 s8) (roundK (slices_IndexFunc_api_Platform_h 0) I KX (resD (slices_IndexFunc_api_Platform_E N) Tryd.f97 (slices_IndexFunc_api_Platform_sg fun x _ => slices_IndexFunc_api_Platform N x.1 x.2.1) slices_IndexFunc_api_Platform_pk)) = slices_IndexFunc_api_Platform_L0T N x0 x1 c7 (KX 0 (slices_IndexFunc_api_Platform_L0_tl0 x0 x1 c7)) (fun s8 => I (slices_IndexFunc_api_Platform_L0_hd x0 x1 c7 s8)) s8 := by kernel_rfl
theorem slices_IndexFunc_api_Platform_L0_ok (N : Nat) : ∀ x y k, (∀ st, k .ret st = (resD (slices_IndexFunc_api_Platform_E N) Tryd.f97 (slices_IndexFunc_api_Platform_sg fun x _ => slices_IndexFunc_api_Platform N x.1 x.2.1) slices_IndexFunc_api_Platform_pk) st) → iter (slices_IndexFunc_api_Platform_h 0) (exec (slices_IndexFunc_api_Platform_E N) N (cAt (bodyOf Tryd.f97) [true, false, true, false, false]) 0) N ⟨19, unF slices_IndexFunc_api_Platform_L0_fs x, unH slices_IndexFunc_api_Platform_L0_bs y⟩ k = slices_IndexFunc_api_Platform_L0_F N x y k := fun x _ k hk =>
  iter_link (S := (Int) × Unit) (slices_IndexFunc_api_Platform_h 0) _ (execL (slices_IndexFunc_api_Platform_LP N) (slices_IndexFunc_api_Platform_E N) (cAt (bodyOf Tryd.f97) [true, false, true, false, false]) 0) (resD (slices_IndexFunc_api_Platform_E N) Tryd.f97 (slices_IndexFunc_api_Platform_sg fun x _ => slices_IndexFunc_api_Platform N x.1 x.2.1) slices_IndexFunc_api_Platform_pk) (fun st k hk => execL_eq _ _ N _ (cAt (bodyOf Tryd.f97) [true, false, true, false, false]) 0 (show LoopsOk (slices_IndexFunc_api_Platform_LP N) (slices_IndexFunc_api_Platform_E N) N (resD (slices_IndexFunc_api_Platform_E N) Tryd.f97 (slices_IndexFunc_api_Platform_sg fun x _ => slices_IndexFunc_api_Platform N x.1 x.2.1) slices_IndexFunc_api_Platform_pk) [] from trivial) st k hk) (fun s => slices_IndexFunc_api_Platform_L0_hd x.1 x.2.1 x.2.2.1 s.1) k hk
    (fun self s => slices_IndexFunc_api_Platform_L0T N x.1 x.2.1 x.2.2.1 (k (.exit 0) (slices_IndexFunc_api_Platform_L0_tl0 x.1 x.2.1 x.2.2.1)) (fun s8 => self (s8, ())) s.1) (fun n s => slices_IndexFunc_api_Platform_L0 N x.1 x.2.1 x.2.2.1 (k (.exit 0) (slices_IndexFunc_api_Platform_L0_tl0 x.1 x.2.1 x.2.2.1)) n s.1) (fun _ => rfl) (fun _ _ => rfl)
    (fun I s => slices_IndexFunc_api_Platform_L0_step N x.1 x.2.1 x.2.2.1 (fun j => k (.exit j)) I s.1) N (x.2.2.2.1, ())
theorem slices_IndexFunc_api_Platform_lp0 (N : Nat) : ∀ st k, (∀ st, k .ret st = (resD (slices_IndexFunc_api_Platform_E N) Tryd.f97 (slices_IndexFunc_api_Platform_sg fun x _ => slices_IndexFunc_api_Platform N x.1 x.2.1) slices_IndexFunc_api_Platform_pk) st) → slices_IndexFunc_api_Platform_LP N 0 (cAt (bodyOf Tryd.f97) [true, false, true, false, false]) st k = iter (Env.hint (slices_IndexFunc_api_Platform_E N) 0) (exec (slices_IndexFunc_api_Platform_E N) N (cAt (bodyOf Tryd.f97) [true, false, true, false, false]) 0) N st k := fun st k hk => LPc_eq 19 slices_IndexFunc_api_Platform_L0_fs slices_IndexFunc_api_Platform_L0_bs _ _ (resD (slices_IndexFunc_api_Platform_E N) Tryd.f97 (slices_IndexFunc_api_Platform_sg fun x _ => slices_IndexFunc_api_Platform N x.1 x.2.1) slices_IndexFunc_api_Platform_pk) (slices_IndexFunc_api_Platform_L0_ok N) _ st k hk (rfl)
theorem slices_IndexFunc_api_Platform_core (N : Nat) (x : SV [.v (.sl (.pr .str (.sl (.pr .str .str)))), .v (.clo 61 (.pr (.ptr (.pr .str (.sl (.pr .str .str)))) .un))]) (y : BV []) : runL (slices_IndexFunc_api_Platform_E N) Tryd.f97 (slices_IndexFunc_api_Platform_sg fun x _ => slices_IndexFunc_api_Platform N x.1 x.2.1) slices_IndexFunc_api_Platform_pk (slices_IndexFunc_api_Platform_LP N) x y = slices_IndexFunc_api_Platform N x.1 x.2.1 := by kernel_rfl
theorem slices_IndexFunc_api_Platform_sound (N : Nat) : Sound Tryd.prog GW B0G 97 (slices_IndexFunc_api_Platform_sg fun x _ => slices_IndexFunc_api_Platform N x.1 x.2.1) :=
  runD_sound (mkE_ok slices_IndexFunc_api_Platform_h (slices_IndexFunc_api_Platform_fn N) _ _ (slices_IndexFunc_api_Platform_fn_ok N)) Tryd.func97 rfl Tryd.call97 (slices_IndexFunc_api_Platform_sg fun x _ => slices_IndexFunc_api_Platform N x.1 x.2.1) slices_IndexFunc_api_Platform_pk (fun _ _ => rfl) N (fun x y _ h => ((runL_eq (slices_IndexFunc_api_Platform_E N) N Tryd.f97 (slices_IndexFunc_api_Platform_sg fun x _ => slices_IndexFunc_api_Platform N x.1 x.2.1) slices_IndexFunc_api_Platform_pk (slices_IndexFunc_api_Platform_LP N) (show LoopsOk (slices_IndexFunc_api_Platform_LP N) (slices_IndexFunc_api_Platform_E N) N (resD (slices_IndexFunc_api_Platform_E N) Tryd.f97 (slices_IndexFunc_api_Platform_sg fun x _ => slices_IndexFunc_api_Platform N x.1 x.2.1) slices_IndexFunc_api_Platform_pk) [(0, (cAt (bodyOf Tryd.f97) [true, false, true, false, false]))] from ⟨slices_IndexFunc_api_Platform_lp0 N, trivial⟩) x y).trans (slices_IndexFunc_api_Platform_core N x y)).trans h)
def slices_ContainsFunc_api_Platform (N : Nat) (x0 : List (Str × List (Str × Str))) (x1 : (Str × List (Str × Str)) × Unit) : Option Bool :=
  bnd (slices_IndexFunc_api_Platform N x0 x1) fun t7 =>
  some (decide (t7 ≥ (0 : Int)))
abbrev slices_ContainsFunc_api_Platform_sg (f : SV [.v (.sl (.pr .str (.sl (.pr .str .str)))), .v (.clo 61 (.pr (.ptr (.pr .str (.sl (.pr .str .str)))) .un))] → BV [] → Option (Bool)) : AF := { ps := [.v (.sl (.pr .str (.sl (.pr .str .str)))), .v (.clo 61 (.pr (.ptr (.pr .str (.sl (.pr .str .str)))) .un))], bs := [], rs := [.v .bool], cs := [], R := Bool, out := fun z => ((z, ()), ()), f := f }
abbrev slices_ContainsFunc_api_Platform_pk : SV [.v .bool] → BV [] → Bool := fun x _ => x.1
def slices_ContainsFunc_api_Platform_fn (N : Nat) : FuncId → Option Tmp → Option AF := fun f _ =>
  match f with
    | 97 => some (slices_IndexFunc_api_Platform_sg fun x _ => slices_IndexFunc_api_Platform N x.1 x.2.1)
    | _ => none
theorem slices_ContainsFunc_api_Platform_fn_ok (N : Nat) : ∀ f q F, slices_ContainsFunc_api_Platform_fn N f q = some F → Sound Tryd.prog GW B0G f F := by
  intro f q F h
  unfold slices_ContainsFunc_api_Platform_fn at h
  split at h
  · cases h; exact slices_IndexFunc_api_Platform_sound N
  · cases h
def slices_ContainsFunc_api_Platform_h : Nat → Hint := fun i =>
  match i with
  | _ => ⟨[], [], [], [], []⟩
abbrev slices_ContainsFunc_api_Platform_E (N : Nat) : Env := mkE slices_ContainsFunc_api_Platform_h (slices_ContainsFunc_api_Platform_fn N) (fun _ => false) (fun _ => false)
noncomputable def slices_ContainsFunc_api_Platform_LP (N : Nat) : Nat → Code → St → (Ex → St → Option Bool) → Option Bool := fun i c =>
  match i with
  | i => fun st k => iter (slices_ContainsFunc_api_Platform_h i) (exec (slices_ContainsFunc_api_Platform_E N) N c i) N st k
theorem slices_ContainsFunc_api_Platform_core (N : Nat) (x : SV [.v (.sl (.pr .str (.sl (.pr .str .str)))), .v (.clo 61 (.pr (.ptr (.pr .str (.sl (.pr .str .str)))) .un))]) (y : BV []) : runL (slices_ContainsFunc_api_Platform_E N) Tryd.f60 (slices_ContainsFunc_api_Platform_sg fun x _ => slices_ContainsFunc_api_Platform N x.1 x.2.1) slices_ContainsFunc_api_Platform_pk (slices_ContainsFunc_api_Platform_LP N) x y = slices_ContainsFunc_api_Platform N x.1 x.2.1 := by kernel_rfl
theorem slices_ContainsFunc_api_Platform_sound (N : Nat) : Sound Tryd.prog GW B0G 60 (slices_ContainsFunc_api_Platform_sg fun x _ => slices_ContainsFunc_api_Platform N x.1 x.2.1) :=
  runD_sound (mkE_ok slices_ContainsFunc_api_Platform_h (slices_ContainsFunc_api_Platform_fn N) _ _ (slices_ContainsFunc_api_Platform_fn_ok N)) Tryd.func60 rfl Tryd.call60 (slices_ContainsFunc_api_Platform_sg fun x _ => slices_ContainsFunc_api_Platform N x.1 x.2.1) slices_ContainsFunc_api_Platform_pk (fun _ _ => rfl) N (fun x y _ h => ((runL_eq (slices_ContainsFunc_api_Platform_E N) N Tryd.f60 (slices_ContainsFunc_api_Platform_sg fun x _ => slices_ContainsFunc_api_Platform N x.1 x.2.1) slices_ContainsFunc_api_Platform_pk (slices_ContainsFunc_api_Platform_LP N) (show LoopsOk (slices_ContainsFunc_api_Platform_LP N) (slices_ContainsFunc_api_Platform_E N) N (resD (slices_ContainsFunc_api_Platform_E N) Tryd.f60 (slices_ContainsFunc_api_Platform_sg fun x _ => slices_ContainsFunc_api_Platform N x.1 x.2.1) slices_ContainsFunc_api_Platform_pk) [] from trivial) x y).trans (slices_ContainsFunc_api_Platform_core N x y)).trans h)
def config_CheckPlatforms_L0T (N : Nat) (x0 : List (Str × List (Str × Str))) (c9 : List (Str × List (Str × Str))) (c10 : Int) (k0 : Option Int) (self : Int → Option Int) (s11 : Int) : Option Int :=
  br (decide (s11 < c10))
    (bnd (geti c9 s11) fun t14 =>
    bnd (config_IsWord N t14.1) fun t18 =>
    br (!t18)
      (some (5 : Int))
      (bnd (config_CheckPairs N t14.2) fun t22 =>
      br (t22 != (0 : Int))
        (some t22)
        (bnd (slc x0 (0 : Int) s11) fun t28 =>
        bnd (slices_ContainsFunc_api_Platform N t28 (t14, ())) fun t30 =>
        br (t30)
          (some (7 : Int))
          (self (IntKind.i64.wrap (s11 + (1 : Int)))))))
    (k0)
def config_CheckPlatforms_L0 (N : Nat) (x0 : List (Str × List (Str × Str))) (c9 : List (Str × List (Str × Str))) (c10 : Int) (k0 : Option Int) : Nat → Int → Option Int
  | 0, _ => none
  | n + 1, s11 => config_CheckPlatforms_L0T N x0 c9 c10 k0 (config_CheckPlatforms_L0 N x0 c9 c10 k0 n) s11
def config_CheckPlatforms (N : Nat) (x0 : List (Str × List (Str × Str))) : Option Int :=
  br (decide ((x0.length : Int) > (50 : Int)))
    (some (2 : Int))
    (config_CheckPlatforms_L0 N x0 x0 (x0.length : Int) (some (0 : Int)) N (0 : Int))
abbrev config_CheckPlatforms_sg (f : SV [.v (.sl (.pr .str (.sl (.pr .str .str))))] → BV [] → Option (Int)) : AF := { ps := [.v (.sl (.pr .str (.sl (.pr .str .str))))], bs := [], rs := [.v (.int .i64)], cs := [], R := Int, out := fun z => ((z, ()), ()), f := f }
abbrev config_CheckPlatforms_pk : SV [.v (.int .i64)] → BV [] → Int := fun x _ => x.1
def config_CheckPlatforms_fn (N : Nat) : FuncId → Option Tmp → Option AF := fun f _ =>
  match f with
    | 53 => some (config_IsWord_sg fun x _ => config_IsWord N x.1)
    | 59 => some (config_CheckPairs_sg fun x _ => config_CheckPairs N x.1)
    | 60 => some (slices_ContainsFunc_api_Platform_sg fun x _ => slices_ContainsFunc_api_Platform N x.1 x.2.1)
    | 61 => some (noneAF [.v (.ptr (.pr .str (.sl (.pr .str .str))))])
    | _ => none
theorem config_CheckPlatforms_fn_ok (N : Nat) : ∀ f q F, config_CheckPlatforms_fn N f q = some F → Sound Tryd.prog GW B0G f F := by
  intro f q F h
  unfold config_CheckPlatforms_fn at h
  split at h
  · cases h; exact config_IsWord_sound N
  · cases h; exact config_CheckPairs_sound N
  · cases h; exact slices_ContainsFunc_api_Platform_sound N
  · cases h; exact noneAF_sound Tryd.call61 _
  · cases h
def config_CheckPlatforms_h : Nat → Hint := fun i =>
  match i with
  | 0 => ⟨[], [0, 9, 10, 11], [], [], []⟩
  | _ => ⟨[], [], [], [], []⟩
abbrev config_CheckPlatforms_E (N : Nat) : Env := mkE config_CheckPlatforms_h (config_CheckPlatforms_fn N) (fun _ => false) (fun _ => false)
abbrev config_CheckPlatforms_L0_fs : List (Nat × Sl) := [(0, .v (.sl (.pr .str (.sl (.pr .str .str))))), (9, .v (.sl (.pr .str (.sl (.pr .str .str))))), (10, .v (.int .i64)), (11, .v (.int .i64))]
abbrev config_CheckPlatforms_L0_bs : List (Nat × Sb) := []
def config_CheckPlatforms_L0_hd (x0 : List (Str × List (Str × Str))) (c9 : List (Str × List (Str × Str))) (c10 : Int) (s11 : Int) : St := ⟨32, [(0, .v (.sl (.pr .str (.sl (.pr .str .str)))) x0), (9, .v (.sl (.pr .str (.sl (.pr .str .str)))) c9), (10, .v (.int .i64) c10), (11, .v (.int .i64) s11)], []⟩
def config_CheckPlatforms_L0_tl0 (_x0 : List (Str × List (Str × Str))) (_c9 : List (Str × List (Str × Str))) (_c10 : Int) : St := ⟨32, [], []⟩
def config_CheckPlatforms_L0_G (N : Nat) (x0 : List (Str × List (Str × Str))) (c9 : List (Str × List (Str × Str))) (c10 : Int) (s11 : Int) (k : Ex → St → Option Int) : Option Int :=
  config_CheckPlatforms_L0 N x0 c9 c10 (k (.exit 0) (config_CheckPlatforms_L0_tl0 x0 c9 c10)) N s11
abbrev config_CheckPlatforms_L0_F (N : Nat) : FV config_CheckPlatforms_L0_fs → HV config_CheckPlatforms_L0_bs → (Ex → St → Option Int) → Option Int := fun x _ k => config_CheckPlatforms_L0_G N x.1 x.2.1 x.2.2.1 x.2.2.2.1 k
noncomputable def config_CheckPlatforms_LP (N : Nat) : Nat → Code → St → (Ex → St → Option Int) → Option Int := fun i c =>
  match i with
  | 0 => (LPc 32 config_CheckPlatforms_L0_fs config_CheckPlatforms_L0_bs (config_CheckPlatforms_L0_F N) (fun st k => iter (config_CheckPlatforms_h 0) (exec (config_CheckPlatforms_E N) N c 0) N st k))
  | i => fun st k => iter (config_CheckPlatforms_h i) (exec (config_CheckPlatforms_E N) N c i) N st k
theorem config_CheckPlatforms_L0_step (N : Nat) (x0 : List (Str × List (Str × Str))) (c9 : List (Str × List (Str × Str))) (c10 : Int) (KX : Nat → St → Option Int) (I : St → Option Int) (s11 : Int) :
    execL (config_CheckPlatforms_LP N) (config_CheckPlatforms_E N) (cAt (bodyOf Tryd.f23) [true, true, false, true, false, false]) 0 (config_CheckPlatforms_L0_hd x0 c9 c10 s11) (roundK (config_CheckPlatforms_h 0) I KX (resD (config_CheckPlatforms_E N) Tryd.f23 (config_CheckPlatforms_sg fun x _ => config_CheckPlatforms N x.1) config_CheckPlatforms_pk)) = config_CheckPlatforms_L0T N x0 c9 c10 (KX 0 (config_CheckPlatforms_L0_tl0 x0 c9 c10)) (fun s11 => I (config_CheckPlatforms_L0_hd x0 c9 c10 s11)) s11 := by kernel_rfl
theorem config_CheckPlatforms_L0_ok (N : Nat) : ∀ x y k, (∀ st, k .ret st = (resD (config_CheckPlatforms_E N) Tryd.f23 (config_CheckPlatforms_sg fun x _ => config_CheckPlatforms N x.1) config_CheckPlatforms_pk) st) → iter (config_CheckPlatforms_h 0) (exec (config_CheckPlatforms_E N) N (cAt (bodyOf Tryd.f23) [true, true, false, true, false, false]) 0) N ⟨32, unF config_CheckPlatforms_L0_fs x, unH config_CheckPlatforms_L0_bs y⟩ k = config_CheckPlatforms_L0_F N x y k := fun x _ k hk =>
  iter_link (S := (Int) × Unit) (config_CheckPlatforms_h 0) _ (execL (config_CheckPlatforms_LP N) (config_CheckPlatforms_E N) (cAt (bodyOf Tryd.f23) [true, true, false, true, false, false]) 0) (resD (config_CheckPlatforms_E N) Tryd.f23 (config_CheckPlatforms_sg fun x _ => config_CheckPlatforms N x.1) config_CheckPlatforms_pk) (fun st k hk => execL_eq _ _ N _ (cAt (bodyOf Tryd.f23) [true, true, false, true, false, false]) 0 (show LoopsOk (config_CheckPlatforms_LP N) (config_CheckPlatforms_E N) N (resD (config_CheckPlatforms_E N) Tryd.f23 (config_CheckPlatforms_sg fun x _ => config_CheckPlatforms N x.1) config_CheckPlatforms_pk) [] from trivial) st k hk) (fun s => config_CheckPlatforms_L0_hd x.1 x.2.1 x.2.2.1 s.1) k hk
    (fun self s => config_CheckPlatforms_L0T N x.1 x.2.1 x.2.2.1 (k (.exit 0) (config_CheckPlatforms_L0_tl0 x.1 x.2.1 x.2.2.1)) (fun s11 => self (s11, ())) s.1) (fun n s => config_CheckPlatforms_L0 N x.1 x.2.1 x.2.2.1 (k (.exit 0) (config_CheckPlatforms_L0_tl0 x.1 x.2.1 x.2.2.1)) n s.1) (fun _ => rfl) (fun _ _ => rfl)
    (fun I s => config_CheckPlatforms_L0_step N x.1 x.2.1 x.2.2.1 (fun j => k (.exit j)) I s.1) N (x.2.2.2.1, ())
theorem config_CheckPlatforms_lp0 (N : Nat) : ∀ st k, (∀ st, k .ret st = (resD (config_CheckPlatforms_E N) Tryd.f23 (config_CheckPlatforms_sg fun x _ => config_CheckPlatforms N x.1) config_CheckPlatforms_pk) st) → config_CheckPlatforms_LP N 0 (cAt (bodyOf Tryd.f23) [true, true, false, true, false, false]) st k = iter (Env.hint (config_CheckPlatforms_E N) 0) (exec (config_CheckPlatforms_E N) N (cAt (bodyOf Tryd.f23) [true, true, false, true, false, false]) 0) N st k := fun st k hk => LPc_eq 32 config_CheckPlatforms_L0_fs config_CheckPlatforms_L0_bs _ _ (resD (config_CheckPlatforms_E N) Tryd.f23 (config_CheckPlatforms_sg fun x _ => config_CheckPlatforms N x.1) config_CheckPlatforms_pk) (config_CheckPlatforms_L0_ok N) _ st k hk (rfl)
theorem config_CheckPlatforms_core (N : Nat) (x : SV [.v (.sl (.pr .str (.sl (.pr .str .str))))]) (y : BV []) : runL (config_CheckPlatforms_E N) Tryd.f23 (config_CheckPlatforms_sg fun x _ => config_CheckPlatforms N x.1) config_CheckPlatforms_pk (config_CheckPlatforms_LP N) x y = config_CheckPlatforms N x.1 := by kernel_rfl
theorem config_CheckPlatforms_sound (N : Nat) : Sound Tryd.prog GW B0G 23 (config_CheckPlatforms_sg fun x _ => config_CheckPlatforms N x.1) :=
  runD_sound (mkE_ok config_CheckPlatforms_h (config_CheckPlatforms_fn N) _ _ (config_CheckPlatforms_fn_ok N)) Tryd.func23 rfl Tryd.call23 (config_CheckPlatforms_sg fun x _ => config_CheckPlatforms N x.1) config_CheckPlatforms_pk (fun _ _ => rfl) N (fun x y _ h => ((runL_eq (config_CheckPlatforms_E N) N Tryd.f23 (config_CheckPlatforms_sg fun x _ => config_CheckPlatforms N x.1) config_CheckPlatforms_pk (config_CheckPlatforms_LP N) (show LoopsOk (config_CheckPlatforms_LP N) (config_CheckPlatforms_E N) N (resD (config_CheckPlatforms_E N) Tryd.f23 (config_CheckPlatforms_sg fun x _ => config_CheckPlatforms N x.1) config_CheckPlatforms_pk) [(0, (cAt (bodyOf Tryd.f23) [true, true, false, true, false, false]))] from ⟨config_CheckPlatforms_lp0 N, trivial⟩) x y).trans (config_CheckPlatforms_core N x y)).trans h)
def slices_Index_api_Pair_L0T (_N : Nat) (x0 : List (Str × Str)) (c7 : Int) (c1003_0 : Str) (c1003_1 : Str) (k0 : Option Int) (self : Int → Option Int) (s8 : Int) : Option Int :=
  br (decide (s8 < c7))
    (bnd (geti x0 s8) fun t14 =>
    br (eqb (.pr .str .str) (c1003_0, c1003_1) t14)
      (some s8)
      (self (IntKind.i64.wrap (s8 + (1 : Int)))))
    (k0)
def slices_Index_api_Pair_L0 (N : Nat) (x0 : List (Str × Str)) (c7 : Int) (c1003_0 : Str) (c1003_1 : Str) (k0 : Option Int) : Nat → Int → Option Int
  | 0, _ => none
  | n + 1, s8 => slices_Index_api_Pair_L0T N x0 c7 c1003_0 c1003_1 k0 (slices_Index_api_Pair_L0 N x0 c7 c1003_0 c1003_1 k0 n) s8
def slices_Index_api_Pair (N : Nat) (x0 : List (Str × Str)) (x1 : Str × Str) : Option Int :=
  slices_Index_api_Pair_L0 N x0 (x0.length : Int) x1.1 x1.2 (some (-1 : Int)) N (0 : Int)
abbrev slices_Index_api_Pair_sg (f : SV [.v (.sl (.pr .str .str)), .v (.pr .str .str)] → BV [] → Option (Int)) : AF := { ps := [.v (.sl (.pr .str .str)), .v (.pr .str .str)], bs := [], rs := [.v (.int .i64)], cs := [], R := Int, out := fun z => ((z, ()), ()), f := f }
abbrev slices_Index_api_Pair_pk : SV [.v (.int .i64)] → BV [] → Int := fun x _ => x.1
def slices_Index_api_Pair_fn (_N : Nat) : FuncId → Option Tmp → Option AF := fun f _ =>
  match f with
    | _ => none
theorem slices_Index_api_Pair_fn_ok (N : Nat) : ∀ f q F, slices_Index_api_Pair_fn N f q = some F → Sound Tryd.prog GW B0G f F := by
  intro f q F h
  unfold slices_Index_api_Pair_fn at h
  split at h
  · cases h
def slices_Index_api_Pair_h : Nat → Hint := fun i =>
  match i with
  | 0 => ⟨[], [0, 3, 7, 8], [1003], [], []⟩
  | _ => ⟨[], [], [], [], []⟩
abbrev slices_Index_api_Pair_E (N : Nat) : Env := mkE slices_Index_api_Pair_h (slices_Index_api_Pair_fn N) (fun _ => false) (fun _ => false)
abbrev slices_Index_api_Pair_L0_fs : List (Nat × Sl) := [(0, .v (.sl (.pr .str .str))), (3, .box 1003 0), (7, .v (.int .i64)), (8, .v (.int .i64))]
abbrev slices_Index_api_Pair_L0_bs : List (Nat × Sb) := [(1003, .cells [.v .str, .v .str])]
def slices_Index_api_Pair_L0_hd (x0 : List (Str × Str)) (c7 : Int) (c1003_0 : Str) (c1003_1 : Str) (s8 : Int) : St := ⟨19, [(0, .v (.sl (.pr .str .str)) x0), (3, .box 1003 0), (7, .v (.int .i64) c7), (8, .v (.int .i64) s8)], [(1003, .cells [.v .str c1003_0, .v .str c1003_1])]⟩
def slices_Index_api_Pair_L0_tl0 (_x0 : List (Str × Str)) (_c7 : Int) (_c1003_0 : Str) (_c1003_1 : Str) : St := ⟨19, [], []⟩
def slices_Index_api_Pair_L0_G (N : Nat) (x0 : List (Str × Str)) (c7 : Int) (c1003_0 : Str) (c1003_1 : Str) (s8 : Int) (k : Ex → St → Option Int) : Option Int :=
  slices_Index_api_Pair_L0 N x0 c7 c1003_0 c1003_1 (k (.exit 0) (slices_Index_api_Pair_L0_tl0 x0 c7 c1003_0 c1003_1)) N s8
abbrev slices_Index_api_Pair_L0_F (N : Nat) : FV slices_Index_api_Pair_L0_fs → HV slices_Index_api_Pair_L0_bs → (Ex → St → Option Int) → Option Int := fun x y k => slices_Index_api_Pair_L0_G N x.1 x.2.2.1 y.1.1 y.1.2.1 x.2.2.2.1 k
noncomputable def slices_Index_api_Pair_LP (N : Nat) : Nat → Code → St → (Ex → St → Option Int) → Option Int := fun i c =>
  match i with
  | 0 => (LPc 19 slices_Index_api_Pair_L0_fs slices_Index_api_Pair_L0_bs (slices_Index_api_Pair_L0_F N) (fun st k => iter (slices_Index_api_Pair_h 0) (exec (slices_Index_api_Pair_E N) N c 0) N st k))
  | i => fun st k => iter (slices_Index_api_Pair_h i) (exec (slices_Index_api_Pair_E N) N c i) N st k
theorem slices_Index_api_Pair_L0_step (N : Nat) (x0 : List (Str × Str)) (c7 : Int) (c1003_0 : Str) (c1003_1 : Str) (KX : Nat → St → Option Int) (I : St → Option Int) (s8 : Int) :
    execL (slices_Index_api_Pair_LP N) (slices_Index_api_Pair_E N) (cAt (bodyOf Tryd.f158) [true, false, true, false, false]) 0 (slices_Index_api_Pair_L0_hd x0 c7 c1003_0 c1003_1 s8) (roundK (slices_Index_api_Pair_h 0) I KX (resD (slices_Index_api_Pair_E N) Tryd.f158 (slices_Index_api_Pair_sg fun x _ => slices_Index_api_Pair N x.1 x.2.1) slices_Index_api_Pair_pk)) = slices_Index_api_Pair_L0T N x0 c7 c1003_0 c1003_1 (KX 0 (slices_Index_api_Pair_L0_tl0 x0 c7 c1003_0 c1003_1)) (fun s8 => I (slices_Index_api_Pair_L0_hd x0 c7 c1003_0 c1003_1 s8)) s8 := by kernel_rfl
theorem slices_Index_api_Pair_L0_ok (N : Nat) : ∀ x y k, (∀ st, k .ret st = (resD (slices_Index_api_Pair_E N) Tryd.f158 (slices_Index_api_Pair_sg fun x _ => slices_Index_api_Pair N x.1 x.2.1) slices_Index_api_Pair_pk) st) → iter (slices_Index_api_Pair_h 0) (exec (slices_Index_api_Pair_E N) N (cAt (bodyOf Tryd.f158) [true, false, true, false, false]) 0) N ⟨19, unF slices_Index_api_Pair_L0_fs x, unH slices_Index_api_Pair_L0_bs y⟩ k = slices_Index_api_Pair_L0_F N x y k := fun x y k hk =>
  iter_link (S := (Int) × Unit) (slices_Index_api_Pair_h 0) _ (execL (slices_Index_api_Pair_LP N) (slices_Index_api_Pair_E N) (cAt (bodyOf Tryd.f158) [true, false, true, false, false]) 0) (resD (slices_Index_api_Pair_E N) Tryd.f158 (slices_Index_api_Pair_sg fun x _ => slices_Index_api_Pair N x.1 x.2.1) slices_Index_api_Pair_pk) (fun st k hk => execL_eq _ _ N _ (cAt (bodyOf Tryd.f158) [true, false, true, false, false]) 0 (show LoopsOk (slices_Index_api_Pair_LP N) (slices_Index_api_Pair_E N) N (resD (slices_Index_api_Pair_E N) Tryd.f158 (slices_Index_api_Pair_sg fun x _ => slices_Index_api_Pair N x.1 x.2.1) slices_Index_api_Pair_pk) [] from trivial) st k hk) (fun s => slices_Index_api_Pair_L0_hd x.1 x.2.2.1 y.1.1 y.1.2.1 s.1) k hk
    (fun self s => slices_Index_api_Pair_L0T N x.1 x.2.2.1 y.1.1 y.1.2.1 (k (.exit 0) (slices_Index_api_Pair_L0_tl0 x.1 x.2.2.1 y.1.1 y.1.2.1)) (fun s8 => self (s8, ())) s.1) (fun n s => slices_Index_api_Pair_L0 N x.1 x.2.2.1 y.1.1 y.1.2.1 (k (.exit 0) (slices_Index_api_Pair_L0_tl0 x.1 x.2.2.1 y.1.1 y.1.2.1)) n s.1) (fun _ => rfl) (fun _ _ => rfl)
    (fun I s => slices_Index_api_Pair_L0_step N x.1 x.2.2.1 y.1.1 y.1.2.1 (fun j => k (.exit j)) I s.1) N (x.2.2.2.1, ())
theorem slices_Index_api_Pair_lp0 (N : Nat) : ∀ st k, (∀ st, k .ret st = (resD (slices_Index_api_Pair_E N) Tryd.f158 (slices_Index_api_Pair_sg fun x _ => slices_Index_api_Pair N x.1 x.2.1) slices_Index_api_Pair_pk) st) → slices_Index_api_Pair_LP N 0 (cAt (bodyOf Tryd.f158) [true, false, true, false, false]) st k = iter (Env.hint (slices_Index_api_Pair_E N) 0) (exec (slices_Index_api_Pair_E N) N (cAt (bodyOf Tryd.f158) [true, false, true, false, false]) 0) N st k := fun st k hk => LPc_eq 19 slices_Index_api_Pair_L0_fs slices_Index_api_Pair_L0_bs _ _ (resD (slices_Index_api_Pair_E N) Tryd.f158 (slices_Index_api_Pair_sg fun x _ => slices_Index_api_Pair N x.1 x.2.1) slices_Index_api_Pair_pk) (slices_Index_api_Pair_L0_ok N) _ st k hk (rfl)
theorem slices_Index_api_Pair_core (N : Nat) (x : SV [.v (.sl (.pr .str .str)), .v (.pr .str .str)]) (y : BV []) : runL (slices_Index_api_Pair_E N) Tryd.f158 (slices_Index_api_Pair_sg fun x _ => slices_Index_api_Pair N x.1 x.2.1) slices_Index_api_Pair_pk (slices_Index_api_Pair_LP N) x y = slices_Index_api_Pair N x.1 x.2.1 := by kernel_rfl
theorem slices_Index_api_Pair_sound (N : Nat) : Sound Tryd.prog GW B0G 158 (slices_Index_api_Pair_sg fun x _ => slices_Index_api_Pair N x.1 x.2.1) :=
  runD_sound (mkE_ok slices_Index_api_Pair_h (slices_Index_api_Pair_fn N) _ _ (slices_Index_api_Pair_fn_ok N)) Tryd.func158 rfl Tryd.call158 (slices_Index_api_Pair_sg fun x _ => slices_Index_api_Pair N x.1 x.2.1) slices_Index_api_Pair_pk (fun _ _ => rfl) N (fun x y _ h => ((runL_eq (slices_Index_api_Pair_E N) N Tryd.f158 (slices_Index_api_Pair_sg fun x _ => slices_Index_api_Pair N x.1 x.2.1) slices_Index_api_Pair_pk (slices_Index_api_Pair_LP N) (show LoopsOk (slices_Index_api_Pair_LP N) (slices_Index_api_Pair_E N) N (resD (slices_Index_api_Pair_E N) Tryd.f158 (slices_Index_api_Pair_sg fun x _ => slices_Index_api_Pair N x.1 x.2.1) slices_Index_api_Pair_pk) [(0, (cAt (bodyOf Tryd.f158) [true, false, true, false, false]))] from ⟨slices_Index_api_Pair_lp0 N, trivial⟩) x y).trans (slices_Index_api_Pair_core N x y)).trans h)
def slices_Contains_api_Pair (N : Nat) (x0 : List (Str × Str)) (x1 : Str × Str) : Option Bool :=
  bnd (slices_Index_api_Pair N x0 x1) fun t7 =>
  some (decide (t7 ≥ (0 : Int)))
abbrev slices_Contains_api_Pair_sg (f : SV [.v (.sl (.pr .str .str)), .v (.pr .str .str)] → BV [] → Option (Bool)) : AF := { ps := [.v (.sl (.pr .str .str)), .v (.pr .str .str)], bs := [], rs := [.v .bool], cs := [], R := Bool, out := fun z => ((z, ()), ()), f := f }
abbrev slices_Contains_api_Pair_pk : SV [.v .bool] → BV [] → Bool := fun x _ => x.1
def slices_Contains_api_Pair_fn (N : Nat) : FuncId → Option Tmp → Option AF := fun f _ =>
  match f with
    | 158 => some (slices_Index_api_Pair_sg fun x _ => slices_Index_api_Pair N x.1 x.2.1)
    | _ => none
theorem slices_Contains_api_Pair_fn_ok (N : Nat) : ∀ f q F, slices_Contains_api_Pair_fn N f q = some F → Sound Tryd.prog GW B0G f F := by
  intro f q F h
  unfold slices_Contains_api_Pair_fn at h
  split at h
  · cases h; exact slices_Index_api_Pair_sound N
  · cases h
def slices_Contains_api_Pair_h : Nat → Hint := fun i =>
  match i with
  | _ => ⟨[], [], [], [], []⟩
abbrev slices_Contains_api_Pair_E (N : Nat) : Env := mkE slices_Contains_api_Pair_h (slices_Contains_api_Pair_fn N) (fun _ => false) (fun _ => false)
noncomputable def slices_Contains_api_Pair_LP (N : Nat) : Nat → Code → St → (Ex → St → Option Bool) → Option Bool := fun i c =>
  match i with
  | i => fun st k => iter (slices_Contains_api_Pair_h i) (exec (slices_Contains_api_Pair_E N) N c i) N st k
theorem slices_Contains_api_Pair_core (N : Nat) (x : SV [.v (.sl (.pr .str .str)), .v (.pr .str .str)]) (y : BV []) : runL (slices_Contains_api_Pair_E N) Tryd.f133 (slices_Contains_api_Pair_sg fun x _ => slices_Contains_api_Pair N x.1 x.2.1) slices_Contains_api_Pair_pk (slices_Contains_api_Pair_LP N) x y = slices_Contains_api_Pair N x.1 x.2.1 := by kernel_rfl
theorem slices_Contains_api_Pair_sound (N : Nat) : Sound Tryd.prog GW B0G 133 (slices_Contains_api_Pair_sg fun x _ => slices_Contains_api_Pair N x.1 x.2.1) :=
  runD_sound (mkE_ok slices_Contains_api_Pair_h (slices_Contains_api_Pair_fn N) _ _ (slices_Contains_api_Pair_fn_ok N)) Tryd.func133 rfl Tryd.call133 (slices_Contains_api_Pair_sg fun x _ => slices_Contains_api_Pair N x.1 x.2.1) slices_Contains_api_Pair_pk (fun _ _ => rfl) N (fun x y _ h => ((runL_eq (slices_Contains_api_Pair_E N) N Tryd.f133 (slices_Contains_api_Pair_sg fun x _ => slices_Contains_api_Pair N x.1 x.2.1) slices_Contains_api_Pair_pk (slices_Contains_api_Pair_LP N) (show LoopsOk (slices_Contains_api_Pair_LP N) (slices_Contains_api_Pair_E N) N (resD (slices_Contains_api_Pair_E N) Tryd.f133 (slices_Contains_api_Pair_sg fun x _ => slices_Contains_api_Pair N x.1 x.2.1) slices_Contains_api_Pair_pk) [] from trivial) x y).trans (slices_Contains_api_Pair_core N x y)).trans h)
def config_Fit_L0T (N : Nat) (x1 : List (Str × Str)) (x0 : List (Str × Str)) (c8 : Int) (k0 : Option Bool) (self : Int → Option Bool) (s9 : Int) : Option Bool :=
  br (decide (s9 < c8))
    (bnd (geti x0 s9) fun t11 =>
    bnd (slices_Contains_api_Pair N x1 t11) fun t15 =>
    br (!t15)
      (some false)
      (self (IntKind.i64.wrap (s9 + (1 : Int)))))
    (k0)
def config_Fit_L0 (N : Nat) (x1 : List (Str × Str)) (x0 : List (Str × Str)) (c8 : Int) (k0 : Option Bool) : Nat → Int → Option Bool
  | 0, _ => none
  | n + 1, s9 => config_Fit_L0T N x1 x0 c8 k0 (config_Fit_L0 N x1 x0 c8 k0 n) s9
def config_Fit (N : Nat) (x0 : List (Str × Str)) (x1 : List (Str × Str)) : Option Bool :=
  config_Fit_L0 N x1 x0 (x0.length : Int) (some true) N (0 : Int)
abbrev config_Fit_sg (f : SV [.v (.sl (.pr .str .str)), .v (.sl (.pr .str .str))] → BV [] → Option (Bool)) : AF := { ps := [.v (.sl (.pr .str .str)), .v (.sl (.pr .str .str))], bs := [], rs := [.v .bool], cs := [], R := Bool, out := fun z => ((z, ()), ()), f := f }
abbrev config_Fit_pk : SV [.v .bool] → BV [] → Bool := fun x _ => x.1
def config_Fit_fn (N : Nat) : FuncId → Option Tmp → Option AF := fun f _ =>
  match f with
    | 133 => some (slices_Contains_api_Pair_sg fun x _ => slices_Contains_api_Pair N x.1 x.2.1)
    | _ => none
theorem config_Fit_fn_ok (N : Nat) : ∀ f q F, config_Fit_fn N f q = some F → Sound Tryd.prog GW B0G f F := by
  intro f q F h
  unfold config_Fit_fn at h
  split at h
  · cases h; exact slices_Contains_api_Pair_sound N
  · cases h
def config_Fit_h : Nat → Hint := fun i =>
  match i with
  | 0 => ⟨[], [1, 7, 8, 9], [], [], []⟩
  | _ => ⟨[], [], [], [], []⟩
abbrev config_Fit_E (N : Nat) : Env := mkE config_Fit_h (config_Fit_fn N) (fun _ => false) (fun _ => false)
abbrev config_Fit_L0_fs : List (Nat × Sl) := [(1, .v (.sl (.pr .str .str))), (7, .v (.sl (.pr .str .str))), (8, .v (.int .i64)), (9, .v (.int .i64))]
abbrev config_Fit_L0_bs : List (Nat × Sb) := []
def config_Fit_L0_hd (x1 : List (Str × Str)) (x0 : List (Str × Str)) (c8 : Int) (s9 : Int) : St := ⟨18, [(1, .v (.sl (.pr .str .str)) x1), (7, .v (.sl (.pr .str .str)) x0), (8, .v (.int .i64) c8), (9, .v (.int .i64) s9)], []⟩
def config_Fit_L0_tl0 (_x1 : List (Str × Str)) (_x0 : List (Str × Str)) (_c8 : Int) : St := ⟨18, [], []⟩
def config_Fit_L0_G (N : Nat) (x1 : List (Str × Str)) (x0 : List (Str × Str)) (c8 : Int) (s9 : Int) (k : Ex → St → Option Bool) : Option Bool :=
  config_Fit_L0 N x1 x0 c8 (k (.exit 0) (config_Fit_L0_tl0 x1 x0 c8)) N s9
abbrev config_Fit_L0_F (N : Nat) : FV config_Fit_L0_fs → HV config_Fit_L0_bs → (Ex → St → Option Bool) → Option Bool := fun x _ k => config_Fit_L0_G N x.1 x.2.1 x.2.2.1 x.2.2.2.1 k
noncomputable def config_Fit_LP (N : Nat) : Nat → Code → St → (Ex → St → Option Bool) → Option Bool := fun i c =>
  match i with
  | 0 => (LPc 18 config_Fit_L0_fs config_Fit_L0_bs (config_Fit_L0_F N) (fun st k => iter (config_Fit_h 0) (exec (config_Fit_E N) N c 0) N st k))
  | i => fun st k => iter (config_Fit_h i) (exec (config_Fit_E N) N c i) N st k
theorem config_Fit_L0_step (N : Nat) (x1 : List (Str × Str)) (x0 : List (Str × Str)) (c8 : Int) (KX : Nat → St → Option Bool) (I : St → Option Bool) (s9 : Int) :
    execL (config_Fit_LP N) (config_Fit_E N) (cAt (bodyOf Tryd.f95) [true, false, true, false, false]) 0 (config_Fit_L0_hd x1 x0 c8 s9) (roundK (config_Fit_h 0) I KX (resD (config_Fit_E N) Tryd.f95 (config_Fit_sg fun x _ => config_Fit N x.1 x.2.1) config_Fit_pk)) = config_Fit_L0T N x1 x0 c8 (KX 0 (config_Fit_L0_tl0 x1 x0 c8)) (fun s9 => I (config_Fit_L0_hd x1 x0 c8 s9)) s9 := by kernel_rfl
theorem config_Fit_L0_ok (N : Nat) : ∀ x y k, (∀ st, k .ret st = (resD (config_Fit_E N) Tryd.f95 (config_Fit_sg fun x _ => config_Fit N x.1 x.2.1) config_Fit_pk) st) → iter (config_Fit_h 0) (exec (config_Fit_E N) N (cAt (bodyOf Tryd.f95) [true, false, true, false, false]) 0) N ⟨18, unF config_Fit_L0_fs x, unH config_Fit_L0_bs y⟩ k = config_Fit_L0_F N x y k := fun x _ k hk =>
  iter_link (S := (Int) × Unit) (config_Fit_h 0) _ (execL (config_Fit_LP N) (config_Fit_E N) (cAt (bodyOf Tryd.f95) [true, false, true, false, false]) 0) (resD (config_Fit_E N) Tryd.f95 (config_Fit_sg fun x _ => config_Fit N x.1 x.2.1) config_Fit_pk) (fun st k hk => execL_eq _ _ N _ (cAt (bodyOf Tryd.f95) [true, false, true, false, false]) 0 (show LoopsOk (config_Fit_LP N) (config_Fit_E N) N (resD (config_Fit_E N) Tryd.f95 (config_Fit_sg fun x _ => config_Fit N x.1 x.2.1) config_Fit_pk) [] from trivial) st k hk) (fun s => config_Fit_L0_hd x.1 x.2.1 x.2.2.1 s.1) k hk
    (fun self s => config_Fit_L0T N x.1 x.2.1 x.2.2.1 (k (.exit 0) (config_Fit_L0_tl0 x.1 x.2.1 x.2.2.1)) (fun s9 => self (s9, ())) s.1) (fun n s => config_Fit_L0 N x.1 x.2.1 x.2.2.1 (k (.exit 0) (config_Fit_L0_tl0 x.1 x.2.1 x.2.2.1)) n s.1) (fun _ => rfl) (fun _ _ => rfl)
    (fun I s => config_Fit_L0_step N x.1 x.2.1 x.2.2.1 (fun j => k (.exit j)) I s.1) N (x.2.2.2.1, ())
theorem config_Fit_lp0 (N : Nat) : ∀ st k, (∀ st, k .ret st = (resD (config_Fit_E N) Tryd.f95 (config_Fit_sg fun x _ => config_Fit N x.1 x.2.1) config_Fit_pk) st) → config_Fit_LP N 0 (cAt (bodyOf Tryd.f95) [true, false, true, false, false]) st k = iter (Env.hint (config_Fit_E N) 0) (exec (config_Fit_E N) N (cAt (bodyOf Tryd.f95) [true, false, true, false, false]) 0) N st k := fun st k hk => LPc_eq 18 config_Fit_L0_fs config_Fit_L0_bs _ _ (resD (config_Fit_E N) Tryd.f95 (config_Fit_sg fun x _ => config_Fit N x.1 x.2.1) config_Fit_pk) (config_Fit_L0_ok N) _ st k hk (rfl)
theorem config_Fit_core (N : Nat) (x : SV [.v (.sl (.pr .str .str)), .v (.sl (.pr .str .str))]) (y : BV []) : runL (config_Fit_E N) Tryd.f95 (config_Fit_sg fun x _ => config_Fit N x.1 x.2.1) config_Fit_pk (config_Fit_LP N) x y = config_Fit N x.1 x.2.1 := by kernel_rfl
theorem config_Fit_sound (N : Nat) : Sound Tryd.prog GW B0G 95 (config_Fit_sg fun x _ => config_Fit N x.1 x.2.1) :=
  runD_sound (mkE_ok config_Fit_h (config_Fit_fn N) _ _ (config_Fit_fn_ok N)) Tryd.func95 rfl Tryd.call95 (config_Fit_sg fun x _ => config_Fit N x.1 x.2.1) config_Fit_pk (fun _ _ => rfl) N (fun x y _ h => ((runL_eq (config_Fit_E N) N Tryd.f95 (config_Fit_sg fun x _ => config_Fit N x.1 x.2.1) config_Fit_pk (config_Fit_LP N) (show LoopsOk (config_Fit_LP N) (config_Fit_E N) N (resD (config_Fit_E N) Tryd.f95 (config_Fit_sg fun x _ => config_Fit N x.1 x.2.1) config_Fit_pk) [(0, (cAt (bodyOf Tryd.f95) [true, false, true, false, false]))] from ⟨config_Fit_lp0 N, trivial⟩) x y).trans (config_Fit_core N x y)).trans h)
end
end Go.Proofs.YtbekhaioddmliaaDoor
