/- What functions of the program compute, as plain functions (printed). -/
import Derived.Test.YtbekhaioddmliaaGreatDoorQZcF2
namespace Go.Proofs.YtbekhaioddmliaaGreatDoor
open Go Go.RowKit
set_option maxRecDepth 100000
set_option linter.unusedVariables false
noncomputable section
def z8L0T (N : Nat) (x0 : List (Str × List (Str × Str))) (x1 : (Str × List (Str × Str)) × Unit) (c7 : Int) (k0 : Option Int) (self : Int → Option Int) (s8 : Int) : Option Int :=
  br (decide (s8 < c7))
    (bnd (geti x0 s8) fun t14 =>
    bnd (config_CheckPlatforms_1 N t14 x1.1) fun t16 =>
    br (t16)
      (some s8)
      (self (IntKind.i64.wrap (s8 + (1 : Int)))))
    (k0)
def z8L0 (N : Nat) (x0 : List (Str × List (Str × Str))) (x1 : (Str × List (Str × Str)) × Unit) (c7 : Int) (k0 : Option Int) : Nat → Int → Option Int
  | 0, _ => none
  | n + 1, s8 => z8L0T N x0 x1 c7 k0 (z8L0 N x0 x1 c7 k0 n) s8
def slices_IndexFunc_api_Platform (N : Nat) (x0 : List (Str × List (Str × Str))) (x1 : (Str × List (Str × Str)) × Unit) : Option Int :=
  z8L0 N x0 x1 (x0.length : Int) (some (-1 : Int)) N (0 : Int)
abbrev z8sg (f : SV [.v (.sl (.pr .str (.sl (.pr .str .str)))), .v (.clo 129 (.pr (.ptr (.pr .str (.sl (.pr .str .str)))) .un))] → BV [] → Option (Int)) : AF := { ps := [.v (.sl (.pr .str (.sl (.pr .str .str)))), .v (.clo 129 (.pr (.ptr (.pr .str (.sl (.pr .str .str)))) .un))], bs := [], rs := [.v (.int .i64)], cs := [], R := Int, out := fun z => ((z, ()), ()), f := f }
abbrev z8pk : SV [.v (.int .i64)] → BV [] → Int := fun x _ => x.1
def z8fn (N : Nat) : FuncId → Option Tmp → Option AF := fun f _ =>
  match f with
    | 129 => some (z20sg fun x _ => config_CheckPlatforms_1 N x.1 x.2.1)
    | _ => none
theorem z8fn_ok (N : Nat) : ∀ f q F, z8fn N f q = some F → Sound Tryz.prog GW B0G f F := by
  intro f q F h
  unfold z8fn at h
  split at h
  · cases h; exact z20sound N
  · cases h
def z8h : Nat → Hint := fun i =>
  match i with
  | 0 => ⟨[], [0, 1, 7, 8], [], [], [], []⟩
  | _ => ⟨[], [], [], [], [], []⟩
abbrev z8E (N : Nat) : Env := mkE z8h (z8fn N) (fun _ => false) (fun _ => false)
abbrev z8L0_fs : List (Nat × Sl) := [(0, .v (.sl (.pr .str (.sl (.pr .str .str))))), (1, .v (.clo 129 (.pr (.ptr (.pr .str (.sl (.pr .str .str)))) .un))), (7, .v (.int .i64)), (8, .v (.int .i64))]
abbrev z8L0_bs : List (Nat × Sb) := []
def z8L0_hd (x0 : List (Str × List (Str × Str))) (x1 : (Str × List (Str × Str)) × Unit) (c7 : Int) (s8 : Int) : St := ⟨19, [(0, .v (.sl (.pr .str (.sl (.pr .str .str)))) x0), (1, .v (.clo 129 (.pr (.ptr (.pr .str (.sl (.pr .str .str)))) .un)) x1), (7, .v (.int .i64) c7), (8, .v (.int .i64) s8)], []⟩
def z8L0_tl0 (_x0 : List (Str × List (Str × Str))) (_x1 : (Str × List (Str × Str)) × Unit) (_c7 : Int) : St := ⟨19, [], []⟩
def z8L0_G (N : Nat) (x0 : List (Str × List (Str × Str))) (x1 : (Str × List (Str × Str)) × Unit) (c7 : Int) (s8 : Int) (k : Ex → St → Option Int) : Option Int :=
  z8L0 N x0 x1 c7 (k (.exit 0) (z8L0_tl0 x0 x1 c7)) N s8
abbrev z8L0_F (N : Nat) : FV z8L0_fs → HV z8L0_bs → (Ex → St → Option Int) → Option Int := fun x _ k => z8L0_G N x.1 x.2.1 x.2.2.1 x.2.2.2.1 k
noncomputable def z8LP (N : Nat) : Nat → Code → St → (Ex → St → Option Int) → Option Int := fun i c =>
  match i with
  | 0 => (LPc 19 z8L0_fs z8L0_bs (z8L0_F N) (fun st k => iter (z8h 0) (exec (z8E N) N c 0) N st k))
  | i => fun st k => iter (z8h i) (exec (z8E N) N c i) N st k
theorem z8L0_step (N : Nat) (x0 : List (Str × List (Str × Str))) (x1 : (Str × List (Str × Str)) × Unit) (c7 : Int) (KX : Nat → St → Option Int) (I : St → Option Int) (s8 : Int) :
    execL (z8LP N) (z8E N) (cAt (bodyOf Tryz.f184) [true, false, true, false, false]) 0 (z8L0_hd x0 x1 c7 s8) (roundK (z8h 0) I KX (resD (z8E N) Tryz.f184 (z8sg fun x _ => slices_IndexFunc_api_Platform N x.1 x.2.1) z8pk)) = z8L0T N x0 x1 c7 (KX 0 (z8L0_tl0 x0 x1 c7)) (fun s8 => I (z8L0_hd x0 x1 c7 s8)) s8 := by kernel_rfl
theorem z8L0_ok (N : Nat) : ∀ x y k, (∀ st, k .ret st = (resD (z8E N) Tryz.f184 (z8sg fun x _ => slices_IndexFunc_api_Platform N x.1 x.2.1) z8pk) st) → iter (z8h 0) (exec (z8E N) N (cAt (bodyOf Tryz.f184) [true, false, true, false, false]) 0) N ⟨19, unF z8L0_fs x, unH z8L0_bs y⟩ k = z8L0_F N x y k := fun x _ k hk =>
  iter_link (S := (Int) × Unit) (z8h 0) _ (execL (z8LP N) (z8E N) (cAt (bodyOf Tryz.f184) [true, false, true, false, false]) 0) (resD (z8E N) Tryz.f184 (z8sg fun x _ => slices_IndexFunc_api_Platform N x.1 x.2.1) z8pk) (fun st k hk => execL_eq _ _ N _ (cAt (bodyOf Tryz.f184) [true, false, true, false, false]) 0 (show LoopsOk (z8LP N) (z8E N) N (resD (z8E N) Tryz.f184 (z8sg fun x _ => slices_IndexFunc_api_Platform N x.1 x.2.1) z8pk) [] from trivial) st k hk) (fun s => z8L0_hd x.1 x.2.1 x.2.2.1 s.1) k hk
    (fun self s => z8L0T N x.1 x.2.1 x.2.2.1 (k (.exit 0) (z8L0_tl0 x.1 x.2.1 x.2.2.1)) (fun s8 => self (s8, ())) s.1) (fun n s => z8L0 N x.1 x.2.1 x.2.2.1 (k (.exit 0) (z8L0_tl0 x.1 x.2.1 x.2.2.1)) n s.1) (fun _ => rfl) (fun _ _ => rfl)
    (fun I s => z8L0_step N x.1 x.2.1 x.2.2.1 (fun j => k (.exit j)) I s.1) N (x.2.2.2.1, ())
theorem z8lp0 (N : Nat) : ∀ st k, (∀ st, k .ret st = (resD (z8E N) Tryz.f184 (z8sg fun x _ => slices_IndexFunc_api_Platform N x.1 x.2.1) z8pk) st) → z8LP N 0 (cAt (bodyOf Tryz.f184) [true, false, true, false, false]) st k = iter (Env.hint (z8E N) 0) (exec (z8E N) N (cAt (bodyOf Tryz.f184) [true, false, true, false, false]) 0) N st k := fun st k hk => LPc_eq 19 z8L0_fs z8L0_bs _ _ (resD (z8E N) Tryz.f184 (z8sg fun x _ => slices_IndexFunc_api_Platform N x.1 x.2.1) z8pk) (z8L0_ok N) _ st k hk (rfl)
theorem z8core (N : Nat) (x : SV [.v (.sl (.pr .str (.sl (.pr .str .str)))), .v (.clo 129 (.pr (.ptr (.pr .str (.sl (.pr .str .str)))) .un))]) (y : BV []) : runL (z8E N) Tryz.f184 (z8sg fun x _ => slices_IndexFunc_api_Platform N x.1 x.2.1) z8pk (z8LP N) x y = slices_IndexFunc_api_Platform N x.1 x.2.1 := by kernel_rfl
theorem z8sound (N : Nat) : Sound Tryz.prog GW B0G 184 (z8sg fun x _ => slices_IndexFunc_api_Platform N x.1 x.2.1) :=
  runD_sound (mkE_ok z8h (z8fn N) _ _ (z8fn_ok N)) Tryz.func184 rfl Tryz.call184 (z8sg fun x _ => slices_IndexFunc_api_Platform N x.1 x.2.1) z8pk (fun _ _ => rfl) N (fun x y _ h => ((runL_eq (z8E N) N Tryz.f184 (z8sg fun x _ => slices_IndexFunc_api_Platform N x.1 x.2.1) z8pk (z8LP N) (show LoopsOk (z8LP N) (z8E N) N (resD (z8E N) Tryz.f184 (z8sg fun x _ => slices_IndexFunc_api_Platform N x.1 x.2.1) z8pk) [(0, (cAt (bodyOf Tryz.f184) [true, false, true, false, false]))] from ⟨z8lp0 N, trivial⟩) x y).trans (z8core N x y)).trans h)
def slices_ContainsFunc_api_Platform (N : Nat) (x0 : List (Str × List (Str × Str))) (x1 : (Str × List (Str × Str)) × Unit) : Option Bool :=
  bnd (slices_IndexFunc_api_Platform N x0 x1) fun t7 =>
  some (decide (t7 ≥ (0 : Int)))
abbrev z3sg (f : SV [.v (.sl (.pr .str (.sl (.pr .str .str)))), .v (.clo 129 (.pr (.ptr (.pr .str (.sl (.pr .str .str)))) .un))] → BV [] → Option (Bool)) : AF := { ps := [.v (.sl (.pr .str (.sl (.pr .str .str)))), .v (.clo 129 (.pr (.ptr (.pr .str (.sl (.pr .str .str)))) .un))], bs := [], rs := [.v .bool], cs := [], R := Bool, out := fun z => ((z, ()), ()), f := f }
abbrev z3pk : SV [.v .bool] → BV [] → Bool := fun x _ => x.1
def z3fn (N : Nat) : FuncId → Option Tmp → Option AF := fun f _ =>
  match f with
    | 184 => some (z8sg fun x _ => slices_IndexFunc_api_Platform N x.1 x.2.1)
    | _ => none
theorem z3fn_ok (N : Nat) : ∀ f q F, z3fn N f q = some F → Sound Tryz.prog GW B0G f F := by
  intro f q F h
  unfold z3fn at h
  split at h
  · cases h; exact z8sound N
  · cases h
def z3h : Nat → Hint := fun i =>
  match i with
  | _ => ⟨[], [], [], [], [], []⟩
abbrev z3E (N : Nat) : Env := mkE z3h (z3fn N) (fun _ => false) (fun _ => false)
noncomputable def z3LP (N : Nat) : Nat → Code → St → (Ex → St → Option Bool) → Option Bool := fun i c =>
  match i with
  | i => fun st k => iter (z3h i) (exec (z3E N) N c i) N st k
theorem z3core (N : Nat) (x : SV [.v (.sl (.pr .str (.sl (.pr .str .str)))), .v (.clo 129 (.pr (.ptr (.pr .str (.sl (.pr .str .str)))) .un))]) (y : BV []) : runL (z3E N) Tryz.f128 (z3sg fun x _ => slices_ContainsFunc_api_Platform N x.1 x.2.1) z3pk (z3LP N) x y = slices_ContainsFunc_api_Platform N x.1 x.2.1 := by kernel_rfl
theorem z3sound (N : Nat) : Sound Tryz.prog GW B0G 128 (z3sg fun x _ => slices_ContainsFunc_api_Platform N x.1 x.2.1) :=
  runD_sound (mkE_ok z3h (z3fn N) _ _ (z3fn_ok N)) Tryz.func128 rfl Tryz.call128 (z3sg fun x _ => slices_ContainsFunc_api_Platform N x.1 x.2.1) z3pk (fun _ _ => rfl) N (fun x y _ h => ((runL_eq (z3E N) N Tryz.f128 (z3sg fun x _ => slices_ContainsFunc_api_Platform N x.1 x.2.1) z3pk (z3LP N) (show LoopsOk (z3LP N) (z3E N) N (resD (z3E N) Tryz.f128 (z3sg fun x _ => slices_ContainsFunc_api_Platform N x.1 x.2.1) z3pk) [] from trivial) x y).trans (z3core N x y)).trans h)
def z22L0T (N : Nat) (x0 : List (Str × List (Str × Str))) (c9 : List (Str × List (Str × Str))) (c10 : Int) (k0 : Option Int) (self : Int → Option Int) (s11 : Int) : Option Int :=
  br (decide (s11 < c10))
    (bnd (geti c9 s11) fun t14 =>
    bnd (config_IsWord N t14.1) fun t18 =>
    br (!t18)
      (some (5 : Int))
      (bnd (config_CheckPairs N t14.2) fun t22 =>
      br (t22 != (0 : Int))
        (some t22)
        (bnd (slc x0 (0 : Int) s11) fun t28 =>
        bnd (slices_ContainsFunc_api_Platform N t28 (t14, ())) fun t30 =>
        br (t30)
          (some (7 : Int))
          (self (IntKind.i64.wrap (s11 + (1 : Int)))))))
    (k0)
def z22L0 (N : Nat) (x0 : List (Str × List (Str × Str))) (c9 : List (Str × List (Str × Str))) (c10 : Int) (k0 : Option Int) : Nat → Int → Option Int
  | 0, _ => none
  | n + 1, s11 => z22L0T N x0 c9 c10 k0 (z22L0 N x0 c9 c10 k0 n) s11
def config_CheckPlatforms (N : Nat) (x0 : List (Str × List (Str × Str))) : Option Int :=
  br (decide ((x0.length : Int) > (50 : Int)))
    (some (2 : Int))
    (z22L0 N x0 x0 (x0.length : Int) (some (0 : Int)) N (0 : Int))
abbrev z22sg (f : SV [.v (.sl (.pr .str (.sl (.pr .str .str))))] → BV [] → Option (Int)) : AF := { ps := [.v (.sl (.pr .str (.sl (.pr .str .str))))], bs := [], rs := [.v (.int .i64)], cs := [], R := Int, out := fun z => ((z, ()), ()), f := f }
abbrev z22pk : SV [.v (.int .i64)] → BV [] → Int := fun x _ => x.1
def z22fn (N : Nat) : FuncId → Option Tmp → Option AF := fun f _ =>
  match f with
    | 43 => some (z62sg fun x _ => config_IsWord N x.1)
    | 119 => some (z37sg fun x _ => config_CheckPairs N x.1)
    | 128 => some (z3sg fun x _ => slices_ContainsFunc_api_Platform N x.1 x.2.1)
    | 129 => some (noneAF [.v (.ptr (.pr .str (.sl (.pr .str .str))))])
    | _ => none
theorem z22fn_ok (N : Nat) : ∀ f q F, z22fn N f q = some F → Sound Tryz.prog GW B0G f F := by
  intro f q F h
  unfold z22fn at h
  split at h
  · cases h; exact z62sound N
  · cases h; exact z37sound N
  · cases h; exact z3sound N
  · cases h; exact noneAF_sound Tryz.call129 _
  · cases h
def z22h : Nat → Hint := fun i =>
  match i with
  | 0 => ⟨[], [0, 9, 10, 11], [], [], [], []⟩
  | _ => ⟨[], [], [], [], [], []⟩
abbrev z22E (N : Nat) : Env := mkE z22h (z22fn N) (fun _ => false) (fun _ => false)
abbrev z22L0_fs : List (Nat × Sl) := [(0, .v (.sl (.pr .str (.sl (.pr .str .str))))), (9, .v (.sl (.pr .str (.sl (.pr .str .str))))), (10, .v (.int .i64)), (11, .v (.int .i64))]
abbrev z22L0_bs : List (Nat × Sb) := []
def z22L0_hd (x0 : List (Str × List (Str × Str))) (c9 : List (Str × List (Str × Str))) (c10 : Int) (s11 : Int) : St := ⟨32, [(0, .v (.sl (.pr .str (.sl (.pr .str .str)))) x0), (9, .v (.sl (.pr .str (.sl (.pr .str .str)))) c9), (10, .v (.int .i64) c10), (11, .v (.int .i64) s11)], []⟩
def z22L0_tl0 (_x0 : List (Str × List (Str × Str))) (_c9 : List (Str × List (Str × Str))) (_c10 : Int) : St := ⟨32, [], []⟩
def z22L0_G (N : Nat) (x0 : List (Str × List (Str × Str))) (c9 : List (Str × List (Str × Str))) (c10 : Int) (s11 : Int) (k : Ex → St → Option Int) : Option Int :=
  z22L0 N x0 c9 c10 (k (.exit 0) (z22L0_tl0 x0 c9 c10)) N s11
abbrev z22L0_F (N : Nat) : FV z22L0_fs → HV z22L0_bs → (Ex → St → Option Int) → Option Int := fun x _ k => z22L0_G N x.1 x.2.1 x.2.2.1 x.2.2.2.1 k
noncomputable def z22LP (N : Nat) : Nat → Code → St → (Ex → St → Option Int) → Option Int := fun i c =>
  match i with
  | 0 => (LPc 32 z22L0_fs z22L0_bs (z22L0_F N) (fun st k => iter (z22h 0) (exec (z22E N) N c 0) N st k))
  | i => fun st k => iter (z22h i) (exec (z22E N) N c i) N st k
theorem z22L0_step (N : Nat) (x0 : List (Str × List (Str × Str))) (c9 : List (Str × List (Str × Str))) (c10 : Int) (KX : Nat → St → Option Int) (I : St → Option Int) (s11 : Int) :
    execL (z22LP N) (z22E N) (cAt (bodyOf Tryz.f75) [true, true, false, true, false, false]) 0 (z22L0_hd x0 c9 c10 s11) (roundK (z22h 0) I KX (resD (z22E N) Tryz.f75 (z22sg fun x _ => config_CheckPlatforms N x.1) z22pk)) = z22L0T N x0 c9 c10 (KX 0 (z22L0_tl0 x0 c9 c10)) (fun s11 => I (z22L0_hd x0 c9 c10 s11)) s11 := by kernel_rfl
theorem z22L0_ok (N : Nat) : ∀ x y k, (∀ st, k .ret st = (resD (z22E N) Tryz.f75 (z22sg fun x _ => config_CheckPlatforms N x.1) z22pk) st) → iter (z22h 0) (exec (z22E N) N (cAt (bodyOf Tryz.f75) [true, true, false, true, false, false]) 0) N ⟨32, unF z22L0_fs x, unH z22L0_bs y⟩ k = z22L0_F N x y k := fun x _ k hk =>
  iter_link (S := (Int) × Unit) (z22h 0) _ (execL (z22LP N) (z22E N) (cAt (bodyOf Tryz.f75) [true, true, false, true, false, false]) 0) (resD (z22E N) Tryz.f75 (z22sg fun x _ => config_CheckPlatforms N x.1) z22pk) (fun st k hk => execL_eq _ _ N _ (cAt (bodyOf Tryz.f75) [true, true, false, true, false, false]) 0 (show LoopsOk (z22LP N) (z22E N) N (resD (z22E N) Tryz.f75 (z22sg fun x _ => config_CheckPlatforms N x.1) z22pk) [] from trivial) st k hk) (fun s => z22L0_hd x.1 x.2.1 x.2.2.1 s.1) k hk
    (fun self s => z22L0T N x.1 x.2.1 x.2.2.1 (k (.exit 0) (z22L0_tl0 x.1 x.2.1 x.2.2.1)) (fun s11 => self (s11, ())) s.1) (fun n s => z22L0 N x.1 x.2.1 x.2.2.1 (k (.exit 0) (z22L0_tl0 x.1 x.2.1 x.2.2.1)) n s.1) (fun _ => rfl) (fun _ _ => rfl)
    (fun I s => z22L0_step N x.1 x.2.1 x.2.2.1 (fun j => k (.exit j)) I s.1) N (x.2.2.2.1, ())
theorem z22lp0 (N : Nat) : ∀ st k, (∀ st, k .ret st = (resD (z22E N) Tryz.f75 (z22sg fun x _ => config_CheckPlatforms N x.1) z22pk) st) → z22LP N 0 (cAt (bodyOf Tryz.f75) [true, true, false, true, false, false]) st k = iter (Env.hint (z22E N) 0) (exec (z22E N) N (cAt (bodyOf Tryz.f75) [true, true, false, true, false, false]) 0) N st k := fun st k hk => LPc_eq 32 z22L0_fs z22L0_bs _ _ (resD (z22E N) Tryz.f75 (z22sg fun x _ => config_CheckPlatforms N x.1) z22pk) (z22L0_ok N) _ st k hk (rfl)
theorem z22core (N : Nat) (x : SV [.v (.sl (.pr .str (.sl (.pr .str .str))))]) (y : BV []) : runL (z22E N) Tryz.f75 (z22sg fun x _ => config_CheckPlatforms N x.1) z22pk (z22LP N) x y = config_CheckPlatforms N x.1 := by kernel_rfl
theorem z22sound (N : Nat) : Sound Tryz.prog GW B0G 75 (z22sg fun x _ => config_CheckPlatforms N x.1) :=
  runD_sound (mkE_ok z22h (z22fn N) _ _ (z22fn_ok N)) Tryz.func75 rfl Tryz.call75 (z22sg fun x _ => config_CheckPlatforms N x.1) z22pk (fun _ _ => rfl) N (fun x y _ h => ((runL_eq (z22E N) N Tryz.f75 (z22sg fun x _ => config_CheckPlatforms N x.1) z22pk (z22LP N) (show LoopsOk (z22LP N) (z22E N) N (resD (z22E N) Tryz.f75 (z22sg fun x _ => config_CheckPlatforms N x.1) z22pk) [(0, (cAt (bodyOf Tryz.f75) [true, true, false, true, false, false]))] from ⟨z22lp0 N, trivial⟩) x y).trans (z22core N x y)).trans h)
def z24L0T (_N : Nat) (x0 : List (Str × Str)) (c7 : Int) (c1003_0 : Str) (c1003_1 : Str) (k0 : Option Int) (self : Int → Option Int) (s8 : Int) : Option Int :=
  br (decide (s8 < c7))
    (bnd (geti x0 s8) fun t14 =>
    br (eqb (.pr .str .str) (c1003_0, c1003_1) t14)
      (some s8)
      (self (IntKind.i64.wrap (s8 + (1 : Int)))))
    (k0)
def z24L0 (N : Nat) (x0 : List (Str × Str)) (c7 : Int) (c1003_0 : Str) (c1003_1 : Str) (k0 : Option Int) : Nat → Int → Option Int
  | 0, _ => none
  | n + 1, s8 => z24L0T N x0 c7 c1003_0 c1003_1 k0 (z24L0 N x0 c7 c1003_0 c1003_1 k0 n) s8
def slices_Index_api_Pair (N : Nat) (x0 : List (Str × Str)) (x1 : Str × Str) : Option Int :=
  z24L0 N x0 (x0.length : Int) x1.1 x1.2 (some (-1 : Int)) N (0 : Int)
abbrev z24sg (f : SV [.v (.sl (.pr .str .str)), .v (.pr .str .str)] → BV [] → Option (Int)) : AF := { ps := [.v (.sl (.pr .str .str)), .v (.pr .str .str)], bs := [], rs := [.v (.int .i64)], cs := [], R := Int, out := fun z => ((z, ()), ()), f := f }
abbrev z24pk : SV [.v (.int .i64)] → BV [] → Int := fun x _ => x.1
def z24fn (_N : Nat) : FuncId → Option Tmp → Option AF := fun f _ =>
  match f with
    | _ => none
theorem z24fn_ok (N : Nat) : ∀ f q F, z24fn N f q = some F → Sound Tryz.prog GW B0G f F := by
  intro f q F h
  unfold z24fn at h
  split at h
  · cases h
def z24h : Nat → Hint := fun i =>
  match i with
  | 0 => ⟨[], [0, 3, 7, 8], [1003], [], [], []⟩
  | _ => ⟨[], [], [], [], [], []⟩
abbrev z24E (N : Nat) : Env := mkE z24h (z24fn N) (fun _ => false) (fun _ => false)
abbrev z24L0_fs : List (Nat × Sl) := [(0, .v (.sl (.pr .str .str))), (3, .box 1003 0), (7, .v (.int .i64)), (8, .v (.int .i64))]
abbrev z24L0_bs : List (Nat × Sb) := [(1003, .cells [.v .str, .v .str])]
def z24L0_hd (x0 : List (Str × Str)) (c7 : Int) (c1003_0 : Str) (c1003_1 : Str) (s8 : Int) : St := ⟨19, [(0, .v (.sl (.pr .str .str)) x0), (3, .box 1003 0), (7, .v (.int .i64) c7), (8, .v (.int .i64) s8)], [(1003, .cells [.v .str c1003_0, .v .str c1003_1])]⟩
def z24L0_tl0 (_x0 : List (Str × Str)) (_c7 : Int) (_c1003_0 : Str) (_c1003_1 : Str) : St := ⟨19, [], []⟩
def z24L0_G (N : Nat) (x0 : List (Str × Str)) (c7 : Int) (c1003_0 : Str) (c1003_1 : Str) (s8 : Int) (k : Ex → St → Option Int) : Option Int :=
  z24L0 N x0 c7 c1003_0 c1003_1 (k (.exit 0) (z24L0_tl0 x0 c7 c1003_0 c1003_1)) N s8
abbrev z24L0_F (N : Nat) : FV z24L0_fs → HV z24L0_bs → (Ex → St → Option Int) → Option Int := fun x y k => z24L0_G N x.1 x.2.2.1 y.1.1 y.1.2.1 x.2.2.2.1 k
noncomputable def z24LP (N : Nat) : Nat → Code → St → (Ex → St → Option Int) → Option Int := fun i c =>
  match i with
  | 0 => (LPc 19 z24L0_fs z24L0_bs (z24L0_F N) (fun st k => iter (z24h 0) (exec (z24E N) N c 0) N st k))
  | i => fun st k => iter (z24h i) (exec (z24E N) N c i) N st k
theorem z24L0_step (N : Nat) (x0 : List (Str × Str)) (c7 : Int) (c1003_0 : Str) (c1003_1 : Str) (KX : Nat → St → Option Int) (I : St → Option Int) (s8 : Int) :
    execL (z24LP N) (z24E N) (cAt (bodyOf Tryz.f207) [true, false, true, false, false]) 0 (z24L0_hd x0 c7 c1003_0 c1003_1 s8) (roundK (z24h 0) I KX (resD (z24E N) Tryz.f207 (z24sg fun x _ => slices_Index_api_Pair N x.1 x.2.1) z24pk)) = z24L0T N x0 c7 c1003_0 c1003_1 (KX 0 (z24L0_tl0 x0 c7 c1003_0 c1003_1)) (fun s8 => I (z24L0_hd x0 c7 c1003_0 c1003_1 s8)) s8 := by kernel_rfl
theorem z24L0_ok (N : Nat) : ∀ x y k, (∀ st, k .ret st = (resD (z24E N) Tryz.f207 (z24sg fun x _ => slices_Index_api_Pair N x.1 x.2.1) z24pk) st) → iter (z24h 0) (exec (z24E N) N (cAt (bodyOf Tryz.f207) [true, false, true, false, false]) 0) N ⟨19, unF z24L0_fs x, unH z24L0_bs y⟩ k = z24L0_F N x y k := fun x y k hk =>
  iter_link (S := (Int) × Unit) (z24h 0) _ (execL (z24LP N) (z24E N) (cAt (bodyOf Tryz.f207) [true, false, true, false, false]) 0) (resD (z24E N) Tryz.f207 (z24sg fun x _ => slices_Index_api_Pair N x.1 x.2.1) z24pk) (fun st k hk => execL_eq _ _ N _ (cAt (bodyOf Tryz.f207) [true, false, true, false, false]) 0 (show LoopsOk (z24LP N) (z24E N) N (resD (z24E N) Tryz.f207 (z24sg fun x _ => slices_Index_api_Pair N x.1 x.2.1) z24pk) [] from trivial) st k hk) (fun s => z24L0_hd x.1 x.2.2.1 y.1.1 y.1.2.1 s.1) k hk
    (fun self s => z24L0T N x.1 x.2.2.1 y.1.1 y.1.2.1 (k (.exit 0) (z24L0_tl0 x.1 x.2.2.1 y.1.1 y.1.2.1)) (fun s8 => self (s8, ())) s.1) (fun n s => z24L0 N x.1 x.2.2.1 y.1.1 y.1.2.1 (k (.exit 0) (z24L0_tl0 x.1 x.2.2.1 y.1.1 y.1.2.1)) n s.1) (fun _ => rfl) (fun _ _ => rfl)
    (fun I s => z24L0_step N x.1 x.2.2.1 y.1.1 y.1.2.1 (fun j => k (.exit j)) I s.1) N (x.2.2.2.1, ())
theorem z24lp0 (N : Nat) : ∀ st k, (∀ st, k .ret st = (resD (z24E N) Tryz.f207 (z24sg fun x _ => slices_Index_api_Pair N x.1 x.2.1) z24pk) st) → z24LP N 0 (cAt (bodyOf Tryz.f207) [true, false, true, false, false]) st k = iter (Env.hint (z24E N) 0) (exec (z24E N) N (cAt (bodyOf Tryz.f207) [true, false, true, false, false]) 0) N st k := fun st k hk => LPc_eq 19 z24L0_fs z24L0_bs _ _ (resD (z24E N) Tryz.f207 (z24sg fun x _ => slices_Index_api_Pair N x.1 x.2.1) z24pk) (z24L0_ok N) _ st k hk (rfl)
theorem z24core (N : Nat) (x : SV [.v (.sl (.pr .str .str)), .v (.pr .str .str)]) (y : BV []) : runL (z24E N) Tryz.f207 (z24sg fun x _ => slices_Index_api_Pair N x.1 x.2.1) z24pk (z24LP N) x y = slices_Index_api_Pair N x.1 x.2.1 := by kernel_rfl
theorem z24sound (N : Nat) : Sound Tryz.prog GW B0G 207 (z24sg fun x _ => slices_Index_api_Pair N x.1 x.2.1) :=
  runD_sound (mkE_ok z24h (z24fn N) _ _ (z24fn_ok N)) Tryz.func207 rfl Tryz.call207 (z24sg fun x _ => slices_Index_api_Pair N x.1 x.2.1) z24pk (fun _ _ => rfl) N (fun x y _ h => ((runL_eq (z24E N) N Tryz.f207 (z24sg fun x _ => slices_Index_api_Pair N x.1 x.2.1) z24pk (z24LP N) (show LoopsOk (z24LP N) (z24E N) N (resD (z24E N) Tryz.f207 (z24sg fun x _ => slices_Index_api_Pair N x.1 x.2.1) z24pk) [(0, (cAt (bodyOf Tryz.f207) [true, false, true, false, false]))] from ⟨z24lp0 N, trivial⟩) x y).trans (z24core N x y)).trans h)
def slices_Contains_api_Pair (N : Nat) (x0 : List (Str × Str)) (x1 : Str × Str) : Option Bool :=
  bnd (slices_Index_api_Pair N x0 x1) fun t7 =>
  some (decide (t7 ≥ (0 : Int)))
abbrev z19sg (f : SV [.v (.sl (.pr .str .str)), .v (.pr .str .str)] → BV [] → Option (Bool)) : AF := { ps := [.v (.sl (.pr .str .str)), .v (.pr .str .str)], bs := [], rs := [.v .bool], cs := [], R := Bool, out := fun z => ((z, ()), ()), f := f }
abbrev z19pk : SV [.v .bool] → BV [] → Bool := fun x _ => x.1
def z19fn (N : Nat) : FuncId → Option Tmp → Option AF := fun f _ =>
  match f with
    | 207 => some (z24sg fun x _ => slices_Index_api_Pair N x.1 x.2.1)
    | _ => none
theorem z19fn_ok (N : Nat) : ∀ f q F, z19fn N f q = some F → Sound Tryz.prog GW B0G f F := by
  intro f q F h
  unfold z19fn at h
  split at h
  · cases h; exact z24sound N
  · cases h
def z19h : Nat → Hint := fun i =>
  match i with
  | _ => ⟨[], [], [], [], [], []⟩
abbrev z19E (N : Nat) : Env := mkE z19h (z19fn N) (fun _ => false) (fun _ => false)
noncomputable def z19LP (N : Nat) : Nat → Code → St → (Ex → St → Option Bool) → Option Bool := fun i c =>
  match i with
  | i => fun st k => iter (z19h i) (exec (z19E N) N c i) N st k
theorem z19core (N : Nat) (x : SV [.v (.sl (.pr .str .str)), .v (.pr .str .str)]) (y : BV []) : runL (z19E N) Tryz.f185 (z19sg fun x _ => slices_Contains_api_Pair N x.1 x.2.1) z19pk (z19LP N) x y = slices_Contains_api_Pair N x.1 x.2.1 := by kernel_rfl
theorem z19sound (N : Nat) : Sound Tryz.prog GW B0G 185 (z19sg fun x _ => slices_Contains_api_Pair N x.1 x.2.1) :=
  runD_sound (mkE_ok z19h (z19fn N) _ _ (z19fn_ok N)) Tryz.func185 rfl Tryz.call185 (z19sg fun x _ => slices_Contains_api_Pair N x.1 x.2.1) z19pk (fun _ _ => rfl) N (fun x y _ h => ((runL_eq (z19E N) N Tryz.f185 (z19sg fun x _ => slices_Contains_api_Pair N x.1 x.2.1) z19pk (z19LP N) (show LoopsOk (z19LP N) (z19E N) N (resD (z19E N) Tryz.f185 (z19sg fun x _ => slices_Contains_api_Pair N x.1 x.2.1) z19pk) [] from trivial) x y).trans (z19core N x y)).trans h)
def z83L0T (N : Nat) (x1 : List (Str × Str)) (x0 : List (Str × Str)) (c8 : Int) (k0 : Option Bool) (self : Int → Option Bool) (s9 : Int) : Option Bool :=
  br (decide (s9 < c8))
    (bnd (geti x0 s9) fun t11 =>
    bnd (slices_Contains_api_Pair N x1 t11) fun t15 =>
    br (!t15)
      (some false)
      (self (IntKind.i64.wrap (s9 + (1 : Int)))))
    (k0)
def z83L0 (N : Nat) (x1 : List (Str × Str)) (x0 : List (Str × Str)) (c8 : Int) (k0 : Option Bool) : Nat → Int → Option Bool
  | 0, _ => none
  | n + 1, s9 => z83L0T N x1 x0 c8 k0 (z83L0 N x1 x0 c8 k0 n) s9
def config_Fit (N : Nat) (x0 : List (Str × Str)) (x1 : List (Str × Str)) : Option Bool :=
  z83L0 N x1 x0 (x0.length : Int) (some true) N (0 : Int)
abbrev z83sg (f : SV [.v (.sl (.pr .str .str)), .v (.sl (.pr .str .str))] → BV [] → Option (Bool)) : AF := { ps := [.v (.sl (.pr .str .str)), .v (.sl (.pr .str .str))], bs := [], rs := [.v .bool], cs := [], R := Bool, out := fun z => ((z, ()), ()), f := f }
abbrev z83pk : SV [.v .bool] → BV [] → Bool := fun x _ => x.1
def z83fn (N : Nat) : FuncId → Option Tmp → Option AF := fun f _ =>
  match f with
    | 185 => some (z19sg fun x _ => slices_Contains_api_Pair N x.1 x.2.1)
    | _ => none
theorem z83fn_ok (N : Nat) : ∀ f q F, z83fn N f q = some F → Sound Tryz.prog GW B0G f F := by
  intro f q F h
  unfold z83fn at h
  split at h
  · cases h; exact z19sound N
  · cases h
def z83h : Nat → Hint := fun i =>
  match i with
  | 0 => ⟨[], [1, 7, 8, 9], [], [], [], []⟩
  | _ => ⟨[], [], [], [], [], []⟩
abbrev z83E (N : Nat) : Env := mkE z83h (z83fn N) (fun _ => false) (fun _ => false)
abbrev z83L0_fs : List (Nat × Sl) := [(1, .v (.sl (.pr .str .str))), (7, .v (.sl (.pr .str .str))), (8, .v (.int .i64)), (9, .v (.int .i64))]
abbrev z83L0_bs : List (Nat × Sb) := []
def z83L0_hd (x1 : List (Str × Str)) (x0 : List (Str × Str)) (c8 : Int) (s9 : Int) : St := ⟨18, [(1, .v (.sl (.pr .str .str)) x1), (7, .v (.sl (.pr .str .str)) x0), (8, .v (.int .i64) c8), (9, .v (.int .i64) s9)], []⟩
def z83L0_tl0 (_x1 : List (Str × Str)) (_x0 : List (Str × Str)) (_c8 : Int) : St := ⟨18, [], []⟩
def z83L0_G (N : Nat) (x1 : List (Str × Str)) (x0 : List (Str × Str)) (c8 : Int) (s9 : Int) (k : Ex → St → Option Bool) : Option Bool :=
  z83L0 N x1 x0 c8 (k (.exit 0) (z83L0_tl0 x1 x0 c8)) N s9
abbrev z83L0_F (N : Nat) : FV z83L0_fs → HV z83L0_bs → (Ex → St → Option Bool) → Option Bool := fun x _ k => z83L0_G N x.1 x.2.1 x.2.2.1 x.2.2.2.1 k
noncomputable def z83LP (N : Nat) : Nat → Code → St → (Ex → St → Option Bool) → Option Bool := fun i c =>
  match i with
  | 0 => (LPc 18 z83L0_fs z83L0_bs (z83L0_F N) (fun st k => iter (z83h 0) (exec (z83E N) N c 0) N st k))
  | i => fun st k => iter (z83h i) (exec (z83E N) N c i) N st k
theorem z83L0_step (N : Nat) (x1 : List (Str × Str)) (x0 : List (Str × Str)) (c8 : Int) (KX : Nat → St → Option Bool) (I : St → Option Bool) (s9 : Int) :
    execL (z83LP N) (z83E N) (cAt (bodyOf Tryz.f134) [true, false, true, false, false]) 0 (z83L0_hd x1 x0 c8 s9) (roundK (z83h 0) I KX (resD (z83E N) Tryz.f134 (z83sg fun x _ => config_Fit N x.1 x.2.1) z83pk)) = z83L0T N x1 x0 c8 (KX 0 (z83L0_tl0 x1 x0 c8)) (fun s9 => I (z83L0_hd x1 x0 c8 s9)) s9 := by kernel_rfl
theorem z83L0_ok (N : Nat) : ∀ x y k, (∀ st, k .ret st = (resD (z83E N) Tryz.f134 (z83sg fun x _ => config_Fit N x.1 x.2.1) z83pk) st) → iter (z83h 0) (exec (z83E N) N (cAt (bodyOf Tryz.f134) [true, false, true, false, false]) 0) N ⟨18, unF z83L0_fs x, unH z83L0_bs y⟩ k = z83L0_F N x y k := fun x _ k hk =>
  iter_link (S := (Int) × Unit) (z83h 0) _ (execL (z83LP N) (z83E N) (cAt (bodyOf Tryz.f134) [true, false, true, false, false]) 0) (resD (z83E N) Tryz.f134 (z83sg fun x _ => config_Fit N x.1 x.2.1) z83pk) (fun st k hk => execL_eq _ _ N _ (cAt (bodyOf Tryz.f134) [true, false, true, false, false]) 0 (show LoopsOk (z83LP N) (z83E N) N (resD (z83E N) Tryz.f134 (z83sg fun x _ => config_Fit N x.1 x.2.1) z83pk) [] from trivial) st k hk) (fun s => z83L0_hd x.1 x.2.1 x.2.2.1 s.1) k hk
    (fun self s => z83L0T N x.1 x.2.1 x.2.2.1 (k (.exit 0) (z83L0_tl0 x.1 x.2.1 x.2.2.1)) (fun s9 => self (s9, ())) s.1) (fun n s => z83L0 N x.1 x.2.1 x.2.2.1 (k (.exit 0) (z83L0_tl0 x.1 x.2.1 x.2.2.1)) n s.1) (fun _ => rfl) (fun _ _ => rfl)
    (fun I s => z83L0_step N x.1 x.2.1 x.2.2.1 (fun j => k (.exit j)) I s.1) N (x.2.2.2.1, ())
theorem z83lp0 (N : Nat) : ∀ st k, (∀ st, k .ret st = (resD (z83E N) Tryz.f134 (z83sg fun x _ => config_Fit N x.1 x.2.1) z83pk) st) → z83LP N 0 (cAt (bodyOf Tryz.f134) [true, false, true, false, false]) st k = iter (Env.hint (z83E N) 0) (exec (z83E N) N (cAt (bodyOf Tryz.f134) [true, false, true, false, false]) 0) N st k := fun st k hk => LPc_eq 18 z83L0_fs z83L0_bs _ _ (resD (z83E N) Tryz.f134 (z83sg fun x _ => config_Fit N x.1 x.2.1) z83pk) (z83L0_ok N) _ st k hk (rfl)
theorem z83core (N : Nat) (x : SV [.v (.sl (.pr .str .str)), .v (.sl (.pr .str .str))]) (y : BV []) : runL (z83E N) Tryz.f134 (z83sg fun x _ => config_Fit N x.1 x.2.1) z83pk (z83LP N) x y = config_Fit N x.1 x.2.1 := by kernel_rfl
theorem z83sound (N : Nat) : Sound Tryz.prog GW B0G 134 (z83sg fun x _ => config_Fit N x.1 x.2.1) :=
  runD_sound (mkE_ok z83h (z83fn N) _ _ (z83fn_ok N)) Tryz.func134 rfl Tryz.call134 (z83sg fun x _ => config_Fit N x.1 x.2.1) z83pk (fun _ _ => rfl) N (fun x y _ h => ((runL_eq (z83E N) N Tryz.f134 (z83sg fun x _ => config_Fit N x.1 x.2.1) z83pk (z83LP N) (show LoopsOk (z83LP N) (z83E N) N (resD (z83E N) Tryz.f134 (z83sg fun x _ => config_Fit N x.1 x.2.1) z83pk) [(0, (cAt (bodyOf Tryz.f134) [true, false, true, false, false]))] from ⟨z83lp0 N, trivial⟩) x y).trans (z83core N x y)).trans h)
def z68L0T (N : Nat) (x0 : List (Str × List Str)) (x2 : List (Str × Str)) (c12 : List (Str × Str)) (c13 : Int) (k0 : Option Bool) (self : Int → Option Bool) (s14 : Int) : Option Bool :=
  br (decide (s14 < c13))
    (bnd (geti c12 s14) fun t16 =>
    bnd (config_valueOf N x0 x2 t16.1) fun t22 =>
    br (!(t22 == t16.2))
      (some false)
      (self (IntKind.i64.wrap (s14 + (1 : Int)))))
    (k0)
def z68L0 (N : Nat) (x0 : List (Str × List Str)) (x2 : List (Str × Str)) (c12 : List (Str × Str)) (c13 : Int) (k0 : Option Bool) : Nat → Int → Option Bool
  | 0, _ => none
  | n + 1, s14 => z68L0T N x0 x2 c12 c13 k0 (z68L0 N x0 x2 c12 c13 k0 n) s14
def config_holds (N : Nat) (x0 : List (Str × List Str)) (x1 : Str × List (Str × Str) × List (Str × Str)) (x2 : List (Str × Str)) (x3 : Str × List (Str × Str)) : Option Bool :=
  z68L0 N x0 x2 x1.2.1 (x1.2.1.length : Int) (bnd (config_Fit N x1.2.2 x3.2) fun t31 =>
      some t31) N (0 : Int)
abbrev z68sg (f : SV [.v (.sl (.pr .str (.sl .str))), .v (.pr .str (.pr (.sl (.pr .str .str)) (.sl (.pr .str .str)))), .v (.sl (.pr .str .str)), .v (.pr .str (.sl (.pr .str .str)))] → BV [] → Option (Bool)) : AF := { ps := [.v (.sl (.pr .str (.sl .str))), .v (.pr .str (.pr (.sl (.pr .str .str)) (.sl (.pr .str .str)))), .v (.sl (.pr .str .str)), .v (.pr .str (.sl (.pr .str .str)))], bs := [], rs := [.v .bool], cs := [], R := Bool, out := fun z => ((z, ()), ()), f := f }
abbrev z68pk : SV [.v .bool] → BV [] → Bool := fun x _ => x.1
def z68fn (N : Nat) : FuncId → Option Tmp → Option AF := fun f _ =>
  match f with
    | 74 => some (z55sg fun x _ => config_valueOf N x.1 x.2.1 x.2.2.1)
    | 134 => some (z83sg fun x _ => config_Fit N x.1 x.2.1)
    | _ => none
theorem z68fn_ok (N : Nat) : ∀ f q F, z68fn N f q = some F → Sound Tryz.prog GW B0G f F := by
  intro f q F h
  unfold z68fn at h
  split at h
  · cases h; exact z55sound N
  · cases h; exact z83sound N
  · cases h
def z68h : Nat → Hint := fun i =>
  match i with
  | 0 => ⟨[], [0, 2, 5, 7, 12, 13, 14], [1005, 1007], [5, 7], [1005, 1007], []⟩
  | _ => ⟨[], [], [], [], [], []⟩
abbrev z68E (N : Nat) : Env := mkE z68h (z68fn N) (fun _ => false) (fun _ => false)
abbrev z68L0_fs : List (Nat × Sl) := [(0, .v (.sl (.pr .str (.sl .str)))), (2, .v (.sl (.pr .str .str))), (5, .box 1005 0), (7, .box 1007 0), (12, .v (.sl (.pr .str .str))), (13, .v (.int .i64)), (14, .v (.int .i64))]
abbrev z68L0_bs : List (Nat × Sb) := [(1005, .cells [.v .str, .v (.sl (.pr .str .str)), .v (.sl (.pr .str .str))]), (1007, .cells [.v .str, .v (.sl (.pr .str .str))])]
def z68L0_hd (x0 : List (Str × List Str)) (x2 : List (Str × Str)) (c12 : List (Str × Str)) (c13 : Int) (c1005_0 : Str) (c1005_1 : List (Str × Str)) (c1005_2 : List (Str × Str)) (c1007_0 : Str) (c1007_1 : List (Str × Str)) (s14 : Int) : St := ⟨32, [(0, .v (.sl (.pr .str (.sl .str))) x0), (2, .v (.sl (.pr .str .str)) x2), (5, .box 1005 0), (7, .box 1007 0), (12, .v (.sl (.pr .str .str)) c12), (13, .v (.int .i64) c13), (14, .v (.int .i64) s14)], [(1005, .cells [.v .str c1005_0, .v (.sl (.pr .str .str)) c1005_1, .v (.sl (.pr .str .str)) c1005_2]), (1007, .cells [.v .str c1007_0, .v (.sl (.pr .str .str)) c1007_1])]⟩
def z68L0_tl0 (_x0 : List (Str × List Str)) (_x2 : List (Str × Str)) (_c12 : List (Str × Str)) (_c13 : Int) (c1005_0 : Str) (c1005_1 : List (Str × Str)) (c1005_2 : List (Str × Str)) (c1007_0 : Str) (c1007_1 : List (Str × Str)) : St := ⟨32, [(5, .box 1005 0), (7, .box 1007 0)], [(1005, .cells [.v .str c1005_0, .v (.sl (.pr .str .str)) c1005_1, .v (.sl (.pr .str .str)) c1005_2]), (1007, .cells [.v .str c1007_0, .v (.sl (.pr .str .str)) c1007_1])]⟩
def z68L0_G (N : Nat) (x0 : List (Str × List Str)) (x2 : List (Str × Str)) (c12 : List (Str × Str)) (c13 : Int) (c1005_0 : Str) (c1005_1 : List (Str × Str)) (c1005_2 : List (Str × Str)) (c1007_0 : Str) (c1007_1 : List (Str × Str)) (s14 : Int) (k : Ex → St → Option Bool) : Option Bool :=
  z68L0 N x0 x2 c12 c13 (k (.exit 0) (z68L0_tl0 x0 x2 c12 c13 c1005_0 c1005_1 c1005_2 c1007_0 c1007_1)) N s14
abbrev z68L0_F (N : Nat) : FV z68L0_fs → HV z68L0_bs → (Ex → St → Option Bool) → Option Bool := fun x y k => z68L0_G N x.1 x.2.1 x.2.2.2.2.1 x.2.2.2.2.2.1 y.1.1 y.1.2.1 y.1.2.2.1 y.2.1.1 y.2.1.2.1 x.2.2.2.2.2.2.1 k
noncomputable def z68LP (N : Nat) : Nat → Code → St → (Ex → St → Option Bool) → Option Bool := fun i c =>
  match i with
  | 0 => (LPc 32 z68L0_fs z68L0_bs (z68L0_F N) (fun st k => iter (z68h 0) (exec (z68E N) N c 0) N st k))
  | i => fun st k => iter (z68h i) (exec (z68E N) N c i) N st k
theorem z68L0_step (N : Nat) (x0 : List (Str × List Str)) (x2 : List (Str × Str)) (c12 : List (Str × Str)) (c13 : Int) (c1005_0 : Str) (c1005_1 : List (Str × Str)) (c1005_2 : List (Str × Str)) (c1007_0 : Str) (c1007_1 : List (Str × Str)) (KX : Nat → St → Option Bool) (I : St → Option Bool) (s14 : Int) :
    execL (z68LP N) (z68E N) (cAt (bodyOf Tryz.f81) [true, false, true, false, false]) 0 (z68L0_hd x0 x2 c12 c13 c1005_0 c1005_1 c1005_2 c1007_0 c1007_1 s14) (roundK (z68h 0) I KX (resD (z68E N) Tryz.f81 (z68sg fun x _ => config_holds N x.1 x.2.1 x.2.2.1 x.2.2.2.1) z68pk)) = z68L0T N x0 x2 c12 c13 (KX 0 (z68L0_tl0 x0 x2 c12 c13 c1005_0 c1005_1 c1005_2 c1007_0 c1007_1)) (fun s14 => I (z68L0_hd x0 x2 c12 c13 c1005_0 c1005_1 c1005_2 c1007_0 c1007_1 s14)) s14 := by kernel_rfl
theorem z68L0_ok (N : Nat) : ∀ x y k, (∀ st, k .ret st = (resD (z68E N) Tryz.f81 (z68sg fun x _ => config_holds N x.1 x.2.1 x.2.2.1 x.2.2.2.1) z68pk) st) → iter (z68h 0) (exec (z68E N) N (cAt (bodyOf Tryz.f81) [true, false, true, false, false]) 0) N ⟨32, unF z68L0_fs x, unH z68L0_bs y⟩ k = z68L0_F N x y k := fun x y k hk =>
  iter_link (S := (Int) × Unit) (z68h 0) _ (execL (z68LP N) (z68E N) (cAt (bodyOf Tryz.f81) [true, false, true, false, false]) 0) (resD (z68E N) Tryz.f81 (z68sg fun x _ => config_holds N x.1 x.2.1 x.2.2.1 x.2.2.2.1) z68pk) (fun st k hk => execL_eq _ _ N _ (cAt (bodyOf Tryz.f81) [true, false, true, false, false]) 0 (show LoopsOk (z68LP N) (z68E N) N (resD (z68E N) Tryz.f81 (z68sg fun x _ => config_holds N x.1 x.2.1 x.2.2.1 x.2.2.2.1) z68pk) [] from trivial) st k hk) (fun s => z68L0_hd x.1 x.2.1 x.2.2.2.2.1 x.2.2.2.2.2.1 y.1.1 y.1.2.1 y.1.2.2.1 y.2.1.1 y.2.1.2.1 s.1) k hk
    (fun self s => z68L0T N x.1 x.2.1 x.2.2.2.2.1 x.2.2.2.2.2.1 (k (.exit 0) (z68L0_tl0 x.1 x.2.1 x.2.2.2.2.1 x.2.2.2.2.2.1 y.1.1 y.1.2.1 y.1.2.2.1 y.2.1.1 y.2.1.2.1)) (fun s14 => self (s14, ())) s.1) (fun n s => z68L0 N x.1 x.2.1 x.2.2.2.2.1 x.2.2.2.2.2.1 (k (.exit 0) (z68L0_tl0 x.1 x.2.1 x.2.2.2.2.1 x.2.2.2.2.2.1 y.1.1 y.1.2.1 y.1.2.2.1 y.2.1.1 y.2.1.2.1)) n s.1) (fun _ => rfl) (fun _ _ => rfl)
    (fun I s => z68L0_step N x.1 x.2.1 x.2.2.2.2.1 x.2.2.2.2.2.1 y.1.1 y.1.2.1 y.1.2.2.1 y.2.1.1 y.2.1.2.1 (fun j => k (.exit j)) I s.1) N (x.2.2.2.2.2.2.1, ())
theorem z68lp0 (N : Nat) : ∀ st k, (∀ st, k .ret st = (resD (z68E N) Tryz.f81 (z68sg fun x _ => config_holds N x.1 x.2.1 x.2.2.1 x.2.2.2.1) z68pk) st) → z68LP N 0 (cAt (bodyOf Tryz.f81) [true, false, true, false, false]) st k = iter (Env.hint (z68E N) 0) (exec (z68E N) N (cAt (bodyOf Tryz.f81) [true, false, true, false, false]) 0) N st k := fun st k hk => LPc_eq 32 z68L0_fs z68L0_bs _ _ (resD (z68E N) Tryz.f81 (z68sg fun x _ => config_holds N x.1 x.2.1 x.2.2.1 x.2.2.2.1) z68pk) (z68L0_ok N) _ st k hk (rfl)
theorem z68core (N : Nat) (x : SV [.v (.sl (.pr .str (.sl .str))), .v (.pr .str (.pr (.sl (.pr .str .str)) (.sl (.pr .str .str)))), .v (.sl (.pr .str .str)), .v (.pr .str (.sl (.pr .str .str)))]) (y : BV []) : runL (z68E N) Tryz.f81 (z68sg fun x _ => config_holds N x.1 x.2.1 x.2.2.1 x.2.2.2.1) z68pk (z68LP N) x y = config_holds N x.1 x.2.1 x.2.2.1 x.2.2.2.1 := by kernel_rfl
theorem z68sound (N : Nat) : Sound Tryz.prog GW B0G 81 (z68sg fun x _ => config_holds N x.1 x.2.1 x.2.2.1 x.2.2.2.1) :=
  runD_sound (mkE_ok z68h (z68fn N) _ _ (z68fn_ok N)) Tryz.func81 rfl Tryz.call81 (z68sg fun x _ => config_holds N x.1 x.2.1 x.2.2.1 x.2.2.2.1) z68pk (fun _ _ => rfl) N (fun x y _ h => ((runL_eq (z68E N) N Tryz.f81 (z68sg fun x _ => config_holds N x.1 x.2.1 x.2.2.1 x.2.2.2.1) z68pk (z68LP N) (show LoopsOk (z68LP N) (z68E N) N (resD (z68E N) Tryz.f81 (z68sg fun x _ => config_holds N x.1 x.2.1 x.2.2.1 x.2.2.2.1) z68pk) [(0, (cAt (bodyOf Tryz.f81) [true, false, true, false, false]))] from ⟨z68lp0 N, trivial⟩) x y).trans (z68core N x y)).trans h)
def z46L0T (_N : Nat) (x0 : Str) (c5 : Int) (k0 : Option Bool) (self : Int → Option Bool) (s6 : Int) : Option Bool :=
  br (decide (s6 < c5))
    (bnd (geti x0 s6) fun t11 =>
    br (decide (t11 < (32 : UInt8)))
      (some false)
      (bnd (geti x0 s6) fun t16 =>
      br (decide (t16 > (126 : UInt8)))
        (some false)
        (self (IntKind.i64.wrap (s6 + (1 : Int))))))
    (k0)
def z46L0 (N : Nat) (x0 : Str) (c5 : Int) (k0 : Option Bool) : Nat → Int → Option Bool
  | 0, _ => none
  | n + 1, s6 => z46L0T N x0 c5 k0 (z46L0 N x0 c5 k0 n) s6
def ref3_isCondition (N : Nat) (x0 : Str) : Option Bool :=
  z46L0 N x0 (x0.length : Int) (bnd (ref3_within N (x0.length : Int) (1 : Int) (1000 : Int)) fun t22 =>
      br (t22)
        (some (!(x0 == ([100, 101, 102, 97, 117, 108, 116] : Str))))
        (some false)) N (0 : Int)
abbrev z46sg (f : SV [.v .str] → BV [] → Option (Bool)) : AF := { ps := [.v .str], bs := [], rs := [.v .bool], cs := [], R := Bool, out := fun z => ((z, ()), ()), f := f }
abbrev z46pk : SV [.v .bool] → BV [] → Bool := fun x _ => x.1
def z46fn (N : Nat) : FuncId → Option Tmp → Option AF := fun f _ =>
  match f with
    | 104 => some (z82sg fun x _ => ref3_within N x.1 x.2.1 x.2.2.1)
    | _ => none
theorem z46fn_ok (N : Nat) : ∀ f q F, z46fn N f q = some F → Sound Tryz.prog GW B0G f F := by
  intro f q F h
  unfold z46fn at h
  split at h
  · cases h; exact z82sound N
  · cases h
def z46h : Nat → Hint := fun i =>
  match i with
  | 0 => ⟨[], [0, 5, 6], [], [0], [], []⟩
  | _ => ⟨[], [], [], [], [], []⟩
abbrev z46E (N : Nat) : Env := mkE z46h (z46fn N) (fun _ => false) (fun _ => false)
abbrev z46L0_fs : List (Nat × Sl) := [(0, .v .str), (5, .v (.int .i64)), (6, .v (.int .i64))]
abbrev z46L0_bs : List (Nat × Sb) := []
def z46L0_hd (x0 : Str) (c5 : Int) (s6 : Int) : St := ⟨27, [(0, .v .str x0), (5, .v (.int .i64) c5), (6, .v (.int .i64) s6)], []⟩
def z46L0_tl0 (x0 : Str) (_c5 : Int) : St := ⟨27, [(0, .v .str x0)], []⟩
def z46L0_G (N : Nat) (x0 : Str) (c5 : Int) (s6 : Int) (k : Ex → St → Option Bool) : Option Bool :=
  z46L0 N x0 c5 (k (.exit 0) (z46L0_tl0 x0 c5)) N s6
abbrev z46L0_F (N : Nat) : FV z46L0_fs → HV z46L0_bs → (Ex → St → Option Bool) → Option Bool := fun x _ k => z46L0_G N x.1 x.2.1 x.2.2.1 k
noncomputable def z46LP (N : Nat) : Nat → Code → St → (Ex → St → Option Bool) → Option Bool := fun i c =>
  match i with
  | 0 => (LPc 27 z46L0_fs z46L0_bs (z46L0_F N) (fun st k => iter (z46h 0) (exec (z46E N) N c 0) N st k))
  | i => fun st k => iter (z46h i) (exec (z46E N) N c i) N st k
theorem z46L0_step (N : Nat) (x0 : Str) (c5 : Int) (KX : Nat → St → Option Bool) (I : St → Option Bool) (s6 : Int) :
    execL (z46LP N) (z46E N) (cAt (bodyOf Tryz.f124) [true, false, true, false, false]) 0 (z46L0_hd x0 c5 s6) (roundK (z46h 0) I KX (resD (z46E N) Tryz.f124 (z46sg fun x _ => ref3_isCondition N x.1) z46pk)) = z46L0T N x0 c5 (KX 0 (z46L0_tl0 x0 c5)) (fun s6 => I (z46L0_hd x0 c5 s6)) s6 := by kernel_rfl
theorem z46L0_ok (N : Nat) : ∀ x y k, (∀ st, k .ret st = (resD (z46E N) Tryz.f124 (z46sg fun x _ => ref3_isCondition N x.1) z46pk) st) → iter (z46h 0) (exec (z46E N) N (cAt (bodyOf Tryz.f124) [true, false, true, false, false]) 0) N ⟨27, unF z46L0_fs x, unH z46L0_bs y⟩ k = z46L0_F N x y k := fun x _ k hk =>
  iter_link (S := (Int) × Unit) (z46h 0) _ (execL (z46LP N) (z46E N) (cAt (bodyOf Tryz.f124) [true, false, true, false, false]) 0) (resD (z46E N) Tryz.f124 (z46sg fun x _ => ref3_isCondition N x.1) z46pk) (fun st k hk => execL_eq _ _ N _ (cAt (bodyOf Tryz.f124) [true, false, true, false, false]) 0 (show LoopsOk (z46LP N) (z46E N) N (resD (z46E N) Tryz.f124 (z46sg fun x _ => ref3_isCondition N x.1) z46pk) [] from trivial) st k hk) (fun s => z46L0_hd x.1 x.2.1 s.1) k hk
    (fun self s => z46L0T N x.1 x.2.1 (k (.exit 0) (z46L0_tl0 x.1 x.2.1)) (fun s6 => self (s6, ())) s.1) (fun n s => z46L0 N x.1 x.2.1 (k (.exit 0) (z46L0_tl0 x.1 x.2.1)) n s.1) (fun _ => rfl) (fun _ _ => rfl)
    (fun I s => z46L0_step N x.1 x.2.1 (fun j => k (.exit j)) I s.1) N (x.2.2.1, ())
theorem z46lp0 (N : Nat) : ∀ st k, (∀ st, k .ret st = (resD (z46E N) Tryz.f124 (z46sg fun x _ => ref3_isCondition N x.1) z46pk) st) → z46LP N 0 (cAt (bodyOf Tryz.f124) [true, false, true, false, false]) st k = iter (Env.hint (z46E N) 0) (exec (z46E N) N (cAt (bodyOf Tryz.f124) [true, false, true, false, false]) 0) N st k := fun st k hk => LPc_eq 27 z46L0_fs z46L0_bs _ _ (resD (z46E N) Tryz.f124 (z46sg fun x _ => ref3_isCondition N x.1) z46pk) (z46L0_ok N) _ st k hk (rfl)
theorem z46core (N : Nat) (x : SV [.v .str]) (y : BV []) : runL (z46E N) Tryz.f124 (z46sg fun x _ => ref3_isCondition N x.1) z46pk (z46LP N) x y = ref3_isCondition N x.1 := by kernel_rfl
theorem z46sound (N : Nat) : Sound Tryz.prog GW B0G 124 (z46sg fun x _ => ref3_isCondition N x.1) :=
  runD_sound (mkE_ok z46h (z46fn N) _ _ (z46fn_ok N)) Tryz.func124 rfl Tryz.call124 (z46sg fun x _ => ref3_isCondition N x.1) z46pk (fun _ _ => rfl) N (fun x y _ h => ((runL_eq (z46E N) N Tryz.f124 (z46sg fun x _ => ref3_isCondition N x.1) z46pk (z46LP N) (show LoopsOk (z46LP N) (z46E N) N (resD (z46E N) Tryz.f124 (z46sg fun x _ => ref3_isCondition N x.1) z46pk) [(0, (cAt (bodyOf Tryz.f124) [true, false, true, false, false]))] from ⟨z46lp0 N, trivial⟩) x y).trans (z46core N x y)).trans h)
def z53L0T (N : Nat) (x0 : List (Str × List Str)) (x1 : List (Str × Str)) (c9 : List (Str × Str)) (c10 : Int) (k0 : Option Int) (self : Int → Option Int) (s11 : Int) : Option Int :=
  br (decide (s11 < c10))
    (bnd (geti c9 s11) fun t14 =>
    bnd (ref3_settingOf N x0 t14.1) fun t20 =>
    br (!t20.2)
      (some (5 : Int))
      (bnd (slices_Contains_string_string N t20.1.2 t14.2) fun t31 =>
      br (!t31)
        (some (1 : Int))
        (br (decide (s11 > (0 : Int)))
          (bnd (geti x1 (IntKind.i64.wrap (s11 - (1 : Int)))) fun t42 =>
          br (Op.bytesLess t14.1 t42.1 || t14.1 == t42.1)
            (some (8 : Int))
            (self (IntKind.i64.wrap (s11 + (1 : Int)))))
          (self (IntKind.i64.wrap (s11 + (1 : Int)))))))
    (k0)
def z53L0 (N : Nat) (x0 : List (Str × List Str)) (x1 : List (Str × Str)) (c9 : List (Str × Str)) (c10 : Int) (k0 : Option Int) : Nat → Int → Option Int
  | 0, _ => none
  | n + 1, s11 => z53L0T N x0 x1 c9 c10 k0 (z53L0 N x0 x1 c9 c10 k0 n) s11
def ref3_checkNeeds (N : Nat) (x0 : List (Str × List Str)) (x1 : List (Str × Str)) : Option Int :=
  z53L0 N x0 x1 x1 (x1.length : Int) (some (0 : Int)) N (0 : Int)
abbrev z53sg (f : SV [.v (.sl (.pr .str (.sl .str))), .v (.sl (.pr .str .str))] → BV [] → Option (Int)) : AF := { ps := [.v (.sl (.pr .str (.sl .str))), .v (.sl (.pr .str .str))], bs := [], rs := [.v (.int .i64)], cs := [], R := Int, out := fun z => ((z, ()), ()), f := f }
abbrev z53pk : SV [.v (.int .i64)] → BV [] → Int := fun x _ => x.1
def z53fn (N : Nat) : FuncId → Option Tmp → Option AF := fun f _ =>
  match f with
    | 56 => some (z7sg fun x _ => slices_Contains_string_string N x.1 x.2.1)
    | 100 => some (z59sg fun x _ => ref3_settingOf N x.1 x.2.1)
    | _ => none
theorem z53fn_ok (N : Nat) : ∀ f q F, z53fn N f q = some F → Sound Tryz.prog GW B0G f F := by
  intro f q F h
  unfold z53fn at h
  split at h
  · cases h; exact z7sound N
  · cases h; exact z59sound N
  · cases h
def z53h : Nat → Hint := fun i =>
  match i with
  | 0 => ⟨[], [0, 1, 9, 10, 11], [], [], [], []⟩
  | _ => ⟨[], [], [], [], [], []⟩
abbrev z53E (N : Nat) : Env := mkE z53h (z53fn N) (fun _ => false) (fun _ => false)
abbrev z53L0_fs : List (Nat × Sl) := [(0, .v (.sl (.pr .str (.sl .str)))), (1, .v (.sl (.pr .str .str))), (9, .v (.sl (.pr .str .str))), (10, .v (.int .i64)), (11, .v (.int .i64))]
abbrev z53L0_bs : List (Nat × Sb) := []
def z53L0_hd (x0 : List (Str × List Str)) (x1 : List (Str × Str)) (c9 : List (Str × Str)) (c10 : Int) (s11 : Int) : St := ⟨48, [(0, .v (.sl (.pr .str (.sl .str))) x0), (1, .v (.sl (.pr .str .str)) x1), (9, .v (.sl (.pr .str .str)) c9), (10, .v (.int .i64) c10), (11, .v (.int .i64) s11)], []⟩
def z53L0_tl0 (_x0 : List (Str × List Str)) (_x1 : List (Str × Str)) (_c9 : List (Str × Str)) (_c10 : Int) : St := ⟨48, [], []⟩
def z53L0_G (N : Nat) (x0 : List (Str × List Str)) (x1 : List (Str × Str)) (c9 : List (Str × Str)) (c10 : Int) (s11 : Int) (k : Ex → St → Option Int) : Option Int :=
  z53L0 N x0 x1 c9 c10 (k (.exit 0) (z53L0_tl0 x0 x1 c9 c10)) N s11
abbrev z53L0_F (N : Nat) : FV z53L0_fs → HV z53L0_bs → (Ex → St → Option Int) → Option Int := fun x _ k => z53L0_G N x.1 x.2.1 x.2.2.1 x.2.2.2.1 x.2.2.2.2.1 k
noncomputable def z53LP (N : Nat) : Nat → Code → St → (Ex → St → Option Int) → Option Int := fun i c =>
  match i with
  | 0 => (LPc 48 z53L0_fs z53L0_bs (z53L0_F N) (fun st k => iter (z53h 0) (exec (z53E N) N c 0) N st k))
  | i => fun st k => iter (z53h i) (exec (z53E N) N c i) N st k
theorem z53L0_step (N : Nat) (x0 : List (Str × List Str)) (x1 : List (Str × Str)) (c9 : List (Str × Str)) (c10 : Int) (KX : Nat → St → Option Int) (I : St → Option Int) (s11 : Int) :
    execL (z53LP N) (z53E N) (cAt (bodyOf Tryz.f51) [true, false, true, false, false]) 0 (z53L0_hd x0 x1 c9 c10 s11) (roundK (z53h 0) I KX (resD (z53E N) Tryz.f51 (z53sg fun x _ => ref3_checkNeeds N x.1 x.2.1) z53pk)) = z53L0T N x0 x1 c9 c10 (KX 0 (z53L0_tl0 x0 x1 c9 c10)) (fun s11 => I (z53L0_hd x0 x1 c9 c10 s11)) s11 := by kernel_rfl
theorem z53L0_ok (N : Nat) : ∀ x y k, (∀ st, k .ret st = (resD (z53E N) Tryz.f51 (z53sg fun x _ => ref3_checkNeeds N x.1 x.2.1) z53pk) st) → iter (z53h 0) (exec (z53E N) N (cAt (bodyOf Tryz.f51) [true, false, true, false, false]) 0) N ⟨48, unF z53L0_fs x, unH z53L0_bs y⟩ k = z53L0_F N x y k := fun x _ k hk =>
  iter_link (S := (Int) × Unit) (z53h 0) _ (execL (z53LP N) (z53E N) (cAt (bodyOf Tryz.f51) [true, false, true, false, false]) 0) (resD (z53E N) Tryz.f51 (z53sg fun x _ => ref3_checkNeeds N x.1 x.2.1) z53pk) (fun st k hk => execL_eq _ _ N _ (cAt (bodyOf Tryz.f51) [true, false, true, false, false]) 0 (show LoopsOk (z53LP N) (z53E N) N (resD (z53E N) Tryz.f51 (z53sg fun x _ => ref3_checkNeeds N x.1 x.2.1) z53pk) [] from trivial) st k hk) (fun s => z53L0_hd x.1 x.2.1 x.2.2.1 x.2.2.2.1 s.1) k hk
    (fun self s => z53L0T N x.1 x.2.1 x.2.2.1 x.2.2.2.1 (k (.exit 0) (z53L0_tl0 x.1 x.2.1 x.2.2.1 x.2.2.2.1)) (fun s11 => self (s11, ())) s.1) (fun n s => z53L0 N x.1 x.2.1 x.2.2.1 x.2.2.2.1 (k (.exit 0) (z53L0_tl0 x.1 x.2.1 x.2.2.1 x.2.2.2.1)) n s.1) (fun _ => rfl) (fun _ _ => rfl)
    (fun I s => z53L0_step N x.1 x.2.1 x.2.2.1 x.2.2.2.1 (fun j => k (.exit j)) I s.1) N (x.2.2.2.2.1, ())
theorem z53lp0 (N : Nat) : ∀ st k, (∀ st, k .ret st = (resD (z53E N) Tryz.f51 (z53sg fun x _ => ref3_checkNeeds N x.1 x.2.1) z53pk) st) → z53LP N 0 (cAt (bodyOf Tryz.f51) [true, false, true, false, false]) st k = iter (Env.hint (z53E N) 0) (exec (z53E N) N (cAt (bodyOf Tryz.f51) [true, false, true, false, false]) 0) N st k := fun st k hk => LPc_eq 48 z53L0_fs z53L0_bs _ _ (resD (z53E N) Tryz.f51 (z53sg fun x _ => ref3_checkNeeds N x.1 x.2.1) z53pk) (z53L0_ok N) _ st k hk (rfl)
theorem z53core (N : Nat) (x : SV [.v (.sl (.pr .str (.sl .str))), .v (.sl (.pr .str .str))]) (y : BV []) : runL (z53E N) Tryz.f51 (z53sg fun x _ => ref3_checkNeeds N x.1 x.2.1) z53pk (z53LP N) x y = ref3_checkNeeds N x.1 x.2.1 := by kernel_rfl
theorem z53sound (N : Nat) : Sound Tryz.prog GW B0G 51 (z53sg fun x _ => ref3_checkNeeds N x.1 x.2.1) :=
  runD_sound (mkE_ok z53h (z53fn N) _ _ (z53fn_ok N)) Tryz.func51 rfl Tryz.call51 (z53sg fun x _ => ref3_checkNeeds N x.1 x.2.1) z53pk (fun _ _ => rfl) N (fun x y _ h => ((runL_eq (z53E N) N Tryz.f51 (z53sg fun x _ => ref3_checkNeeds N x.1 x.2.1) z53pk (z53LP N) (show LoopsOk (z53LP N) (z53E N) N (resD (z53E N) Tryz.f51 (z53sg fun x _ => ref3_checkNeeds N x.1 x.2.1) z53pk) [(0, (cAt (bodyOf Tryz.f51) [true, false, true, false, false]))] from ⟨z53lp0 N, trivial⟩) x y).trans (z53core N x y)).trans h)
def z54L0T (N : Nat) (x0 : List (Str × Str)) (c8 : List (Str × Str)) (c9 : Int) (k0 : Option Int) (self : Int → Option Int) (s10 : Int) : Option Int :=
  br (decide (s10 < c9))
    (bnd (geti c8 s10) fun t13 =>
    bnd (ref3_IsWord N t13.1) fun t18 =>
    br (!t18)
      (some (5 : Int))
      (bnd (ref3_IsWord N t13.2) fun t23 =>
      br (!t23)
        (some (1 : Int))
        (br (decide (s10 > (0 : Int)))
          (bnd (geti x0 (IntKind.i64.wrap (s10 - (1 : Int)))) fun t34 =>
          br (Op.bytesLess t13.1 t34.1 || t13.1 == t34.1)
            (some (8 : Int))
            (self (IntKind.i64.wrap (s10 + (1 : Int)))))
          (self (IntKind.i64.wrap (s10 + (1 : Int)))))))
    (k0)
def z54L0 (N : Nat) (x0 : List (Str × Str)) (c8 : List (Str × Str)) (c9 : Int) (k0 : Option Int) : Nat → Int → Option Int
  | 0, _ => none
  | n + 1, s10 => z54L0T N x0 c8 c9 k0 (z54L0 N x0 c8 c9 k0 n) s10
def ref3_checkPairs (N : Nat) (x0 : List (Str × Str)) : Option Int :=
  br (decide ((x0.length : Int) > (30 : Int)))
    (some (2 : Int))
    (z54L0 N x0 x0 (x0.length : Int) (some (0 : Int)) N (0 : Int))
abbrev z54sg (f : SV [.v (.sl (.pr .str .str))] → BV [] → Option (Int)) : AF := { ps := [.v (.sl (.pr .str .str))], bs := [], rs := [.v (.int .i64)], cs := [], R := Int, out := fun z => ((z, ()), ()), f := f }
abbrev z54pk : SV [.v (.int .i64)] → BV [] → Int := fun x _ => x.1
def z54fn (N : Nat) : FuncId → Option Tmp → Option AF := fun f _ =>
  match f with
    | 50 => some (z79sg fun x _ => ref3_IsWord N x.1)
    | _ => none
theorem z54fn_ok (N : Nat) : ∀ f q F, z54fn N f q = some F → Sound Tryz.prog GW B0G f F := by
  intro f q F h
  unfold z54fn at h
  split at h
  · cases h; exact z79sound N
  · cases h
def z54h : Nat → Hint := fun i =>
  match i with
  | 0 => ⟨[], [0, 8, 9, 10], [], [], [], []⟩
  | _ => ⟨[], [], [], [], [], []⟩
abbrev z54E (N : Nat) : Env := mkE z54h (z54fn N) (fun _ => false) (fun _ => false)
abbrev z54L0_fs : List (Nat × Sl) := [(0, .v (.sl (.pr .str .str))), (8, .v (.sl (.pr .str .str))), (9, .v (.int .i64)), (10, .v (.int .i64))]
abbrev z54L0_bs : List (Nat × Sb) := []
def z54L0_hd (x0 : List (Str × Str)) (c8 : List (Str × Str)) (c9 : Int) (s10 : Int) : St := ⟨40, [(0, .v (.sl (.pr .str .str)) x0), (8, .v (.sl (.pr .str .str)) c8), (9, .v (.int .i64) c9), (10, .v (.int .i64) s10)], []⟩
def z54L0_tl0 (_x0 : List (Str × Str)) (_c8 : List (Str × Str)) (_c9 : Int) : St := ⟨40, [], []⟩
def z54L0_G (N : Nat) (x0 : List (Str × Str)) (c8 : List (Str × Str)) (c9 : Int) (s10 : Int) (k : Ex → St → Option Int) : Option Int :=
  z54L0 N x0 c8 c9 (k (.exit 0) (z54L0_tl0 x0 c8 c9)) N s10
abbrev z54L0_F (N : Nat) : FV z54L0_fs → HV z54L0_bs → (Ex → St → Option Int) → Option Int := fun x _ k => z54L0_G N x.1 x.2.1 x.2.2.1 x.2.2.2.1 k
noncomputable def z54LP (N : Nat) : Nat → Code → St → (Ex → St → Option Int) → Option Int := fun i c =>
  match i with
  | 0 => (LPc 40 z54L0_fs z54L0_bs (z54L0_F N) (fun st k => iter (z54h 0) (exec (z54E N) N c 0) N st k))
  | i => fun st k => iter (z54h i) (exec (z54E N) N c i) N st k
theorem z54L0_step (N : Nat) (x0 : List (Str × Str)) (c8 : List (Str × Str)) (c9 : Int) (KX : Nat → St → Option Int) (I : St → Option Int) (s10 : Int) :
    execL (z54LP N) (z54E N) (cAt (bodyOf Tryz.f125) [true, true, false, true, false, false]) 0 (z54L0_hd x0 c8 c9 s10) (roundK (z54h 0) I KX (resD (z54E N) Tryz.f125 (z54sg fun x _ => ref3_checkPairs N x.1) z54pk)) = z54L0T N x0 c8 c9 (KX 0 (z54L0_tl0 x0 c8 c9)) (fun s10 => I (z54L0_hd x0 c8 c9 s10)) s10 := by kernel_rfl
theorem z54L0_ok (N : Nat) : ∀ x y k, (∀ st, k .ret st = (resD (z54E N) Tryz.f125 (z54sg fun x _ => ref3_checkPairs N x.1) z54pk) st) → iter (z54h 0) (exec (z54E N) N (cAt (bodyOf Tryz.f125) [true, true, false, true, false, false]) 0) N ⟨40, unF z54L0_fs x, unH z54L0_bs y⟩ k = z54L0_F N x y k := fun x _ k hk =>
  iter_link (S := (Int) × Unit) (z54h 0) _ (execL (z54LP N) (z54E N) (cAt (bodyOf Tryz.f125) [true, true, false, true, false, false]) 0) (resD (z54E N) Tryz.f125 (z54sg fun x _ => ref3_checkPairs N x.1) z54pk) (fun st k hk => execL_eq _ _ N _ (cAt (bodyOf Tryz.f125) [true, true, false, true, false, false]) 0 (show LoopsOk (z54LP N) (z54E N) N (resD (z54E N) Tryz.f125 (z54sg fun x _ => ref3_checkPairs N x.1) z54pk) [] from trivial) st k hk) (fun s => z54L0_hd x.1 x.2.1 x.2.2.1 s.1) k hk
    (fun self s => z54L0T N x.1 x.2.1 x.2.2.1 (k (.exit 0) (z54L0_tl0 x.1 x.2.1 x.2.2.1)) (fun s10 => self (s10, ())) s.1) (fun n s => z54L0 N x.1 x.2.1 x.2.2.1 (k (.exit 0) (z54L0_tl0 x.1 x.2.1 x.2.2.1)) n s.1) (fun _ => rfl) (fun _ _ => rfl)
    (fun I s => z54L0_step N x.1 x.2.1 x.2.2.1 (fun j => k (.exit j)) I s.1) N (x.2.2.2.1, ())
theorem z54lp0 (N : Nat) : ∀ st k, (∀ st, k .ret st = (resD (z54E N) Tryz.f125 (z54sg fun x _ => ref3_checkPairs N x.1) z54pk) st) → z54LP N 0 (cAt (bodyOf Tryz.f125) [true, true, false, true, false, false]) st k = iter (Env.hint (z54E N) 0) (exec (z54E N) N (cAt (bodyOf Tryz.f125) [true, true, false, true, false, false]) 0) N st k := fun st k hk => LPc_eq 40 z54L0_fs z54L0_bs _ _ (resD (z54E N) Tryz.f125 (z54sg fun x _ => ref3_checkPairs N x.1) z54pk) (z54L0_ok N) _ st k hk (rfl)
theorem z54core (N : Nat) (x : SV [.v (.sl (.pr .str .str))]) (y : BV []) : runL (z54E N) Tryz.f125 (z54sg fun x _ => ref3_checkPairs N x.1) z54pk (z54LP N) x y = ref3_checkPairs N x.1 := by kernel_rfl
theorem z54sound (N : Nat) : Sound Tryz.prog GW B0G 125 (z54sg fun x _ => ref3_checkPairs N x.1) :=
  runD_sound (mkE_ok z54h (z54fn N) _ _ (z54fn_ok N)) Tryz.func125 rfl Tryz.call125 (z54sg fun x _ => ref3_checkPairs N x.1) z54pk (fun _ _ => rfl) N (fun x y _ h => ((runL_eq (z54E N) N Tryz.f125 (z54sg fun x _ => ref3_checkPairs N x.1) z54pk (z54LP N) (show LoopsOk (z54LP N) (z54E N) N (resD (z54E N) Tryz.f125 (z54sg fun x _ => ref3_checkPairs N x.1) z54pk) [(0, (cAt (bodyOf Tryz.f125) [true, true, false, true, false, false]))] from ⟨z54lp0 N, trivial⟩) x y).trans (z54core N x y)).trans h)
def z27L0T (N : Nat) (x0 : List (Str × List Str)) (x1 : List (Str × List (Str × Str) × List (Str × Str))) (c18 : List (Str × List (Str × Str) × List (Str × Str))) (c19 : Int) (k0 : Option Int) (self : Int → Option Int) (s20 : Int) : Option Int :=
  br (decide (s20 < c19))
    (bnd (geti c18 s20) fun t23 =>
    bnd (ref3_isCondition N t23.1) fun t27 =>
    br (!t27)
      (some (3 : Int))
      (br (decide ((t23.2.1.length : Int) > (30 : Int)))
        (some (2 : Int))
        (br (decide ((t23.2.2.length : Int) > (30 : Int)))
          (some (2 : Int))
          (bnd (ref3_checkNeeds N x0 t23.2.1) fun t42 =>
          br (t42 != (0 : Int))
            (some t42)
            (bnd (ref3_checkPairs N t23.2.2) fun t48 =>
            br (t48 != (0 : Int))
              (some t48)
              (br (decide (s20 > (0 : Int)))
                (bnd (geti x1 (IntKind.i64.wrap (s20 - (1 : Int)))) fun t60 =>
                br (Op.bytesLess t23.1 t60.1 || t23.1 == t60.1)
                  (some (8 : Int))
                  (self (IntKind.i64.wrap (s20 + (1 : Int)))))
                (self (IntKind.i64.wrap (s20 + (1 : Int))))))))))
    (k0)
def z27L0 (N : Nat) (x0 : List (Str × List Str)) (x1 : List (Str × List (Str × Str) × List (Str × Str))) (c18 : List (Str × List (Str × Str) × List (Str × Str))) (c19 : Int) (k0 : Option Int) : Nat → Int → Option Int
  | 0, _ => none
  | n + 1, s20 => z27L0T N x0 x1 c18 c19 k0 (z27L0 N x0 x1 c18 c19 k0 n) s20
def ref3_CheckConditions (N : Nat) (x0 : List (Str × List Str)) (x1 : List (Str × List (Str × Str) × List (Str × Str))) : Option Int :=
  bnd (ref3_CheckSettings N x0) fun t11 =>
  br (t11 != (0 : Int))
    (some t11)
    (br (decide ((x1.length : Int) > (100 : Int)))
      (some (2 : Int))
      (z27L0 N x0 x1 x1 (x1.length : Int) (some (0 : Int)) N (0 : Int)))
abbrev z27sg (f : SV [.v (.sl (.pr .str (.sl .str))), .v (.sl (.pr .str (.pr (.sl (.pr .str .str)) (.sl (.pr .str .str)))))] → BV [] → Option (Int)) : AF := { ps := [.v (.sl (.pr .str (.sl .str))), .v (.sl (.pr .str (.pr (.sl (.pr .str .str)) (.sl (.pr .str .str)))))], bs := [], rs := [.v (.int .i64)], cs := [], R := Int, out := fun z => ((z, ()), ()), f := f }
abbrev z27pk : SV [.v (.int .i64)] → BV [] → Int := fun x _ => x.1
def z27fn (N : Nat) : FuncId → Option Tmp → Option AF := fun f _ =>
  match f with
    | 49 => some (z36sg fun x _ => ref3_CheckSettings N x.1)
    | 51 => some (z53sg fun x _ => ref3_checkNeeds N x.1 x.2.1)
    | 124 => some (z46sg fun x _ => ref3_isCondition N x.1)
    | 125 => some (z54sg fun x _ => ref3_checkPairs N x.1)
    | _ => none
theorem z27fn_ok (N : Nat) : ∀ f q F, z27fn N f q = some F → Sound Tryz.prog GW B0G f F := by
  intro f q F h
  unfold z27fn at h
  split at h
  · cases h; exact z36sound N
  · cases h; exact z53sound N
  · cases h; exact z46sound N
  · cases h; exact z54sound N
  · cases h
def z27h : Nat → Hint := fun i =>
  match i with
  | 0 => ⟨[], [0, 1, 18, 19, 20], [], [], [], []⟩
  | _ => ⟨[], [], [], [], [], []⟩
abbrev z27E (N : Nat) : Env := mkE z27h (z27fn N) (fun _ => false) (fun _ => false)
abbrev z27L0_fs : List (Nat × Sl) := [(0, .v (.sl (.pr .str (.sl .str)))), (1, .v (.sl (.pr .str (.pr (.sl (.pr .str .str)) (.sl (.pr .str .str)))))), (18, .v (.sl (.pr .str (.pr (.sl (.pr .str .str)) (.sl (.pr .str .str)))))), (19, .v (.int .i64)), (20, .v (.int .i64))]
abbrev z27L0_bs : List (Nat × Sb) := []
def z27L0_hd (x0 : List (Str × List Str)) (x1 : List (Str × List (Str × Str) × List (Str × Str))) (c18 : List (Str × List (Str × Str) × List (Str × Str))) (c19 : Int) (s20 : Int) : St := ⟨66, [(0, .v (.sl (.pr .str (.sl .str))) x0), (1, .v (.sl (.pr .str (.pr (.sl (.pr .str .str)) (.sl (.pr .str .str))))) x1), (18, .v (.sl (.pr .str (.pr (.sl (.pr .str .str)) (.sl (.pr .str .str))))) c18), (19, .v (.int .i64) c19), (20, .v (.int .i64) s20)], []⟩
def z27L0_tl0 (_x0 : List (Str × List Str)) (_x1 : List (Str × List (Str × Str) × List (Str × Str))) (_c18 : List (Str × List (Str × Str) × List (Str × Str))) (_c19 : Int) : St := ⟨66, [], []⟩
def z27L0_G (N : Nat) (x0 : List (Str × List Str)) (x1 : List (Str × List (Str × Str) × List (Str × Str))) (c18 : List (Str × List (Str × Str) × List (Str × Str))) (c19 : Int) (s20 : Int) (k : Ex → St → Option Int) : Option Int :=
  z27L0 N x0 x1 c18 c19 (k (.exit 0) (z27L0_tl0 x0 x1 c18 c19)) N s20
abbrev z27L0_F (N : Nat) : FV z27L0_fs → HV z27L0_bs → (Ex → St → Option Int) → Option Int := fun x _ k => z27L0_G N x.1 x.2.1 x.2.2.1 x.2.2.2.1 x.2.2.2.2.1 k
noncomputable def z27LP (N : Nat) : Nat → Code → St → (Ex → St → Option Int) → Option Int := fun i c =>
  match i with
  | 0 => (LPc 66 z27L0_fs z27L0_bs (z27L0_F N) (fun st k => iter (z27h 0) (exec (z27E N) N c 0) N st k))
  | i => fun st k => iter (z27h i) (exec (z27E N) N c i) N st k
theorem z27L0_step (N : Nat) (x0 : List (Str × List Str)) (x1 : List (Str × List (Str × Str) × List (Str × Str))) (c18 : List (Str × List (Str × Str) × List (Str × Str))) (c19 : Int) (KX : Nat → St → Option Int) (I : St → Option Int) (s20 : Int) :
    execL (z27LP N) (z27E N) (cAt (bodyOf Tryz.f69) [true, true, true, false, true, false, false]) 0 (z27L0_hd x0 x1 c18 c19 s20) (roundK (z27h 0) I KX (resD (z27E N) Tryz.f69 (z27sg fun x _ => ref3_CheckConditions N x.1 x.2.1) z27pk)) = z27L0T N x0 x1 c18 c19 (KX 0 (z27L0_tl0 x0 x1 c18 c19)) (fun s20 => I (z27L0_hd x0 x1 c18 c19 s20)) s20 := by kernel_rfl
theorem z27L0_ok (N : Nat) : ∀ x y k, (∀ st, k .ret st = (resD (z27E N) Tryz.f69 (z27sg fun x _ => ref3_CheckConditions N x.1 x.2.1) z27pk) st) → iter (z27h 0) (exec (z27E N) N (cAt (bodyOf Tryz.f69) [true, true, true, false, true, false, false]) 0) N ⟨66, unF z27L0_fs x, unH z27L0_bs y⟩ k = z27L0_F N x y k := fun x _ k hk =>
  iter_link (S := (Int) × Unit) (z27h 0) _ (execL (z27LP N) (z27E N) (cAt (bodyOf Tryz.f69) [true, true, true, false, true, false, false]) 0) (resD (z27E N) Tryz.f69 (z27sg fun x _ => ref3_CheckConditions N x.1 x.2.1) z27pk) (fun st k hk => execL_eq _ _ N _ (cAt (bodyOf Tryz.f69) [true, true, true, false, true, false, false]) 0 (show LoopsOk (z27LP N) (z27E N) N (resD (z27E N) Tryz.f69 (z27sg fun x _ => ref3_CheckConditions N x.1 x.2.1) z27pk) [] from trivial) st k hk) (fun s => z27L0_hd x.1 x.2.1 x.2.2.1 x.2.2.2.1 s.1) k hk
    (fun self s => z27L0T N x.1 x.2.1 x.2.2.1 x.2.2.2.1 (k (.exit 0) (z27L0_tl0 x.1 x.2.1 x.2.2.1 x.2.2.2.1)) (fun s20 => self (s20, ())) s.1) (fun n s => z27L0 N x.1 x.2.1 x.2.2.1 x.2.2.2.1 (k (.exit 0) (z27L0_tl0 x.1 x.2.1 x.2.2.1 x.2.2.2.1)) n s.1) (fun _ => rfl) (fun _ _ => rfl)
    (fun I s => z27L0_step N x.1 x.2.1 x.2.2.1 x.2.2.2.1 (fun j => k (.exit j)) I s.1) N (x.2.2.2.2.1, ())
theorem z27lp0 (N : Nat) : ∀ st k, (∀ st, k .ret st = (resD (z27E N) Tryz.f69 (z27sg fun x _ => ref3_CheckConditions N x.1 x.2.1) z27pk) st) → z27LP N 0 (cAt (bodyOf Tryz.f69) [true, true, true, false, true, false, false]) st k = iter (Env.hint (z27E N) 0) (exec (z27E N) N (cAt (bodyOf Tryz.f69) [true, true, true, false, true, false, false]) 0) N st k := fun st k hk => LPc_eq 66 z27L0_fs z27L0_bs _ _ (resD (z27E N) Tryz.f69 (z27sg fun x _ => ref3_CheckConditions N x.1 x.2.1) z27pk) (z27L0_ok N) _ st k hk (rfl)
theorem z27core (N : Nat) (x : SV [.v (.sl (.pr .str (.sl .str))), .v (.sl (.pr .str (.pr (.sl (.pr .str .str)) (.sl (.pr .str .str)))))]) (y : BV []) : runL (z27E N) Tryz.f69 (z27sg fun x _ => ref3_CheckConditions N x.1 x.2.1) z27pk (z27LP N) x y = ref3_CheckConditions N x.1 x.2.1 := by kernel_rfl
theorem z27sound (N : Nat) : Sound Tryz.prog GW B0G 69 (z27sg fun x _ => ref3_CheckConditions N x.1 x.2.1) :=
  runD_sound (mkE_ok z27h (z27fn N) _ _ (z27fn_ok N)) Tryz.func69 rfl Tryz.call69 (z27sg fun x _ => ref3_CheckConditions N x.1 x.2.1) z27pk (fun _ _ => rfl) N (fun x y _ h => ((runL_eq (z27E N) N Tryz.f69 (z27sg fun x _ => ref3_CheckConditions N x.1 x.2.1) z27pk (z27LP N) (show LoopsOk (z27LP N) (z27E N) N (resD (z27E N) Tryz.f69 (z27sg fun x _ => ref3_CheckConditions N x.1 x.2.1) z27pk) [(0, (cAt (bodyOf Tryz.f69) [true, true, true, false, true, false, false]))] from ⟨z27lp0 N, trivial⟩) x y).trans (z27core N x y)).trans h)
end
end Go.Proofs.YtbekhaioddmliaaGreatDoor

