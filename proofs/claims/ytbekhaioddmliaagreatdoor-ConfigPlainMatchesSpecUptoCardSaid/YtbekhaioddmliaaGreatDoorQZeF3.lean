/- What functions of the program compute, as plain functions (printed). -/
import Derived.Test.YtbekhaioddmliaaGreatDoorQZeF2
namespace Go.Proofs.YtbekhaioddmliaaGreatDoor
open Go Go.RowKit
set_option maxRecDepth 100000
set_option linter.unusedVariables false
noncomputable section
def slices_ContainsFunc_api_Platform (N : Nat) (x0 : τ11) (x1 : (Str × List τ5) × Unit) : Option Bool :=
 bnd (slices_IndexFunc_api_Platform N x0 x1) fun t7 =>
 some (decide (t7 ≥ (0 : Int)))
abbrev z3sg (f : SV [.v τ28, .v (.clo 129 (.pr (.ptr τ16) .un))] → BV [] → Option (Bool)) : AF := { ps := [.v τ28, .v (.clo 129 (.pr (.ptr τ16) .un))], bs := [], rs := [.v .bool], cs := [], R := Bool, out := fun z => ((z, ()), ()), f := f }
noncomputable abbrev z3g (N : Nat) : AF := z3sg fun x _ => slices_ContainsFunc_api_Platform N x.1 x.2.1
abbrev z3pk : SV [.v .bool] → BV [] → Bool := fun x _ => x.1
def z3fn (N : Nat) : FuncId → Option Tmp → Option AF := fun f _ =>
 match f with
  | 184 => some (z8g N)
  | _ => none
theorem z3fn_ok (N : Nat) : FnOk (z3fn N) := by
 intro f q F h
 unfold z3fn at h
 split at h
 · cases h; exact z8sound N
 · cases h
def z3h : Nat → Hint := fun i =>
 match i with
 | _ => hint0
abbrev z3E (N : Nat) : Env := mkE z3h (z3fn N) FF FF
noncomputable def z3LP (N : Nat) : Nat → Code → St → (Ex → St → Option Bool) → Option Bool := fun i c =>
 match i with
 | i => fun st k => iter (z3h i) (exec (z3E N) N c i) N st k
theorem z3core (N : Nat) (x : SV [.v τ28, .v (.clo 129 (.pr (.ptr τ16) .un))]) (y : BV []) : runL (z3E N) Tryz.f128 (z3g N) z3pk (z3LP N) x y = slices_ContainsFunc_api_Platform N x.1 x.2.1 := by kernel_rfl
theorem z3sound (N : Nat) : Snd 128 (z3g N) :=
 sndL (z3fn_ok N) Tryz.func128 rfl Tryz.call128 (z3g N) z3pk (fun _ _ => rfl) N (z3LP N) (show LoopsOk (z3LP N) (z3E N) N (resD (z3E N) Tryz.f128 (z3g N) z3pk) [] from trivial) (z3core N)
def z27L0T (N : Nat) (x0 : τ11) (c9 : τ11) (c10 : Int) (k0 : τ26) (self : Int → Option Int) (s11 : Int) : Option Int :=
 br (decide (s11 < c10))
  (bnd (geti c9 s11) fun t14 =>
  bnd (config_IsWord N t14.1) fun t18 =>
  br (!t18)
   (some (5 : Int))
   (bnd (config_CheckPairs N t14.2) fun t22 =>
   br (t22 != (0 : Int))
    (some t22)
    (bnd (slc x0 (0 : Int) s11) fun t28 =>
    bnd (slices_ContainsFunc_api_Platform N t28 (t14, ())) fun t30 =>
    br (t30)
     (some (7 : Int))
     (self (IntKind.i64.wrap (s11 + (1 : Int)))))))
  (k0)
def z27L0 (N : Nat) (x0 : τ11) (c9 : τ11) (c10 : Int) (k0 : τ26) : Nat → Int → Option Int
 | 0, _ => none
 | n + 1, s11 => z27L0T N x0 c9 c10 k0 (z27L0 N x0 c9 c10 k0 n) s11
def config_CheckPlatforms (N : Nat) (x0 : τ11) : Option Int :=
 br (decide ((x0.length : Int) > (50 : Int)))
  (some (2 : Int))
  (z27L0 N x0 x0 (x0.length : Int) (some (0 : Int)) N (0 : Int))
abbrev z27sg (f : SV [.v τ28] → BV [] → Option (Int)) : AF := { ps := [.v τ28], bs := [], rs := [.v τ6], cs := [], R := Int, out := fun z => ((z, ()), ()), f := f }
noncomputable abbrev z27g (N : Nat) : AF := z27sg fun x _ => config_CheckPlatforms N x.1
abbrev z27pk : SV [.v τ6] → BV [] → Int := fun x _ => x.1
def z27fn (N : Nat) : FuncId → Option Tmp → Option AF := fun f _ =>
 match f with
  | 43 => some (z79g N)
  | 119 => some (z46g N)
  | 128 => some (z3g N)
  | 129 => some (noneAF [.v (.ptr τ16)])
  | _ => none
theorem z27fn_ok (N : Nat) : FnOk (z27fn N) := by
 intro f q F h
 unfold z27fn at h
 split at h
 · cases h; exact z79sound N
 · cases h; exact z46sound N
 · cases h; exact z3sound N
 · cases h; exact noneAF_sound Tryz.call129 _
 · cases h
def z27h : Nat → Hint := fun i =>
 match i with
 | 0 => ⟨[], [0, 9, 10, 11], [], [], [], []⟩
 | _ => hint0
abbrev z27E (N : Nat) : Env := mkE z27h (z27fn N) FF FF
noncomputable abbrev z27c0 : Code := cAt (bodyOf Tryz.f75) [true, true, false, true, false, false]
noncomputable abbrev z27R (N : Nat) := resD (z27E N) Tryz.f75 (z27g N) z27pk
abbrev z27L0_fs : List (Nat × Sl) := [(0, .v τ28), (9, .v τ28), (10, .v τ6), (11, .v τ6)]
abbrev z27L0_bs : List (Nat × Sb) := []
def z27L0_hd (x0 : τ11) (c9 : τ11) (c10 : Int) (s11 : Int) : St := ⟨32, [(0, .v τ28 x0), (9, .v τ28 c9), (10, .v τ6 c10), (11, .v τ6 s11)], []⟩
def z27L0_tl0 (_x0 : τ11) (_c9 : τ11) (_c10 : Int) : St := ⟨32, [], []⟩
def z27L0_G (N : Nat) (x0 : τ11) (c9 : τ11) (c10 : Int) (s11 : Int) (k : Ex → St → Option Int) : Option Int :=
 z27L0 N x0 c9 c10 (k (.exit 0) (z27L0_tl0 x0 c9 c10)) N s11
abbrev z27L0_F (N : Nat) : FV z27L0_fs → HV z27L0_bs → (Ex → St → Option Int) → Option Int := fun x _ k => z27L0_G N x.1 x.2.1 x.2.2.1 x.2.2.2.1 k
noncomputable def z27LP (N : Nat) : Nat → Code → St → (Ex → St → Option Int) → Option Int := fun i c =>
 match i with
 | 0 => (LPc 32 z27L0_fs z27L0_bs (z27L0_F N) (fun st k => iter (z27h 0) (exec (z27E N) N c 0) N st k))
 | i => fun st k => iter (z27h i) (exec (z27E N) N c i) N st k
theorem z27L0_step (N : Nat) (x0 : τ11) (c9 : τ11) (c10 : Int) (KX : Nat → St → Option Int) (I : St → Option Int) (s11 : Int) :
  execL (z27LP N) (z27E N) z27c0 0 (z27L0_hd x0 c9 c10 s11) (roundK (z27h 0) I KX (z27R N)) = z27L0T N x0 c9 c10 (KX 0 (z27L0_tl0 x0 c9 c10)) (fun s11 => I (z27L0_hd x0 c9 c10 s11)) s11 := by kernel_rfl
theorem z27L0_ok (N : Nat) : ∀ x y k, (∀ st, k .ret st = (z27R N) st) → iter (z27h 0) (exec (z27E N) N z27c0 0) N ⟨32, unF z27L0_fs x, unH z27L0_bs y⟩ k = z27L0_F N x y k := fun x _ k hk =>
 iter_link (S := (Int) × Unit) (z27h 0) _ (execL (z27LP N) (z27E N) z27c0 0) (z27R N) (fun st k hk => execL_eq _ _ N _ z27c0 0 (show LoopsOk (z27LP N) (z27E N) N (z27R N) [] from trivial) st k hk) (fun s => z27L0_hd x.1 x.2.1 x.2.2.1 s.1) k hk
  (fun self s => z27L0T N x.1 x.2.1 x.2.2.1 (k (.exit 0) (z27L0_tl0 x.1 x.2.1 x.2.2.1)) (fun s11 => self (s11, ())) s.1) (fun n s => z27L0 N x.1 x.2.1 x.2.2.1 (k (.exit 0) (z27L0_tl0 x.1 x.2.1 x.2.2.1)) n s.1) (fun _ => rfl) (fun _ _ => rfl)
  (fun I s => z27L0_step N x.1 x.2.1 x.2.2.1 (fun j => k (.exit j)) I s.1) N (x.2.2.2.1, ())
theorem z27lp0 (N : Nat) : ∀ st k, (∀ st, k .ret st = (z27R N) st) → z27LP N 0 z27c0 st k = iter (Env.hint (z27E N) 0) (exec (z27E N) N z27c0 0) N st k := fun st k hk => LPc_eq 32 z27L0_fs z27L0_bs _ _ (z27R N) (z27L0_ok N) _ st k hk (rfl)
theorem z27core (N : Nat) (x : SV [.v τ28]) (y : BV []) : runL (z27E N) Tryz.f75 (z27g N) z27pk (z27LP N) x y = config_CheckPlatforms N x.1 := by kernel_rfl
theorem z27sound (N : Nat) : Snd 75 (z27g N) :=
 sndL (z27fn_ok N) Tryz.func75 rfl Tryz.call75 (z27g N) z27pk (fun _ _ => rfl) N (z27LP N) (show LoopsOk (z27LP N) (z27E N) N (z27R N) [(0, z27c0)] from ⟨z27lp0 N, trivial⟩) (z27core N)
def z29L0T (_N : Nat) (x0 : List τ5) (c7 : Int) (κ3_0 : Str) (κ3_1 : Str) (k0 : τ26) (self : Int → Option Int) (s8 : Int) : Option Int :=
 br (decide (s8 < c7))
  (bnd (geti x0 s8) fun t14 =>
  br (eqb (.pr .str .str) (κ3_0, κ3_1) t14)
   (some s8)
   (self (IntKind.i64.wrap (s8 + (1 : Int)))))
  (k0)
def z29L0 (N : Nat) (x0 : List τ5) (c7 : Int) (κ3_0 : Str) (κ3_1 : Str) (k0 : τ26) : Nat → Int → Option Int
 | 0, _ => none
 | n + 1, s8 => z29L0T N x0 c7 κ3_0 κ3_1 k0 (z29L0 N x0 c7 κ3_0 κ3_1 k0 n) s8
def slices_Index_api_Pair (N : Nat) (x0 : List τ5) (x1 : Str × Str) : Option Int :=
 z29L0 N x0 (x0.length : Int) x1.1 x1.2 (some (-1 : Int)) N (0 : Int)
abbrev z29sg (f : SV [.v τ0, .v (.pr .str .str)] → BV [] → Option (Int)) : AF := { ps := [.v τ0, .v (.pr .str .str)], bs := [], rs := [.v τ6], cs := [], R := Int, out := fun z => ((z, ()), ()), f := f }
noncomputable abbrev z29g (N : Nat) : AF := z29sg fun x _ => slices_Index_api_Pair N x.1 x.2.1
abbrev z29pk : SV [.v τ6] → BV [] → Int := fun x _ => x.1
def z29fn (_N : Nat) : FuncId → Option Tmp → Option AF := fun f _ =>
 match f with
  | _ => none
theorem z29fn_ok (N : Nat) : FnOk (z29fn N) := by
 intro f q F h
 unfold z29fn at h
 split at h
 · cases h
def z29h : Nat → Hint := fun i =>
 match i with
 | 0 => ⟨[], [0, 3, 7, 8], [1003], [], [], []⟩
 | _ => hint0
abbrev z29E (N : Nat) : Env := mkE z29h (z29fn N) FF FF
noncomputable abbrev z29c0 : Code := cAt (bodyOf Tryz.f207) [true, false, true, false, false]
noncomputable abbrev z29R (N : Nat) := resD (z29E N) Tryz.f207 (z29g N) z29pk
abbrev z29L0_fs : List (Nat × Sl) := [(0, .v τ0), (3, .box 1003 0), (7, .v τ6), (8, .v τ6)]
abbrev z29L0_bs : List (Nat × Sb) := [(1003, .cells [.v .str, .v .str])]
def z29L0_hd (x0 : List τ5) (c7 : Int) (κ3_0 : Str) (κ3_1 : Str) (s8 : Int) : St := ⟨19, [(0, .v τ0 x0), (3, .box 1003 0), (7, .v τ6 c7), (8, .v τ6 s8)], [(1003, .cells [.v .str κ3_0, .v .str κ3_1])]⟩
def z29L0_tl0 (_x0 : List τ5) (_c7 : Int) (_κ3_0 : Str) (_κ3_1 : Str) : St := ⟨19, [], []⟩
def z29L0_G (N : Nat) (x0 : List τ5) (c7 : Int) (κ3_0 : Str) (κ3_1 : Str) (s8 : Int) (k : Ex → St → Option Int) : Option Int :=
 z29L0 N x0 c7 κ3_0 κ3_1 (k (.exit 0) (z29L0_tl0 x0 c7 κ3_0 κ3_1)) N s8
abbrev z29L0_F (N : Nat) : FV z29L0_fs → HV z29L0_bs → (Ex → St → Option Int) → Option Int := fun x y k => z29L0_G N x.1 x.2.2.1 y.1.1 y.1.2.1 x.2.2.2.1 k
noncomputable def z29LP (N : Nat) : Nat → Code → St → (Ex → St → Option Int) → Option Int := fun i c =>
 match i with
 | 0 => (LPc 19 z29L0_fs z29L0_bs (z29L0_F N) (fun st k => iter (z29h 0) (exec (z29E N) N c 0) N st k))
 | i => fun st k => iter (z29h i) (exec (z29E N) N c i) N st k
theorem z29L0_step (N : Nat) (x0 : List τ5) (c7 : Int) (κ3_0 : Str) (κ3_1 : Str) (KX : Nat → St → Option Int) (I : St → Option Int) (s8 : Int) :
  execL (z29LP N) (z29E N) z29c0 0 (z29L0_hd x0 c7 κ3_0 κ3_1 s8) (roundK (z29h 0) I KX (z29R N)) = z29L0T N x0 c7 κ3_0 κ3_1 (KX 0 (z29L0_tl0 x0 c7 κ3_0 κ3_1)) (fun s8 => I (z29L0_hd x0 c7 κ3_0 κ3_1 s8)) s8 := by kernel_rfl
theorem z29L0_ok (N : Nat) : ∀ x y k, (∀ st, k .ret st = (z29R N) st) → iter (z29h 0) (exec (z29E N) N z29c0 0) N ⟨19, unF z29L0_fs x, unH z29L0_bs y⟩ k = z29L0_F N x y k := fun x y k hk =>
 iter_link (S := (Int) × Unit) (z29h 0) _ (execL (z29LP N) (z29E N) z29c0 0) (z29R N) (fun st k hk => execL_eq _ _ N _ z29c0 0 (show LoopsOk (z29LP N) (z29E N) N (z29R N) [] from trivial) st k hk) (fun s => z29L0_hd x.1 x.2.2.1 y.1.1 y.1.2.1 s.1) k hk
  (fun self s => z29L0T N x.1 x.2.2.1 y.1.1 y.1.2.1 (k (.exit 0) (z29L0_tl0 x.1 x.2.2.1 y.1.1 y.1.2.1)) (fun s8 => self (s8, ())) s.1) (fun n s => z29L0 N x.1 x.2.2.1 y.1.1 y.1.2.1 (k (.exit 0) (z29L0_tl0 x.1 x.2.2.1 y.1.1 y.1.2.1)) n s.1) (fun _ => rfl) (fun _ _ => rfl)
  (fun I s => z29L0_step N x.1 x.2.2.1 y.1.1 y.1.2.1 (fun j => k (.exit j)) I s.1) N (x.2.2.2.1, ())
theorem z29lp0 (N : Nat) : ∀ st k, (∀ st, k .ret st = (z29R N) st) → z29LP N 0 z29c0 st k = iter (Env.hint (z29E N) 0) (exec (z29E N) N z29c0 0) N st k := fun st k hk => LPc_eq 19 z29L0_fs z29L0_bs _ _ (z29R N) (z29L0_ok N) _ st k hk (rfl)
theorem z29core (N : Nat) (x : SV [.v τ0, .v (.pr .str .str)]) (y : BV []) : runL (z29E N) Tryz.f207 (z29g N) z29pk (z29LP N) x y = slices_Index_api_Pair N x.1 x.2.1 := by kernel_rfl
theorem z29sound (N : Nat) : Snd 207 (z29g N) :=
 sndL (z29fn_ok N) Tryz.func207 rfl Tryz.call207 (z29g N) z29pk (fun _ _ => rfl) N (z29LP N) (show LoopsOk (z29LP N) (z29E N) N (z29R N) [(0, z29c0)] from ⟨z29lp0 N, trivial⟩) (z29core N)
def slices_Contains_api_Pair (N : Nat) (x0 : List τ5) (x1 : Str × Str) : Option Bool :=
 bnd (slices_Index_api_Pair N x0 x1) fun t7 =>
 some (decide (t7 ≥ (0 : Int)))
abbrev z23sg (f : SV [.v τ0, .v (.pr .str .str)] → BV [] → Option (Bool)) : AF := { ps := [.v τ0, .v (.pr .str .str)], bs := [], rs := [.v .bool], cs := [], R := Bool, out := fun z => ((z, ()), ()), f := f }
noncomputable abbrev z23g (N : Nat) : AF := z23sg fun x _ => slices_Contains_api_Pair N x.1 x.2.1
abbrev z23pk : SV [.v .bool] → BV [] → Bool := fun x _ => x.1
def z23fn (N : Nat) : FuncId → Option Tmp → Option AF := fun f _ =>
 match f with
  | 207 => some (z29g N)
  | _ => none
theorem z23fn_ok (N : Nat) : FnOk (z23fn N) := by
 intro f q F h
 unfold z23fn at h
 split at h
 · cases h; exact z29sound N
 · cases h
def z23h : Nat → Hint := fun i =>
 match i with
 | _ => hint0
abbrev z23E (N : Nat) : Env := mkE z23h (z23fn N) FF FF
noncomputable def z23LP (N : Nat) : Nat → Code → St → (Ex → St → Option Bool) → Option Bool := fun i c =>
 match i with
 | i => fun st k => iter (z23h i) (exec (z23E N) N c i) N st k
theorem z23core (N : Nat) (x : SV [.v τ0, .v (.pr .str .str)]) (y : BV []) : runL (z23E N) Tryz.f185 (z23g N) z23pk (z23LP N) x y = slices_Contains_api_Pair N x.1 x.2.1 := by kernel_rfl
theorem z23sound (N : Nat) : Snd 185 (z23g N) :=
 sndL (z23fn_ok N) Tryz.func185 rfl Tryz.call185 (z23g N) z23pk (fun _ _ => rfl) N (z23LP N) (show LoopsOk (z23LP N) (z23E N) N (resD (z23E N) Tryz.f185 (z23g N) z23pk) [] from trivial) (z23core N)
def z110L0T (N : Nat) (x1 : List τ5) (x0 : List τ5) (c8 : Int) (k0 : τ30) (self : Int → Option Bool) (s9 : Int) : Option Bool :=
 br (decide (s9 < c8))
  (bnd (geti x0 s9) fun t11 =>
  bnd (slices_Contains_api_Pair N x1 t11) fun t15 =>
  br (!t15)
   (some false)
   (self (IntKind.i64.wrap (s9 + (1 : Int)))))
  (k0)
def z110L0 (N : Nat) (x1 : List τ5) (x0 : List τ5) (c8 : Int) (k0 : τ30) : Nat → Int → Option Bool
 | 0, _ => none
 | n + 1, s9 => z110L0T N x1 x0 c8 k0 (z110L0 N x1 x0 c8 k0 n) s9
def config_Fit (N : Nat) (x0 : List τ5) (x1 : List τ5) : Option Bool :=
 z110L0 N x1 x0 (x0.length : Int) (some true) N (0 : Int)
abbrev z110sg (f : SV [.v τ0, .v τ0] → BV [] → Option (Bool)) : AF := { ps := [.v τ0, .v τ0], bs := [], rs := [.v .bool], cs := [], R := Bool, out := fun z => ((z, ()), ()), f := f }
noncomputable abbrev z110g (N : Nat) : AF := z110sg fun x _ => config_Fit N x.1 x.2.1
abbrev z110pk : SV [.v .bool] → BV [] → Bool := fun x _ => x.1
def z110fn (N : Nat) : FuncId → Option Tmp → Option AF := fun f _ =>
 match f with
  | 185 => some (z23g N)
  | _ => none
theorem z110fn_ok (N : Nat) : FnOk (z110fn N) := by
 intro f q F h
 unfold z110fn at h
 split at h
 · cases h; exact z23sound N
 · cases h
def z110h : Nat → Hint := fun i =>
 match i with
 | 0 => ⟨[], [1, 7, 8, 9], [], [], [], []⟩
 | _ => hint0
abbrev z110E (N : Nat) : Env := mkE z110h (z110fn N) FF FF
noncomputable abbrev z110c0 : Code := cAt (bodyOf Tryz.f134) [true, false, true, false, false]
noncomputable abbrev z110R (N : Nat) := resD (z110E N) Tryz.f134 (z110g N) z110pk
abbrev z110L0_fs : List (Nat × Sl) := [(1, .v τ0), (7, .v τ0), (8, .v τ6), (9, .v τ6)]
abbrev z110L0_bs : List (Nat × Sb) := []
def z110L0_hd (x1 : List τ5) (x0 : List τ5) (c8 : Int) (s9 : Int) : St := ⟨18, [(1, .v τ0 x1), (7, .v τ0 x0), (8, .v τ6 c8), (9, .v τ6 s9)], []⟩
def z110L0_tl0 (_x1 : List τ5) (_x0 : List τ5) (_c8 : Int) : St := ⟨18, [], []⟩
def z110L0_G (N : Nat) (x1 : List τ5) (x0 : List τ5) (c8 : Int) (s9 : Int) (k : Ex → St → Option Bool) : Option Bool :=
 z110L0 N x1 x0 c8 (k (.exit 0) (z110L0_tl0 x1 x0 c8)) N s9
abbrev z110L0_F (N : Nat) : FV z110L0_fs → HV z110L0_bs → (Ex → St → Option Bool) → Option Bool := fun x _ k => z110L0_G N x.1 x.2.1 x.2.2.1 x.2.2.2.1 k
noncomputable def z110LP (N : Nat) : Nat → Code → St → (Ex → St → Option Bool) → Option Bool := fun i c =>
 match i with
 | 0 => (LPc 18 z110L0_fs z110L0_bs (z110L0_F N) (fun st k => iter (z110h 0) (exec (z110E N) N c 0) N st k))
 | i => fun st k => iter (z110h i) (exec (z110E N) N c i) N st k
theorem z110L0_step (N : Nat) (x1 : List τ5) (x0 : List τ5) (c8 : Int) (KX : Nat → St → Option Bool) (I : St → Option Bool) (s9 : Int) :
  execL (z110LP N) (z110E N) z110c0 0 (z110L0_hd x1 x0 c8 s9) (roundK (z110h 0) I KX (z110R N)) = z110L0T N x1 x0 c8 (KX 0 (z110L0_tl0 x1 x0 c8)) (fun s9 => I (z110L0_hd x1 x0 c8 s9)) s9 := by kernel_rfl
theorem z110L0_ok (N : Nat) : ∀ x y k, (∀ st, k .ret st = (z110R N) st) → iter (z110h 0) (exec (z110E N) N z110c0 0) N ⟨18, unF z110L0_fs x, unH z110L0_bs y⟩ k = z110L0_F N x y k := fun x _ k hk =>
 iter_link (S := (Int) × Unit) (z110h 0) _ (execL (z110LP N) (z110E N) z110c0 0) (z110R N) (fun st k hk => execL_eq _ _ N _ z110c0 0 (show LoopsOk (z110LP N) (z110E N) N (z110R N) [] from trivial) st k hk) (fun s => z110L0_hd x.1 x.2.1 x.2.2.1 s.1) k hk
  (fun self s => z110L0T N x.1 x.2.1 x.2.2.1 (k (.exit 0) (z110L0_tl0 x.1 x.2.1 x.2.2.1)) (fun s9 => self (s9, ())) s.1) (fun n s => z110L0 N x.1 x.2.1 x.2.2.1 (k (.exit 0) (z110L0_tl0 x.1 x.2.1 x.2.2.1)) n s.1) (fun _ => rfl) (fun _ _ => rfl)
  (fun I s => z110L0_step N x.1 x.2.1 x.2.2.1 (fun j => k (.exit j)) I s.1) N (x.2.2.2.1, ())
theorem z110lp0 (N : Nat) : ∀ st k, (∀ st, k .ret st = (z110R N) st) → z110LP N 0 z110c0 st k = iter (Env.hint (z110E N) 0) (exec (z110E N) N z110c0 0) N st k := fun st k hk => LPc_eq 18 z110L0_fs z110L0_bs _ _ (z110R N) (z110L0_ok N) _ st k hk (rfl)
theorem z110core (N : Nat) (x : SV [.v τ0, .v τ0]) (y : BV []) : runL (z110E N) Tryz.f134 (z110g N) z110pk (z110LP N) x y = config_Fit N x.1 x.2.1 := by kernel_rfl
theorem z110sound (N : Nat) : Snd 134 (z110g N) :=
 sndL (z110fn_ok N) Tryz.func134 rfl Tryz.call134 (z110g N) z110pk (fun _ _ => rfl) N (z110LP N) (show LoopsOk (z110LP N) (z110E N) N (z110R N) [(0, z110c0)] from ⟨z110lp0 N, trivial⟩) (z110core N)
def z88L0T (N : Nat) (x0 : τ7) (x2 : List τ5) (c12 : List τ5) (c13 : Int) (k0 : τ30) (self : Int → Option Bool) (s14 : Int) : Option Bool :=
 br (decide (s14 < c13))
  (bnd (geti c12 s14) fun t16 =>
  bnd (config_valueOf N x0 x2 t16.1) fun t22 =>
  br (!(t22 == t16.2))
   (some false)
   (self (IntKind.i64.wrap (s14 + (1 : Int)))))
  (k0)
def z88L0 (N : Nat) (x0 : τ7) (x2 : List τ5) (c12 : List τ5) (c13 : Int) (k0 : τ30) : Nat → Int → Option Bool
 | 0, _ => none
 | n + 1, s14 => z88L0T N x0 x2 c12 c13 k0 (z88L0 N x0 x2 c12 c13 k0 n) s14
def config_holds (N : Nat) (x0 : τ7) (x1 : Str × List τ5 × List τ5) (x2 : List τ5) (x3 : Str × List τ5) : Option Bool :=
 z88L0 N x0 x2 x1.2.1 (x1.2.1.length : Int) (bnd (config_Fit N x1.2.2 x3.2) fun t31 =>
   some t31) N (0 : Int)
abbrev z88sg (f : SV [.v τ9, .v τ8, .v τ0, .v τ16] → BV [] → Option (Bool)) : AF := { ps := [.v τ9, .v τ8, .v τ0, .v τ16], bs := [], rs := [.v .bool], cs := [], R := Bool, out := fun z => ((z, ()), ()), f := f }
noncomputable abbrev z88g (N : Nat) : AF := z88sg fun x _ => config_holds N x.1 x.2.1 x.2.2.1 x.2.2.2.1
abbrev z88pk : SV [.v .bool] → BV [] → Bool := fun x _ => x.1
def z88fn (N : Nat) : FuncId → Option Tmp → Option AF := fun f _ =>
 match f with
  | 74 => some (z70g N)
  | 134 => some (z110g N)
  | _ => none
theorem z88fn_ok (N : Nat) : FnOk (z88fn N) := by
 intro f q F h
 unfold z88fn at h
 split at h
 · cases h; exact z70sound N
 · cases h; exact z110sound N
 · cases h
def z88h : Nat → Hint := fun i =>
 match i with
 | 0 => ⟨[], [0, 2, 5, 7, 12, 13, 14], [1005, 1007], [5, 7], [1005, 1007], []⟩
 | _ => hint0
abbrev z88E (N : Nat) : Env := mkE z88h (z88fn N) FF FF
noncomputable abbrev z88c0 : Code := cAt (bodyOf Tryz.f81) [true, false, true, false, false]
noncomputable abbrev z88R (N : Nat) := resD (z88E N) Tryz.f81 (z88g N) z88pk
abbrev z88L0_fs : List (Nat × Sl) := [(0, .v τ9), (2, .v τ0), (5, .box 1005 0), (7, .box 1007 0), (12, .v τ0), (13, .v τ6), (14, .v τ6)]
abbrev z88L0_bs : List (Nat × Sb) := [(1005, .cells [.v .str, .v τ0, .v τ0]), (1007, .cells [.v .str, .v τ0])]
def z88L0_hd (x0 : τ7) (x2 : List τ5) (c12 : List τ5) (c13 : Int) (κ5_0 : Str) (κ5_1 : List τ5) (κ5_2 : List τ5) (κ7_0 : Str) (κ7_1 : List τ5) (s14 : Int) : St := ⟨32, [(0, .v τ9 x0), (2, .v τ0 x2), (5, .box 1005 0), (7, .box 1007 0), (12, .v τ0 c12), (13, .v τ6 c13), (14, .v τ6 s14)], [(1005, .cells [.v .str κ5_0, .v τ0 κ5_1, .v τ0 κ5_2]), (1007, .cells [.v .str κ7_0, .v τ0 κ7_1])]⟩
def z88L0_tl0 (_x0 : τ7) (_x2 : List τ5) (_c12 : List τ5) (_c13 : Int) (κ5_0 : Str) (κ5_1 : List τ5) (κ5_2 : List τ5) (κ7_0 : Str) (κ7_1 : List τ5) : St := ⟨32, [(5, .box 1005 0), (7, .box 1007 0)], [(1005, .cells [.v .str κ5_0, .v τ0 κ5_1, .v τ0 κ5_2]), (1007, .cells [.v .str κ7_0, .v τ0 κ7_1])]⟩
def z88L0_G (N : Nat) (x0 : τ7) (x2 : List τ5) (c12 : List τ5) (c13 : Int) (κ5_0 : Str) (κ5_1 : List τ5) (κ5_2 : List τ5) (κ7_0 : Str) (κ7_1 : List τ5) (s14 : Int) (k : Ex → St → Option Bool) : Option Bool :=
 z88L0 N x0 x2 c12 c13 (k (.exit 0) (z88L0_tl0 x0 x2 c12 c13 κ5_0 κ5_1 κ5_2 κ7_0 κ7_1)) N s14
abbrev z88L0_F (N : Nat) : FV z88L0_fs → HV z88L0_bs → (Ex → St → Option Bool) → Option Bool := fun x y k => z88L0_G N x.1 x.2.1 x.2.2.2.2.1 x.2.2.2.2.2.1 y.1.1 y.1.2.1 y.1.2.2.1 y.2.1.1 y.2.1.2.1 x.2.2.2.2.2.2.1 k
noncomputable def z88LP (N : Nat) : Nat → Code → St → (Ex → St → Option Bool) → Option Bool := fun i c =>
 match i with
 | 0 => (LPc 32 z88L0_fs z88L0_bs (z88L0_F N) (fun st k => iter (z88h 0) (exec (z88E N) N c 0) N st k))
 | i => fun st k => iter (z88h i) (exec (z88E N) N c i) N st k
theorem z88L0_step (N : Nat) (x0 : τ7) (x2 : List τ5) (c12 : List τ5) (c13 : Int) (κ5_0 : Str) (κ5_1 : List τ5) (κ5_2 : List τ5) (κ7_0 : Str) (κ7_1 : List τ5) (KX : Nat → St → Option Bool) (I : St → Option Bool) (s14 : Int) :
  execL (z88LP N) (z88E N) z88c0 0 (z88L0_hd x0 x2 c12 c13 κ5_0 κ5_1 κ5_2 κ7_0 κ7_1 s14) (roundK (z88h 0) I KX (z88R N)) = z88L0T N x0 x2 c12 c13 (KX 0 (z88L0_tl0 x0 x2 c12 c13 κ5_0 κ5_1 κ5_2 κ7_0 κ7_1)) (fun s14 => I (z88L0_hd x0 x2 c12 c13 κ5_0 κ5_1 κ5_2 κ7_0 κ7_1 s14)) s14 := by kernel_rfl
theorem z88L0_ok (N : Nat) : ∀ x y k, (∀ st, k .ret st = (z88R N) st) → iter (z88h 0) (exec (z88E N) N z88c0 0) N ⟨32, unF z88L0_fs x, unH z88L0_bs y⟩ k = z88L0_F N x y k := fun x y k hk =>
 iter_link (S := (Int) × Unit) (z88h 0) _ (execL (z88LP N) (z88E N) z88c0 0) (z88R N) (fun st k hk => execL_eq _ _ N _ z88c0 0 (show LoopsOk (z88LP N) (z88E N) N (z88R N) [] from trivial) st k hk) (fun s => z88L0_hd x.1 x.2.1 x.2.2.2.2.1 x.2.2.2.2.2.1 y.1.1 y.1.2.1 y.1.2.2.1 y.2.1.1 y.2.1.2.1 s.1) k hk
  (fun self s => z88L0T N x.1 x.2.1 x.2.2.2.2.1 x.2.2.2.2.2.1 (k (.exit 0) (z88L0_tl0 x.1 x.2.1 x.2.2.2.2.1 x.2.2.2.2.2.1 y.1.1 y.1.2.1 y.1.2.2.1 y.2.1.1 y.2.1.2.1)) (fun s14 => self (s14, ())) s.1) (fun n s => z88L0 N x.1 x.2.1 x.2.2.2.2.1 x.2.2.2.2.2.1 (k (.exit 0) (z88L0_tl0 x.1 x.2.1 x.2.2.2.2.1 x.2.2.2.2.2.1 y.1.1 y.1.2.1 y.1.2.2.1 y.2.1.1 y.2.1.2.1)) n s.1) (fun _ => rfl) (fun _ _ => rfl)
  (fun I s => z88L0_step N x.1 x.2.1 x.2.2.2.2.1 x.2.2.2.2.2.1 y.1.1 y.1.2.1 y.1.2.2.1 y.2.1.1 y.2.1.2.1 (fun j => k (.exit j)) I s.1) N (x.2.2.2.2.2.2.1, ())
theorem z88lp0 (N : Nat) : ∀ st k, (∀ st, k .ret st = (z88R N) st) → z88LP N 0 z88c0 st k = iter (Env.hint (z88E N) 0) (exec (z88E N) N z88c0 0) N st k := fun st k hk => LPc_eq 32 z88L0_fs z88L0_bs _ _ (z88R N) (z88L0_ok N) _ st k hk (rfl)
theorem z88core (N : Nat) (x : SV [.v τ9, .v τ8, .v τ0, .v τ16]) (y : BV []) : runL (z88E N) Tryz.f81 (z88g N) z88pk (z88LP N) x y = config_holds N x.1 x.2.1 x.2.2.1 x.2.2.2.1 := by kernel_rfl
theorem z88sound (N : Nat) : Snd 81 (z88g N) :=
 sndL (z88fn_ok N) Tryz.func81 rfl Tryz.call81 (z88g N) z88pk (fun _ _ => rfl) N (z88LP N) (show LoopsOk (z88LP N) (z88E N) N (z88R N) [(0, z88c0)] from ⟨z88lp0 N, trivial⟩) (z88core N)
def z58L0T (_N : Nat) (x0 : Str) (c5 : Int) (k0 : τ30) (self : Int → Option Bool) (s6 : Int) : Option Bool :=
 br (decide (s6 < c5))
  (bnd (geti x0 s6) fun t11 =>
  br (decide (t11 < (32 : UInt8)))
   (some false)
   (bnd (geti x0 s6) fun t16 =>
   br (decide (t16 > (126 : UInt8)))
    (some false)
    (self (IntKind.i64.wrap (s6 + (1 : Int))))))
  (k0)
def z58L0 (N : Nat) (x0 : Str) (c5 : Int) (k0 : τ30) : Nat → Int → Option Bool
 | 0, _ => none
 | n + 1, s6 => z58L0T N x0 c5 k0 (z58L0 N x0 c5 k0 n) s6
def ref3_isCondition (N : Nat) (x0 : Str) : Option Bool :=
 z58L0 N x0 (x0.length : Int) (bnd (ref3_within N (x0.length : Int) (1 : Int) (1000 : Int)) fun t22 =>
   br (t22)
    (some (!(x0 == ([100, 101, 102, 97, 117, 108, 116] : Str))))
    (some false)) N (0 : Int)
abbrev z58sg (f : SV [.v .str] → BV [] → Option (Bool)) : AF := { ps := [.v .str], bs := [], rs := [.v .bool], cs := [], R := Bool, out := fun z => ((z, ()), ()), f := f }
noncomputable abbrev z58g (N : Nat) : AF := z58sg fun x _ => ref3_isCondition N x.1
abbrev z58pk : SV [.v .bool] → BV [] → Bool := fun x _ => x.1
def z58fn (N : Nat) : FuncId → Option Tmp → Option AF := fun f _ =>
 match f with
  | 104 => some (z109g N)
  | _ => none
theorem z58fn_ok (N : Nat) : FnOk (z58fn N) := by
 intro f q F h
 unfold z58fn at h
 split at h
 · cases h; exact z109sound N
 · cases h
def z58h : Nat → Hint := fun i =>
 match i with
 | 0 => ⟨[], [0, 5, 6], [], [0], [], []⟩
 | _ => hint0
abbrev z58E (N : Nat) : Env := mkE z58h (z58fn N) FF FF
noncomputable abbrev z58c0 : Code := cAt (bodyOf Tryz.f124) [true, false, true, false, false]
noncomputable abbrev z58R (N : Nat) := resD (z58E N) Tryz.f124 (z58g N) z58pk
abbrev z58L0_fs : List (Nat × Sl) := [(0, .v .str), (5, .v τ6), (6, .v τ6)]
abbrev z58L0_bs : List (Nat × Sb) := []
def z58L0_hd (x0 : Str) (c5 : Int) (s6 : Int) : St := ⟨27, [(0, .v .str x0), (5, .v τ6 c5), (6, .v τ6 s6)], []⟩
def z58L0_tl0 (x0 : Str) (_c5 : Int) : St := ⟨27, [(0, .v .str x0)], []⟩
def z58L0_G (N : Nat) (x0 : Str) (c5 : Int) (s6 : Int) (k : Ex → St → Option Bool) : Option Bool :=
 z58L0 N x0 c5 (k (.exit 0) (z58L0_tl0 x0 c5)) N s6
abbrev z58L0_F (N : Nat) : FV z58L0_fs → HV z58L0_bs → (Ex → St → Option Bool) → Option Bool := fun x _ k => z58L0_G N x.1 x.2.1 x.2.2.1 k
noncomputable def z58LP (N : Nat) : Nat → Code → St → (Ex → St → Option Bool) → Option Bool := fun i c =>
 match i with
 | 0 => (LPc 27 z58L0_fs z58L0_bs (z58L0_F N) (fun st k => iter (z58h 0) (exec (z58E N) N c 0) N st k))
 | i => fun st k => iter (z58h i) (exec (z58E N) N c i) N st k
theorem z58L0_step (N : Nat) (x0 : Str) (c5 : Int) (KX : Nat → St → Option Bool) (I : St → Option Bool) (s6 : Int) :
  execL (z58LP N) (z58E N) z58c0 0 (z58L0_hd x0 c5 s6) (roundK (z58h 0) I KX (z58R N)) = z58L0T N x0 c5 (KX 0 (z58L0_tl0 x0 c5)) (fun s6 => I (z58L0_hd x0 c5 s6)) s6 := by kernel_rfl
theorem z58L0_ok (N : Nat) : ∀ x y k, (∀ st, k .ret st = (z58R N) st) → iter (z58h 0) (exec (z58E N) N z58c0 0) N ⟨27, unF z58L0_fs x, unH z58L0_bs y⟩ k = z58L0_F N x y k := fun x _ k hk =>
 iter_link (S := (Int) × Unit) (z58h 0) _ (execL (z58LP N) (z58E N) z58c0 0) (z58R N) (fun st k hk => execL_eq _ _ N _ z58c0 0 (show LoopsOk (z58LP N) (z58E N) N (z58R N) [] from trivial) st k hk) (fun s => z58L0_hd x.1 x.2.1 s.1) k hk
  (fun self s => z58L0T N x.1 x.2.1 (k (.exit 0) (z58L0_tl0 x.1 x.2.1)) (fun s6 => self (s6, ())) s.1) (fun n s => z58L0 N x.1 x.2.1 (k (.exit 0) (z58L0_tl0 x.1 x.2.1)) n s.1) (fun _ => rfl) (fun _ _ => rfl)
  (fun I s => z58L0_step N x.1 x.2.1 (fun j => k (.exit j)) I s.1) N (x.2.2.1, ())
theorem z58lp0 (N : Nat) : ∀ st k, (∀ st, k .ret st = (z58R N) st) → z58LP N 0 z58c0 st k = iter (Env.hint (z58E N) 0) (exec (z58E N) N z58c0 0) N st k := fun st k hk => LPc_eq 27 z58L0_fs z58L0_bs _ _ (z58R N) (z58L0_ok N) _ st k hk (rfl)
theorem z58core (N : Nat) (x : SV [.v .str]) (y : BV []) : runL (z58E N) Tryz.f124 (z58g N) z58pk (z58LP N) x y = ref3_isCondition N x.1 := by kernel_rfl
theorem z58sound (N : Nat) : Snd 124 (z58g N) :=
 sndL (z58fn_ok N) Tryz.func124 rfl Tryz.call124 (z58g N) z58pk (fun _ _ => rfl) N (z58LP N) (show LoopsOk (z58LP N) (z58E N) N (z58R N) [(0, z58c0)] from ⟨z58lp0 N, trivial⟩) (z58core N)
def z67L0T (N : Nat) (x0 : τ7) (x1 : List τ5) (c9 : List τ5) (c10 : Int) (k0 : τ26) (self : Int → Option Int) (s11 : Int) : Option Int :=
 br (decide (s11 < c10))
  (bnd (geti c9 s11) fun t14 =>
  bnd (ref3_settingOf N x0 t14.1) fun t20 =>
  br (!t20.2)
   (some (5 : Int))
   (bnd (slices_Contains_string_string N t20.1.2 t14.2) fun t31 =>
   br (!t31)
    (some (1 : Int))
    (br (decide (s11 > (0 : Int)))
     (bnd (geti x1 (IntKind.i64.wrap (s11 - (1 : Int)))) fun t42 =>
     br (Op.bytesLess t14.1 t42.1 || t14.1 == t42.1)
      (some (8 : Int))
      (self (IntKind.i64.wrap (s11 + (1 : Int)))))
     (self (IntKind.i64.wrap (s11 + (1 : Int)))))))
  (k0)
def z67L0 (N : Nat) (x0 : τ7) (x1 : List τ5) (c9 : List τ5) (c10 : Int) (k0 : τ26) : Nat → Int → Option Int
 | 0, _ => none
 | n + 1, s11 => z67L0T N x0 x1 c9 c10 k0 (z67L0 N x0 x1 c9 c10 k0 n) s11
def ref3_checkNeeds (N : Nat) (x0 : τ7) (x1 : List τ5) : Option Int :=
 z67L0 N x0 x1 x1 (x1.length : Int) (some (0 : Int)) N (0 : Int)
abbrev z67sg (f : SV [.v τ9, .v τ0] → BV [] → Option (Int)) : AF := { ps := [.v τ9, .v τ0], bs := [], rs := [.v τ6], cs := [], R := Int, out := fun z => ((z, ()), ()), f := f }
noncomputable abbrev z67g (N : Nat) : AF := z67sg fun x _ => ref3_checkNeeds N x.1 x.2.1
abbrev z67pk : SV [.v τ6] → BV [] → Int := fun x _ => x.1
def z67fn (N : Nat) : FuncId → Option Tmp → Option AF := fun f _ =>
 match f with
  | 56 => some (z7g N)
  | 100 => some (z75g N)
  | _ => none
theorem z67fn_ok (N : Nat) : FnOk (z67fn N) := by
 intro f q F h
 unfold z67fn at h
 split at h
 · cases h; exact z7sound N
 · cases h; exact z75sound N
 · cases h
def z67h : Nat → Hint := fun i =>
 match i with
 | 0 => ⟨[], [0, 1, 9, 10, 11], [], [], [], []⟩
 | _ => hint0
abbrev z67E (N : Nat) : Env := mkE z67h (z67fn N) FF FF
noncomputable abbrev z67c0 : Code := cAt (bodyOf Tryz.f51) [true, false, true, false, false]
noncomputable abbrev z67R (N : Nat) := resD (z67E N) Tryz.f51 (z67g N) z67pk
abbrev z67L0_fs : List (Nat × Sl) := [(0, .v τ9), (1, .v τ0), (9, .v τ0), (10, .v τ6), (11, .v τ6)]
abbrev z67L0_bs : List (Nat × Sb) := []
def z67L0_hd (x0 : τ7) (x1 : List τ5) (c9 : List τ5) (c10 : Int) (s11 : Int) : St := ⟨48, [(0, .v τ9 x0), (1, .v τ0 x1), (9, .v τ0 c9), (10, .v τ6 c10), (11, .v τ6 s11)], []⟩
def z67L0_tl0 (_x0 : τ7) (_x1 : List τ5) (_c9 : List τ5) (_c10 : Int) : St := ⟨48, [], []⟩
def z67L0_G (N : Nat) (x0 : τ7) (x1 : List τ5) (c9 : List τ5) (c10 : Int) (s11 : Int) (k : Ex → St → Option Int) : Option Int :=
 z67L0 N x0 x1 c9 c10 (k (.exit 0) (z67L0_tl0 x0 x1 c9 c10)) N s11
abbrev z67L0_F (N : Nat) : FV z67L0_fs → HV z67L0_bs → (Ex → St → Option Int) → Option Int := fun x _ k => z67L0_G N x.1 x.2.1 x.2.2.1 x.2.2.2.1 x.2.2.2.2.1 k
noncomputable def z67LP (N : Nat) : Nat → Code → St → (Ex → St → Option Int) → Option Int := fun i c =>
 match i with
 | 0 => (LPc 48 z67L0_fs z67L0_bs (z67L0_F N) (fun st k => iter (z67h 0) (exec (z67E N) N c 0) N st k))
 | i => fun st k => iter (z67h i) (exec (z67E N) N c i) N st k
theorem z67L0_step (N : Nat) (x0 : τ7) (x1 : List τ5) (c9 : List τ5) (c10 : Int) (KX : Nat → St → Option Int) (I : St → Option Int) (s11 : Int) :
  execL (z67LP N) (z67E N) z67c0 0 (z67L0_hd x0 x1 c9 c10 s11) (roundK (z67h 0) I KX (z67R N)) = z67L0T N x0 x1 c9 c10 (KX 0 (z67L0_tl0 x0 x1 c9 c10)) (fun s11 => I (z67L0_hd x0 x1 c9 c10 s11)) s11 := by kernel_rfl
theorem z67L0_ok (N : Nat) : ∀ x y k, (∀ st, k .ret st = (z67R N) st) → iter (z67h 0) (exec (z67E N) N z67c0 0) N ⟨48, unF z67L0_fs x, unH z67L0_bs y⟩ k = z67L0_F N x y k := fun x _ k hk =>
 iter_link (S := (Int) × Unit) (z67h 0) _ (execL (z67LP N) (z67E N) z67c0 0) (z67R N) (fun st k hk => execL_eq _ _ N _ z67c0 0 (show LoopsOk (z67LP N) (z67E N) N (z67R N) [] from trivial) st k hk) (fun s => z67L0_hd x.1 x.2.1 x.2.2.1 x.2.2.2.1 s.1) k hk
  (fun self s => z67L0T N x.1 x.2.1 x.2.2.1 x.2.2.2.1 (k (.exit 0) (z67L0_tl0 x.1 x.2.1 x.2.2.1 x.2.2.2.1)) (fun s11 => self (s11, ())) s.1) (fun n s => z67L0 N x.1 x.2.1 x.2.2.1 x.2.2.2.1 (k (.exit 0) (z67L0_tl0 x.1 x.2.1 x.2.2.1 x.2.2.2.1)) n s.1) (fun _ => rfl) (fun _ _ => rfl)
  (fun I s => z67L0_step N x.1 x.2.1 x.2.2.1 x.2.2.2.1 (fun j => k (.exit j)) I s.1) N (x.2.2.2.2.1, ())
theorem z67lp0 (N : Nat) : ∀ st k, (∀ st, k .ret st = (z67R N) st) → z67LP N 0 z67c0 st k = iter (Env.hint (z67E N) 0) (exec (z67E N) N z67c0 0) N st k := fun st k hk => LPc_eq 48 z67L0_fs z67L0_bs _ _ (z67R N) (z67L0_ok N) _ st k hk (rfl)
theorem z67core (N : Nat) (x : SV [.v τ9, .v τ0]) (y : BV []) : runL (z67E N) Tryz.f51 (z67g N) z67pk (z67LP N) x y = ref3_checkNeeds N x.1 x.2.1 := by kernel_rfl
theorem z67sound (N : Nat) : Snd 51 (z67g N) :=
 sndL (z67fn_ok N) Tryz.func51 rfl Tryz.call51 (z67g N) z67pk (fun _ _ => rfl) N (z67LP N) (show LoopsOk (z67LP N) (z67E N) N (z67R N) [(0, z67c0)] from ⟨z67lp0 N, trivial⟩) (z67core N)
def z68L0T (N : Nat) (x0 : List τ5) (c8 : List τ5) (c9 : Int) (k0 : τ26) (self : Int → Option Int) (s10 : Int) : Option Int :=
 br (decide (s10 < c9))
  (bnd (geti c8 s10) fun t13 =>
  bnd (ref3_IsWord N t13.1) fun t18 =>
  br (!t18)
   (some (5 : Int))
   (bnd (ref3_IsWord N t13.2) fun t23 =>
   br (!t23)
    (some (1 : Int))
    (br (decide (s10 > (0 : Int)))
     (bnd (geti x0 (IntKind.i64.wrap (s10 - (1 : Int)))) fun t34 =>
     br (Op.bytesLess t13.1 t34.1 || t13.1 == t34.1)
      (some (8 : Int))
      (self (IntKind.i64.wrap (s10 + (1 : Int)))))
     (self (IntKind.i64.wrap (s10 + (1 : Int)))))))
  (k0)
def z68L0 (N : Nat) (x0 : List τ5) (c8 : List τ5) (c9 : Int) (k0 : τ26) : Nat → Int → Option Int
 | 0, _ => none
 | n + 1, s10 => z68L0T N x0 c8 c9 k0 (z68L0 N x0 c8 c9 k0 n) s10
def ref3_checkPairs (N : Nat) (x0 : List τ5) : Option Int :=
 br (decide ((x0.length : Int) > (30 : Int)))
  (some (2 : Int))
  (z68L0 N x0 x0 (x0.length : Int) (some (0 : Int)) N (0 : Int))
abbrev z68sg (f : SV [.v τ0] → BV [] → Option (Int)) : AF := { ps := [.v τ0], bs := [], rs := [.v τ6], cs := [], R := Int, out := fun z => ((z, ()), ()), f := f }
noncomputable abbrev z68g (N : Nat) : AF := z68sg fun x _ => ref3_checkPairs N x.1
abbrev z68pk : SV [.v τ6] → BV [] → Int := fun x _ => x.1
def z68fn (N : Nat) : FuncId → Option Tmp → Option AF := fun f _ =>
 match f with
  | 50 => some (z106g N)
  | _ => none
theorem z68fn_ok (N : Nat) : FnOk (z68fn N) := by
 intro f q F h
 unfold z68fn at h
 split at h
 · cases h; exact z106sound N
 · cases h
def z68h : Nat → Hint := fun i =>
 match i with
 | 0 => ⟨[], [0, 8, 9, 10], [], [], [], []⟩
 | _ => hint0
abbrev z68E (N : Nat) : Env := mkE z68h (z68fn N) FF FF
noncomputable abbrev z68c0 : Code := cAt (bodyOf Tryz.f125) [true, true, false, true, false, false]
noncomputable abbrev z68R (N : Nat) := resD (z68E N) Tryz.f125 (z68g N) z68pk
abbrev z68L0_fs : List (Nat × Sl) := [(0, .v τ0), (8, .v τ0), (9, .v τ6), (10, .v τ6)]
abbrev z68L0_bs : List (Nat × Sb) := []
def z68L0_hd (x0 : List τ5) (c8 : List τ5) (c9 : Int) (s10 : Int) : St := ⟨40, [(0, .v τ0 x0), (8, .v τ0 c8), (9, .v τ6 c9), (10, .v τ6 s10)], []⟩
def z68L0_tl0 (_x0 : List τ5) (_c8 : List τ5) (_c9 : Int) : St := ⟨40, [], []⟩
def z68L0_G (N : Nat) (x0 : List τ5) (c8 : List τ5) (c9 : Int) (s10 : Int) (k : Ex → St → Option Int) : Option Int :=
 z68L0 N x0 c8 c9 (k (.exit 0) (z68L0_tl0 x0 c8 c9)) N s10
abbrev z68L0_F (N : Nat) : FV z68L0_fs → HV z68L0_bs → (Ex → St → Option Int) → Option Int := fun x _ k => z68L0_G N x.1 x.2.1 x.2.2.1 x.2.2.2.1 k
noncomputable def z68LP (N : Nat) : Nat → Code → St → (Ex → St → Option Int) → Option Int := fun i c =>
 match i with
 | 0 => (LPc 40 z68L0_fs z68L0_bs (z68L0_F N) (fun st k => iter (z68h 0) (exec (z68E N) N c 0) N st k))
 | i => fun st k => iter (z68h i) (exec (z68E N) N c i) N st k
theorem z68L0_step (N : Nat) (x0 : List τ5) (c8 : List τ5) (c9 : Int) (KX : Nat → St → Option Int) (I : St → Option Int) (s10 : Int) :
  execL (z68LP N) (z68E N) z68c0 0 (z68L0_hd x0 c8 c9 s10) (roundK (z68h 0) I KX (z68R N)) = z68L0T N x0 c8 c9 (KX 0 (z68L0_tl0 x0 c8 c9)) (fun s10 => I (z68L0_hd x0 c8 c9 s10)) s10 := by kernel_rfl
theorem z68L0_ok (N : Nat) : ∀ x y k, (∀ st, k .ret st = (z68R N) st) → iter (z68h 0) (exec (z68E N) N z68c0 0) N ⟨40, unF z68L0_fs x, unH z68L0_bs y⟩ k = z68L0_F N x y k := fun x _ k hk =>
 iter_link (S := (Int) × Unit) (z68h 0) _ (execL (z68LP N) (z68E N) z68c0 0) (z68R N) (fun st k hk => execL_eq _ _ N _ z68c0 0 (show LoopsOk (z68LP N) (z68E N) N (z68R N) [] from trivial) st k hk) (fun s => z68L0_hd x.1 x.2.1 x.2.2.1 s.1) k hk
  (fun self s => z68L0T N x.1 x.2.1 x.2.2.1 (k (.exit 0) (z68L0_tl0 x.1 x.2.1 x.2.2.1)) (fun s10 => self (s10, ())) s.1) (fun n s => z68L0 N x.1 x.2.1 x.2.2.1 (k (.exit 0) (z68L0_tl0 x.1 x.2.1 x.2.2.1)) n s.1) (fun _ => rfl) (fun _ _ => rfl)
  (fun I s => z68L0_step N x.1 x.2.1 x.2.2.1 (fun j => k (.exit j)) I s.1) N (x.2.2.2.1, ())
theorem z68lp0 (N : Nat) : ∀ st k, (∀ st, k .ret st = (z68R N) st) → z68LP N 0 z68c0 st k = iter (Env.hint (z68E N) 0) (exec (z68E N) N z68c0 0) N st k := fun st k hk => LPc_eq 40 z68L0_fs z68L0_bs _ _ (z68R N) (z68L0_ok N) _ st k hk (rfl)
theorem z68core (N : Nat) (x : SV [.v τ0]) (y : BV []) : runL (z68E N) Tryz.f125 (z68g N) z68pk (z68LP N) x y = ref3_checkPairs N x.1 := by kernel_rfl
theorem z68sound (N : Nat) : Snd 125 (z68g N) :=
 sndL (z68fn_ok N) Tryz.func125 rfl Tryz.call125 (z68g N) z68pk (fun _ _ => rfl) N (z68LP N) (show LoopsOk (z68LP N) (z68E N) N (z68R N) [(0, z68c0)] from ⟨z68lp0 N, trivial⟩) (z68core N)
def z32L0T (N : Nat) (x0 : τ7) (x1 : List τ1) (c18 : List τ1) (c19 : Int) (k0 : τ26) (self : Int → Option Int) (s20 : Int) : Option Int :=
 br (decide (s20 < c19))
  (bnd (geti c18 s20) fun t23 =>
  bnd (ref3_isCondition N t23.1) fun t27 =>
  br (!t27)
   (some (3 : Int))
   (br (decide ((t23.2.1.length : Int) > (30 : Int)))
    (some (2 : Int))
    (br (decide ((t23.2.2.length : Int) > (30 : Int)))
     (some (2 : Int))
     (bnd (ref3_checkNeeds N x0 t23.2.1) fun t42 =>
     br (t42 != (0 : Int))
      (some t42)
      (bnd (ref3_checkPairs N t23.2.2) fun t48 =>
      br (t48 != (0 : Int))
       (some t48)
       (br (decide (s20 > (0 : Int)))
        (bnd (geti x1 (IntKind.i64.wrap (s20 - (1 : Int)))) fun t60 =>
        br (Op.bytesLess t23.1 t60.1 || t23.1 == t60.1)
         (some (8 : Int))
         (self (IntKind.i64.wrap (s20 + (1 : Int)))))
        (self (IntKind.i64.wrap (s20 + (1 : Int))))))))))
  (k0)
def z32L0 (N : Nat) (x0 : τ7) (x1 : List τ1) (c18 : List τ1) (c19 : Int) (k0 : τ26) : Nat → Int → Option Int
 | 0, _ => none
 | n + 1, s20 => z32L0T N x0 x1 c18 c19 k0 (z32L0 N x0 x1 c18 c19 k0 n) s20
def ref3_CheckConditions (N : Nat) (x0 : τ7) (x1 : List τ1) : Option Int :=
 bnd (ref3_CheckSettings N x0) fun t11 =>
 br (t11 != (0 : Int))
  (some t11)
  (br (decide ((x1.length : Int) > (100 : Int)))
   (some (2 : Int))
   (z32L0 N x0 x1 x1 (x1.length : Int) (some (0 : Int)) N (0 : Int)))
abbrev z32sg (f : SV [.v τ9, .v (.sl τ8)] → BV [] → Option (Int)) : AF := { ps := [.v τ9, .v (.sl τ8)], bs := [], rs := [.v τ6], cs := [], R := Int, out := fun z => ((z, ()), ()), f := f }
noncomputable abbrev z32g (N : Nat) : AF := z32sg fun x _ => ref3_CheckConditions N x.1 x.2.1
abbrev z32pk : SV [.v τ6] → BV [] → Int := fun x _ => x.1
def z32fn (N : Nat) : FuncId → Option Tmp → Option AF := fun f _ =>
 match f with
  | 49 => some (z43g N)
  | 51 => some (z67g N)
  | 124 => some (z58g N)
  | 125 => some (z68g N)
  | _ => none
theorem z32fn_ok (N : Nat) : FnOk (z32fn N) := by
 intro f q F h
 unfold z32fn at h
 split at h
 · cases h; exact z43sound N
 · cases h; exact z67sound N
 · cases h; exact z58sound N
 · cases h; exact z68sound N
 · cases h
def z32h : Nat → Hint := fun i =>
 match i with
 | 0 => ⟨[], [0, 1, 18, 19, 20], [], [], [], []⟩
 | _ => hint0
abbrev z32E (N : Nat) : Env := mkE z32h (z32fn N) FF FF
noncomputable abbrev z32c0 : Code := cAt (bodyOf Tryz.f69) [true, true, true, false, true, false, false]
noncomputable abbrev z32R (N : Nat) := resD (z32E N) Tryz.f69 (z32g N) z32pk
abbrev z32L0_fs : List (Nat × Sl) := [(0, .v τ9), (1, .v (.sl τ8)), (18, .v (.sl τ8)), (19, .v τ6), (20, .v τ6)]
abbrev z32L0_bs : List (Nat × Sb) := []
def z32L0_hd (x0 : τ7) (x1 : List τ1) (c18 : List τ1) (c19 : Int) (s20 : Int) : St := ⟨66, [(0, .v τ9 x0), (1, .v (.sl τ8) x1), (18, .v (.sl τ8) c18), (19, .v τ6 c19), (20, .v τ6 s20)], []⟩
def z32L0_tl0 (_x0 : τ7) (_x1 : List τ1) (_c18 : List τ1) (_c19 : Int) : St := ⟨66, [], []⟩
def z32L0_G (N : Nat) (x0 : τ7) (x1 : List τ1) (c18 : List τ1) (c19 : Int) (s20 : Int) (k : Ex → St → Option Int) : Option Int :=
 z32L0 N x0 x1 c18 c19 (k (.exit 0) (z32L0_tl0 x0 x1 c18 c19)) N s20
abbrev z32L0_F (N : Nat) : FV z32L0_fs → HV z32L0_bs → (Ex → St → Option Int) → Option Int := fun x _ k => z32L0_G N x.1 x.2.1 x.2.2.1 x.2.2.2.1 x.2.2.2.2.1 k
noncomputable def z32LP (N : Nat) : Nat → Code → St → (Ex → St → Option Int) → Option Int := fun i c =>
 match i with
 | 0 => (LPc 66 z32L0_fs z32L0_bs (z32L0_F N) (fun st k => iter (z32h 0) (exec (z32E N) N c 0) N st k))
 | i => fun st k => iter (z32h i) (exec (z32E N) N c i) N st k
theorem z32L0_step (N : Nat) (x0 : τ7) (x1 : List τ1) (c18 : List τ1) (c19 : Int) (KX : Nat → St → Option Int) (I : St → Option Int) (s20 : Int) :
  execL (z32LP N) (z32E N) z32c0 0 (z32L0_hd x0 x1 c18 c19 s20) (roundK (z32h 0) I KX (z32R N)) = z32L0T N x0 x1 c18 c19 (KX 0 (z32L0_tl0 x0 x1 c18 c19)) (fun s20 => I (z32L0_hd x0 x1 c18 c19 s20)) s20 := by kernel_rfl
theorem z32L0_ok (N : Nat) : ∀ x y k, (∀ st, k .ret st = (z32R N) st) → iter (z32h 0) (exec (z32E N) N z32c0 0) N ⟨66, unF z32L0_fs x, unH z32L0_bs y⟩ k = z32L0_F N x y k := fun x _ k hk =>
 iter_link (S := (Int) × Unit) (z32h 0) _ (execL (z32LP N) (z32E N) z32c0 0) (z32R N) (fun st k hk => execL_eq _ _ N _ z32c0 0 (show LoopsOk (z32LP N) (z32E N) N (z32R N) [] from trivial) st k hk) (fun s => z32L0_hd x.1 x.2.1 x.2.2.1 x.2.2.2.1 s.1) k hk
  (fun self s => z32L0T N x.1 x.2.1 x.2.2.1 x.2.2.2.1 (k (.exit 0) (z32L0_tl0 x.1 x.2.1 x.2.2.1 x.2.2.2.1)) (fun s20 => self (s20, ())) s.1) (fun n s => z32L0 N x.1 x.2.1 x.2.2.1 x.2.2.2.1 (k (.exit 0) (z32L0_tl0 x.1 x.2.1 x.2.2.1 x.2.2.2.1)) n s.1) (fun _ => rfl) (fun _ _ => rfl)
  (fun I s => z32L0_step N x.1 x.2.1 x.2.2.1 x.2.2.2.1 (fun j => k (.exit j)) I s.1) N (x.2.2.2.2.1, ())
theorem z32lp0 (N : Nat) : ∀ st k, (∀ st, k .ret st = (z32R N) st) → z32LP N 0 z32c0 st k = iter (Env.hint (z32E N) 0) (exec (z32E N) N z32c0 0) N st k := fun st k hk => LPc_eq 66 z32L0_fs z32L0_bs _ _ (z32R N) (z32L0_ok N) _ st k hk (rfl)
theorem z32core (N : Nat) (x : SV [.v τ9, .v (.sl τ8)]) (y : BV []) : runL (z32E N) Tryz.f69 (z32g N) z32pk (z32LP N) x y = ref3_CheckConditions N x.1 x.2.1 := by kernel_rfl
theorem z32sound (N : Nat) : Snd 69 (z32g N) :=
 sndL (z32fn_ok N) Tryz.func69 rfl Tryz.call69 (z32g N) z32pk (fun _ _ => rfl) N (z32LP N) (show LoopsOk (z32LP N) (z32E N) N (z32R N) [(0, z32c0)] from ⟨z32lp0 N, trivial⟩) (z32core N)
end
end Go.Proofs.YtbekhaioddmliaaGreatDoor

