/- What functions of the program compute, as plain functions (printed). -/
import Derived.Test.YtbekhaioddmliaaGreatDoorQZeF7
namespace Go.Proofs.YtbekhaioddmliaaGreatDoor
open Go Go.RowKit
set_option maxRecDepth 100000
set_option linter.unusedVariables false
noncomputable section
def z5L0T (N : Nat) (x0 : List τ1) (x1 : Str × Unit) (c7 : Int) (k0 : τ26) (self : Int → Option Int) (s8 : Int) : Option Int :=
 br (decide (s8 < c7))
  (bnd (geti x0 s8) fun t14 =>
  bnd (config_conditionOf_1 N t14 x1.1) fun t16 =>
  br (t16)
   (some s8)
   (self (IntKind.i64.wrap (s8 + (1 : Int)))))
  (k0)
def z5L0 (N : Nat) (x0 : List τ1) (x1 : Str × Unit) (c7 : Int) (k0 : τ26) : Nat → Int → Option Int
 | 0, _ => none
 | n + 1, s8 => z5L0T N x0 x1 c7 k0 (z5L0 N x0 x1 c7 k0 n) s8
def slices_IndexFunc_api_Condition (N : Nat) (x0 : List τ1) (x1 : Str × Unit) : Option Int :=
 z5L0 N x0 x1 (x0.length : Int) (some (-1 : Int)) N (0 : Int)
abbrev z5sg (f : SV [.v (.sl τ8), .v (.clo 121 (.pr (.ptr .str) .un))] → BV [] → Option (Int)) : AF := { ps := [.v (.sl τ8), .v (.clo 121 (.pr (.ptr .str) .un))], bs := [], rs := [.v τ6], cs := [], R := Int, out := fun z => ((z, ()), ()), f := f }
noncomputable abbrev z5g (N : Nat) : AF := z5sg fun x _ => slices_IndexFunc_api_Condition N x.1 x.2.1
abbrev z5pk : SV [.v τ6] → BV [] → Int := fun x _ => x.1
def z5fn (N : Nat) : FuncId → Option Tmp → Option AF := fun f _ =>
 match f with
  | 121 => some (z31g N)
  | _ => none
theorem z5fn_ok (N : Nat) : FnOk (z5fn N) := by
 intro f q F h
 unfold z5fn at h
 split at h
 · cases h; exact z31sound N
 · cases h
def z5h : Nat → Hint := fun i =>
 match i with
 | 0 => ⟨[], [0, 1, 7, 8], [], [], [], []⟩
 | _ => hint0
abbrev z5E (N : Nat) : Env := mkE z5h (z5fn N) FF FF
noncomputable abbrev z5c0 : Code := cAt (bodyOf Tryz.f120) [true, false, true, false, false]
noncomputable abbrev z5R (N : Nat) := resD (z5E N) Tryz.f120 (z5g N) z5pk
abbrev z5L0_fs : List (Nat × Sl) := [(0, .v (.sl τ8)), (1, .v (.clo 121 (.pr (.ptr .str) .un))), (7, .v τ6), (8, .v τ6)]
abbrev z5L0_bs : List (Nat × Sb) := []
def z5L0_hd (x0 : List τ1) (x1 : Str × Unit) (c7 : Int) (s8 : Int) : St := ⟨19, [(0, .v (.sl τ8) x0), (1, .v (.clo 121 (.pr (.ptr .str) .un)) x1), (7, .v τ6 c7), (8, .v τ6 s8)], []⟩
def z5L0_tl0 (_x0 : List τ1) (_x1 : Str × Unit) (_c7 : Int) : St := ⟨19, [], []⟩
def z5L0_G (N : Nat) (x0 : List τ1) (x1 : Str × Unit) (c7 : Int) (s8 : Int) (k : Ex → St → Option Int) : Option Int :=
 z5L0 N x0 x1 c7 (k (.exit 0) (z5L0_tl0 x0 x1 c7)) N s8
abbrev z5L0_F (N : Nat) : FV z5L0_fs → HV z5L0_bs → (Ex → St → Option Int) → Option Int := fun x _ k => z5L0_G N x.1 x.2.1 x.2.2.1 x.2.2.2.1 k
noncomputable def z5LP (N : Nat) : Nat → Code → St → (Ex → St → Option Int) → Option Int := fun i c =>
 match i with
 | 0 => (LPc 19 z5L0_fs z5L0_bs (z5L0_F N) (fun st k => iter (z5h 0) (exec (z5E N) N c 0) N st k))
 | i => fun st k => iter (z5h i) (exec (z5E N) N c i) N st k
theorem z5L0_step (N : Nat) (x0 : List τ1) (x1 : Str × Unit) (c7 : Int) (KX : Nat → St → Option Int) (I : St → Option Int) (s8 : Int) :
  execL (z5LP N) (z5E N) z5c0 0 (z5L0_hd x0 x1 c7 s8) (roundK (z5h 0) I KX (z5R N)) = z5L0T N x0 x1 c7 (KX 0 (z5L0_tl0 x0 x1 c7)) (fun s8 => I (z5L0_hd x0 x1 c7 s8)) s8 := by kernel_rfl
theorem z5L0_ok (N : Nat) : ∀ x y k, (∀ st, k .ret st = (z5R N) st) → iter (z5h 0) (exec (z5E N) N z5c0 0) N ⟨19, unF z5L0_fs x, unH z5L0_bs y⟩ k = z5L0_F N x y k := fun x _ k hk =>
 iter_link (S := (Int) × Unit) (z5h 0) _ (execL (z5LP N) (z5E N) z5c0 0) (z5R N) (fun st k hk => execL_eq _ _ N _ z5c0 0 (show LoopsOk (z5LP N) (z5E N) N (z5R N) [] from trivial) st k hk) (fun s => z5L0_hd x.1 x.2.1 x.2.2.1 s.1) k hk
  (fun self s => z5L0T N x.1 x.2.1 x.2.2.1 (k (.exit 0) (z5L0_tl0 x.1 x.2.1 x.2.2.1)) (fun s8 => self (s8, ())) s.1) (fun n s => z5L0 N x.1 x.2.1 x.2.2.1 (k (.exit 0) (z5L0_tl0 x.1 x.2.1 x.2.2.1)) n s.1) (fun _ => rfl) (fun _ _ => rfl)
  (fun I s => z5L0_step N x.1 x.2.1 x.2.2.1 (fun j => k (.exit j)) I s.1) N (x.2.2.2.1, ())
theorem z5lp0 (N : Nat) : ∀ st k, (∀ st, k .ret st = (z5R N) st) → z5LP N 0 z5c0 st k = iter (Env.hint (z5E N) 0) (exec (z5E N) N z5c0 0) N st k := fun st k hk => LPc_eq 19 z5L0_fs z5L0_bs _ _ (z5R N) (z5L0_ok N) _ st k hk (rfl)
theorem z5core (N : Nat) (x : SV [.v (.sl τ8), .v (.clo 121 (.pr (.ptr .str) .un))]) (y : BV []) : runL (z5E N) Tryz.f120 (z5g N) z5pk (z5LP N) x y = slices_IndexFunc_api_Condition N x.1 x.2.1 := by kernel_rfl
theorem z5sound (N : Nat) : Snd 120 (z5g N) :=
 sndL (z5fn_ok N) Tryz.func120 rfl Tryz.call120 (z5g N) z5pk (fun _ _ => rfl) N (z5LP N) (show LoopsOk (z5LP N) (z5E N) N (z5R N) [(0, z5c0)] from ⟨z5lp0 N, trivial⟩) (z5core N)
def config_conditionOf (N : Nat) (x0 : List τ1) (x1 : Str) : Option (τ1 × Bool) :=
 bnd (slices_IndexFunc_api_Condition N x0 (x1, ())) fun t9 =>
 br (decide (t9 < (0 : Int)))
  (some ((([] : Str), (([] : List τ5), ([] : List τ5))), false))
  (bnd (geti x0 t9) fun t15 =>
  some (t15, true))
abbrev z42sg (f : SV [.v (.sl τ8), .v .str] → BV [] → Option (τ1 × Bool)) : AF := { ps := [.v (.sl τ8), .v .str], bs := [], rs := [.v τ8, .v .bool], cs := [], R := τ1 × Bool, out := fun z => ((z.1, z.2, ()), ()), f := f }
noncomputable abbrev z42g (N : Nat) : AF := z42sg fun x _ => config_conditionOf N x.1 x.2.1
abbrev z42pk : SV [.v τ8, .v .bool] → BV [] → (τ1 × Bool) := fun x _ => (x.1, x.2.1)
def z42fn (N : Nat) : FuncId → Option Tmp → Option AF := fun f _ =>
 match f with
  | 120 => some (z5g N)
  | 121 => some (noneAF [.v (.ptr .str)])
  | _ => none
theorem z42fn_ok (N : Nat) : FnOk (z42fn N) := by
 intro f q F h
 unfold z42fn at h
 split at h
 · cases h; exact z5sound N
 · cases h; exact noneAF_sound Tryz.call121 _
 · cases h
def z42h : Nat → Hint := fun i =>
 match i with
 | _ => hint0
abbrev z42E (N : Nat) : Env := mkE z42h (z42fn N) FF FF
noncomputable def z42LP (N : Nat) : Nat → Code → St → (Ex → St → Option (τ1 × Bool)) → Option (τ1 × Bool) := fun i c =>
 match i with
 | i => fun st k => iter (z42h i) (exec (z42E N) N c i) N st k
theorem z42core (N : Nat) (x : SV [.v (.sl τ8), .v .str]) (y : BV []) : runL (z42E N) Tryz.f66 (z42g N) z42pk (z42LP N) x y = config_conditionOf N x.1 x.2.1 := by kernel_rfl
theorem z42sound (N : Nat) : Snd 66 (z42g N) :=
 sndL (z42fn_ok N) Tryz.func66 rfl Tryz.call66 (z42g N) z42pk (fun _ _ => rfl) N (z42LP N) (show LoopsOk (z42LP N) (z42E N) N (resD (z42E N) Tryz.f66 (z42g N) z42pk) [] from trivial) (z42core N)
def z48L0T (N : Nat) (x0 : List τ1) (c10 : List τ2) (c11 : Int) (k0 : τ26) (self : Int → Option Int) (s12 : Int) : Option Int :=
 br (decide (s12 < c11))
  (bnd (geti c10 s12) fun t14 =>
  bnd (config_conditionOf N x0 t14.1) fun t20 =>
  br (!t20.2)
   (br (!(t14.1 == ([100, 101, 102, 97, 117, 108, 116] : Str)))
    (some (5 : Int))
    (self (IntKind.i64.wrap (s12 + (1 : Int)))))
   (self (IntKind.i64.wrap (s12 + (1 : Int)))))
  (k0)
def z48L0 (N : Nat) (x0 : List τ1) (c10 : List τ2) (c11 : Int) (k0 : τ26) : Nat → Int → Option Int
 | 0, _ => none
 | n + 1, s12 => z48L0T N x0 c10 c11 k0 (z48L0 N x0 c10 c11 k0 n) s12
def config_checkNamed (N : Nat) (x0 : List τ1) (x1 : GValue) : Option Int :=
 z48L0 N x0 x1.cases (x1.cases.length : Int) (some (0 : Int)) N (0 : Int)
abbrev z48sg (f : SV [.v (.sl τ8), .v τ15] → BV [] → Option (Int)) : AF := { ps := [.v (.sl τ8), .v τ15], bs := [], rs := [.v τ6], cs := [], R := Int, out := fun z => ((z, ()), ()), f := f }
noncomputable abbrev z48g (N : Nat) : AF := z48sg fun x _ => config_checkNamed N x.1 x.2.1
abbrev z48pk : SV [.v τ6] → BV [] → Int := fun x _ => x.1
def z48fn (N : Nat) : FuncId → Option Tmp → Option AF := fun f _ =>
 match f with
  | 66 => some (z42g N)
  | _ => none
theorem z48fn_ok (N : Nat) : FnOk (z48fn N) := by
 intro f q F h
 unfold z48fn at h
 split at h
 · cases h; exact z42sound N
 · cases h
def z48h : Nat → Hint := fun i =>
 match i with
 | 0 => ⟨[], [0, 10, 11, 12], [], [], [], []⟩
 | _ => hint0
abbrev z48E (N : Nat) : Env := mkE z48h (z48fn N) FF FF
noncomputable abbrev z48c0 : Code := cAt (bodyOf Tryz.f65) [true, false, true, false, false]
noncomputable abbrev z48R (N : Nat) := resD (z48E N) Tryz.f65 (z48g N) z48pk
abbrev z48L0_fs : List (Nat × Sl) := [(0, .v (.sl τ8)), (10, .v (.sl τ3)), (11, .v τ6), (12, .v τ6)]
abbrev z48L0_bs : List (Nat × Sb) := []
def z48L0_hd (x0 : List τ1) (c10 : List τ2) (c11 : Int) (s12 : Int) : St := ⟨31, [(0, .v (.sl τ8) x0), (10, .v (.sl τ3) c10), (11, .v τ6 c11), (12, .v τ6 s12)], []⟩
def z48L0_tl0 (_x0 : List τ1) (_c10 : List τ2) (_c11 : Int) : St := ⟨31, [], []⟩
def z48L0_G (N : Nat) (x0 : List τ1) (c10 : List τ2) (c11 : Int) (s12 : Int) (k : Ex → St → Option Int) : Option Int :=
 z48L0 N x0 c10 c11 (k (.exit 0) (z48L0_tl0 x0 c10 c11)) N s12
abbrev z48L0_F (N : Nat) : FV z48L0_fs → HV z48L0_bs → (Ex → St → Option Int) → Option Int := fun x _ k => z48L0_G N x.1 x.2.1 x.2.2.1 x.2.2.2.1 k
noncomputable def z48LP (N : Nat) : Nat → Code → St → (Ex → St → Option Int) → Option Int := fun i c =>
 match i with
 | 0 => (LPc 31 z48L0_fs z48L0_bs (z48L0_F N) (fun st k => iter (z48h 0) (exec (z48E N) N c 0) N st k))
 | i => fun st k => iter (z48h i) (exec (z48E N) N c i) N st k
theorem z48L0_step (N : Nat) (x0 : List τ1) (c10 : List τ2) (c11 : Int) (KX : Nat → St → Option Int) (I : St → Option Int) (s12 : Int) :
  execL (z48LP N) (z48E N) z48c0 0 (z48L0_hd x0 c10 c11 s12) (roundK (z48h 0) I KX (z48R N)) = z48L0T N x0 c10 c11 (KX 0 (z48L0_tl0 x0 c10 c11)) (fun s12 => I (z48L0_hd x0 c10 c11 s12)) s12 := by kernel_rfl
theorem z48L0_ok (N : Nat) : ∀ x y k, (∀ st, k .ret st = (z48R N) st) → iter (z48h 0) (exec (z48E N) N z48c0 0) N ⟨31, unF z48L0_fs x, unH z48L0_bs y⟩ k = z48L0_F N x y k := fun x _ k hk =>
 iter_link (S := (Int) × Unit) (z48h 0) _ (execL (z48LP N) (z48E N) z48c0 0) (z48R N) (fun st k hk => execL_eq _ _ N _ z48c0 0 (show LoopsOk (z48LP N) (z48E N) N (z48R N) [] from trivial) st k hk) (fun s => z48L0_hd x.1 x.2.1 x.2.2.1 s.1) k hk
  (fun self s => z48L0T N x.1 x.2.1 x.2.2.1 (k (.exit 0) (z48L0_tl0 x.1 x.2.1 x.2.2.1)) (fun s12 => self (s12, ())) s.1) (fun n s => z48L0 N x.1 x.2.1 x.2.2.1 (k (.exit 0) (z48L0_tl0 x.1 x.2.1 x.2.2.1)) n s.1) (fun _ => rfl) (fun _ _ => rfl)
  (fun I s => z48L0_step N x.1 x.2.1 x.2.2.1 (fun j => k (.exit j)) I s.1) N (x.2.2.2.1, ())
theorem z48lp0 (N : Nat) : ∀ st k, (∀ st, k .ret st = (z48R N) st) → z48LP N 0 z48c0 st k = iter (Env.hint (z48E N) 0) (exec (z48E N) N z48c0 0) N st k := fun st k hk => LPc_eq 31 z48L0_fs z48L0_bs _ _ (z48R N) (z48L0_ok N) _ st k hk (rfl)
theorem z48core (N : Nat) (x : SV [.v (.sl τ8), .v τ15]) (y : BV []) : runL (z48E N) Tryz.f65 (z48g N) z48pk (z48LP N) x y = config_checkNamed N x.1 x.2.1 := by kernel_rfl
theorem z48sound (N : Nat) : Snd 65 (z48g N) :=
 sndL (z48fn_ok N) Tryz.func65 rfl Tryz.call65 (z48g N) z48pk (fun _ _ => rfl) N (z48LP N) (show LoopsOk (z48LP N) (z48E N) N (z48R N) [(0, z48c0)] from ⟨z48lp0 N, trivial⟩) (z48core N)
def config_chosen_1 (_N : Nat) (x0 : Str × GValue) : Option Bool :=
 some (x0.1 == ([100, 101, 102, 97, 117, 108, 116] : Str))
abbrev z62sg (f : SV [.v τ3] → BV [] → Option (Bool)) : AF := { ps := [.v τ3], bs := [], rs := [.v .bool], cs := [], R := Bool, out := fun z => ((z, ()), ()), f := f }
noncomputable abbrev z62g (N : Nat) : AF := z62sg fun x _ => config_chosen_1 N x.1
abbrev z62pk : SV [.v .bool] → BV [] → Bool := fun x _ => x.1
def z62fn (_N : Nat) : FuncId → Option Tmp → Option AF := fun f _ =>
 match f with
  | _ => none
theorem z62fn_ok (N : Nat) : FnOk (z62fn N) := by
 intro f q F h
 unfold z62fn at h
 split at h
 · cases h
def z62h : Nat → Hint := fun i =>
 match i with
 | _ => hint0
abbrev z62E (N : Nat) : Env := mkE z62h (z62fn N) FF FF
noncomputable def z62LP (N : Nat) : Nat → Code → St → (Ex → St → Option Bool) → Option Bool := fun i c =>
 match i with
 | i => fun st k => iter (z62h i) (exec (z62E N) N c i) N st k
theorem z62core (N : Nat) (x : SV [.v τ3]) (y : BV []) : runL (z62E N) Tryz.f83 (z62g N) z62pk (z62LP N) x y = config_chosen_1 N x.1 := by kernel_rfl
theorem z62sound (N : Nat) : Snd 83 (z62g N) :=
 sndL (z62fn_ok N) Tryz.func83 rfl Tryz.call83 (z62g N) z62pk (fun _ _ => rfl) N (z62LP N) (show LoopsOk (z62LP N) (z62E N) N (resD (z62E N) Tryz.f83 (z62g N) z62pk) [] from trivial) (z62core N)
abbrev z76sg (f : SV [.v τ3, .v τ3] → BV [] → Option (Bool)) : AF := { ps := [.v τ3, .v τ3], bs := [], rs := [.v .bool], cs := [], R := Bool, out := fun z => ((z, ()), ()), f := f }
def z18L0T (_N : Nat) (r_script_Equal_1 : τ2 → τ2 → Option (Bool)) (x1 : List τ2) (x0 : List τ2) (c16 : Int) (k0 : τ30) (self : Int → Option Bool) (s17 : Int) : Option Bool :=
 br (decide (s17 < c16))
  (bnd (geti x0 s17) fun t20 =>
  bnd (geti x1 s17) fun t24 =>
  bnd (r_script_Equal_1 (t20.1, GValue.mk t20.2.kind t20.2.text t20.2.number t20.2.list t20.2.cases) (t24.1, GValue.mk t24.2.kind t24.2.text t24.2.number t24.2.list t24.2.cases)) fun t29 =>
  br (!t29)
   (some false)
   (self (IntKind.i64.wrap (s17 + (1 : Int)))))
  (k0)
def z18L0 (N : Nat) (r_script_Equal_1 : τ2 → τ2 → Option (Bool)) (x1 : List τ2) (x0 : List τ2) (c16 : Int) (k0 : τ30) : Nat → Int → Option Bool
 | 0, _ => none
 | n + 1, s17 => z18L0T N r_script_Equal_1 x1 x0 c16 k0 (z18L0 N r_script_Equal_1 x1 x0 c16 k0 n) s17
def slices_EqualFunc_api_Case (N : Nat) (r_script_Equal_1 : τ2 → τ2 → Option (Bool)) (x0 : List τ2) (x1 : List τ2) (_x2 : Unit) : Option Bool :=
 br ((x0.length : Int) != (x1.length : Int))
  (some false)
  (z18L0 N r_script_Equal_1 x1 x0 (x0.length : Int) (some true) N (0 : Int))
abbrev z18sg (f : SV [.v (.sl τ3), .v (.sl τ3), .v (.clo 136 .un)] → BV [] → Option (Bool)) : AF := { ps := [.v (.sl τ3), .v (.sl τ3), .v (.clo 136 .un)], bs := [], rs := [.v .bool], cs := [], R := Bool, out := fun z => ((z, ()), ()), f := f }
abbrev z18pk : SV [.v .bool] → BV [] → Bool := fun x _ => x.1
def z18fn (_N : Nat) (r_script_Equal_1 : τ2 → τ2 → Option (Bool)) : FuncId → Option Tmp → Option AF := fun f _ =>
 match f with
  | 136 => some (z76sg fun x _ => r_script_Equal_1 x.1 x.2.1)
  | _ => none
theorem z18fn_ok (N : Nat) (r_script_Equal_1 : τ2 → τ2 → Option (Bool)) (h_script_Equal_1 : Sound Tryz.prog GW B0G 136 (z76sg fun x y => r_script_Equal_1 x.1 x.2.1)) : ∀ f q F, z18fn N r_script_Equal_1 f q = some F → Sound Tryz.prog GW B0G f F := by
 intro f q F h
 unfold z18fn at h
 split at h
 · cases h; exact h_script_Equal_1
 · cases h
def z18h : Nat → Hint := fun i =>
 match i with
 | 0 => ⟨[], [1, 2, 15, 16, 17], [], [], [], []⟩
 | _ => hint0
abbrev z18E (N : Nat) (r_script_Equal_1 : τ2 → τ2 → Option (Bool)) : Env := mkE z18h (z18fn N r_script_Equal_1) (fun _ => false) (fun _ => false)
noncomputable abbrev z18c0 : Code := cAt (bodyOf Tryz.f135) [true, true, false, true, false, false]
abbrev z18L0_fs : List (Nat × Sl) := [(1, .v (.sl τ3)), (2, .v (.clo 136 .un)), (15, .v (.sl τ3)), (16, .v τ6), (17, .v τ6)]
abbrev z18L0_bs : List (Nat × Sb) := []
def z18L0_hd (x1 : List τ2) (x2 : Unit) (x0 : List τ2) (c16 : Int) (s17 : Int) : St := ⟨32, [(1, .v (.sl τ3) x1), (2, .v (.clo 136 .un) x2), (15, .v (.sl τ3) x0), (16, .v τ6 c16), (17, .v τ6 s17)], []⟩
def z18L0_tl0 (_x1 : List τ2) (_x2 : Unit) (_x0 : List τ2) (_c16 : Int) : St := ⟨32, [], []⟩
def z18L0_G (N : Nat) (r_script_Equal_1 : τ2 → τ2 → Option (Bool)) (x1 : List τ2) (x2 : Unit) (x0 : List τ2) (c16 : Int) (s17 : Int) (k : Ex → St → Option Bool) : Option Bool :=
 z18L0 N r_script_Equal_1 x1 x0 c16 (k (.exit 0) (z18L0_tl0 x1 x2 x0 c16)) N s17
abbrev z18L0_F (N : Nat) (r_script_Equal_1 : τ2 → τ2 → Option (Bool)) : FV z18L0_fs → HV z18L0_bs → (Ex → St → Option Bool) → Option Bool := fun x _ k => z18L0_G N r_script_Equal_1 x.1 x.2.1 x.2.2.1 x.2.2.2.1 x.2.2.2.2.1 k
noncomputable def z18LP (N : Nat) (r_script_Equal_1 : τ2 → τ2 → Option (Bool)) : Nat → Code → St → (Ex → St → Option Bool) → Option Bool := fun i c =>
 match i with
 | 0 => (LPc 32 z18L0_fs z18L0_bs (z18L0_F N r_script_Equal_1) (fun st k => iter (z18h 0) (exec (z18E N r_script_Equal_1) N c 0) N st k))
 | i => fun st k => iter (z18h i) (exec (z18E N r_script_Equal_1) N c i) N st k
theorem z18L0_step (N : Nat) (r_script_Equal_1 : τ2 → τ2 → Option (Bool)) (x1 : List τ2) (x2 : Unit) (x0 : List τ2) (c16 : Int) (KX : Nat → St → Option Bool) (I : St → Option Bool) (s17 : Int) :
  execL (z18LP N r_script_Equal_1) (z18E N r_script_Equal_1) z18c0 0 (z18L0_hd x1 x2 x0 c16 s17) (roundK (z18h 0) I KX (resD (z18E N r_script_Equal_1) Tryz.f135 (z18sg fun x _ => slices_EqualFunc_api_Case N r_script_Equal_1 x.1 x.2.1 x.2.2.1) z18pk)) = z18L0T N r_script_Equal_1 x1 x0 c16 (KX 0 (z18L0_tl0 x1 x2 x0 c16)) (fun s17 => I (z18L0_hd x1 x2 x0 c16 s17)) s17 := by kernel_rfl
theorem z18L0_ok (N : Nat) (r_script_Equal_1 : τ2 → τ2 → Option (Bool)) : ∀ x y k, (∀ st, k .ret st = (resD (z18E N r_script_Equal_1) Tryz.f135 (z18sg fun x _ => slices_EqualFunc_api_Case N r_script_Equal_1 x.1 x.2.1 x.2.2.1) z18pk) st) → iter (z18h 0) (exec (z18E N r_script_Equal_1) N z18c0 0) N ⟨32, unF z18L0_fs x, unH z18L0_bs y⟩ k = z18L0_F N r_script_Equal_1 x y k := fun x _ k hk =>
 iter_link (S := (Int) × Unit) (z18h 0) _ (execL (z18LP N r_script_Equal_1) (z18E N r_script_Equal_1) z18c0 0) (resD (z18E N r_script_Equal_1) Tryz.f135 (z18sg fun x _ => slices_EqualFunc_api_Case N r_script_Equal_1 x.1 x.2.1 x.2.2.1) z18pk) (fun st k hk => execL_eq _ _ N _ z18c0 0 (show LoopsOk (z18LP N r_script_Equal_1) (z18E N r_script_Equal_1) N (resD (z18E N r_script_Equal_1) Tryz.f135 (z18sg fun x _ => slices_EqualFunc_api_Case N r_script_Equal_1 x.1 x.2.1 x.2.2.1) z18pk) [] from trivial) st k hk) (fun s => z18L0_hd x.1 x.2.1 x.2.2.1 x.2.2.2.1 s.1) k hk
  (fun self s => z18L0T N r_script_Equal_1 x.1 x.2.2.1 x.2.2.2.1 (k (.exit 0) (z18L0_tl0 x.1 x.2.1 x.2.2.1 x.2.2.2.1)) (fun s17 => self (s17, ())) s.1) (fun n s => z18L0 N r_script_Equal_1 x.1 x.2.2.1 x.2.2.2.1 (k (.exit 0) (z18L0_tl0 x.1 x.2.1 x.2.2.1 x.2.2.2.1)) n s.1) (fun _ => rfl) (fun _ _ => rfl)
  (fun I s => z18L0_step N r_script_Equal_1 x.1 x.2.1 x.2.2.1 x.2.2.2.1 (fun j => k (.exit j)) I s.1) N (x.2.2.2.2.1, ())
theorem z18lp0 (N : Nat) (r_script_Equal_1 : τ2 → τ2 → Option (Bool)) : ∀ st k, (∀ st, k .ret st = (resD (z18E N r_script_Equal_1) Tryz.f135 (z18sg fun x _ => slices_EqualFunc_api_Case N r_script_Equal_1 x.1 x.2.1 x.2.2.1) z18pk) st) → z18LP N r_script_Equal_1 0 z18c0 st k = iter (Env.hint (z18E N r_script_Equal_1) 0) (exec (z18E N r_script_Equal_1) N z18c0 0) N st k := fun st k hk => LPc_eq 32 z18L0_fs z18L0_bs _ _ (resD (z18E N r_script_Equal_1) Tryz.f135 (z18sg fun x _ => slices_EqualFunc_api_Case N r_script_Equal_1 x.1 x.2.1 x.2.2.1) z18pk) (z18L0_ok N r_script_Equal_1) _ st k hk (rfl)
theorem z18core (N : Nat) (r_script_Equal_1 : τ2 → τ2 → Option (Bool)) (x : SV [.v (.sl τ3), .v (.sl τ3), .v (.clo 136 .un)]) (y : BV []) : runL (z18E N r_script_Equal_1) Tryz.f135 (z18sg fun x _ => slices_EqualFunc_api_Case N r_script_Equal_1 x.1 x.2.1 x.2.2.1) z18pk (z18LP N r_script_Equal_1) x y = slices_EqualFunc_api_Case N r_script_Equal_1 x.1 x.2.1 x.2.2.1 := by kernel_rfl
theorem z18sound (N : Nat) (r_script_Equal_1 : τ2 → τ2 → Option (Bool)) (h_script_Equal_1 : Sound Tryz.prog GW B0G 136 (z76sg fun x y => r_script_Equal_1 x.1 x.2.1)) : Sound Tryz.prog GW B0G 135 (z18sg fun x _ => slices_EqualFunc_api_Case N r_script_Equal_1 x.1 x.2.1 x.2.2.1) :=
 runD_sound (mkE_ok z18h (z18fn N r_script_Equal_1) _ _ (z18fn_ok N r_script_Equal_1 h_script_Equal_1)) Tryz.func135 rfl Tryz.call135 (z18sg fun x _ => slices_EqualFunc_api_Case N r_script_Equal_1 x.1 x.2.1 x.2.2.1) z18pk (fun _ _ => rfl) N (fun x y _ h => ((runL_eq (z18E N r_script_Equal_1) N Tryz.f135 (z18sg fun x _ => slices_EqualFunc_api_Case N r_script_Equal_1 x.1 x.2.1 x.2.2.1) z18pk (z18LP N r_script_Equal_1) (show LoopsOk (z18LP N r_script_Equal_1) (z18E N r_script_Equal_1) N (resD (z18E N r_script_Equal_1) Tryz.f135 (z18sg fun x _ => slices_EqualFunc_api_Case N r_script_Equal_1 x.1 x.2.1 x.2.2.1) z18pk) [(0, z18c0)] from ⟨z18lp0 N r_script_Equal_1, trivial⟩) x y).trans (z18core N r_script_Equal_1 x y)).trans h)
def script_Equal (N : Nat) (r_script_Equal_1 : τ2 → τ2 → Option (Bool)) (x0 : GValue) (x1 : GValue) : Option Bool :=
 br (x0.kind == x1.kind)
  (br (x0.text == x1.text)
   (br (x0.number == x1.number)
    (bnd (slices_Equal_string_string N x0.list x1.list) fun t29 =>
    br (t29)
     (bnd (slices_EqualFunc_api_Case N r_script_Equal_1 x0.cases x1.cases ()) fun t36 =>
     some t36)
     (some false))
    (some false))
   (some false))
  (some false)
abbrev z92sg (f : SV [.v τ15, .v τ15] → BV [] → Option (Bool)) : AF := { ps := [.v τ15, .v τ15], bs := [], rs := [.v .bool], cs := [], R := Bool, out := fun z => ((z, ()), ()), f := f }
abbrev z92pk : SV [.v .bool] → BV [] → Bool := fun x _ => x.1
def z92fn (N : Nat) (r_script_Equal_1 : τ2 → τ2 → Option (Bool)) : FuncId → Option Tmp → Option AF := fun f _ =>
 match f with
  | 20 => some (z16g N)
  | 135 => some (z18sg fun x _ => slices_EqualFunc_api_Case N r_script_Equal_1 x.1 x.2.1 x.2.2.1)
  | _ => none
theorem z92fn_ok (N : Nat) (r_script_Equal_1 : τ2 → τ2 → Option (Bool)) (h_script_Equal_1 : Sound Tryz.prog GW B0G 136 (z76sg fun x y => r_script_Equal_1 x.1 x.2.1)) : ∀ f q F, z92fn N r_script_Equal_1 f q = some F → Sound Tryz.prog GW B0G f F := by
 intro f q F h
 unfold z92fn at h
 split at h
 · cases h; exact z16sound N
 · cases h; exact z18sound N r_script_Equal_1 h_script_Equal_1
 · cases h
def z92h : Nat → Hint := fun i =>
 match i with
 | _ => hint0
abbrev z92E (N : Nat) (r_script_Equal_1 : τ2 → τ2 → Option (Bool)) : Env := mkE z92h (z92fn N r_script_Equal_1) (fun _ => false) (fun _ => false)
noncomputable def z92LP (N : Nat) (r_script_Equal_1 : τ2 → τ2 → Option (Bool)) : Nat → Code → St → (Ex → St → Option Bool) → Option Bool := fun i c =>
 match i with
 | i => fun st k => iter (z92h i) (exec (z92E N r_script_Equal_1) N c i) N st k
theorem z92core (N : Nat) (r_script_Equal_1 : τ2 → τ2 → Option (Bool)) (x : SV [.v τ15, .v τ15]) (y : BV []) : runL (z92E N r_script_Equal_1) Tryz.f84 (z92sg fun x _ => script_Equal N r_script_Equal_1 x.1 x.2.1) z92pk (z92LP N r_script_Equal_1) x y = script_Equal N r_script_Equal_1 x.1 x.2.1 := by kernel_rfl
theorem z92sound (N : Nat) (r_script_Equal_1 : τ2 → τ2 → Option (Bool)) (h_script_Equal_1 : Sound Tryz.prog GW B0G 136 (z76sg fun x y => r_script_Equal_1 x.1 x.2.1)) : Sound Tryz.prog GW B0G 84 (z92sg fun x _ => script_Equal N r_script_Equal_1 x.1 x.2.1) :=
 runD_sound (mkE_ok z92h (z92fn N r_script_Equal_1) _ _ (z92fn_ok N r_script_Equal_1 h_script_Equal_1)) Tryz.func84 rfl Tryz.call84 (z92sg fun x _ => script_Equal N r_script_Equal_1 x.1 x.2.1) z92pk (fun _ _ => rfl) N (fun x y _ h => ((runL_eq (z92E N r_script_Equal_1) N Tryz.f84 (z92sg fun x _ => script_Equal N r_script_Equal_1 x.1 x.2.1) z92pk (z92LP N r_script_Equal_1) (show LoopsOk (z92LP N r_script_Equal_1) (z92E N r_script_Equal_1) N (resD (z92E N r_script_Equal_1) Tryz.f84 (z92sg fun x _ => script_Equal N r_script_Equal_1 x.1 x.2.1) z92pk) [] from trivial) x y).trans (z92core N r_script_Equal_1 x y)).trans h)
def script_Equal_1_b (N : Nat) (r_script_Equal_1 : τ2 → τ2 → Option (Bool)) (x0 : Str × GValue) (x1 : Str × GValue) : Option Bool :=
 br (x0.1 == x1.1)
  (bnd (script_Equal N r_script_Equal_1 (GValue.mk x0.2.kind x0.2.text x0.2.number x0.2.list x0.2.cases) (GValue.mk x1.2.kind x1.2.text x1.2.number x1.2.list x1.2.cases)) fun t15 =>
  some t15)
  (some false)
abbrev z59sg (f : SV [.v τ3, .v τ3] → BV [] → Option (Bool)) : AF := { ps := [.v τ3, .v τ3], bs := [], rs := [.v .bool], cs := [], R := Bool, out := fun z => ((z, ()), ()), f := f }
abbrev z59pk : SV [.v .bool] → BV [] → Bool := fun x _ => x.1
def z59fn (N : Nat) (r_script_Equal_1 : τ2 → τ2 → Option (Bool)) : FuncId → Option Tmp → Option AF := fun f _ =>
 match f with
  | 84 => some (z92sg fun x _ => script_Equal N r_script_Equal_1 x.1 x.2.1)
  | _ => none
theorem z59fn_ok (N : Nat) (r_script_Equal_1 : τ2 → τ2 → Option (Bool)) (h_script_Equal_1 : Sound Tryz.prog GW B0G 136 (z76sg fun x y => r_script_Equal_1 x.1 x.2.1)) : ∀ f q F, z59fn N r_script_Equal_1 f q = some F → Sound Tryz.prog GW B0G f F := by
 intro f q F h
 unfold z59fn at h
 split at h
 · cases h; exact z92sound N r_script_Equal_1 h_script_Equal_1
 · cases h
def z59h : Nat → Hint := fun i =>
 match i with
 | _ => hint0
abbrev z59E (N : Nat) (r_script_Equal_1 : τ2 → τ2 → Option (Bool)) : Env := mkE z59h (z59fn N r_script_Equal_1) (fun _ => false) (fun _ => false)
noncomputable def z59LP (N : Nat) (r_script_Equal_1 : τ2 → τ2 → Option (Bool)) : Nat → Code → St → (Ex → St → Option Bool) → Option Bool := fun i c =>
 match i with
 | i => fun st k => iter (z59h i) (exec (z59E N r_script_Equal_1) N c i) N st k
theorem z59core (N : Nat) (r_script_Equal_1 : τ2 → τ2 → Option (Bool)) (x : SV [.v τ3, .v τ3]) (y : BV []) : runL (z59E N r_script_Equal_1) Tryz.f136 (z59sg fun x _ => script_Equal_1_b N r_script_Equal_1 x.1 x.2.1) z59pk (z59LP N r_script_Equal_1) x y = script_Equal_1_b N r_script_Equal_1 x.1 x.2.1 := by kernel_rfl
theorem z59sound (N : Nat) (r_script_Equal_1 : τ2 → τ2 → Option (Bool)) (h_script_Equal_1 : Sound Tryz.prog GW B0G 136 (z76sg fun x y => r_script_Equal_1 x.1 x.2.1)) : Sound Tryz.prog GW B0G 136 (z59sg fun x _ => script_Equal_1_b N r_script_Equal_1 x.1 x.2.1) :=
 runD_sound (mkE_ok z59h (z59fn N r_script_Equal_1) _ _ (z59fn_ok N r_script_Equal_1 h_script_Equal_1)) Tryz.func136 rfl Tryz.call136 (z59sg fun x _ => script_Equal_1_b N r_script_Equal_1 x.1 x.2.1) z59pk (fun _ _ => rfl) N (fun x y _ h => ((runL_eq (z59E N r_script_Equal_1) N Tryz.f136 (z59sg fun x _ => script_Equal_1_b N r_script_Equal_1 x.1 x.2.1) z59pk (z59LP N r_script_Equal_1) (show LoopsOk (z59LP N r_script_Equal_1) (z59E N r_script_Equal_1) N (resD (z59E N r_script_Equal_1) Tryz.f136 (z59sg fun x _ => script_Equal_1_b N r_script_Equal_1 x.1 x.2.1) z59pk) [] from trivial) x y).trans (z59core N r_script_Equal_1 x y)).trans h)
def script_Equal_1 (N : Nat) : Nat → τ2 → τ2 → Option (Bool)
 | 0 => fun _ _ => none
 | d + 1 => script_Equal_1_b N (script_Equal_1 N d)
theorem z76sound (N : Nat) : ∀ d, Sound Tryz.prog GW B0G 136 (z76sg fun x y => script_Equal_1 N d x.1 x.2.1)
 | 0 => Sound.never Tryz.call136 (fun _ _ => rfl)
 | d + 1 => z59sound N (script_Equal_1 N d) (z76sound N d)
def config_isMore (N : Nat) (x0 : Str × List τ5 × List τ5) (x1 : Str × List τ5 × List τ5) : Option Bool :=
 bnd (config_Fit N x1.2.1 x0.2.1) fun t9 =>
 br (t9)
  (bnd (config_Fit N x1.2.2 x0.2.2) fun t15 =>
  br (t15)
   (some (decide ((IntKind.i64.wrap ((x0.2.1.length : Int) + (x0.2.2.length : Int))) > (IntKind.i64.wrap ((x1.2.1.length : Int) + (x1.2.2.length : Int))))))
   (some false))
  (some false)
abbrev z82sg (f : SV [.v τ8, .v τ8] → BV [] → Option (Bool)) : AF := { ps := [.v τ8, .v τ8], bs := [], rs := [.v .bool], cs := [], R := Bool, out := fun z => ((z, ()), ()), f := f }
noncomputable abbrev z82g (N : Nat) : AF := z82sg fun x _ => config_isMore N x.1 x.2.1
abbrev z82pk : SV [.v .bool] → BV [] → Bool := fun x _ => x.1
def z82fn (N : Nat) : FuncId → Option Tmp → Option AF := fun f _ =>
 match f with
  | 134 => some (z110g N)
  | _ => none
theorem z82fn_ok (N : Nat) : FnOk (z82fn N) := by
 intro f q F h
 unfold z82fn at h
 split at h
 · cases h; exact z110sound N
 · cases h
def z82h : Nat → Hint := fun i =>
 match i with
 | _ => hint0
abbrev z82E (N : Nat) : Env := mkE z82h (z82fn N) FF FF
noncomputable def z82LP (N : Nat) : Nat → Code → St → (Ex → St → Option Bool) → Option Bool := fun i c =>
 match i with
 | i => fun st k => iter (z82h i) (exec (z82E N) N c i) N st k
theorem z82core (N : Nat) (x : SV [.v τ8, .v τ8]) (y : BV []) : runL (z82E N) Tryz.f85 (z82g N) z82pk (z82LP N) x y = config_isMore N x.1 x.2.1 := by kernel_rfl
theorem z82sound (N : Nat) : Snd 85 (z82g N) :=
 sndL (z82fn_ok N) Tryz.func85 rfl Tryz.call85 (z82g N) z82pk (fun _ _ => rfl) N (z82LP N) (show LoopsOk (z82LP N) (z82E N) N (resD (z82E N) Tryz.f85 (z82g N) z82pk) [] from trivial) (z82core N)
def z14L0T (N : Nat) (x0 : List τ2) (c7 : Int) (k0 : τ26) (self : Int → Option Int) (s8 : Int) : Option Int :=
 br (decide (s8 < c7))
  (bnd (geti x0 s8) fun t14 =>
  bnd (config_chosen_1 N t14) fun t16 =>
  br (t16)
   (some s8)
   (self (IntKind.i64.wrap (s8 + (1 : Int)))))
  (k0)
def z14L0 (N : Nat) (x0 : List τ2) (c7 : Int) (k0 : τ26) : Nat → Int → Option Int
 | 0, _ => none
 | n + 1, s8 => z14L0T N x0 c7 k0 (z14L0 N x0 c7 k0 n) s8
def slices_IndexFunc_api_Case_2 (N : Nat) (x0 : List τ2) (_x1 : Unit) : Option Int :=
 z14L0 N x0 (x0.length : Int) (some (-1 : Int)) N (0 : Int)
abbrev z14sg (f : SV [.v (.sl τ3), .v (.clo 83 .un)] → BV [] → Option (Int)) : AF := { ps := [.v (.sl τ3), .v (.clo 83 .un)], bs := [], rs := [.v τ6], cs := [], R := Int, out := fun z => ((z, ()), ()), f := f }
noncomputable abbrev z14g (N : Nat) : AF := z14sg fun x _ => slices_IndexFunc_api_Case_2 N x.1 x.2.1
abbrev z14pk : SV [.v τ6] → BV [] → Int := fun x _ => x.1
def z14fn (N : Nat) : FuncId → Option Tmp → Option AF := fun f _ =>
 match f with
  | 83 => some (z62g N)
  | _ => none
theorem z14fn_ok (N : Nat) : FnOk (z14fn N) := by
 intro f q F h
 unfold z14fn at h
 split at h
 · cases h; exact z62sound N
 · cases h
def z14h : Nat → Hint := fun i =>
 match i with
 | 0 => ⟨[], [0, 1, 7, 8], [], [], [], []⟩
 | _ => hint0
abbrev z14E (N : Nat) : Env := mkE z14h (z14fn N) FF FF
noncomputable abbrev z14R (N : Nat) := resD (z14E N) Tryz.f82 (z14g N) z14pk
abbrev z14L0_fs : List (Nat × Sl) := [(0, .v (.sl τ3)), (1, .v (.clo 83 .un)), (7, .v τ6), (8, .v τ6)]
abbrev z14L0_bs : List (Nat × Sb) := []
def z14L0_hd (x0 : List τ2) (x1 : Unit) (c7 : Int) (s8 : Int) : St := ⟨19, [(0, .v (.sl τ3) x0), (1, .v (.clo 83 .un) x1), (7, .v τ6 c7), (8, .v τ6 s8)], []⟩
def z14L0_tl0 (_x0 : List τ2) (_x1 : Unit) (_c7 : Int) : St := ⟨19, [], []⟩
def z14L0_G (N : Nat) (x0 : List τ2) (x1 : Unit) (c7 : Int) (s8 : Int) (k : Ex → St → Option Int) : Option Int :=
 z14L0 N x0 c7 (k (.exit 0) (z14L0_tl0 x0 x1 c7)) N s8
abbrev z14L0_F (N : Nat) : FV z14L0_fs → HV z14L0_bs → (Ex → St → Option Int) → Option Int := fun x _ k => z14L0_G N x.1 x.2.1 x.2.2.1 x.2.2.2.1 k
noncomputable def z14LP (N : Nat) : Nat → Code → St → (Ex → St → Option Int) → Option Int := fun i c =>
 match i with
 | 0 => (LPc 19 z14L0_fs z14L0_bs (z14L0_F N) (fun st k => iter (z14h 0) (exec (z14E N) N c 0) N st k))
 | i => fun st k => iter (z14h i) (exec (z14E N) N c i) N st k
theorem z14L0_step (N : Nat) (x0 : List τ2) (x1 : Unit) (c7 : Int) (KX : Nat → St → Option Int) (I : St → Option Int) (s8 : Int) :
  execL (z14LP N) (z14E N) z20c0 0 (z14L0_hd x0 x1 c7 s8) (roundK (z14h 0) I KX (z14R N)) = z14L0T N x0 c7 (KX 0 (z14L0_tl0 x0 x1 c7)) (fun s8 => I (z14L0_hd x0 x1 c7 s8)) s8 := by kernel_rfl
theorem z14L0_ok (N : Nat) : ∀ x y k, (∀ st, k .ret st = (z14R N) st) → iter (z14h 0) (exec (z14E N) N z20c0 0) N ⟨19, unF z14L0_fs x, unH z14L0_bs y⟩ k = z14L0_F N x y k := fun x _ k hk =>
 iter_link (S := (Int) × Unit) (z14h 0) _ (execL (z14LP N) (z14E N) z20c0 0) (z14R N) (fun st k hk => execL_eq _ _ N _ z20c0 0 (show LoopsOk (z14LP N) (z14E N) N (z14R N) [] from trivial) st k hk) (fun s => z14L0_hd x.1 x.2.1 x.2.2.1 s.1) k hk
  (fun self s => z14L0T N x.1 x.2.2.1 (k (.exit 0) (z14L0_tl0 x.1 x.2.1 x.2.2.1)) (fun s8 => self (s8, ())) s.1) (fun n s => z14L0 N x.1 x.2.2.1 (k (.exit 0) (z14L0_tl0 x.1 x.2.1 x.2.2.1)) n s.1) (fun _ => rfl) (fun _ _ => rfl)
  (fun I s => z14L0_step N x.1 x.2.1 x.2.2.1 (fun j => k (.exit j)) I s.1) N (x.2.2.2.1, ())
theorem z14lp0 (N : Nat) : ∀ st k, (∀ st, k .ret st = (z14R N) st) → z14LP N 0 z20c0 st k = iter (Env.hint (z14E N) 0) (exec (z14E N) N z20c0 0) N st k := fun st k hk => LPc_eq 19 z14L0_fs z14L0_bs _ _ (z14R N) (z14L0_ok N) _ st k hk (rfl)
theorem z14core (N : Nat) (x : SV [.v (.sl τ3), .v (.clo 83 .un)]) (y : BV []) : runL (z14E N) Tryz.f82 (z14g N) z14pk (z14LP N) x y = slices_IndexFunc_api_Case_2 N x.1 x.2.1 := by kernel_rfl
theorem z14sound (N : Nat) : Snd 82 (z14g N) :=
 sndL (z14fn_ok N) Tryz.func82 rfl Tryz.call82 (z14g N) z14pk (fun _ _ => rfl) N (z14LP N) (show LoopsOk (z14LP N) (z14E N) N (z14R N) [(0, z20c0)] from ⟨z14lp0 N, trivial⟩) (z14core N)
end
end Go.Proofs.YtbekhaioddmliaaGreatDoor

