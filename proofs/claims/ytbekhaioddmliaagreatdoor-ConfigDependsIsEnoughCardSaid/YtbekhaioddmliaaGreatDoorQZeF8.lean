/- What functions of the program compute, as plain functions (printed). -/
import Derived.Test.YtbekhaioddmliaaGreatDoorQZeF7
namespace Go.Proofs.YtbekhaioddmliaaGreatDoor
open Go Go.RowKit
set_option maxRecDepth 100000
set_option linter.unusedVariables false
noncomputable section
def z6L0T (N : Nat) (x0 : List τ6) (x1 : Str × Unit) (c7 : Int) (k0 : Option Int) (self : Int → Option Int) (s8 : Int) : Option Int :=
 br (decide (s8 < c7))
  (bnd (geti x0 s8) fun t14 =>
  bnd (config_conditionOf_1 N t14 x1.1) fun t16 =>
  br (t16)
   (some s8)
   (self (IntKind.i64.wrap (s8 + (1 : Int)))))
  (k0)
def z6L0 (N : Nat) (x0 : List τ6) (x1 : Str × Unit) (c7 : Int) (k0 : Option Int) : Nat → Int → Option Int
 | 0, _ => none
 | n + 1, s8 => z6L0T N x0 x1 c7 k0 (z6L0 N x0 x1 c7 k0 n) s8
def slices_IndexFunc_api_Condition (N : Nat) (x0 : List τ6) (x1 : Str × Unit) : Option Int :=
 z6L0 N x0 x1 (x0.length : Int) (some (-1 : Int)) N (0 : Int)
abbrev z6sg (f : SV [.v (.sl τ9), .v (.clo 121 τ26)] → BV [] → Option (Int)) : AF := { ps := [.v (.sl τ9), .v (.clo 121 τ26)], bs := [], rs := [.v τ5], cs := [], R := Int, out := fun z => ((z, ()), ()), f := f }
noncomputable abbrev z6g (N : Nat) : AF := z6sg fun x _ => slices_IndexFunc_api_Condition N x.1 x.2.1
abbrev z6pk : SV [.v τ5] → BV [] → Int := fun x _ => x.1
def z6fn (N : Nat) : FuncId → Option Tmp → Option AF := fun f _ =>
 match f with
  | 121 => some (z35g N)
  | _ => none
theorem z6fn_ok (N : Nat) : FnOk (z6fn N) := by
 intro f q F h
 unfold z6fn at h
 split at h
 · cases h; exact z35sound N
 · cases h
def z6h : Nat → Hint := fun i =>
 match i with
 | 0 => ⟨[], [0, 1, 7, 8], [], [], [], []⟩
 | _ => hint0
abbrev z6E (N : Nat) : Env := mkE z6h (z6fn N) FF FF
noncomputable abbrev z6c0 : Code := cAt (bodyOf Tryz.f120) [true, false, true, false, false]
noncomputable abbrev z6R (N : Nat) := resD (z6E N) Tryz.f120 (z6g N) z6pk
abbrev z6L0_fs : List (Nat × Sl) := [(0, .v (.sl τ9)), (1, .v (.clo 121 τ26)), (7, .v τ5), (8, .v τ5)]
abbrev z6L0_bs : List (Nat × Sb) := []
def z6L0_hd (x0 : List τ6) (x1 : Str × Unit) (c7 : Int) (s8 : Int) : St := ⟨19, [(0, .v (.sl τ9) x0), (1, .v (.clo 121 τ26) x1), (7, .v τ5 c7), (8, .v τ5 s8)], []⟩
def z6L0_tl0 (_x0 : List τ6) (_x1 : Str × Unit) (_c7 : Int) : St := ⟨19, [], []⟩
def z6L0_G (N : Nat) (x0 : List τ6) (x1 : Str × Unit) (c7 : Int) (s8 : Int) (k : Ex → St → Option Int) : Option Int :=
 z6L0 N x0 x1 c7 (k (.exit 0) (z6L0_tl0 x0 x1 c7)) N s8
abbrev z6L0_F (N : Nat) : FV z6L0_fs → HV z6L0_bs → (Ex → St → Option Int) → Option Int := fun x _ k => z6L0_G N x.1 x.2.1 x.2.2.1 x.2.2.2.1 k
noncomputable def z6LP (N : Nat) : Nat → Code → St → (Ex → St → Option Int) → Option Int := fun i c =>
 match i with
 | 0 => (LPc 19 z6L0_fs z6L0_bs (z6L0_F N) (fun st k => iter (z6h 0) (exec (z6E N) N c 0) N st k))
 | i => fun st k => iter (z6h i) (exec (z6E N) N c i) N st k
theorem z6L0_step (N : Nat) (x0 : List τ6) (x1 : Str × Unit) (c7 : Int) (KX : Nat → St → Option Int) (I : St → Option Int) (s8 : Int) :
  execL (z6LP N) (z6E N) z6c0 0 (z6L0_hd x0 x1 c7 s8) (roundK (z6h 0) I KX (z6R N)) = z6L0T N x0 x1 c7 (KX 0 (z6L0_tl0 x0 x1 c7)) (fun s8 => I (z6L0_hd x0 x1 c7 s8)) s8 := by kernel_rfl
theorem z6L0_ok (N : Nat) : ∀ x y k, (∀ st, k .ret st = (z6R N) st) → iter (z6h 0) (exec (z6E N) N z6c0 0) N ⟨19, unF z6L0_fs x, unH z6L0_bs y⟩ k = z6L0_F N x y k := fun x _ k hk =>
 iter_link (S := (Int) × Unit) (z6h 0) _ (execL (z6LP N) (z6E N) z6c0 0) (z6R N) (fun st k hk => execL_eq _ _ N _ z6c0 0 (show LoopsOk (z6LP N) (z6E N) N (z6R N) [] from trivial) st k hk) (fun s => z6L0_hd x.1 x.2.1 x.2.2.1 s.1) k hk
  (fun self s => z6L0T N x.1 x.2.1 x.2.2.1 (k (.exit 0) (z6L0_tl0 x.1 x.2.1 x.2.2.1)) (fun s8 => self (s8, ())) s.1) (fun n s => z6L0 N x.1 x.2.1 x.2.2.1 (k (.exit 0) (z6L0_tl0 x.1 x.2.1 x.2.2.1)) n s.1) (fun _ => rfl) (fun _ _ => rfl)
  (fun I s => z6L0_step N x.1 x.2.1 x.2.2.1 (fun j => k (.exit j)) I s.1) N (x.2.2.2.1, ())
theorem z6lp0 (N : Nat) : ∀ st k, (∀ st, k .ret st = (z6R N) st) → z6LP N 0 z6c0 st k = iter (Env.hint (z6E N) 0) (exec (z6E N) N z6c0 0) N st k := fun st k hk => LPc_eq 19 z6L0_fs z6L0_bs _ _ (z6R N) (z6L0_ok N) _ st k hk (rfl)
theorem z6core (N : Nat) (x : SV [.v (.sl τ9), .v (.clo 121 τ26)]) (y : BV []) : runL (z6E N) Tryz.f120 (z6g N) z6pk (z6LP N) x y = slices_IndexFunc_api_Condition N x.1 x.2.1 := by kernel_rfl
theorem z6sound (N : Nat) : Snd 120 (z6g N) :=
 sndL (z6fn_ok N) Tryz.func120 rfl Tryz.call120 (z6g N) z6pk (fun _ _ => rfl) N (z6LP N) (show LoopsOk (z6LP N) (z6E N) N (z6R N) [(0, z6c0)] from ⟨z6lp0 N, trivial⟩) (z6core N)
def config_conditionOf (N : Nat) (x0 : List τ6) (x1 : Str) : Option (τ6 × Bool) :=
 bnd (slices_IndexFunc_api_Condition N x0 (x1, ())) fun t9 =>
 br (decide (t9 < (0 : Int)))
  (some ((([] : Str), (([] : List τ1), ([] : List τ1))), false))
  (bnd (geti x0 t9) fun t15 =>
  some (t15, true))
abbrev z44sg (f : SV [.v (.sl τ9), .v .str] → BV [] → Option (τ6 × Bool)) : AF := { ps := [.v (.sl τ9), .v .str], bs := [], rs := [.v τ9, .v .bool], cs := [], R := τ6 × Bool, out := fun z => ((z.1, z.2, ()), ()), f := f }
noncomputable abbrev z44g (N : Nat) : AF := z44sg fun x _ => config_conditionOf N x.1 x.2.1
abbrev z44pk : SV [.v τ9, .v .bool] → BV [] → (τ6 × Bool) := fun x _ => (x.1, x.2.1)
def z44fn (N : Nat) : FuncId → Option Tmp → Option AF := fun f _ =>
 match f with
  | 120 => some (z6g N)
  | 121 => some (noneAF [.v (.ptr .str)])
  | _ => none
theorem z44fn_ok (N : Nat) : FnOk (z44fn N) := by
 intro f q F h
 unfold z44fn at h
 split at h
 · cases h; exact z6sound N
 · cases h; exact noneAF_sound Tryz.call121 _
 · cases h
def z44h : Nat → Hint := fun i =>
 match i with
 | _ => hint0
abbrev z44E (N : Nat) : Env := mkE z44h (z44fn N) FF FF
noncomputable def z44LP (N : Nat) : Nat → Code → St → (Ex → St → Option (τ6 × Bool)) → Option (τ6 × Bool) := fun i c =>
 match i with
 | i => fun st k => iter (z44h i) (exec (z44E N) N c i) N st k
theorem z44core (N : Nat) (x : SV [.v (.sl τ9), .v .str]) (y : BV []) : runL (z44E N) Tryz.f66 (z44g N) z44pk (z44LP N) x y = config_conditionOf N x.1 x.2.1 := by kernel_rfl
theorem z44sound (N : Nat) : Snd 66 (z44g N) :=
 sndL (z44fn_ok N) Tryz.func66 rfl Tryz.call66 (z44g N) z44pk (fun _ _ => rfl) N (z44LP N) (show LoopsOk (z44LP N) (z44E N) N (resD (z44E N) Tryz.f66 (z44g N) z44pk) [] from trivial) (z44core N)
def z50L0T (N : Nat) (x0 : List τ6) (c10 : List τ3) (c11 : Int) (k0 : Option Int) (self : Int → Option Int) (s12 : Int) : Option Int :=
 br (decide (s12 < c11))
  (bnd (geti c10 s12) fun t14 =>
  bnd (config_conditionOf N x0 t14.1) fun t20 =>
  br (!t20.2)
   (br (!(t14.1 == ([100, 101, 102, 97, 117, 108, 116] : Str)))
    (some (5 : Int))
    (self (IntKind.i64.wrap (s12 + (1 : Int)))))
   (self (IntKind.i64.wrap (s12 + (1 : Int)))))
  (k0)
def z50L0 (N : Nat) (x0 : List τ6) (c10 : List τ3) (c11 : Int) (k0 : Option Int) : Nat → Int → Option Int
 | 0, _ => none
 | n + 1, s12 => z50L0T N x0 c10 c11 k0 (z50L0 N x0 c10 c11 k0 n) s12
def config_checkNamed (N : Nat) (x0 : List τ6) (x1 : GValue) : Option Int :=
 z50L0 N x0 x1.cases (x1.cases.length : Int) (some (0 : Int)) N (0 : Int)
abbrev z50sg (f : SV [.v (.sl τ9), .v τ14] → BV [] → Option (Int)) : AF := { ps := [.v (.sl τ9), .v τ14], bs := [], rs := [.v τ5], cs := [], R := Int, out := fun z => ((z, ()), ()), f := f }
noncomputable abbrev z50g (N : Nat) : AF := z50sg fun x _ => config_checkNamed N x.1 x.2.1
abbrev z50pk : SV [.v τ5] → BV [] → Int := fun x _ => x.1
def z50fn (N : Nat) : FuncId → Option Tmp → Option AF := fun f _ =>
 match f with
  | 66 => some (z44g N)
  | _ => none
theorem z50fn_ok (N : Nat) : FnOk (z50fn N) := by
 intro f q F h
 unfold z50fn at h
 split at h
 · cases h; exact z44sound N
 · cases h
def z50h : Nat → Hint := fun i =>
 match i with
 | 0 => ⟨[], [0, 10, 11, 12], [], [], [], []⟩
 | _ => hint0
abbrev z50E (N : Nat) : Env := mkE z50h (z50fn N) FF FF
noncomputable abbrev z50c0 : Code := cAt (bodyOf Tryz.f65) [true, false, true, false, false]
noncomputable abbrev z50R (N : Nat) := resD (z50E N) Tryz.f65 (z50g N) z50pk
abbrev z50L0_fs : List (Nat × Sl) := [(0, .v (.sl τ9)), (10, .v (.sl τ2)), (11, .v τ5), (12, .v τ5)]
abbrev z50L0_bs : List (Nat × Sb) := []
def z50L0_hd (x0 : List τ6) (c10 : List τ3) (c11 : Int) (s12 : Int) : St := ⟨31, [(0, .v (.sl τ9) x0), (10, .v (.sl τ2) c10), (11, .v τ5 c11), (12, .v τ5 s12)], []⟩
def z50L0_tl0 (_x0 : List τ6) (_c10 : List τ3) (_c11 : Int) : St := ⟨31, [], []⟩
def z50L0_G (N : Nat) (x0 : List τ6) (c10 : List τ3) (c11 : Int) (s12 : Int) (k : Ex → St → Option Int) : Option Int :=
 z50L0 N x0 c10 c11 (k (.exit 0) (z50L0_tl0 x0 c10 c11)) N s12
abbrev z50L0_F (N : Nat) : FV z50L0_fs → HV z50L0_bs → (Ex → St → Option Int) → Option Int := fun x _ k => z50L0_G N x.1 x.2.1 x.2.2.1 x.2.2.2.1 k
noncomputable def z50LP (N : Nat) : Nat → Code → St → (Ex → St → Option Int) → Option Int := fun i c =>
 match i with
 | 0 => (LPc 31 z50L0_fs z50L0_bs (z50L0_F N) (fun st k => iter (z50h 0) (exec (z50E N) N c 0) N st k))
 | i => fun st k => iter (z50h i) (exec (z50E N) N c i) N st k
theorem z50L0_step (N : Nat) (x0 : List τ6) (c10 : List τ3) (c11 : Int) (KX : Nat → St → Option Int) (I : St → Option Int) (s12 : Int) :
  execL (z50LP N) (z50E N) z50c0 0 (z50L0_hd x0 c10 c11 s12) (roundK (z50h 0) I KX (z50R N)) = z50L0T N x0 c10 c11 (KX 0 (z50L0_tl0 x0 c10 c11)) (fun s12 => I (z50L0_hd x0 c10 c11 s12)) s12 := by kernel_rfl
theorem z50L0_ok (N : Nat) : ∀ x y k, (∀ st, k .ret st = (z50R N) st) → iter (z50h 0) (exec (z50E N) N z50c0 0) N ⟨31, unF z50L0_fs x, unH z50L0_bs y⟩ k = z50L0_F N x y k := fun x _ k hk =>
 iter_link (S := (Int) × Unit) (z50h 0) _ (execL (z50LP N) (z50E N) z50c0 0) (z50R N) (fun st k hk => execL_eq _ _ N _ z50c0 0 (show LoopsOk (z50LP N) (z50E N) N (z50R N) [] from trivial) st k hk) (fun s => z50L0_hd x.1 x.2.1 x.2.2.1 s.1) k hk
  (fun self s => z50L0T N x.1 x.2.1 x.2.2.1 (k (.exit 0) (z50L0_tl0 x.1 x.2.1 x.2.2.1)) (fun s12 => self (s12, ())) s.1) (fun n s => z50L0 N x.1 x.2.1 x.2.2.1 (k (.exit 0) (z50L0_tl0 x.1 x.2.1 x.2.2.1)) n s.1) (fun _ => rfl) (fun _ _ => rfl)
  (fun I s => z50L0_step N x.1 x.2.1 x.2.2.1 (fun j => k (.exit j)) I s.1) N (x.2.2.2.1, ())
theorem z50lp0 (N : Nat) : ∀ st k, (∀ st, k .ret st = (z50R N) st) → z50LP N 0 z50c0 st k = iter (Env.hint (z50E N) 0) (exec (z50E N) N z50c0 0) N st k := fun st k hk => LPc_eq 31 z50L0_fs z50L0_bs _ _ (z50R N) (z50L0_ok N) _ st k hk (rfl)
theorem z50core (N : Nat) (x : SV [.v (.sl τ9), .v τ14]) (y : BV []) : runL (z50E N) Tryz.f65 (z50g N) z50pk (z50LP N) x y = config_checkNamed N x.1 x.2.1 := by kernel_rfl
theorem z50sound (N : Nat) : Snd 65 (z50g N) :=
 sndL (z50fn_ok N) Tryz.func65 rfl Tryz.call65 (z50g N) z50pk (fun _ _ => rfl) N (z50LP N) (show LoopsOk (z50LP N) (z50E N) N (z50R N) [(0, z50c0)] from ⟨z50lp0 N, trivial⟩) (z50core N)
def config_chosen_1 (_N : Nat) (x0 : Str × GValue) : Option Bool :=
 some (x0.1 == ([100, 101, 102, 97, 117, 108, 116] : Str))
abbrev z59sg (f : SV [.v τ2] → BV [] → Option (Bool)) : AF := { ps := [.v τ2], bs := [], rs := [.v .bool], cs := [], R := Bool, out := fun z => ((z, ()), ()), f := f }
noncomputable abbrev z59g (N : Nat) : AF := z59sg fun x _ => config_chosen_1 N x.1
abbrev z59pk : SV [.v .bool] → BV [] → Bool := fun x _ => x.1
def z59fn (_N : Nat) : FuncId → Option Tmp → Option AF := fun f _ =>
 match f with
  | _ => none
theorem z59fn_ok (N : Nat) : FnOk (z59fn N) := by
 intro f q F h
 unfold z59fn at h
 split at h
 · cases h
def z59h : Nat → Hint := fun i =>
 match i with
 | _ => hint0
abbrev z59E (N : Nat) : Env := mkE z59h (z59fn N) FF FF
noncomputable def z59LP (N : Nat) : Nat → Code → St → (Ex → St → Option Bool) → Option Bool := fun i c =>
 match i with
 | i => fun st k => iter (z59h i) (exec (z59E N) N c i) N st k
theorem z59core (N : Nat) (x : SV [.v τ2]) (y : BV []) : runL (z59E N) Tryz.f83 (z59g N) z59pk (z59LP N) x y = config_chosen_1 N x.1 := by kernel_rfl
theorem z59sound (N : Nat) : Snd 83 (z59g N) :=
 sndL (z59fn_ok N) Tryz.func83 rfl Tryz.call83 (z59g N) z59pk (fun _ _ => rfl) N (z59LP N) (show LoopsOk (z59LP N) (z59E N) N (resD (z59E N) Tryz.f83 (z59g N) z59pk) [] from trivial) (z59core N)
abbrev z67sg (f : SV [.v τ2, .v τ2] → BV [] → Option (Bool)) : AF := { ps := [.v τ2, .v τ2], bs := [], rs := [.v .bool], cs := [], R := Bool, out := fun z => ((z, ()), ()), f := f }
def z20L0T (_N : Nat) (r_script_Equal_1 : τ3 → τ3 → Option (Bool)) (x1 : List τ3) (x0 : List τ3) (c16 : Int) (k0 : Option Bool) (self : Int → Option Bool) (s17 : Int) : Option Bool :=
 br (decide (s17 < c16))
  (bnd (geti x0 s17) fun t20 =>
  bnd (geti x1 s17) fun t24 =>
  bnd (r_script_Equal_1 (t20.1, GValue.mk t20.2.kind t20.2.text t20.2.number t20.2.list t20.2.cases) (t24.1, GValue.mk t24.2.kind t24.2.text t24.2.number t24.2.list t24.2.cases)) fun t29 =>
  br (!t29)
   (some false)
   (self (IntKind.i64.wrap (s17 + (1 : Int)))))
  (k0)
def z20L0 (N : Nat) (r_script_Equal_1 : τ3 → τ3 → Option (Bool)) (x1 : List τ3) (x0 : List τ3) (c16 : Int) (k0 : Option Bool) : Nat → Int → Option Bool
 | 0, _ => none
 | n + 1, s17 => z20L0T N r_script_Equal_1 x1 x0 c16 k0 (z20L0 N r_script_Equal_1 x1 x0 c16 k0 n) s17
def slices_EqualFunc_api_Case (N : Nat) (r_script_Equal_1 : τ3 → τ3 → Option (Bool)) (x0 : List τ3) (x1 : List τ3) (_x2 : Unit) : Option Bool :=
 br ((x0.length : Int) != (x1.length : Int))
  (some false)
  (z20L0 N r_script_Equal_1 x1 x0 (x0.length : Int) (some true) N (0 : Int))
abbrev z20sg (f : SV [.v (.sl τ2), .v (.sl τ2), .v (.clo 136 .un)] → BV [] → Option (Bool)) : AF := { ps := [.v (.sl τ2), .v (.sl τ2), .v (.clo 136 .un)], bs := [], rs := [.v .bool], cs := [], R := Bool, out := fun z => ((z, ()), ()), f := f }
abbrev z20pk : SV [.v .bool] → BV [] → Bool := fun x _ => x.1
def z20fn (_N : Nat) (r_script_Equal_1 : τ3 → τ3 → Option (Bool)) : FuncId → Option Tmp → Option AF := fun f _ =>
 match f with
  | 136 => some (z67sg fun x _ => r_script_Equal_1 x.1 x.2.1)
  | _ => none
theorem z20fn_ok (N : Nat) (r_script_Equal_1 : τ3 → τ3 → Option (Bool)) (h_script_Equal_1 : Sound Tryz.prog GW B0G 136 (z67sg fun x y => r_script_Equal_1 x.1 x.2.1)) : ∀ f q F, z20fn N r_script_Equal_1 f q = some F → Sound Tryz.prog GW B0G f F := by
 intro f q F h
 unfold z20fn at h
 split at h
 · cases h; exact h_script_Equal_1
 · cases h
def z20h : Nat → Hint := fun i =>
 match i with
 | 0 => ⟨[], [1, 2, 15, 16, 17], [], [], [], []⟩
 | _ => hint0
abbrev z20E (N : Nat) (r_script_Equal_1 : τ3 → τ3 → Option (Bool)) : Env := mkE z20h (z20fn N r_script_Equal_1) (fun _ => false) (fun _ => false)
noncomputable abbrev z20c0 : Code := cAt (bodyOf Tryz.f135) [true, true, false, true, false, false]
abbrev z20L0_fs : List (Nat × Sl) := [(1, .v (.sl τ2)), (2, .v (.clo 136 .un)), (15, .v (.sl τ2)), (16, .v τ5), (17, .v τ5)]
abbrev z20L0_bs : List (Nat × Sb) := []
def z20L0_hd (x1 : List τ3) (x2 : Unit) (x0 : List τ3) (c16 : Int) (s17 : Int) : St := ⟨32, [(1, .v (.sl τ2) x1), (2, .v (.clo 136 .un) x2), (15, .v (.sl τ2) x0), (16, .v τ5 c16), (17, .v τ5 s17)], []⟩
def z20L0_tl0 (_x1 : List τ3) (_x2 : Unit) (_x0 : List τ3) (_c16 : Int) : St := ⟨32, [], []⟩
def z20L0_G (N : Nat) (r_script_Equal_1 : τ3 → τ3 → Option (Bool)) (x1 : List τ3) (x2 : Unit) (x0 : List τ3) (c16 : Int) (s17 : Int) (k : Ex → St → Option Bool) : Option Bool :=
 z20L0 N r_script_Equal_1 x1 x0 c16 (k (.exit 0) (z20L0_tl0 x1 x2 x0 c16)) N s17
abbrev z20L0_F (N : Nat) (r_script_Equal_1 : τ3 → τ3 → Option (Bool)) : FV z20L0_fs → HV z20L0_bs → (Ex → St → Option Bool) → Option Bool := fun x _ k => z20L0_G N r_script_Equal_1 x.1 x.2.1 x.2.2.1 x.2.2.2.1 x.2.2.2.2.1 k
noncomputable def z20LP (N : Nat) (r_script_Equal_1 : τ3 → τ3 → Option (Bool)) : Nat → Code → St → (Ex → St → Option Bool) → Option Bool := fun i c =>
 match i with
 | 0 => (LPc 32 z20L0_fs z20L0_bs (z20L0_F N r_script_Equal_1) (fun st k => iter (z20h 0) (exec (z20E N r_script_Equal_1) N c 0) N st k))
 | i => fun st k => iter (z20h i) (exec (z20E N r_script_Equal_1) N c i) N st k
theorem z20L0_step (N : Nat) (r_script_Equal_1 : τ3 → τ3 → Option (Bool)) (x1 : List τ3) (x2 : Unit) (x0 : List τ3) (c16 : Int) (KX : Nat → St → Option Bool) (I : St → Option Bool) (s17 : Int) :
  execL (z20LP N r_script_Equal_1) (z20E N r_script_Equal_1) z20c0 0 (z20L0_hd x1 x2 x0 c16 s17) (roundK (z20h 0) I KX (resD (z20E N r_script_Equal_1) Tryz.f135 (z20sg fun x _ => slices_EqualFunc_api_Case N r_script_Equal_1 x.1 x.2.1 x.2.2.1) z20pk)) = z20L0T N r_script_Equal_1 x1 x0 c16 (KX 0 (z20L0_tl0 x1 x2 x0 c16)) (fun s17 => I (z20L0_hd x1 x2 x0 c16 s17)) s17 := by kernel_rfl
theorem z20L0_ok (N : Nat) (r_script_Equal_1 : τ3 → τ3 → Option (Bool)) : ∀ x y k, (∀ st, k .ret st = (resD (z20E N r_script_Equal_1) Tryz.f135 (z20sg fun x _ => slices_EqualFunc_api_Case N r_script_Equal_1 x.1 x.2.1 x.2.2.1) z20pk) st) → iter (z20h 0) (exec (z20E N r_script_Equal_1) N z20c0 0) N ⟨32, unF z20L0_fs x, unH z20L0_bs y⟩ k = z20L0_F N r_script_Equal_1 x y k := fun x _ k hk =>
 iter_link (S := (Int) × Unit) (z20h 0) _ (execL (z20LP N r_script_Equal_1) (z20E N r_script_Equal_1) z20c0 0) (resD (z20E N r_script_Equal_1) Tryz.f135 (z20sg fun x _ => slices_EqualFunc_api_Case N r_script_Equal_1 x.1 x.2.1 x.2.2.1) z20pk) (fun st k hk => execL_eq _ _ N _ z20c0 0 (show LoopsOk (z20LP N r_script_Equal_1) (z20E N r_script_Equal_1) N (resD (z20E N r_script_Equal_1) Tryz.f135 (z20sg fun x _ => slices_EqualFunc_api_Case N r_script_Equal_1 x.1 x.2.1 x.2.2.1) z20pk) [] from trivial) st k hk) (fun s => z20L0_hd x.1 x.2.1 x.2.2.1 x.2.2.2.1 s.1) k hk
  (fun self s => z20L0T N r_script_Equal_1 x.1 x.2.2.1 x.2.2.2.1 (k (.exit 0) (z20L0_tl0 x.1 x.2.1 x.2.2.1 x.2.2.2.1)) (fun s17 => self (s17, ())) s.1) (fun n s => z20L0 N r_script_Equal_1 x.1 x.2.2.1 x.2.2.2.1 (k (.exit 0) (z20L0_tl0 x.1 x.2.1 x.2.2.1 x.2.2.2.1)) n s.1) (fun _ => rfl) (fun _ _ => rfl)
  (fun I s => z20L0_step N r_script_Equal_1 x.1 x.2.1 x.2.2.1 x.2.2.2.1 (fun j => k (.exit j)) I s.1) N (x.2.2.2.2.1, ())
theorem z20lp0 (N : Nat) (r_script_Equal_1 : τ3 → τ3 → Option (Bool)) : ∀ st k, (∀ st, k .ret st = (resD (z20E N r_script_Equal_1) Tryz.f135 (z20sg fun x _ => slices_EqualFunc_api_Case N r_script_Equal_1 x.1 x.2.1 x.2.2.1) z20pk) st) → z20LP N r_script_Equal_1 0 z20c0 st k = iter (Env.hint (z20E N r_script_Equal_1) 0) (exec (z20E N r_script_Equal_1) N z20c0 0) N st k := fun st k hk => LPc_eq 32 z20L0_fs z20L0_bs _ _ (resD (z20E N r_script_Equal_1) Tryz.f135 (z20sg fun x _ => slices_EqualFunc_api_Case N r_script_Equal_1 x.1 x.2.1 x.2.2.1) z20pk) (z20L0_ok N r_script_Equal_1) _ st k hk (rfl)
theorem z20core (N : Nat) (r_script_Equal_1 : τ3 → τ3 → Option (Bool)) (x : SV [.v (.sl τ2), .v (.sl τ2), .v (.clo 136 .un)]) (y : BV []) : runL (z20E N r_script_Equal_1) Tryz.f135 (z20sg fun x _ => slices_EqualFunc_api_Case N r_script_Equal_1 x.1 x.2.1 x.2.2.1) z20pk (z20LP N r_script_Equal_1) x y = slices_EqualFunc_api_Case N r_script_Equal_1 x.1 x.2.1 x.2.2.1 := by kernel_rfl
theorem z20sound (N : Nat) (r_script_Equal_1 : τ3 → τ3 → Option (Bool)) (h_script_Equal_1 : Sound Tryz.prog GW B0G 136 (z67sg fun x y => r_script_Equal_1 x.1 x.2.1)) : Sound Tryz.prog GW B0G 135 (z20sg fun x _ => slices_EqualFunc_api_Case N r_script_Equal_1 x.1 x.2.1 x.2.2.1) :=
 runD_sound (mkE_ok z20h (z20fn N r_script_Equal_1) _ _ (z20fn_ok N r_script_Equal_1 h_script_Equal_1)) Tryz.func135 rfl Tryz.call135 (z20sg fun x _ => slices_EqualFunc_api_Case N r_script_Equal_1 x.1 x.2.1 x.2.2.1) z20pk (fun _ _ => rfl) N (fun x y _ h => ((runL_eq (z20E N r_script_Equal_1) N Tryz.f135 (z20sg fun x _ => slices_EqualFunc_api_Case N r_script_Equal_1 x.1 x.2.1 x.2.2.1) z20pk (z20LP N r_script_Equal_1) (show LoopsOk (z20LP N r_script_Equal_1) (z20E N r_script_Equal_1) N (resD (z20E N r_script_Equal_1) Tryz.f135 (z20sg fun x _ => slices_EqualFunc_api_Case N r_script_Equal_1 x.1 x.2.1 x.2.2.1) z20pk) [(0, z20c0)] from ⟨z20lp0 N r_script_Equal_1, trivial⟩) x y).trans (z20core N r_script_Equal_1 x y)).trans h)
def script_Equal (N : Nat) (r_script_Equal_1 : τ3 → τ3 → Option (Bool)) (x0 : GValue) (x1 : GValue) : Option Bool :=
 br (x0.kind == x1.kind)
  (br (x0.text == x1.text)
   (br (x0.number == x1.number)
    (bnd (slices_Equal_string_string N x0.list x1.list) fun t29 =>
    br (t29)
     (bnd (slices_EqualFunc_api_Case N r_script_Equal_1 x0.cases x1.cases ()) fun t36 =>
     some t36)
     (some false))
    (some false))
   (some false))
  (some false)
abbrev z82sg (f : SV [.v τ14, .v τ14] → BV [] → Option (Bool)) : AF := { ps := [.v τ14, .v τ14], bs := [], rs := [.v .bool], cs := [], R := Bool, out := fun z => ((z, ()), ()), f := f }
abbrev z82pk : SV [.v .bool] → BV [] → Bool := fun x _ => x.1
def z82fn (N : Nat) (r_script_Equal_1 : τ3 → τ3 → Option (Bool)) : FuncId → Option Tmp → Option AF := fun f _ =>
 match f with
  | 20 => some (z18g N)
  | 135 => some (z20sg fun x _ => slices_EqualFunc_api_Case N r_script_Equal_1 x.1 x.2.1 x.2.2.1)
  | _ => none
theorem z82fn_ok (N : Nat) (r_script_Equal_1 : τ3 → τ3 → Option (Bool)) (h_script_Equal_1 : Sound Tryz.prog GW B0G 136 (z67sg fun x y => r_script_Equal_1 x.1 x.2.1)) : ∀ f q F, z82fn N r_script_Equal_1 f q = some F → Sound Tryz.prog GW B0G f F := by
 intro f q F h
 unfold z82fn at h
 split at h
 · cases h; exact z18sound N
 · cases h; exact z20sound N r_script_Equal_1 h_script_Equal_1
 · cases h
def z82h : Nat → Hint := fun i =>
 match i with
 | _ => hint0
abbrev z82E (N : Nat) (r_script_Equal_1 : τ3 → τ3 → Option (Bool)) : Env := mkE z82h (z82fn N r_script_Equal_1) (fun _ => false) (fun _ => false)
noncomputable def z82LP (N : Nat) (r_script_Equal_1 : τ3 → τ3 → Option (Bool)) : Nat → Code → St → (Ex → St → Option Bool) → Option Bool := fun i c =>
 match i with
 | i => fun st k => iter (z82h i) (exec (z82E N r_script_Equal_1) N c i) N st k
theorem z82core (N : Nat) (r_script_Equal_1 : τ3 → τ3 → Option (Bool)) (x : SV [.v τ14, .v τ14]) (y : BV []) : runL (z82E N r_script_Equal_1) Tryz.f84 (z82sg fun x _ => script_Equal N r_script_Equal_1 x.1 x.2.1) z82pk (z82LP N r_script_Equal_1) x y = script_Equal N r_script_Equal_1 x.1 x.2.1 := by kernel_rfl
theorem z82sound (N : Nat) (r_script_Equal_1 : τ3 → τ3 → Option (Bool)) (h_script_Equal_1 : Sound Tryz.prog GW B0G 136 (z67sg fun x y => r_script_Equal_1 x.1 x.2.1)) : Sound Tryz.prog GW B0G 84 (z82sg fun x _ => script_Equal N r_script_Equal_1 x.1 x.2.1) :=
 runD_sound (mkE_ok z82h (z82fn N r_script_Equal_1) _ _ (z82fn_ok N r_script_Equal_1 h_script_Equal_1)) Tryz.func84 rfl Tryz.call84 (z82sg fun x _ => script_Equal N r_script_Equal_1 x.1 x.2.1) z82pk (fun _ _ => rfl) N (fun x y _ h => ((runL_eq (z82E N r_script_Equal_1) N Tryz.f84 (z82sg fun x _ => script_Equal N r_script_Equal_1 x.1 x.2.1) z82pk (z82LP N r_script_Equal_1) (show LoopsOk (z82LP N r_script_Equal_1) (z82E N r_script_Equal_1) N (resD (z82E N r_script_Equal_1) Tryz.f84 (z82sg fun x _ => script_Equal N r_script_Equal_1 x.1 x.2.1) z82pk) [] from trivial) x y).trans (z82core N r_script_Equal_1 x y)).trans h)
def script_Equal_1_b (N : Nat) (r_script_Equal_1 : τ3 → τ3 → Option (Bool)) (x0 : Str × GValue) (x1 : Str × GValue) : Option Bool :=
 br (x0.1 == x1.1)
  (bnd (script_Equal N r_script_Equal_1 (GValue.mk x0.2.kind x0.2.text x0.2.number x0.2.list x0.2.cases) (GValue.mk x1.2.kind x1.2.text x1.2.number x1.2.list x1.2.cases)) fun t15 =>
  some t15)
  (some false)
abbrev z56sg (f : SV [.v τ2, .v τ2] → BV [] → Option (Bool)) : AF := { ps := [.v τ2, .v τ2], bs := [], rs := [.v .bool], cs := [], R := Bool, out := fun z => ((z, ()), ()), f := f }
abbrev z56pk : SV [.v .bool] → BV [] → Bool := fun x _ => x.1
def z56fn (N : Nat) (r_script_Equal_1 : τ3 → τ3 → Option (Bool)) : FuncId → Option Tmp → Option AF := fun f _ =>
 match f with
  | 84 => some (z82sg fun x _ => script_Equal N r_script_Equal_1 x.1 x.2.1)
  | _ => none
theorem z56fn_ok (N : Nat) (r_script_Equal_1 : τ3 → τ3 → Option (Bool)) (h_script_Equal_1 : Sound Tryz.prog GW B0G 136 (z67sg fun x y => r_script_Equal_1 x.1 x.2.1)) : ∀ f q F, z56fn N r_script_Equal_1 f q = some F → Sound Tryz.prog GW B0G f F := by
 intro f q F h
 unfold z56fn at h
 split at h
 · cases h; exact z82sound N r_script_Equal_1 h_script_Equal_1
 · cases h
def z56h : Nat → Hint := fun i =>
 match i with
 | _ => hint0
abbrev z56E (N : Nat) (r_script_Equal_1 : τ3 → τ3 → Option (Bool)) : Env := mkE z56h (z56fn N r_script_Equal_1) (fun _ => false) (fun _ => false)
noncomputable def z56LP (N : Nat) (r_script_Equal_1 : τ3 → τ3 → Option (Bool)) : Nat → Code → St → (Ex → St → Option Bool) → Option Bool := fun i c =>
 match i with
 | i => fun st k => iter (z56h i) (exec (z56E N r_script_Equal_1) N c i) N st k
theorem z56core (N : Nat) (r_script_Equal_1 : τ3 → τ3 → Option (Bool)) (x : SV [.v τ2, .v τ2]) (y : BV []) : runL (z56E N r_script_Equal_1) Tryz.f136 (z56sg fun x _ => script_Equal_1_b N r_script_Equal_1 x.1 x.2.1) z56pk (z56LP N r_script_Equal_1) x y = script_Equal_1_b N r_script_Equal_1 x.1 x.2.1 := by kernel_rfl
theorem z56sound (N : Nat) (r_script_Equal_1 : τ3 → τ3 → Option (Bool)) (h_script_Equal_1 : Sound Tryz.prog GW B0G 136 (z67sg fun x y => r_script_Equal_1 x.1 x.2.1)) : Sound Tryz.prog GW B0G 136 (z56sg fun x _ => script_Equal_1_b N r_script_Equal_1 x.1 x.2.1) :=
 runD_sound (mkE_ok z56h (z56fn N r_script_Equal_1) _ _ (z56fn_ok N r_script_Equal_1 h_script_Equal_1)) Tryz.func136 rfl Tryz.call136 (z56sg fun x _ => script_Equal_1_b N r_script_Equal_1 x.1 x.2.1) z56pk (fun _ _ => rfl) N (fun x y _ h => ((runL_eq (z56E N r_script_Equal_1) N Tryz.f136 (z56sg fun x _ => script_Equal_1_b N r_script_Equal_1 x.1 x.2.1) z56pk (z56LP N r_script_Equal_1) (show LoopsOk (z56LP N r_script_Equal_1) (z56E N r_script_Equal_1) N (resD (z56E N r_script_Equal_1) Tryz.f136 (z56sg fun x _ => script_Equal_1_b N r_script_Equal_1 x.1 x.2.1) z56pk) [] from trivial) x y).trans (z56core N r_script_Equal_1 x y)).trans h)
def script_Equal_1 (N : Nat) : Nat → τ3 → τ3 → Option (Bool)
 | 0 => fun _ _ => none
 | d + 1 => script_Equal_1_b N (script_Equal_1 N d)
theorem z67sound (N : Nat) : ∀ d, Sound Tryz.prog GW B0G 136 (z67sg fun x y => script_Equal_1 N d x.1 x.2.1)
 | 0 => Sound.never Tryz.call136 (fun _ _ => rfl)
 | d + 1 => z56sound N (script_Equal_1 N d) (z67sound N d)
def config_isMore (N : Nat) (x0 : Str × List τ1 × List τ1) (x1 : Str × List τ1 × List τ1) : Option Bool :=
 bnd (config_Fit N x1.2.1 x0.2.1) fun t9 =>
 br (t9)
  (bnd (config_Fit N x1.2.2 x0.2.2) fun t15 =>
  br (t15)
   (some (decide ((IntKind.i64.wrap ((x0.2.1.length : Int) + (x0.2.2.length : Int))) > (IntKind.i64.wrap ((x1.2.1.length : Int) + (x1.2.2.length : Int))))))
   (some false))
  (some false)
abbrev z73sg (f : SV [.v τ9, .v τ9] → BV [] → Option (Bool)) : AF := { ps := [.v τ9, .v τ9], bs := [], rs := [.v .bool], cs := [], R := Bool, out := fun z => ((z, ()), ()), f := f }
noncomputable abbrev z73g (N : Nat) : AF := z73sg fun x _ => config_isMore N x.1 x.2.1
abbrev z73pk : SV [.v .bool] → BV [] → Bool := fun x _ => x.1
def z73fn (N : Nat) : FuncId → Option Tmp → Option AF := fun f _ =>
 match f with
  | 134 => some (z93g N)
  | _ => none
theorem z73fn_ok (N : Nat) : FnOk (z73fn N) := by
 intro f q F h
 unfold z73fn at h
 split at h
 · cases h; exact z93sound N
 · cases h
def z73h : Nat → Hint := fun i =>
 match i with
 | _ => hint0
abbrev z73E (N : Nat) : Env := mkE z73h (z73fn N) FF FF
noncomputable def z73LP (N : Nat) : Nat → Code → St → (Ex → St → Option Bool) → Option Bool := fun i c =>
 match i with
 | i => fun st k => iter (z73h i) (exec (z73E N) N c i) N st k
theorem z73core (N : Nat) (x : SV [.v τ9, .v τ9]) (y : BV []) : runL (z73E N) Tryz.f85 (z73g N) z73pk (z73LP N) x y = config_isMore N x.1 x.2.1 := by kernel_rfl
theorem z73sound (N : Nat) : Snd 85 (z73g N) :=
 sndL (z73fn_ok N) Tryz.func85 rfl Tryz.call85 (z73g N) z73pk (fun _ _ => rfl) N (z73LP N) (show LoopsOk (z73LP N) (z73E N) N (resD (z73E N) Tryz.f85 (z73g N) z73pk) [] from trivial) (z73core N)
def z14L0T (N : Nat) (x0 : List τ3) (c7 : Int) (k0 : Option Int) (self : Int → Option Int) (s8 : Int) : Option Int :=
 br (decide (s8 < c7))
  (bnd (geti x0 s8) fun t14 =>
  bnd (config_chosen_1 N t14) fun t16 =>
  br (t16)
   (some s8)
   (self (IntKind.i64.wrap (s8 + (1 : Int)))))
  (k0)
def z14L0 (N : Nat) (x0 : List τ3) (c7 : Int) (k0 : Option Int) : Nat → Int → Option Int
 | 0, _ => none
 | n + 1, s8 => z14L0T N x0 c7 k0 (z14L0 N x0 c7 k0 n) s8
def slices_IndexFunc_api_Case_2 (N : Nat) (x0 : List τ3) (_x1 : Unit) : Option Int :=
 z14L0 N x0 (x0.length : Int) (some (-1 : Int)) N (0 : Int)
abbrev z14sg (f : SV [.v (.sl τ2), .v (.clo 83 .un)] → BV [] → Option (Int)) : AF := { ps := [.v (.sl τ2), .v (.clo 83 .un)], bs := [], rs := [.v τ5], cs := [], R := Int, out := fun z => ((z, ()), ()), f := f }
noncomputable abbrev z14g (N : Nat) : AF := z14sg fun x _ => slices_IndexFunc_api_Case_2 N x.1 x.2.1
abbrev z14pk : SV [.v τ5] → BV [] → Int := fun x _ => x.1
def z14fn (N : Nat) : FuncId → Option Tmp → Option AF := fun f _ =>
 match f with
  | 83 => some (z59g N)
  | _ => none
theorem z14fn_ok (N : Nat) : FnOk (z14fn N) := by
 intro f q F h
 unfold z14fn at h
 split at h
 · cases h; exact z59sound N
 · cases h
def z14h : Nat → Hint := fun i =>
 match i with
 | 0 => ⟨[], [0, 1, 7, 8], [], [], [], []⟩
 | _ => hint0
abbrev z14E (N : Nat) : Env := mkE z14h (z14fn N) FF FF
noncomputable abbrev z14R (N : Nat) := resD (z14E N) Tryz.f82 (z14g N) z14pk
abbrev z14L0_fs : List (Nat × Sl) := [(0, .v (.sl τ2)), (1, .v (.clo 83 .un)), (7, .v τ5), (8, .v τ5)]
abbrev z14L0_bs : List (Nat × Sb) := []
def z14L0_hd (x0 : List τ3) (x1 : Unit) (c7 : Int) (s8 : Int) : St := ⟨19, [(0, .v (.sl τ2) x0), (1, .v (.clo 83 .un) x1), (7, .v τ5 c7), (8, .v τ5 s8)], []⟩
def z14L0_tl0 (_x0 : List τ3) (_x1 : Unit) (_c7 : Int) : St := ⟨19, [], []⟩
def z14L0_G (N : Nat) (x0 : List τ3) (x1 : Unit) (c7 : Int) (s8 : Int) (k : Ex → St → Option Int) : Option Int :=
 z14L0 N x0 c7 (k (.exit 0) (z14L0_tl0 x0 x1 c7)) N s8
abbrev z14L0_F (N : Nat) : FV z14L0_fs → HV z14L0_bs → (Ex → St → Option Int) → Option Int := fun x _ k => z14L0_G N x.1 x.2.1 x.2.2.1 x.2.2.2.1 k
noncomputable def z14LP (N : Nat) : Nat → Code → St → (Ex → St → Option Int) → Option Int := fun i c =>
 match i with
 | 0 => (LPc 19 z14L0_fs z14L0_bs (z14L0_F N) (fun st k => iter (z14h 0) (exec (z14E N) N c 0) N st k))
 | i => fun st k => iter (z14h i) (exec (z14E N) N c i) N st k
theorem z14L0_step (N : Nat) (x0 : List τ3) (x1 : Unit) (c7 : Int) (KX : Nat → St → Option Int) (I : St → Option Int) (s8 : Int) :
  execL (z14LP N) (z14E N) z22c0 0 (z14L0_hd x0 x1 c7 s8) (roundK (z14h 0) I KX (z14R N)) = z14L0T N x0 c7 (KX 0 (z14L0_tl0 x0 x1 c7)) (fun s8 => I (z14L0_hd x0 x1 c7 s8)) s8 := by kernel_rfl
theorem z14L0_ok (N : Nat) : ∀ x y k, (∀ st, k .ret st = (z14R N) st) → iter (z14h 0) (exec (z14E N) N z22c0 0) N ⟨19, unF z14L0_fs x, unH z14L0_bs y⟩ k = z14L0_F N x y k := fun x _ k hk =>
 iter_link (S := (Int) × Unit) (z14h 0) _ (execL (z14LP N) (z14E N) z22c0 0) (z14R N) (fun st k hk => execL_eq _ _ N _ z22c0 0 (show LoopsOk (z14LP N) (z14E N) N (z14R N) [] from trivial) st k hk) (fun s => z14L0_hd x.1 x.2.1 x.2.2.1 s.1) k hk
  (fun self s => z14L0T N x.1 x.2.2.1 (k (.exit 0) (z14L0_tl0 x.1 x.2.1 x.2.2.1)) (fun s8 => self (s8, ())) s.1) (fun n s => z14L0 N x.1 x.2.2.1 (k (.exit 0) (z14L0_tl0 x.1 x.2.1 x.2.2.1)) n s.1) (fun _ => rfl) (fun _ _ => rfl)
  (fun I s => z14L0_step N x.1 x.2.1 x.2.2.1 (fun j => k (.exit j)) I s.1) N (x.2.2.2.1, ())
theorem z14lp0 (N : Nat) : ∀ st k, (∀ st, k .ret st = (z14R N) st) → z14LP N 0 z22c0 st k = iter (Env.hint (z14E N) 0) (exec (z14E N) N z22c0 0) N st k := fun st k hk => LPc_eq 19 z14L0_fs z14L0_bs _ _ (z14R N) (z14L0_ok N) _ st k hk (rfl)
theorem z14core (N : Nat) (x : SV [.v (.sl τ2), .v (.clo 83 .un)]) (y : BV []) : runL (z14E N) Tryz.f82 (z14g N) z14pk (z14LP N) x y = slices_IndexFunc_api_Case_2 N x.1 x.2.1 := by kernel_rfl
theorem z14sound (N : Nat) : Snd 82 (z14g N) :=
 sndL (z14fn_ok N) Tryz.func82 rfl Tryz.call82 (z14g N) z14pk (fun _ _ => rfl) N (z14LP N) (show LoopsOk (z14LP N) (z14E N) N (z14R N) [(0, z22c0)] from ⟨z14lp0 N, trivial⟩) (z14core N)
end
end Go.Proofs.YtbekhaioddmliaaGreatDoor

