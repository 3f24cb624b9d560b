/- What functions of the program compute, as plain functions (printed). -/
import Derived.Test.YtbekhaioddmliaaGreatDoorQZeF5
namespace Go.Proofs.YtbekhaioddmliaaGreatDoor
open Go Go.RowKit
set_option maxRecDepth 100000
set_option linter.unusedVariables false
noncomputable section
def config_checkChoice (N : Nat) (x0 : τ20) (x1 : List τ1) (x2 : Str × List τ1) : Option Int :=
 bnd (config_CheckConditions N x0.1 x0.2.1) fun t13 =>
 br (t13 != (0 : Int))
  (some t13)
  (bnd (config_CheckConfig N x0.1 x1) fun t20 =>
  br (t20 != (0 : Int))
   (some t20)
   (bnd (config_CheckPlatforms N [x2]) fun t26 =>
   some t26))
abbrev z43sg (f : SV [.v τ4, .v τ0, .v τ15] → BV [] → Option (Int)) : AF := { ps := [.v τ4, .v τ0, .v τ15], bs := [], rs := [.v τ5], cs := [], R := Int, out := fun z => ((z, ()), ()), f := f }
noncomputable abbrev z43g (N : Nat) : AF := z43sg fun x _ => config_checkChoice N x.1 x.2.1 x.2.2.1
abbrev z43pk : SV [.v τ5] → BV [] → Int := fun x _ => x.1
def z43fn (N : Nat) : FuncId → Option Tmp → Option AF := fun f _ =>
 match f with
  | 29 => some (z42g N)
  | 64 => some (z28g N)
  | 75 => some (z30g N)
  | _ => none
theorem z43fn_ok (N : Nat) : FnOk (z43fn N) := by
 intro f q F h
 unfold z43fn at h
 split at h
 · cases h; exact z42sound N
 · cases h; exact z28sound N
 · cases h; exact z30sound N
 · cases h
def z43h : Nat → Hint := fun i =>
 match i with
 | _ => hint0
abbrev z43E (N : Nat) : Env := mkE z43h (z43fn N) FF FF
noncomputable def z43LP (N : Nat) : Nat → Code → St → (Ex → St → Option Int) → Option Int := fun i c =>
 match i with
 | i => fun st k => iter (z43h i) (exec (z43E N) N c i) N st k
theorem z43core (N : Nat) (x : SV [.v τ4, .v τ0, .v τ15]) (y : BV []) : runL (z43E N) Tryz.f30 (z43g N) z43pk (z43LP N) x y = config_checkChoice N x.1 x.2.1 x.2.2.1 := by kernel_rfl
theorem z43sound (N : Nat) : Snd 30 (z43g N) :=
 sndL (z43fn_ok N) Tryz.func30 rfl Tryz.call30 (z43g N) z43pk (fun _ _ => rfl) N (z43LP N) (show LoopsOk (z43LP N) (z43E N) N (resD (z43E N) Tryz.f30 (z43g N) z43pk) [] from trivial) (z43core N)
def script_CheckValue_1 (_N : Nat) (x0 : Str) : Option Bool :=
 some (decide ((x0.length : Int) > (1000 : Int)))
abbrev z38sg (f : SV [.v .str] → BV [] → Option (Bool)) : AF := { ps := [.v .str], bs := [], rs := [.v .bool], cs := [], R := Bool, out := fun z => ((z, ()), ()), f := f }
noncomputable abbrev z38g (N : Nat) : AF := z38sg fun x _ => script_CheckValue_1 N x.1
abbrev z38pk : SV [.v .bool] → BV [] → Bool := fun x _ => x.1
def z38fn (_N : Nat) : FuncId → Option Tmp → Option AF := fun f _ =>
 match f with
  | _ => none
theorem z38fn_ok (N : Nat) : FnOk (z38fn N) := by
 intro f q F h
 unfold z38fn at h
 split at h
 · cases h
def z38h : Nat → Hint := fun i =>
 match i with
 | _ => hint0
abbrev z38E (N : Nat) : Env := mkE z38h (z38fn N) FF FF
noncomputable def z38LP (N : Nat) : Nat → Code → St → (Ex → St → Option Bool) → Option Bool := fun i c =>
 match i with
 | i => fun st k => iter (z38h i) (exec (z38E N) N c i) N st k
theorem z38core (N : Nat) (x : SV [.v .str]) (y : BV []) : runL (z38E N) Tryz.f76 (z38g N) z38pk (z38LP N) x y = script_CheckValue_1 N x.1 := by kernel_rfl
theorem z38sound (N : Nat) : Snd 76 (z38g N) :=
 sndL (z38fn_ok N) Tryz.func76 rfl Tryz.call76 (z38g N) z38pk (fun _ _ => rfl) N (z38LP N) (show LoopsOk (z38LP N) (z38E N) N (resD (z38E N) Tryz.f76 (z38g N) z38pk) [] from trivial) (z38core N)
def z78L0T (_N : Nat) (x0 : Str) (c5 : Int) (k0 : Option Bool) (self : Int → Option Bool) (s6 : Int) : Option Bool :=
 br (decide (s6 < c5))
  (bnd (geti x0 s6) fun t11 =>
  br (t11 != (10 : UInt8))
   (bnd (geti x0 s6) fun t16 =>
   br (decide (t16 < (32 : UInt8)))
    (some false)
    (bnd (geti x0 s6) fun t21 =>
    br (decide (t21 > (126 : UInt8)))
     (some false)
     (self (IntKind.i64.wrap (s6 + (1 : Int))))))
   (self (IntKind.i64.wrap (s6 + (1 : Int)))))
  (k0)
def z78L0 (N : Nat) (x0 : Str) (c5 : Int) (k0 : Option Bool) : Nat → Int → Option Bool
 | 0, _ => none
 | n + 1, s6 => z78L0T N x0 c5 k0 (z78L0 N x0 c5 k0 n) s6
def script_isText (N : Nat) (x0 : Str) : Option Bool :=
 z78L0 N x0 (x0.length : Int) (some true) N (0 : Int)
abbrev z78sg (f : SV [.v .str] → BV [] → Option (Bool)) : AF := { ps := [.v .str], bs := [], rs := [.v .bool], cs := [], R := Bool, out := fun z => ((z, ()), ()), f := f }
noncomputable abbrev z78g (N : Nat) : AF := z78sg fun x _ => script_isText N x.1
abbrev z78pk : SV [.v .bool] → BV [] → Bool := fun x _ => x.1
def z78fn (_N : Nat) : FuncId → Option Tmp → Option AF := fun f _ =>
 match f with
  | _ => none
theorem z78fn_ok (N : Nat) : FnOk (z78fn N) := by
 intro f q F h
 unfold z78fn at h
 split at h
 · cases h
def z78h : Nat → Hint := fun i =>
 match i with
 | 0 => ⟨[], [0, 5, 6], [], [], [], []⟩
 | _ => hint0
abbrev z78E (N : Nat) : Env := mkE z78h (z78fn N) FF FF
noncomputable abbrev z78c0 : Code := cAt (bodyOf Tryz.f77) [true, false, true, false, false]
noncomputable abbrev z78R (N : Nat) := resD (z78E N) Tryz.f77 (z78g N) z78pk
abbrev z78L0_fs : List (Nat × Sl) := [(0, .v .str), (5, .v τ5), (6, .v τ5)]
abbrev z78L0_bs : List (Nat × Sb) := []
def z78L0_hd (x0 : Str) (c5 : Int) (s6 : Int) : St := ⟨26, [(0, .v .str x0), (5, .v τ5 c5), (6, .v τ5 s6)], []⟩
def z78L0_tl0 (_x0 : Str) (_c5 : Int) : St := ⟨26, [], []⟩
def z78L0_G (N : Nat) (x0 : Str) (c5 : Int) (s6 : Int) (k : Ex → St → Option Bool) : Option Bool :=
 z78L0 N x0 c5 (k (.exit 0) (z78L0_tl0 x0 c5)) N s6
abbrev z78L0_F (N : Nat) : FV z78L0_fs → HV z78L0_bs → (Ex → St → Option Bool) → Option Bool := fun x _ k => z78L0_G N x.1 x.2.1 x.2.2.1 k
noncomputable def z78LP (N : Nat) : Nat → Code → St → (Ex → St → Option Bool) → Option Bool := fun i c =>
 match i with
 | 0 => (LPc 26 z78L0_fs z78L0_bs (z78L0_F N) (fun st k => iter (z78h 0) (exec (z78E N) N c 0) N st k))
 | i => fun st k => iter (z78h i) (exec (z78E N) N c i) N st k
theorem z78L0_step (N : Nat) (x0 : Str) (c5 : Int) (KX : Nat → St → Option Bool) (I : St → Option Bool) (s6 : Int) :
  execL (z78LP N) (z78E N) z78c0 0 (z78L0_hd x0 c5 s6) (roundK (z78h 0) I KX (z78R N)) = z78L0T N x0 c5 (KX 0 (z78L0_tl0 x0 c5)) (fun s6 => I (z78L0_hd x0 c5 s6)) s6 := by kernel_rfl
theorem z78L0_ok (N : Nat) : ∀ x y k, (∀ st, k .ret st = (z78R N) st) → iter (z78h 0) (exec (z78E N) N z78c0 0) N ⟨26, unF z78L0_fs x, unH z78L0_bs y⟩ k = z78L0_F N x y k := fun x _ k hk =>
 iter_link (S := (Int) × Unit) (z78h 0) _ (execL (z78LP N) (z78E N) z78c0 0) (z78R N) (fun st k hk => execL_eq _ _ N _ z78c0 0 (show LoopsOk (z78LP N) (z78E N) N (z78R N) [] from trivial) st k hk) (fun s => z78L0_hd x.1 x.2.1 s.1) k hk
  (fun self s => z78L0T N x.1 x.2.1 (k (.exit 0) (z78L0_tl0 x.1 x.2.1)) (fun s6 => self (s6, ())) s.1) (fun n s => z78L0 N x.1 x.2.1 (k (.exit 0) (z78L0_tl0 x.1 x.2.1)) n s.1) (fun _ => rfl) (fun _ _ => rfl)
  (fun I s => z78L0_step N x.1 x.2.1 (fun j => k (.exit j)) I s.1) N (x.2.2.1, ())
theorem z78lp0 (N : Nat) : ∀ st k, (∀ st, k .ret st = (z78R N) st) → z78LP N 0 z78c0 st k = iter (Env.hint (z78E N) 0) (exec (z78E N) N z78c0 0) N st k := fun st k hk => LPc_eq 26 z78L0_fs z78L0_bs _ _ (z78R N) (z78L0_ok N) _ st k hk (rfl)
theorem z78core (N : Nat) (x : SV [.v .str]) (y : BV []) : runL (z78E N) Tryz.f77 (z78g N) z78pk (z78LP N) x y = script_isText N x.1 := by kernel_rfl
theorem z78sound (N : Nat) : Snd 77 (z78g N) :=
 sndL (z78fn_ok N) Tryz.func77 rfl Tryz.call77 (z78g N) z78pk (fun _ _ => rfl) N (z78LP N) (show LoopsOk (z78LP N) (z78E N) N (z78R N) [(0, z78c0)] from ⟨z78lp0 N, trivial⟩) (z78core N)
def script_CheckValue_2 (N : Nat) (x0 : Str) : Option Bool :=
 bnd (script_isText N x0) fun t4 =>
 some (!t4)
abbrev z39sg (f : SV [.v .str] → BV [] → Option (Bool)) : AF := { ps := [.v .str], bs := [], rs := [.v .bool], cs := [], R := Bool, out := fun z => ((z, ()), ()), f := f }
noncomputable abbrev z39g (N : Nat) : AF := z39sg fun x _ => script_CheckValue_2 N x.1
abbrev z39pk : SV [.v .bool] → BV [] → Bool := fun x _ => x.1
def z39fn (N : Nat) : FuncId → Option Tmp → Option AF := fun f _ =>
 match f with
  | 77 => some (z78g N)
  | _ => none
theorem z39fn_ok (N : Nat) : FnOk (z39fn N) := by
 intro f q F h
 unfold z39fn at h
 split at h
 · cases h; exact z78sound N
 · cases h
def z39h : Nat → Hint := fun i =>
 match i with
 | _ => hint0
abbrev z39E (N : Nat) : Env := mkE z39h (z39fn N) FF FF
noncomputable def z39LP (N : Nat) : Nat → Code → St → (Ex → St → Option Bool) → Option Bool := fun i c =>
 match i with
 | i => fun st k => iter (z39h i) (exec (z39E N) N c i) N st k
theorem z39core (N : Nat) (x : SV [.v .str]) (y : BV []) : runL (z39E N) Tryz.f78 (z39g N) z39pk (z39LP N) x y = script_CheckValue_2 N x.1 := by kernel_rfl
theorem z39sound (N : Nat) : Snd 78 (z39g N) :=
 sndL (z39fn_ok N) Tryz.func78 rfl Tryz.call78 (z39g N) z39pk (fun _ _ => rfl) N (z39LP N) (show LoopsOk (z39LP N) (z39E N) N (resD (z39E N) Tryz.f78 (z39g N) z39pk) [] from trivial) (z39core N)
def script_checkText (N : Nat) (x0 : Str) : Option Int :=
 br (decide ((x0.length : Int) > (1000 : Int)))
  (some (2 : Int))
  (bnd (script_isText N x0) fun t7 =>
  br (!t7)
   (some (3 : Int))
   (some (0 : Int)))
abbrev z57sg (f : SV [.v .str] → BV [] → Option (Int)) : AF := { ps := [.v .str], bs := [], rs := [.v τ5], cs := [], R := Int, out := fun z => ((z, ()), ()), f := f }
noncomputable abbrev z57g (N : Nat) : AF := z57sg fun x _ => script_checkText N x.1
abbrev z57pk : SV [.v τ5] → BV [] → Int := fun x _ => x.1
def z57fn (N : Nat) : FuncId → Option Tmp → Option AF := fun f _ =>
 match f with
  | 77 => some (z78g N)
  | _ => none
theorem z57fn_ok (N : Nat) : FnOk (z57fn N) := by
 intro f q F h
 unfold z57fn at h
 split at h
 · cases h; exact z78sound N
 · cases h
def z57h : Nat → Hint := fun i =>
 match i with
 | _ => hint0
abbrev z57E (N : Nat) : Env := mkE z57h (z57fn N) FF FF
noncomputable def z57LP (N : Nat) : Nat → Code → St → (Ex → St → Option Int) → Option Int := fun i c =>
 match i with
 | i => fun st k => iter (z57h i) (exec (z57E N) N c i) N st k
theorem z57core (N : Nat) (x : SV [.v .str]) (y : BV []) : runL (z57E N) Tryz.f130 (z57g N) z57pk (z57LP N) x y = script_checkText N x.1 := by kernel_rfl
theorem z57sound (N : Nat) : Snd 130 (z57g N) :=
 sndL (z57fn_ok N) Tryz.func130 rfl Tryz.call130 (z57g N) z57pk (fun _ _ => rfl) N (z57LP N) (show LoopsOk (z57LP N) (z57E N) N (resD (z57E N) Tryz.f130 (z57g N) z57pk) [] from trivial) (z57core N)
def script_checkCases_1 (_N : Nat) (x0 : Str × GValue) (x1 : Str × GValue) : Option Bool :=
 some (x0.1 == x1.1)
abbrev z40sg (f : SV [.v τ2, .v (.ptr τ2)] → BV [] → Option (Bool)) : AF := { ps := [.v τ2, .v (.ptr τ2)], bs := [], rs := [.v .bool], cs := [], R := Bool, out := fun z => ((z, ()), ()), f := f }
noncomputable abbrev z40g (N : Nat) : AF := z40sg fun x _ => script_checkCases_1 N x.1 x.2.1
abbrev z40pk : SV [.v .bool] → BV [] → Bool := fun x _ => x.1
def z40fn (_N : Nat) : FuncId → Option Tmp → Option AF := fun f _ =>
 match f with
  | _ => none
theorem z40fn_ok (N : Nat) : FnOk (z40fn N) := by
 intro f q F h
 unfold z40fn at h
 split at h
 · cases h
def z40h : Nat → Hint := fun i =>
 match i with
 | _ => hint0
abbrev z40E (N : Nat) : Env := mkE z40h (z40fn N) FF FF
noncomputable def z40LP (N : Nat) : Nat → Code → St → (Ex → St → Option Bool) → Option Bool := fun i c =>
 match i with
 | i => fun st k => iter (z40h i) (exec (z40E N) N c i) N st k
theorem z40core (N : Nat) (x : SV [.v τ2, .v (.ptr τ2)]) (y : BV []) : runL (z40E N) Tryz.f132 (z40g N) z40pk (z40LP N) x y = script_checkCases_1 N x.1 x.2.1 := by kernel_rfl
theorem z40sound (N : Nat) : Snd 132 (z40g N) :=
 sndL (z40fn_ok N) Tryz.func132 rfl Tryz.call132 (z40g N) z40pk (fun _ _ => rfl) N (z40LP N) (show LoopsOk (z40LP N) (z40E N) N (resD (z40E N) Tryz.f132 (z40g N) z40pk) [] from trivial) (z40core N)
def z22L0T (N : Nat) (x0 : List τ3) (x1 : τ3 × Unit) (c7 : Int) (k0 : Option Int) (self : Int → Option Int) (s8 : Int) : Option Int :=
 br (decide (s8 < c7))
  (bnd (geti x0 s8) fun t14 =>
  bnd (script_checkCases_1 N t14 x1.1) fun t16 =>
  br (t16)
   (some s8)
   (self (IntKind.i64.wrap (s8 + (1 : Int)))))
  (k0)
def z22L0 (N : Nat) (x0 : List τ3) (x1 : τ3 × Unit) (c7 : Int) (k0 : Option Int) : Nat → Int → Option Int
 | 0, _ => none
 | n + 1, s8 => z22L0T N x0 x1 c7 k0 (z22L0 N x0 x1 c7 k0 n) s8
def slices_IndexFunc_api_Case (N : Nat) (x0 : List τ3) (x1 : τ3 × Unit) : Option Int :=
 z22L0 N x0 x1 (x0.length : Int) (some (-1 : Int)) N (0 : Int)
abbrev z22sg (f : SV [.v (.sl τ2), .v (.clo 132 (.pr (.ptr τ2) .un))] → BV [] → Option (Int)) : AF := { ps := [.v (.sl τ2), .v (.clo 132 (.pr (.ptr τ2) .un))], bs := [], rs := [.v τ5], cs := [], R := Int, out := fun z => ((z, ()), ()), f := f }
noncomputable abbrev z22g (N : Nat) : AF := z22sg fun x _ => slices_IndexFunc_api_Case N x.1 x.2.1
abbrev z22pk : SV [.v τ5] → BV [] → Int := fun x _ => x.1
def z22fn (N : Nat) : FuncId → Option Tmp → Option AF := fun f _ =>
 match f with
  | 132 => some (z40g N)
  | _ => none
theorem z22fn_ok (N : Nat) : FnOk (z22fn N) := by
 intro f q F h
 unfold z22fn at h
 split at h
 · cases h; exact z40sound N
 · cases h
def z22h : Nat → Hint := fun i =>
 match i with
 | 0 => ⟨[], [0, 1, 7, 8], [], [], [], []⟩
 | _ => hint0
abbrev z22E (N : Nat) : Env := mkE z22h (z22fn N) FF FF
noncomputable abbrev z22c0 : Code := cAt (bodyOf Tryz.f82) [true, false, true, false, false]
noncomputable abbrev z22R (N : Nat) := resD (z22E N) Tryz.f82 (z22g N) z22pk
abbrev z22L0_fs : List (Nat × Sl) := [(0, .v (.sl τ2)), (1, .v (.clo 132 (.pr (.ptr τ2) .un))), (7, .v τ5), (8, .v τ5)]
abbrev z22L0_bs : List (Nat × Sb) := []
def z22L0_hd (x0 : List τ3) (x1 : τ3 × Unit) (c7 : Int) (s8 : Int) : St := ⟨19, [(0, .v (.sl τ2) x0), (1, .v (.clo 132 (.pr (.ptr τ2) .un)) x1), (7, .v τ5 c7), (8, .v τ5 s8)], []⟩
def z22L0_tl0 (_x0 : List τ3) (_x1 : τ3 × Unit) (_c7 : Int) : St := ⟨19, [], []⟩
def z22L0_G (N : Nat) (x0 : List τ3) (x1 : τ3 × Unit) (c7 : Int) (s8 : Int) (k : Ex → St → Option Int) : Option Int :=
 z22L0 N x0 x1 c7 (k (.exit 0) (z22L0_tl0 x0 x1 c7)) N s8
abbrev z22L0_F (N : Nat) : FV z22L0_fs → HV z22L0_bs → (Ex → St → Option Int) → Option Int := fun x _ k => z22L0_G N x.1 x.2.1 x.2.2.1 x.2.2.2.1 k
noncomputable def z22LP (N : Nat) : Nat → Code → St → (Ex → St → Option Int) → Option Int := fun i c =>
 match i with
 | 0 => (LPc 19 z22L0_fs z22L0_bs (z22L0_F N) (fun st k => iter (z22h 0) (exec (z22E N) N c 0) N st k))
 | i => fun st k => iter (z22h i) (exec (z22E N) N c i) N st k
theorem z22L0_step (N : Nat) (x0 : List τ3) (x1 : τ3 × Unit) (c7 : Int) (KX : Nat → St → Option Int) (I : St → Option Int) (s8 : Int) :
  execL (z22LP N) (z22E N) z22c0 0 (z22L0_hd x0 x1 c7 s8) (roundK (z22h 0) I KX (z22R N)) = z22L0T N x0 x1 c7 (KX 0 (z22L0_tl0 x0 x1 c7)) (fun s8 => I (z22L0_hd x0 x1 c7 s8)) s8 := by kernel_rfl
theorem z22L0_ok (N : Nat) : ∀ x y k, (∀ st, k .ret st = (z22R N) st) → iter (z22h 0) (exec (z22E N) N z22c0 0) N ⟨19, unF z22L0_fs x, unH z22L0_bs y⟩ k = z22L0_F N x y k := fun x _ k hk =>
 iter_link (S := (Int) × Unit) (z22h 0) _ (execL (z22LP N) (z22E N) z22c0 0) (z22R N) (fun st k hk => execL_eq _ _ N _ z22c0 0 (show LoopsOk (z22LP N) (z22E N) N (z22R N) [] from trivial) st k hk) (fun s => z22L0_hd x.1 x.2.1 x.2.2.1 s.1) k hk
  (fun self s => z22L0T N x.1 x.2.1 x.2.2.1 (k (.exit 0) (z22L0_tl0 x.1 x.2.1 x.2.2.1)) (fun s8 => self (s8, ())) s.1) (fun n s => z22L0 N x.1 x.2.1 x.2.2.1 (k (.exit 0) (z22L0_tl0 x.1 x.2.1 x.2.2.1)) n s.1) (fun _ => rfl) (fun _ _ => rfl)
  (fun I s => z22L0_step N x.1 x.2.1 x.2.2.1 (fun j => k (.exit j)) I s.1) N (x.2.2.2.1, ())
theorem z22lp0 (N : Nat) : ∀ st k, (∀ st, k .ret st = (z22R N) st) → z22LP N 0 z22c0 st k = iter (Env.hint (z22E N) 0) (exec (z22E N) N z22c0 0) N st k := fun st k hk => LPc_eq 19 z22L0_fs z22L0_bs _ _ (z22R N) (z22L0_ok N) _ st k hk (rfl)
theorem z22core (N : Nat) (x : SV [.v (.sl τ2), .v (.clo 132 (.pr (.ptr τ2) .un))]) (y : BV []) : runL (z22E N) Tryz.f82 (z22g N) z22pk (z22LP N) x y = slices_IndexFunc_api_Case N x.1 x.2.1 := by kernel_rfl
theorem z22sound (N : Nat) : Snd 82 (z22g N) :=
 sndL (z22fn_ok N) Tryz.func82 rfl Tryz.call82 (z22g N) z22pk (fun _ _ => rfl) N (z22LP N) (show LoopsOk (z22LP N) (z22E N) N (z22R N) [(0, z22c0)] from ⟨z22lp0 N, trivial⟩) (z22core N)
def slices_ContainsFunc_api_Case (N : Nat) (x0 : List τ3) (x1 : τ3 × Unit) : Option Bool :=
 bnd (slices_IndexFunc_api_Case N x0 x1) fun t7 =>
 some (decide (t7 ≥ (0 : Int)))
abbrev z12sg (f : SV [.v (.sl τ2), .v (.clo 132 (.pr (.ptr τ2) .un))] → BV [] → Option (Bool)) : AF := { ps := [.v (.sl τ2), .v (.clo 132 (.pr (.ptr τ2) .un))], bs := [], rs := [.v .bool], cs := [], R := Bool, out := fun z => ((z, ()), ()), f := f }
noncomputable abbrev z12g (N : Nat) : AF := z12sg fun x _ => slices_ContainsFunc_api_Case N x.1 x.2.1
abbrev z12pk : SV [.v .bool] → BV [] → Bool := fun x _ => x.1
def z12fn (N : Nat) : FuncId → Option Tmp → Option AF := fun f _ =>
 match f with
  | 82 => some (z22g N)
  | _ => none
theorem z12fn_ok (N : Nat) : FnOk (z12fn N) := by
 intro f q F h
 unfold z12fn at h
 split at h
 · cases h; exact z22sound N
 · cases h
def z12h : Nat → Hint := fun i =>
 match i with
 | _ => hint0
abbrev z12E (N : Nat) : Env := mkE z12h (z12fn N) FF FF
noncomputable def z12LP (N : Nat) : Nat → Code → St → (Ex → St → Option Bool) → Option Bool := fun i c =>
 match i with
 | i => fun st k => iter (z12h i) (exec (z12E N) N c i) N st k
theorem z12core (N : Nat) (x : SV [.v (.sl τ2), .v (.clo 132 (.pr (.ptr τ2) .un))]) (y : BV []) : runL (z12E N) Tryz.f131 (z12g N) z12pk (z12LP N) x y = slices_ContainsFunc_api_Case N x.1 x.2.1 := by kernel_rfl
theorem z12sound (N : Nat) : Snd 131 (z12g N) :=
 sndL (z12fn_ok N) Tryz.func131 rfl Tryz.call131 (z12g N) z12pk (fun _ _ => rfl) N (z12LP N) (show LoopsOk (z12LP N) (z12E N) N (resD (z12E N) Tryz.f131 (z12g N) z12pk) [] from trivial) (z12core N)
def z7L0T (N : Nat) (x0 : List Str) (c7 : Int) (k0 : Option Int) (self : Int → Option Int) (s8 : Int) : Option Int :=
 br (decide (s8 < c7))
  (bnd (geti x0 s8) fun t14 =>
  bnd (script_CheckValue_1 N t14) fun t16 =>
  br (t16)
   (some s8)
   (self (IntKind.i64.wrap (s8 + (1 : Int)))))
  (k0)
def z7L0 (N : Nat) (x0 : List Str) (c7 : Int) (k0 : Option Int) : Nat → Int → Option Int
 | 0, _ => none
 | n + 1, s8 => z7L0T N x0 c7 k0 (z7L0 N x0 c7 k0 n) s8
def slices_IndexFunc_string_string (N : Nat) (x0 : List Str) (_x1 : Unit) : Option Int :=
 z7L0 N x0 (x0.length : Int) (some (-1 : Int)) N (0 : Int)
abbrev z7sg (f : SV [.v τ24, .v (.clo 76 .un)] → BV [] → Option (Int)) : AF := { ps := [.v τ24, .v (.clo 76 .un)], bs := [], rs := [.v τ5], cs := [], R := Int, out := fun z => ((z, ()), ()), f := f }
noncomputable abbrev z7g (N : Nat) : AF := z7sg fun x _ => slices_IndexFunc_string_string N x.1 x.2.1
abbrev z7pk : SV [.v τ5] → BV [] → Int := fun x _ => x.1
def z7fn (N : Nat) : FuncId → Option Tmp → Option AF := fun f _ =>
 match f with
  | 76 => some (z38g N)
  | _ => none
theorem z7fn_ok (N : Nat) : FnOk (z7fn N) := by
 intro f q F h
 unfold z7fn at h
 split at h
 · cases h; exact z38sound N
 · cases h
def z7h : Nat → Hint := fun i =>
 match i with
 | 0 => ⟨[], [0, 1, 7, 8], [], [], [], []⟩
 | _ => hint0
abbrev z7E (N : Nat) : Env := mkE z7h (z7fn N) FF FF
noncomputable abbrev z7c0 : Code := cAt (bodyOf Tryz.f103) [true, false, true, false, false]
noncomputable abbrev z7R (N : Nat) := resD (z7E N) Tryz.f103 (z7g N) z7pk
abbrev z7L0_fs : List (Nat × Sl) := [(0, .v τ24), (1, .v (.clo 76 .un)), (7, .v τ5), (8, .v τ5)]
abbrev z7L0_bs : List (Nat × Sb) := []
def z7L0_hd (x0 : List Str) (x1 : Unit) (c7 : Int) (s8 : Int) : St := ⟨19, [(0, .v τ24 x0), (1, .v (.clo 76 .un) x1), (7, .v τ5 c7), (8, .v τ5 s8)], []⟩
def z7L0_tl0 (_x0 : List Str) (_x1 : Unit) (_c7 : Int) : St := ⟨19, [], []⟩
def z7L0_G (N : Nat) (x0 : List Str) (x1 : Unit) (c7 : Int) (s8 : Int) (k : Ex → St → Option Int) : Option Int :=
 z7L0 N x0 c7 (k (.exit 0) (z7L0_tl0 x0 x1 c7)) N s8
abbrev z7L0_F (N : Nat) : FV z7L0_fs → HV z7L0_bs → (Ex → St → Option Int) → Option Int := fun x _ k => z7L0_G N x.1 x.2.1 x.2.2.1 x.2.2.2.1 k
noncomputable def z7LP (N : Nat) : Nat → Code → St → (Ex → St → Option Int) → Option Int := fun i c =>
 match i with
 | 0 => (LPc 19 z7L0_fs z7L0_bs (z7L0_F N) (fun st k => iter (z7h 0) (exec (z7E N) N c 0) N st k))
 | i => fun st k => iter (z7h i) (exec (z7E N) N c i) N st k
theorem z7L0_step (N : Nat) (x0 : List Str) (x1 : Unit) (c7 : Int) (KX : Nat → St → Option Int) (I : St → Option Int) (s8 : Int) :
  execL (z7LP N) (z7E N) z7c0 0 (z7L0_hd x0 x1 c7 s8) (roundK (z7h 0) I KX (z7R N)) = z7L0T N x0 c7 (KX 0 (z7L0_tl0 x0 x1 c7)) (fun s8 => I (z7L0_hd x0 x1 c7 s8)) s8 := by kernel_rfl
theorem z7L0_ok (N : Nat) : ∀ x y k, (∀ st, k .ret st = (z7R N) st) → iter (z7h 0) (exec (z7E N) N z7c0 0) N ⟨19, unF z7L0_fs x, unH z7L0_bs y⟩ k = z7L0_F N x y k := fun x _ k hk =>
 iter_link (S := (Int) × Unit) (z7h 0) _ (execL (z7LP N) (z7E N) z7c0 0) (z7R N) (fun st k hk => execL_eq _ _ N _ z7c0 0 (show LoopsOk (z7LP N) (z7E N) N (z7R N) [] from trivial) st k hk) (fun s => z7L0_hd x.1 x.2.1 x.2.2.1 s.1) k hk
  (fun self s => z7L0T N x.1 x.2.2.1 (k (.exit 0) (z7L0_tl0 x.1 x.2.1 x.2.2.1)) (fun s8 => self (s8, ())) s.1) (fun n s => z7L0 N x.1 x.2.2.1 (k (.exit 0) (z7L0_tl0 x.1 x.2.1 x.2.2.1)) n s.1) (fun _ => rfl) (fun _ _ => rfl)
  (fun I s => z7L0_step N x.1 x.2.1 x.2.2.1 (fun j => k (.exit j)) I s.1) N (x.2.2.2.1, ())
theorem z7lp0 (N : Nat) : ∀ st k, (∀ st, k .ret st = (z7R N) st) → z7LP N 0 z7c0 st k = iter (Env.hint (z7E N) 0) (exec (z7E N) N z7c0 0) N st k := fun st k hk => LPc_eq 19 z7L0_fs z7L0_bs _ _ (z7R N) (z7L0_ok N) _ st k hk (rfl)
theorem z7core (N : Nat) (x : SV [.v τ24, .v (.clo 76 .un)]) (y : BV []) : runL (z7E N) Tryz.f103 (z7g N) z7pk (z7LP N) x y = slices_IndexFunc_string_string N x.1 x.2.1 := by kernel_rfl
theorem z7sound (N : Nat) : Snd 103 (z7g N) :=
 sndL (z7fn_ok N) Tryz.func103 rfl Tryz.call103 (z7g N) z7pk (fun _ _ => rfl) N (z7LP N) (show LoopsOk (z7LP N) (z7E N) N (z7R N) [(0, z7c0)] from ⟨z7lp0 N, trivial⟩) (z7core N)
def slices_ContainsFunc_string_string (N : Nat) (x0 : List Str) (x1 : Unit) : Option Bool :=
 bnd (slices_IndexFunc_string_string N x0 x1) fun t7 =>
 some (decide (t7 ≥ (0 : Int)))
abbrev z3sg (f : SV [.v τ24, .v (.clo 76 .un)] → BV [] → Option (Bool)) : AF := { ps := [.v τ24, .v (.clo 76 .un)], bs := [], rs := [.v .bool], cs := [], R := Bool, out := fun z => ((z, ()), ()), f := f }
noncomputable abbrev z3g (N : Nat) : AF := z3sg fun x _ => slices_ContainsFunc_string_string N x.1 x.2.1
abbrev z3pk : SV [.v .bool] → BV [] → Bool := fun x _ => x.1
def z3fn (N : Nat) : FuncId → Option Tmp → Option AF := fun f _ =>
 match f with
  | 103 => some (z7g N)
  | _ => none
theorem z3fn_ok (N : Nat) : FnOk (z3fn N) := by
 intro f q F h
 unfold z3fn at h
 split at h
 · cases h; exact z7sound N
 · cases h
def z3h : Nat → Hint := fun i =>
 match i with
 | _ => hint0
abbrev z3E (N : Nat) : Env := mkE z3h (z3fn N) FF FF
noncomputable def z3LP (N : Nat) : Nat → Code → St → (Ex → St → Option Bool) → Option Bool := fun i c =>
 match i with
 | i => fun st k => iter (z3h i) (exec (z3E N) N c i) N st k
theorem z3core (N : Nat) (x : SV [.v τ24, .v (.clo 76 .un)]) (y : BV []) : runL (z3E N) Tryz.f46 (z3g N) z3pk (z3LP N) x y = slices_ContainsFunc_string_string N x.1 x.2.1 := by kernel_rfl
theorem z3sound (N : Nat) : Snd 46 (z3g N) :=
 sndL (z3fn_ok N) Tryz.func46 rfl Tryz.call46 (z3g N) z3pk (fun _ _ => rfl) N (z3LP N) (show LoopsOk (z3LP N) (z3E N) N (resD (z3E N) Tryz.f46 (z3g N) z3pk) [] from trivial) (z3core N)
end
end Go.Proofs.YtbekhaioddmliaaGreatDoor

