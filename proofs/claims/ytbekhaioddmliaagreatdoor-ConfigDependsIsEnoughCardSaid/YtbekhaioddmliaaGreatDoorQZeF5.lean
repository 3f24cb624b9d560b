/- What functions of the program compute, as plain functions (printed). -/
import Derived.Test.YtbekhaioddmliaaGreatDoorQZeF3
namespace Go.Proofs.YtbekhaioddmliaaGreatDoor
open Go Go.RowKit
set_option maxRecDepth 100000
set_option linter.unusedVariables false
noncomputable section
def z18L0T (_N : Nat) (x0 : List Str) (x1 : List Str) (c12 : Int) (k0 : Option Bool) (self : Int → Option Bool) (s13 : Int) : Option Bool :=
 br (decide (s13 < c12))
  (bnd (geti x0 s13) fun t18 =>
  bnd (geti x1 s13) fun t22 =>
  br (!(t18 == t22))
   (some false)
   (self (IntKind.i64.wrap (s13 + (1 : Int)))))
  (k0)
def z18L0 (N : Nat) (x0 : List Str) (x1 : List Str) (c12 : Int) (k0 : Option Bool) : Nat → Int → Option Bool
 | 0, _ => none
 | n + 1, s13 => z18L0T N x0 x1 c12 k0 (z18L0 N x0 x1 c12 k0 n) s13
def slices_Equal_string_string (N : Nat) (x0 : List Str) (x1 : List Str) : Option Bool :=
 br ((x0.length : Int) != (x1.length : Int))
  (some false)
  (z18L0 N x0 x1 (x0.length : Int) (some true) N (0 : Int))
abbrev z18sg (f : SV [.v τ24, .v τ24] → BV [] → Option (Bool)) : AF := { ps := [.v τ24, .v τ24], bs := [], rs := [.v .bool], cs := [], R := Bool, out := fun z => ((z, ()), ()), f := f }
noncomputable abbrev z18g (N : Nat) : AF := z18sg fun x _ => slices_Equal_string_string N x.1 x.2.1
abbrev z18pk : SV [.v .bool] → BV [] → Bool := fun x _ => x.1
def z18fn (_N : Nat) : FuncId → Option Tmp → Option AF := fun f _ =>
 match f with
  | _ => none
theorem z18fn_ok (N : Nat) : FnOk (z18fn N) := by
 intro f q F h
 unfold z18fn at h
 split at h
 · cases h
def z18h : Nat → Hint := fun i =>
 match i with
 | 0 => ⟨[], [0, 1, 12, 13], [], [], [], []⟩
 | _ => hint0
abbrev z18E (N : Nat) : Env := mkE z18h (z18fn N) FF FF
noncomputable abbrev z18c0 : Code := cAt (bodyOf Tryz.f20) [true, true, false, true, false, false]
noncomputable abbrev z18R (N : Nat) := resD (z18E N) Tryz.f20 (z18g N) z18pk
abbrev z18L0_fs : List (Nat × Sl) := [(0, .v τ24), (1, .v τ24), (12, .v τ5), (13, .v τ5)]
abbrev z18L0_bs : List (Nat × Sb) := []
def z18L0_hd (x0 : List Str) (x1 : List Str) (c12 : Int) (s13 : Int) : St := ⟨26, [(0, .v τ24 x0), (1, .v τ24 x1), (12, .v τ5 c12), (13, .v τ5 s13)], []⟩
def z18L0_tl0 (_x0 : List Str) (_x1 : List Str) (_c12 : Int) : St := ⟨26, [], []⟩
def z18L0_G (N : Nat) (x0 : List Str) (x1 : List Str) (c12 : Int) (s13 : Int) (k : Ex → St → Option Bool) : Option Bool :=
 z18L0 N x0 x1 c12 (k (.exit 0) (z18L0_tl0 x0 x1 c12)) N s13
abbrev z18L0_F (N : Nat) : FV z18L0_fs → HV z18L0_bs → (Ex → St → Option Bool) → Option Bool := fun x _ k => z18L0_G N x.1 x.2.1 x.2.2.1 x.2.2.2.1 k
noncomputable def z18LP (N : Nat) : Nat → Code → St → (Ex → St → Option Bool) → Option Bool := fun i c =>
 match i with
 | 0 => (LPc 26 z18L0_fs z18L0_bs (z18L0_F N) (fun st k => iter (z18h 0) (exec (z18E N) N c 0) N st k))
 | i => fun st k => iter (z18h i) (exec (z18E N) N c i) N st k
theorem z18L0_step (N : Nat) (x0 : List Str) (x1 : List Str) (c12 : Int) (KX : Nat → St → Option Bool) (I : St → Option Bool) (s13 : Int) :
  execL (z18LP N) (z18E N) z18c0 0 (z18L0_hd x0 x1 c12 s13) (roundK (z18h 0) I KX (z18R N)) = z18L0T N x0 x1 c12 (KX 0 (z18L0_tl0 x0 x1 c12)) (fun s13 => I (z18L0_hd x0 x1 c12 s13)) s13 := by kernel_rfl
theorem z18L0_ok (N : Nat) : ∀ x y k, (∀ st, k .ret st = (z18R N) st) → iter (z18h 0) (exec (z18E N) N z18c0 0) N ⟨26, unF z18L0_fs x, unH z18L0_bs y⟩ k = z18L0_F N x y k := fun x _ k hk =>
 iter_link (S := (Int) × Unit) (z18h 0) _ (execL (z18LP N) (z18E N) z18c0 0) (z18R N) (fun st k hk => execL_eq _ _ N _ z18c0 0 (show LoopsOk (z18LP N) (z18E N) N (z18R N) [] from trivial) st k hk) (fun s => z18L0_hd x.1 x.2.1 x.2.2.1 s.1) k hk
  (fun self s => z18L0T N x.1 x.2.1 x.2.2.1 (k (.exit 0) (z18L0_tl0 x.1 x.2.1 x.2.2.1)) (fun s13 => self (s13, ())) s.1) (fun n s => z18L0 N x.1 x.2.1 x.2.2.1 (k (.exit 0) (z18L0_tl0 x.1 x.2.1 x.2.2.1)) n s.1) (fun _ => rfl) (fun _ _ => rfl)
  (fun I s => z18L0_step N x.1 x.2.1 x.2.2.1 (fun j => k (.exit j)) I s.1) N (x.2.2.2.1, ())
theorem z18lp0 (N : Nat) : ∀ st k, (∀ st, k .ret st = (z18R N) st) → z18LP N 0 z18c0 st k = iter (Env.hint (z18E N) 0) (exec (z18E N) N z18c0 0) N st k := fun st k hk => LPc_eq 26 z18L0_fs z18L0_bs _ _ (z18R N) (z18L0_ok N) _ st k hk (rfl)
theorem z18core (N : Nat) (x : SV [.v τ24, .v τ24]) (y : BV []) : runL (z18E N) Tryz.f20 (z18g N) z18pk (z18LP N) x y = slices_Equal_string_string N x.1 x.2.1 := by kernel_rfl
theorem z18sound (N : Nat) : Snd 20 (z18g N) :=
 sndL (z18fn_ok N) Tryz.func20 rfl Tryz.call20 (z18g N) z18pk (fun _ _ => rfl) N (z18LP N) (show LoopsOk (z18LP N) (z18E N) N (z18R N) [(0, z18c0)] from ⟨z18lp0 N, trivial⟩) (z18core N)
def slices_Clone_string_string (_N : Nat) (x0 : List Str) : Option τ25 :=
 br ((x0).isEmpty)
  (both
   (some ([] : List Str))
   (br (decide ((([] : List Str).length + x0.length) * (24 * Ty.sz .str) ≤ 140737488355328))
    (some (([] : List Str) ++ x0))
    none))
  (br (decide ((([] : List Str).length + x0.length) * (24 * Ty.sz .str) ≤ 140737488355328))
   (some (([] : List Str) ++ x0))
   none)
abbrev z16sg (f : SV [.v τ24] → BV [] → Option τ25) : AF := { ps := [.v τ24], bs := [], rs := [.row 0], cs := [.row 9 .str true], R := List Str, out := fun z => (((), ()), (z, ())), f := f }
noncomputable abbrev z16g (N : Nat) : AF := z16sg fun x _ => slices_Clone_string_string N x.1
abbrev z16pk : SV [.row 0] → BV [.row 9 .str true] → τ25 := fun _ y => y.1
def z16fn (_N : Nat) : FuncId → Option Tmp → Option AF := fun f _ =>
 match f with
  | _ => none
theorem z16fn_ok (N : Nat) : FnOk (z16fn N) := by
 intro f q F h
 unfold z16fn at h
 split at h
 · cases h
def z16h : Nat → Hint := fun i =>
 match i with
 | _ => hint0
abbrev z16E (N : Nat) : Env := mkE z16h (z16fn N) (fun i => match i with | 2 => true | 5 => true | _ => false) (fun _ => false)
noncomputable def z16LP (N : Nat) : Nat → Code → St → (Ex → St → Option τ25) → Option τ25 := fun i c =>
 match i with
 | i => fun st k => iter (z16h i) (exec (z16E N) N c i) N st k
theorem z16core (N : Nat) (x : SV [.v τ24]) (y : BV []) : runL (z16E N) Tryz.f55 (z16g N) z16pk (z16LP N) x y = slices_Clone_string_string N x.1 := by kernel_rfl
theorem z16sound (N : Nat) : Snd 55 (z16g N) :=
 runD_sound (mkE_ok z16h (z16fn N) _ _ (z16fn_ok N)) Tryz.func55 rfl Tryz.call55 (z16g N) z16pk (fun _ _ => rfl) N (fun x y _ h => ((runL_eq (z16E N) N Tryz.f55 (z16g N) z16pk (z16LP N) (show LoopsOk (z16LP N) (z16E N) N (resD (z16E N) Tryz.f55 (z16g N) z16pk) [] from trivial) x y).trans (z16core N x y)).trans h)
def slices_Clone_api_Pair (_N : Nat) (x0 : List τ1) : Option (List τ1) :=
 br ((x0).isEmpty)
  (both
   (some ([] : List τ1))
   (br (decide ((([] : List τ1).length + x0.length) * (24 * Ty.sz τ23) ≤ 140737488355328))
    (some (([] : List τ1) ++ x0))
    none))
  (br (decide ((([] : List τ1).length + x0.length) * (24 * Ty.sz τ23) ≤ 140737488355328))
   (some (([] : List τ1) ++ x0))
   none)
abbrev z32sg (f : SV [.v τ0] → BV [] → Option (List τ1)) : AF := { ps := [.v τ0], bs := [], rs := [.row 0], cs := [.row 53 τ23 true], R := List τ1, out := fun z => (((), ()), (z, ())), f := f }
noncomputable abbrev z32g (N : Nat) : AF := z32sg fun x _ => slices_Clone_api_Pair N x.1
abbrev z32pk : SV [.row 0] → BV [.row 53 τ23 true] → (List τ1) := fun _ y => y.1
def z32fn (_N : Nat) : FuncId → Option Tmp → Option AF := fun f _ =>
 match f with
  | _ => none
theorem z32fn_ok (N : Nat) : FnOk (z32fn N) := by
 intro f q F h
 unfold z32fn at h
 split at h
 · cases h
def z32h : Nat → Hint := fun i =>
 match i with
 | _ => hint0
abbrev z32E (N : Nat) : Env := mkE z32h (z32fn N) (fun i => match i with | 2 => true | 5 => true | _ => false) (fun _ => false)
noncomputable def z32LP (N : Nat) : Nat → Code → St → (Ex → St → Option (List τ1)) → Option (List τ1) := fun i c =>
 match i with
 | i => fun st k => iter (z32h i) (exec (z32E N) N c i) N st k
theorem z32core (N : Nat) (x : SV [.v τ0]) (y : BV []) : runL (z32E N) Tryz.f54 (z32g N) z32pk (z32LP N) x y = slices_Clone_api_Pair N x.1 := by kernel_rfl
theorem z32sound (N : Nat) : Snd 54 (z32g N) :=
 runD_sound (mkE_ok z32h (z32fn N) _ _ (z32fn_ok N)) Tryz.func54 rfl Tryz.call54 (z32g N) z32pk (fun _ _ => rfl) N (fun x y _ h => ((runL_eq (z32E N) N Tryz.f54 (z32g N) z32pk (z32LP N) (show LoopsOk (z32LP N) (z32E N) N (resD (z32E N) Tryz.f54 (z32g N) z32pk) [] from trivial) x y).trans (z32core N x y)).trans h)
def config_with_2 (_N : Nat) (x0 : Str × Str) (x1 : Str) : Option Int :=
 bnd (strings_Compare x0.1 x1) fun t8 =>
 some t8
abbrev z76sg (f : SV [.v τ23, .v .str] → BV [] → Option (Int)) : AF := { ps := [.v τ23, .v .str], bs := [], rs := [.v τ5], cs := [], R := Int, out := fun z => ((z, ()), ()), f := f }
noncomputable abbrev z76g (N : Nat) : AF := z76sg fun x _ => config_with_2 N x.1 x.2.1
abbrev z76pk : SV [.v τ5] → BV [] → Int := fun x _ => x.1
def z76fn (_N : Nat) : FuncId → Option Tmp → Option AF := fun f _ =>
 match f with
  | 98 => some (z61sg fun x _ => strings_Compare x.1 x.2.1)
  | _ => none
theorem z76fn_ok (N : Nat) : FnOk (z76fn N) := by
 intro f q F h
 unfold z76fn at h
 split at h
 · cases h; exact z61sound
 · cases h
def z76h : Nat → Hint := fun i =>
 match i with
 | _ => hint0
abbrev z76E (N : Nat) : Env := mkE z76h (z76fn N) FF FF
noncomputable def z76LP (N : Nat) : Nat → Code → St → (Ex → St → Option Int) → Option Int := fun i c =>
 match i with
 | i => fun st k => iter (z76h i) (exec (z76E N) N c i) N st k
theorem z76core (N : Nat) (x : SV [.v τ23, .v .str]) (y : BV []) : runL (z76E N) Tryz.f97 (z76g N) z76pk (z76LP N) x y = config_with_2 N x.1 x.2.1 := by kernel_rfl
theorem z76sound (N : Nat) : Snd 97 (z76g N) :=
 sndL (z76fn_ok N) Tryz.func97 rfl Tryz.call97 (z76g N) z76pk (fun _ _ => rfl) N (z76LP N) (show LoopsOk (z76LP N) (z76E N) N (resD (z76E N) Tryz.f97 (z76g N) z76pk) [] from trivial) (z76core N)
def config_with_1 (_N : Nat) (x0 : Str × Str) (x1 : Str) : Option Bool :=
 some (x0.1 == x1)
abbrev z75sg (f : SV [.v τ23, .v (.ptr .str)] → BV [] → Option (Bool)) : AF := { ps := [.v τ23, .v (.ptr .str)], bs := [], rs := [.v .bool], cs := [], R := Bool, out := fun z => ((z, ()), ()), f := f }
noncomputable abbrev z75g (N : Nat) : AF := z75sg fun x _ => config_with_1 N x.1 x.2.1
abbrev z75pk : SV [.v .bool] → BV [] → Bool := fun x _ => x.1
def z75fn (_N : Nat) : FuncId → Option Tmp → Option AF := fun f _ =>
 match f with
  | _ => none
theorem z75fn_ok (N : Nat) : FnOk (z75fn N) := by
 intro f q F h
 unfold z75fn at h
 split at h
 · cases h
def z75h : Nat → Hint := fun i =>
 match i with
 | _ => hint0
abbrev z75E (N : Nat) : Env := mkE z75h (z75fn N) FF FF
noncomputable def z75LP (N : Nat) : Nat → Code → St → (Ex → St → Option Bool) → Option Bool := fun i c =>
 match i with
 | i => fun st k => iter (z75h i) (exec (z75E N) N c i) N st k
theorem z75core (N : Nat) (x : SV [.v τ23, .v (.ptr .str)]) (y : BV []) : runL (z75E N) Tryz.f95 (z75g N) z75pk (z75LP N) x y = config_with_1 N x.1 x.2.1 := by kernel_rfl
theorem z75sound (N : Nat) : Snd 95 (z75g N) :=
 sndL (z75fn_ok N) Tryz.func95 rfl Tryz.call95 (z75g N) z75pk (fun _ _ => rfl) N (z75LP N) (show LoopsOk (z75LP N) (z75E N) N (resD (z75E N) Tryz.f95 (z75g N) z75pk) [] from trivial) (z75core N)
def z23L0T (N : Nat) (x0 : List τ1) (x1 : Str × Unit) (c7 : Int) (k0 : Option Int) (self : Int → Option Int) (s8 : Int) : Option Int :=
 br (decide (s8 < c7))
  (bnd (geti x0 s8) fun t14 =>
  bnd (config_with_1 N t14 x1.1) fun t16 =>
  br (t16)
   (some s8)
   (self (IntKind.i64.wrap (s8 + (1 : Int)))))
  (k0)
def z23L0 (N : Nat) (x0 : List τ1) (x1 : Str × Unit) (c7 : Int) (k0 : Option Int) : Nat → Int → Option Int
 | 0, _ => none
 | n + 1, s8 => z23L0T N x0 x1 c7 k0 (z23L0 N x0 x1 c7 k0 n) s8
def slices_IndexFunc_api_Pair (N : Nat) (x0 : List τ1) (x1 : Str × Unit) : Option Int :=
 z23L0 N x0 x1 (x0.length : Int) (some (-1 : Int)) N (0 : Int)
abbrev z23sg (f : SV [.v τ0, .v (.clo 95 τ26)] → BV [] → Option (Int)) : AF := { ps := [.v τ0, .v (.clo 95 τ26)], bs := [], rs := [.v τ5], cs := [], R := Int, out := fun z => ((z, ()), ()), f := f }
noncomputable abbrev z23g (N : Nat) : AF := z23sg fun x _ => slices_IndexFunc_api_Pair N x.1 x.2.1
abbrev z23pk : SV [.v τ5] → BV [] → Int := fun x _ => x.1
def z23fn (N : Nat) : FuncId → Option Tmp → Option AF := fun f _ =>
 match f with
  | 95 => some (z75g N)
  | _ => none
theorem z23fn_ok (N : Nat) : FnOk (z23fn N) := by
 intro f q F h
 unfold z23fn at h
 split at h
 · cases h; exact z75sound N
 · cases h
def z23h : Nat → Hint := fun i =>
 match i with
 | 0 => ⟨[], [0, 1, 7, 8], [], [], [], []⟩
 | _ => hint0
abbrev z23E (N : Nat) : Env := mkE z23h (z23fn N) FF FF
noncomputable abbrev z23c0 : Code := cAt (bodyOf Tryz.f143) [true, false, true, false, false]
noncomputable abbrev z23R (N : Nat) := resD (z23E N) Tryz.f143 (z23g N) z23pk
abbrev z23L0_fs : List (Nat × Sl) := [(0, .v τ0), (1, .v (.clo 95 τ26)), (7, .v τ5), (8, .v τ5)]
abbrev z23L0_bs : List (Nat × Sb) := []
def z23L0_hd (x0 : List τ1) (x1 : Str × Unit) (c7 : Int) (s8 : Int) : St := ⟨19, [(0, .v τ0 x0), (1, .v (.clo 95 τ26) x1), (7, .v τ5 c7), (8, .v τ5 s8)], []⟩
def z23L0_tl0 (_x0 : List τ1) (_x1 : Str × Unit) (_c7 : Int) : St := ⟨19, [], []⟩
def z23L0_G (N : Nat) (x0 : List τ1) (x1 : Str × Unit) (c7 : Int) (s8 : Int) (k : Ex → St → Option Int) : Option Int :=
 z23L0 N x0 x1 c7 (k (.exit 0) (z23L0_tl0 x0 x1 c7)) N s8
abbrev z23L0_F (N : Nat) : FV z23L0_fs → HV z23L0_bs → (Ex → St → Option Int) → Option Int := fun x _ k => z23L0_G N x.1 x.2.1 x.2.2.1 x.2.2.2.1 k
noncomputable def z23LP (N : Nat) : Nat → Code → St → (Ex → St → Option Int) → Option Int := fun i c =>
 match i with
 | 0 => (LPc 19 z23L0_fs z23L0_bs (z23L0_F N) (fun st k => iter (z23h 0) (exec (z23E N) N c 0) N st k))
 | i => fun st k => iter (z23h i) (exec (z23E N) N c i) N st k
theorem z23L0_step (N : Nat) (x0 : List τ1) (x1 : Str × Unit) (c7 : Int) (KX : Nat → St → Option Int) (I : St → Option Int) (s8 : Int) :
  execL (z23LP N) (z23E N) z23c0 0 (z23L0_hd x0 x1 c7 s8) (roundK (z23h 0) I KX (z23R N)) = z23L0T N x0 x1 c7 (KX 0 (z23L0_tl0 x0 x1 c7)) (fun s8 => I (z23L0_hd x0 x1 c7 s8)) s8 := by kernel_rfl
theorem z23L0_ok (N : Nat) : ∀ x y k, (∀ st, k .ret st = (z23R N) st) → iter (z23h 0) (exec (z23E N) N z23c0 0) N ⟨19, unF z23L0_fs x, unH z23L0_bs y⟩ k = z23L0_F N x y k := fun x _ k hk =>
 iter_link (S := (Int) × Unit) (z23h 0) _ (execL (z23LP N) (z23E N) z23c0 0) (z23R N) (fun st k hk => execL_eq _ _ N _ z23c0 0 (show LoopsOk (z23LP N) (z23E N) N (z23R N) [] from trivial) st k hk) (fun s => z23L0_hd x.1 x.2.1 x.2.2.1 s.1) k hk
  (fun self s => z23L0T N x.1 x.2.1 x.2.2.1 (k (.exit 0) (z23L0_tl0 x.1 x.2.1 x.2.2.1)) (fun s8 => self (s8, ())) s.1) (fun n s => z23L0 N x.1 x.2.1 x.2.2.1 (k (.exit 0) (z23L0_tl0 x.1 x.2.1 x.2.2.1)) n s.1) (fun _ => rfl) (fun _ _ => rfl)
  (fun I s => z23L0_step N x.1 x.2.1 x.2.2.1 (fun j => k (.exit j)) I s.1) N (x.2.2.2.1, ())
theorem z23lp0 (N : Nat) : ∀ st k, (∀ st, k .ret st = (z23R N) st) → z23LP N 0 z23c0 st k = iter (Env.hint (z23E N) 0) (exec (z23E N) N z23c0 0) N st k := fun st k hk => LPc_eq 19 z23L0_fs z23L0_bs _ _ (z23R N) (z23L0_ok N) _ st k hk (rfl)
theorem z23core (N : Nat) (x : SV [.v τ0, .v (.clo 95 τ26)]) (y : BV []) : runL (z23E N) Tryz.f143 (z23g N) z23pk (z23LP N) x y = slices_IndexFunc_api_Pair N x.1 x.2.1 := by kernel_rfl
theorem z23sound (N : Nat) : Snd 143 (z23g N) :=
 sndL (z23fn_ok N) Tryz.func143 rfl Tryz.call143 (z23g N) z23pk (fun _ _ => rfl) N (z23LP N) (show LoopsOk (z23LP N) (z23E N) N (z23R N) [(0, z23c0)] from ⟨z23lp0 N, trivial⟩) (z23core N)
def z17L0T (N : Nat) (x1 : Str × Unit) (k0 : Int → (List τ1) → Option (List τ1)) (self : Int → Int → (List τ1) → Option (List τ1)) (s5 : Int) (s6 : Int) (w0_1 : List τ1) : Option (List τ1) :=
 br (decide (s6 < (w0_1.length : Int)))
  (br (decide (0 ≤ s6 ∧ s6 < (w0_1.length : Int)))
   (bnd (geti w0_1 s6) fun t25 =>
   bnd (config_with_1 N t25 x1.1) fun t28 =>
   br (!t28)
    (br (decide (0 ≤ s5 ∧ s5 < (w0_1.length : Int)))
     (bnd (geti w0_1 s5) fun _ =>
     self (IntKind.i64.wrap (s5 + (1 : Int))) (IntKind.i64.wrap (s6 + (1 : Int))) (seti w0_1 s5 t25))
     none)
    (self s5 (IntKind.i64.wrap (s6 + (1 : Int))) w0_1))
   none)
  (k0 s5 w0_1)
def z17L0 (N : Nat) (x1 : Str × Unit) (k0 : Int → (List τ1) → Option (List τ1)) : Nat → Int → Int → (List τ1) → Option (List τ1)
 | 0, _, _, _ => none
 | n + 1, s5, s6, w0_1 => z17L0T N x1 k0 (z17L0 N x1 k0 n) s5 s6 w0_1
def slices_DeleteFunc_api_Pair (N : Nat) (x1 : Str × Unit) (w0 : List τ1) : Option (List τ1) :=
 bnd (slices_IndexFunc_api_Pair N w0 x1) fun t10 =>
 br (t10 == (-1 : Int))
  (some w0)
  (z17L0 N x1 (fun o0_5 o0_w0 =>
    br (decide (0 ≤ o0_5 ∧ o0_5 ≤ (o0_w0.length : Int) ∧ 0 < o0_w0.length))
     (br (decide (0 ≤ o0_5 ∧ o0_5 ≤ ((clr o0_w0 o0_5 (zero τ23)).length : Int)))
      (some (cut (clr o0_w0 o0_5 (zero τ23)) o0_5))
      none)
     none) N t10 (IntKind.i64.wrap (t10 + (1 : Int))) w0)
abbrev z17sg (f : SV [.row 0, .v (.clo 95 τ26)] → BV [.row 53 τ23 true] → Option (List τ1)) : AF := { ps := [.row 0, .v (.clo 95 τ26)], bs := [.row 53 τ23 true], rs := [.row 0], cs := [.row 53 τ23 true], R := List τ1, out := fun z => (((), ()), (z, ())), f := f }
noncomputable abbrev z17g (N : Nat) : AF := z17sg fun x y => slices_DeleteFunc_api_Pair N x.2.1 y.1
abbrev z17pk : SV [.row 0] → BV [.row 53 τ23 true] → (List τ1) := fun _ y => y.1
def z17fn (N : Nat) : FuncId → Option Tmp → Option AF := fun f _ =>
 match f with
  | 95 => some (z75g N)
  | 143 => some (z23g N)
  | _ => none
theorem z17fn_ok (N : Nat) : FnOk (z17fn N) := by
 intro f q F h
 unfold z17fn at h
 split at h
 · cases h; exact z75sound N
 · cases h; exact z23sound N
 · cases h
def z17h : Nat → Hint := fun i =>
 match i with
 | 0 => ⟨[], [0, 1, 5, 6], [0], [0, 5], [0], []⟩
 | _ => hint0
abbrev z17E (N : Nat) : Env := mkE z17h (z17fn N) (fun i => match i with | 4 => true | _ => false) (fun _ => false)
noncomputable abbrev z17c0 : Code := cAt (bodyOf Tryz.f94) [true, true, true, false, true, false, false]
noncomputable abbrev z17R (N : Nat) := resD (z17E N) Tryz.f94 (z17g N) z17pk
abbrev z17L0_fs : List (Nat × Sl) := [(0, .row 0), (1, .v (.clo 95 τ26)), (5, .v τ5), (6, .v τ5)]
abbrev z17L0_bs : List (Nat × Sb) := [(0, .row 53 τ23 true)]
def z17L0_hd (x1 : Str × Unit) (s5 : Int) (s6 : Int) (w0_1 : List τ1) : St := ⟨42, [(0, .row 0), (1, .v (.clo 95 τ26) x1), (5, .v τ5 s5), (6, .v τ5 s6)], [(0, .row 53 τ23 true w0_1)]⟩
def z17L0_tl0 (_x1 : Str × Unit) (o0_5 : Int) (o0_w0 : List τ1) : St := ⟨42, [(0, .row 0), (5, .v τ5 o0_5)], [(0, .row 53 τ23 true o0_w0)]⟩
def z17L0_G (N : Nat) (x1 : Str × Unit) (s5 : Int) (s6 : Int) (w0_1 : List τ1) (k : Ex → St → Option (List τ1)) : Option (List τ1) :=
 z17L0 N x1 (fun o0_5 o0_w0 => k (.exit 0) (z17L0_tl0 x1 o0_5 o0_w0)) N s5 s6 w0_1
abbrev z17L0_F (N : Nat) : FV z17L0_fs → HV z17L0_bs → (Ex → St → Option (List τ1)) → Option (List τ1) := fun x y k => z17L0_G N x.2.1 x.2.2.1 x.2.2.2.1 y.1 k
noncomputable def z17LP (N : Nat) : Nat → Code → St → (Ex → St → Option (List τ1)) → Option (List τ1) := fun i c =>
 match i with
 | 0 => (LPc 42 z17L0_fs z17L0_bs (z17L0_F N) (fun st k => iter (z17h 0) (exec (z17E N) N c 0) N st k))
 | i => fun st k => iter (z17h i) (exec (z17E N) N c i) N st k
theorem z17L0_step (N : Nat) (x1 : Str × Unit) (KX : Nat → St → Option (List τ1)) (I : St → Option (List τ1)) (s5 : Int) (s6 : Int) (w0_1 : List τ1) :
  execL (z17LP N) (z17E N) z17c0 0 (z17L0_hd x1 s5 s6 w0_1) (roundK (z17h 0) I KX (z17R N)) = z17L0T N x1 (fun o0_5 o0_w0 => KX 0 (z17L0_tl0 x1 o0_5 o0_w0)) (fun s5 s6 w0_1 => I (z17L0_hd x1 s5 s6 w0_1)) s5 s6 w0_1 := by kernel_rfl
theorem z17L0_ok (N : Nat) : ∀ x y k, (∀ st, k .ret st = (z17R N) st) → iter (z17h 0) (exec (z17E N) N z17c0 0) N ⟨42, unF z17L0_fs x, unH z17L0_bs y⟩ k = z17L0_F N x y k := fun x y k hk =>
 iter_link (S := (Int) × (Int) × (List τ1) × Unit) (z17h 0) _ (execL (z17LP N) (z17E N) z17c0 0) (z17R N) (fun st k hk => execL_eq _ _ N _ z17c0 0 (show LoopsOk (z17LP N) (z17E N) N (z17R N) [] from trivial) st k hk) (fun s => z17L0_hd x.2.1 s.1 s.2.1 s.2.2.1) k hk
  (fun self s => z17L0T N x.2.1 (fun o0_5 o0_w0 => k (.exit 0) (z17L0_tl0 x.2.1 o0_5 o0_w0)) (fun s5 s6 w0_1 => self (s5, s6, w0_1, ())) s.1 s.2.1 s.2.2.1) (fun n s => z17L0 N x.2.1 (fun o0_5 o0_w0 => k (.exit 0) (z17L0_tl0 x.2.1 o0_5 o0_w0)) n s.1 s.2.1 s.2.2.1) (fun _ => rfl) (fun _ _ => rfl)
  (fun I s => z17L0_step N x.2.1 (fun j => k (.exit j)) I s.1 s.2.1 s.2.2.1) N (x.2.2.1, x.2.2.2.1, y.1, ())
theorem z17lp0 (N : Nat) : ∀ st k, (∀ st, k .ret st = (z17R N) st) → z17LP N 0 z17c0 st k = iter (Env.hint (z17E N) 0) (exec (z17E N) N z17c0 0) N st k := fun st k hk => LPc_eq 42 z17L0_fs z17L0_bs _ _ (z17R N) (z17L0_ok N) _ st k hk (rfl)
theorem z17core (N : Nat) (x : SV [.row 0, .v (.clo 95 τ26)]) (y : BV [.row 53 τ23 true]) : runL (z17E N) Tryz.f94 (z17g N) z17pk (z17LP N) x y = slices_DeleteFunc_api_Pair N x.2.1 y.1 := by kernel_rfl
theorem z17sound (N : Nat) : Snd 94 (z17g N) :=
 runD_sound (mkE_ok z17h (z17fn N) _ _ (z17fn_ok N)) Tryz.func94 rfl Tryz.call94 (z17g N) z17pk (fun _ _ => rfl) N (fun x y _ h => ((runL_eq (z17E N) N Tryz.f94 (z17g N) z17pk (z17LP N) (show LoopsOk (z17LP N) (z17E N) N (z17R N) [(0, z17c0)] from ⟨z17lp0 N, trivial⟩) x y).trans (z17core N x y)).trans h)
end
end Go.Proofs.YtbekhaioddmliaaGreatDoor


/- What functions of the program compute, as plain functions (printed). -/
namespace Go.Proofs.YtbekhaioddmliaaGreatDoor
open Go Go.RowKit
set_option maxRecDepth 100000
set_option linter.unusedVariables false
noncomputable section
def z1L0T (N : Nat) (x0 : List τ1) (x1 : Str) (k0 : Int → Option (Int × Bool)) (self : Int → Int → Option (Int × Bool)) (s9 : Int) (s10 : Int) : Option (Int × Bool) :=
 br (decide (s9 < s10))
  (br (decide (0 ≤ (1 : Int)))
   (bnd (geti x0 (IntKind.i64.wrap (shrI .u64 (IntKind.u64.wrap (IntKind.i64.wrap (s9 + s10))) (1 : Int)))) fun t27 =>
   bnd (config_with_2 N t27 x1) fun t30 =>
   br (decide (t30 < (0 : Int)))
    (self (IntKind.i64.wrap ((IntKind.i64.wrap (shrI .u64 (IntKind.u64.wrap (IntKind.i64.wrap (s9 + s10))) (1 : Int))) + (1 : Int))) s10)
    (self s9 (IntKind.i64.wrap (shrI .u64 (IntKind.u64.wrap (IntKind.i64.wrap (s9 + s10))) (1 : Int)))))
   none)
  (k0 s9)
def z1L0 (N : Nat) (x0 : List τ1) (x1 : Str) (k0 : Int → Option (Int × Bool)) : Nat → Int → Int → Option (Int × Bool)
 | 0, _, _ => none
 | n + 1, s9, s10 => z1L0T N x0 x1 k0 (z1L0 N x0 x1 k0 n) s9 s10
def slices_BinarySearchFunc_api_Pair_string (N : Nat) (x0 : List τ1) (x1 : Str) (_x2 : Unit) : Option (Int × Bool) :=
 z1L0 N x0 x1 (fun o0_9 =>
   br (decide (o0_9 < (x0.length : Int)))
    (bnd (geti x0 o0_9) fun t43 =>
    bnd (config_with_2 N t43 x1) fun t46 =>
    some (o0_9, t46 == (0 : Int)))
    (some (o0_9, false))) N (0 : Int) (x0.length : Int)
abbrev z1sg (f : SV [.v τ0, .v .str, .v (.clo 97 .un)] → BV [] → Option (Int × Bool)) : AF := { ps := [.v τ0, .v .str, .v (.clo 97 .un)], bs := [], rs := [.v τ5, .v .bool], cs := [], R := Int × Bool, out := fun z => ((z.1, z.2, ()), ()), f := f }
noncomputable abbrev z1g (N : Nat) : AF := z1sg fun x _ => slices_BinarySearchFunc_api_Pair_string N x.1 x.2.1 x.2.2.1
abbrev z1pk : SV [.v τ5, .v .bool] → BV [] → (Int × Bool) := fun x _ => (x.1, x.2.1)
def z1fn (N : Nat) : FuncId → Option Tmp → Option AF := fun f _ =>
 match f with
  | 97 => some (z76g N)
  | _ => none
theorem z1fn_ok (N : Nat) : FnOk (z1fn N) := by
 intro f q F h
 unfold z1fn at h
 split at h
 · cases h; exact z76sound N
 · cases h
def z1h : Nat → Hint := fun i =>
 match i with
 | 0 => ⟨[], [0, 1, 2, 8, 9, 10], [], [0, 1, 2, 8, 9], [], []⟩
 | _ => hint0
abbrev z1E (N : Nat) : Env := mkE z1h (z1fn N) FF FF
noncomputable abbrev z1c0 : Code := cAt (bodyOf Tryz.f96) [true, true, true, false, false, false]
noncomputable abbrev z1R (N : Nat) := resD (z1E N) Tryz.f96 (z1g N) z1pk
abbrev z1L0_fs : List (Nat × Sl) := [(0, .v τ0), (1, .v .str), (2, .v (.clo 97 .un)), (8, .v τ5), (9, .v τ5), (10, .v τ5)]
abbrev z1L0_bs : List (Nat × Sb) := []
def z1L0_hd (x0 : List τ1) (x1 : Str) (x2 : Unit) (c8 : Int) (s9 : Int) (s10 : Int) : St := ⟨49, [(0, .v τ0 x0), (1, .v .str x1), (2, .v (.clo 97 .un) x2), (8, .v τ5 c8), (9, .v τ5 s9), (10, .v τ5 s10)], []⟩
def z1L0_tl0 (x0 : List τ1) (x1 : Str) (x2 : Unit) (c8 : Int) (o0_9 : Int) : St := ⟨49, [(0, .v τ0 x0), (1, .v .str x1), (2, .v (.clo 97 .un) x2), (8, .v τ5 c8), (9, .v τ5 o0_9)], []⟩
def z1L0_G (N : Nat) (x0 : List τ1) (x1 : Str) (x2 : Unit) (c8 : Int) (s9 : Int) (s10 : Int) (k : Ex → St → Option (Int × Bool)) : Option (Int × Bool) :=
 z1L0 N x0 x1 (fun o0_9 => k (.exit 0) (z1L0_tl0 x0 x1 x2 c8 o0_9)) N s9 s10
abbrev z1L0_F (N : Nat) : FV z1L0_fs → HV z1L0_bs → (Ex → St → Option (Int × Bool)) → Option (Int × Bool) := fun x _ k => z1L0_G N x.1 x.2.1 x.2.2.1 x.2.2.2.1 x.2.2.2.2.1 x.2.2.2.2.2.1 k
noncomputable def z1LP (N : Nat) : Nat → Code → St → (Ex → St → Option (Int × Bool)) → Option (Int × Bool) := fun i c =>
 match i with
 | 0 => (LPc 49 z1L0_fs z1L0_bs (z1L0_F N) (fun st k => iter (z1h 0) (exec (z1E N) N c 0) N st k))
 | i => fun st k => iter (z1h i) (exec (z1E N) N c i) N st k
theorem z1L0_step (N : Nat) (x0 : List τ1) (x1 : Str) (x2 : Unit) (c8 : Int) (KX : Nat → St → Option (Int × Bool)) (I : St → Option (Int × Bool)) (s9 : Int) (s10 : Int) :
  execL (z1LP N) (z1E N) z1c0 0 (z1L0_hd x0 x1 x2 c8 s9 s10) (roundK (z1h 0) I KX (z1R N)) = z1L0T N x0 x1 (fun o0_9 => KX 0 (z1L0_tl0 x0 x1 x2 c8 o0_9)) (fun s9 s10 => I (z1L0_hd x0 x1 x2 c8 s9 s10)) s9 s10 := by kernel_rfl
theorem z1L0_ok (N : Nat) : ∀ x y k, (∀ st, k .ret st = (z1R N) st) → iter (z1h 0) (exec (z1E N) N z1c0 0) N ⟨49, unF z1L0_fs x, unH z1L0_bs y⟩ k = z1L0_F N x y k := fun x _ k hk =>
 iter_link (S := (Int) × (Int) × Unit) (z1h 0) _ (execL (z1LP N) (z1E N) z1c0 0) (z1R N) (fun st k hk => execL_eq _ _ N _ z1c0 0 (show LoopsOk (z1LP N) (z1E N) N (z1R N) [] from trivial) st k hk) (fun s => z1L0_hd x.1 x.2.1 x.2.2.1 x.2.2.2.1 s.1 s.2.1) k hk
  (fun self s => z1L0T N x.1 x.2.1 (fun o0_9 => k (.exit 0) (z1L0_tl0 x.1 x.2.1 x.2.2.1 x.2.2.2.1 o0_9)) (fun s9 s10 => self (s9, s10, ())) s.1 s.2.1) (fun n s => z1L0 N x.1 x.2.1 (fun o0_9 => k (.exit 0) (z1L0_tl0 x.1 x.2.1 x.2.2.1 x.2.2.2.1 o0_9)) n s.1 s.2.1) (fun _ => rfl) (fun _ _ => rfl)
  (fun I s => z1L0_step N x.1 x.2.1 x.2.2.1 x.2.2.2.1 (fun j => k (.exit j)) I s.1 s.2.1) N (x.2.2.2.2.1, x.2.2.2.2.2.1, ())
theorem z1lp0 (N : Nat) : ∀ st k, (∀ st, k .ret st = (z1R N) st) → z1LP N 0 z1c0 st k = iter (Env.hint (z1E N) 0) (exec (z1E N) N z1c0 0) N st k := fun st k hk => LPc_eq 49 z1L0_fs z1L0_bs _ _ (z1R N) (z1L0_ok N) _ st k hk (rfl)
theorem z1core (N : Nat) (x : SV [.v τ0, .v .str, .v (.clo 97 .un)]) (y : BV []) : runL (z1E N) Tryz.f96 (z1g N) z1pk (z1LP N) x y = slices_BinarySearchFunc_api_Pair_string N x.1 x.2.1 x.2.2.1 := by kernel_rfl
theorem z1sound (N : Nat) : Snd 96 (z1g N) :=
 sndL (z1fn_ok N) Tryz.func96 rfl Tryz.call96 (z1g N) z1pk (fun _ _ => rfl) N (z1LP N) (show LoopsOk (z1LP N) (z1E N) N (z1R N) [(0, z1c0)] from ⟨z1lp0 N, trivial⟩) (z1core N)
def config_with (N : Nat) (x0 : τ7) (x1 : List τ1) (x2 : Str) (x3 : Str) : Option (List τ1) :=
 bnd (slices_Clone_api_Pair N x1) fun t13 =>
 bnd (slices_DeleteFunc_api_Pair N (x2, ()) t13) fun t15 =>
 bnd (config_find N x0 x2) fun t20 =>
 bnd (geti x0 t20) fun t21 =>
 bnd (geti t21.2 (0 : Int)) fun t24 =>
 br (x3 == t24)
  (some t15)
  (bnd (slices_BinarySearchFunc_api_Pair_string N t15 x2 ()) fun t31 =>
  bnd (slices_Insert_pair t31.1 t15 [(x2, x3)]) fun t40 =>
  some t40)
abbrev z92sg (f : SV [.v τ8, .v τ0, .v .str, .v .str] → BV [] → Option (List τ1)) : AF := { ps := [.v τ8, .v τ0, .v .str, .v .str], bs := [], rs := [.row 0], cs := [.row 53 τ23 true], R := List τ1, out := fun z => (((), ()), (z, ())), f := f }
noncomputable abbrev z92g (N : Nat) : AF := z92sg fun x _ => config_with N x.1 x.2.1 x.2.2.1 x.2.2.2.1
abbrev z92pk : SV [.row 0] → BV [.row 53 τ23 true] → (List τ1) := fun _ y => y.1
def z92fn (N : Nat) : FuncId → Option Tmp → Option AF := fun f _ =>
 match f with
  | 54 => some (z32g N)
  | 73 => some (z91g N)
  | 94 => some (z17g N)
  | 96 => some (z1g N)
  | 99 => some (z46sg fun x y => slices_Insert_pair x.2.1 y.1 y.2.1)
  | 95 => some (noneAF [.v (.ptr .str)])
  | _ => none
theorem z92fn_ok (N : Nat) : FnOk (z92fn N) := by
 intro f q F h
 unfold z92fn at h
 split at h
 · cases h; exact z32sound N
 · cases h; exact z91sound N
 · cases h; exact z17sound N
 · cases h; exact z1sound N
 · cases h; exact z46sound
 · cases h; exact noneAF_sound Tryz.call95 _
 · cases h
def z92h : Nat → Hint := fun i =>
 match i with
 | _ => hint0
abbrev z92E (N : Nat) : Env := mkE z92h (z92fn N) FF FF
noncomputable def z92LP (N : Nat) : Nat → Code → St → (Ex → St → Option (List τ1)) → Option (List τ1) := fun i c =>
 match i with
 | i => fun st k => iter (z92h i) (exec (z92E N) N c i) N st k
theorem z92core (N : Nat) (x : SV [.v τ8, .v τ0, .v .str, .v .str]) (y : BV []) : runL (z92E N) Tryz.f37 (z92g N) z92pk (z92LP N) x y = config_with N x.1 x.2.1 x.2.2.1 x.2.2.2.1 := by kernel_rfl
theorem z92sound (N : Nat) : Snd 37 (z92g N) :=
 sndL (z92fn_ok N) Tryz.func37 rfl Tryz.call37 (z92g N) z92pk (fun _ _ => rfl) N (z92LP N) (show LoopsOk (z92LP N) (z92E N) N (resD (z92E N) Tryz.f37 (z92g N) z92pk) [] from trivial) (z92core N)
def config_With (N : Nat) (x0 : τ7) (x1 : List τ1) (x2 : Str) (x3 : Str) : Option (List τ1 × Int) :=
 bnd (config_CheckConfig N x0 x1) fun t14 =>
 br (t14 != (0 : Int))
  (some (([] : List τ1), t14))
  (bnd (config_find N x0 x2) fun t20 =>
  br (decide (t20 < (0 : Int)))
   (some (([] : List τ1), (5 : Int)))
   (bnd (geti x0 t20) fun t25 =>
   bnd (slices_Contains_string_string N t25.2 x3) fun t29 =>
   br (!t29)
    (some (([] : List τ1), (1 : Int)))
    (bnd (config_with N x0 x1 x2 x3) fun t35 =>
    some (t35, (0 : Int)))))
abbrev z90sg (f : SV [.v τ8, .v τ0, .v .str, .v .str] → BV [] → Option (List τ1 × Int)) : AF := { ps := [.v τ8, .v τ0, .v .str, .v .str], bs := [], rs := [.v τ0, .v τ5], cs := [], R := List τ1 × Int, out := fun z => ((z.1, z.2, ()), ()), f := f }
noncomputable abbrev z90g (N : Nat) : AF := z90sg fun x _ => config_With N x.1 x.2.1 x.2.2.1 x.2.2.2.1
abbrev z90pk : SV [.v τ0, .v τ5] → BV [] → (List τ1 × Int) := fun x _ => (x.1, x.2.1)
def z90fn (N : Nat) : FuncId → Option Tmp → Option AF := fun f _ =>
 match f with
  | 29 => some (z42g N)
  | 37 => some (z92g N)
  | 56 => some (z8g N)
  | 73 => some (z91g N)
  | _ => none
theorem z90fn_ok (N : Nat) : FnOk (z90fn N) := by
 intro f q F h
 unfold z90fn at h
 split at h
 · cases h; exact z42sound N
 · cases h; exact z92sound N
 · cases h; exact z8sound N
 · cases h; exact z91sound N
 · cases h
def z90h : Nat → Hint := fun i =>
 match i with
 | _ => hint0
abbrev z90E (N : Nat) : Env := mkE z90h (z90fn N) FF FF
noncomputable def z90LP (N : Nat) : Nat → Code → St → (Ex → St → Option (List τ1 × Int)) → Option (List τ1 × Int) := fun i c =>
 match i with
 | i => fun st k => iter (z90h i) (exec (z90E N) N c i) N st k
theorem z90core (N : Nat) (x : SV [.v τ8, .v τ0, .v .str, .v .str]) (y : BV []) : runL (z90E N) Tryz.f28 (z90g N) z90pk (z90LP N) x y = config_With N x.1 x.2.1 x.2.2.1 x.2.2.2.1 := by kernel_rfl
theorem z90sound (N : Nat) : Snd 28 (z90g N) :=
 sndL (z90fn_ok N) Tryz.func28 rfl Tryz.call28 (z90g N) z90pk (fun _ _ => rfl) N (z90LP N) (show LoopsOk (z90LP N) (z90E N) N (resD (z90E N) Tryz.f28 (z90g N) z90pk) [] from trivial) (z90core N)
end
end Go.Proofs.YtbekhaioddmliaaGreatDoor

