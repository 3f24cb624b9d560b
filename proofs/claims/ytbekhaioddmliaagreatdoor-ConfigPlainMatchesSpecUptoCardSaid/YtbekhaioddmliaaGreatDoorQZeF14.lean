/- What functions of the program compute, as plain functions (printed). -/
import Derived.Test.YtbekhaioddmliaaGreatDoorQZeF13
namespace Go.Proofs.YtbekhaioddmliaaGreatDoor
open Go Go.RowKit
set_option maxRecDepth 100000
set_option linter.unusedVariables false
noncomputable section
def z57L0T (_N : Nat) (x1 : Str) (x0 : List τ1) (c9 : Int) (k0 : Option (τ1 × Bool)) (self : Int → Option (τ1 × Bool)) (s10 : Int) : Option (τ1 × Bool) :=
 br (decide (s10 < c9))
  (bnd (geti x0 s10) fun t12 =>
  br (t12.1 == x1)
   (some (t12, true))
   (self (IntKind.i64.wrap (s10 + (1 : Int)))))
  (k0)
def z57L0 (N : Nat) (x1 : Str) (x0 : List τ1) (c9 : Int) (k0 : Option (τ1 × Bool)) : Nat → Int → Option (τ1 × Bool)
 | 0, _ => none
 | n + 1, s10 => z57L0T N x1 x0 c9 k0 (z57L0 N x1 x0 c9 k0 n) s10
def ref3_conditionOf (N : Nat) (x0 : List τ1) (x1 : Str) : Option (τ1 × Bool) :=
 z57L0 N x1 x0 (x0.length : Int) (some ((([] : Str), (([] : List τ5), ([] : List τ5))), false)) N (0 : Int)
abbrev z57sg (f : SV [.v (.sl τ8), .v .str] → BV [] → Option (τ1 × Bool)) : AF := { ps := [.v (.sl τ8), .v .str], bs := [], rs := [.v τ8, .v .bool], cs := [], R := τ1 × Bool, out := fun z => ((z.1, z.2, ()), ()), f := f }
noncomputable abbrev z57g (N : Nat) : AF := z57sg fun x _ => ref3_conditionOf N x.1 x.2.1
abbrev z57pk : SV [.v τ8, .v .bool] → BV [] → (τ1 × Bool) := fun x _ => (x.1, x.2.1)
def z57fn (_N : Nat) : FuncId → Option Tmp → Option AF := fun f _ =>
 match f with
  | _ => none
theorem z57fn_ok (N : Nat) : FnOk (z57fn N) := by
 intro f q F h
 unfold z57fn at h
 split at h
 · cases h
def z57h : Nat → Hint := fun i =>
 match i with
 | 0 => ⟨[], [1, 4, 8, 9, 10], [1004], [4], [1004], []⟩
 | _ => hint0
abbrev z57E (N : Nat) : Env := mkE z57h (z57fn N) FF FF
noncomputable abbrev z57c0 : Code := cAt (bodyOf Tryz.f71) [true, false, true, false, false]
noncomputable abbrev z57R (N : Nat) := resD (z57E N) Tryz.f71 (z57g N) z57pk
abbrev z57L0_fs : List (Nat × Sl) := [(1, .v .str), (4, .box 1004 0), (8, .v (.sl τ8)), (9, .v τ6), (10, .v τ6)]
abbrev z57L0_bs : List (Nat × Sb) := [(1004, .cells [.v .str, .nilS, .nilS])]
def z57L0_hd (x1 : Str) (x0 : List τ1) (c9 : Int) (κ4_0 : Str) (s10 : Int) : St := ⟨21, [(1, .v .str x1), (4, .box 1004 0), (8, .v (.sl τ8) x0), (9, .v τ6 c9), (10, .v τ6 s10)], [(1004, .cells [.v .str κ4_0, .nilS, .nilS])]⟩
def z57L0_tl0 (_x1 : Str) (_x0 : List τ1) (_c9 : Int) (κ4_0 : Str) : St := ⟨21, [(4, .box 1004 0)], [(1004, .cells [.v .str κ4_0, .nilS, .nilS])]⟩
def z57L0_G (N : Nat) (x1 : Str) (x0 : List τ1) (c9 : Int) (κ4_0 : Str) (s10 : Int) (k : Ex → St → Option (τ1 × Bool)) : Option (τ1 × Bool) :=
 z57L0 N x1 x0 c9 (k (.exit 0) (z57L0_tl0 x1 x0 c9 κ4_0)) N s10
abbrev z57L0_F (N : Nat) : FV z57L0_fs → HV z57L0_bs → (Ex → St → Option (τ1 × Bool)) → Option (τ1 × Bool) := fun x y k => z57L0_G N x.1 x.2.2.1 x.2.2.2.1 y.1.1 x.2.2.2.2.1 k
noncomputable def z57LP (N : Nat) : Nat → Code → St → (Ex → St → Option (τ1 × Bool)) → Option (τ1 × Bool) := fun i c =>
 match i with
 | 0 => (LPc 21 z57L0_fs z57L0_bs (z57L0_F N) (fun st k => iter (z57h 0) (exec (z57E N) N c 0) N st k))
 | i => fun st k => iter (z57h i) (exec (z57E N) N c i) N st k
theorem z57L0_step (N : Nat) (x1 : Str) (x0 : List τ1) (c9 : Int) (κ4_0 : Str) (KX : Nat → St → Option (τ1 × Bool)) (I : St → Option (τ1 × Bool)) (s10 : Int) :
  execL (z57LP N) (z57E N) z57c0 0 (z57L0_hd x1 x0 c9 κ4_0 s10) (roundK (z57h 0) I KX (z57R N)) = z57L0T N x1 x0 c9 (KX 0 (z57L0_tl0 x1 x0 c9 κ4_0)) (fun s10 => I (z57L0_hd x1 x0 c9 κ4_0 s10)) s10 := by kernel_rfl
theorem z57L0_ok (N : Nat) : ∀ x y k, (∀ st, k .ret st = (z57R N) st) → iter (z57h 0) (exec (z57E N) N z57c0 0) N ⟨21, unF z57L0_fs x, unH z57L0_bs y⟩ k = z57L0_F N x y k := fun x y k hk =>
 iter_link (S := (Int) × Unit) (z57h 0) _ (execL (z57LP N) (z57E N) z57c0 0) (z57R N) (fun st k hk => execL_eq _ _ N _ z57c0 0 (show LoopsOk (z57LP N) (z57E N) N (z57R N) [] from trivial) st k hk) (fun s => z57L0_hd x.1 x.2.2.1 x.2.2.2.1 y.1.1 s.1) k hk
  (fun self s => z57L0T N x.1 x.2.2.1 x.2.2.2.1 (k (.exit 0) (z57L0_tl0 x.1 x.2.2.1 x.2.2.2.1 y.1.1)) (fun s10 => self (s10, ())) s.1) (fun n s => z57L0 N x.1 x.2.2.1 x.2.2.2.1 (k (.exit 0) (z57L0_tl0 x.1 x.2.2.1 x.2.2.2.1 y.1.1)) n s.1) (fun _ => rfl) (fun _ _ => rfl)
  (fun I s => z57L0_step N x.1 x.2.2.1 x.2.2.2.1 y.1.1 (fun j => k (.exit j)) I s.1) N (x.2.2.2.2.1, ())
theorem z57lp0 (N : Nat) : ∀ st k, (∀ st, k .ret st = (z57R N) st) → z57LP N 0 z57c0 st k = iter (Env.hint (z57E N) 0) (exec (z57E N) N z57c0 0) N st k := fun st k hk => LPc_eq 21 z57L0_fs z57L0_bs _ _ (z57R N) (z57L0_ok N) _ st k hk (rfl)
theorem z57core (N : Nat) (x : SV [.v (.sl τ8), .v .str]) (y : BV []) : runL (z57E N) Tryz.f71 (z57g N) z57pk (z57LP N) x y = ref3_conditionOf N x.1 x.2.1 := by kernel_rfl
theorem z57sound (N : Nat) : Snd 71 (z57g N) :=
 sndL (z57fn_ok N) Tryz.func71 rfl Tryz.call71 (z57g N) z57pk (fun _ _ => rfl) N (z57LP N) (show LoopsOk (z57LP N) (z57E N) N (z57R N) [(0, z57c0)] from ⟨z57lp0 N, trivial⟩) (z57core N)
def z74L0T (N : Nat) (c10 : List τ2) (c11 : Int) (κ2_1 : List τ1) (k0 : τ26) (self : Int → Option Int) (s12 : Int) : Option Int :=
 br (decide (s12 < c11))
  (bnd (geti c10 s12) fun t14 =>
  bnd (ref3_conditionOf N κ2_1 t14.1) fun t21 =>
  br (!t21.2)
   (br (!(t14.1 == ([100, 101, 102, 97, 117, 108, 116] : Str)))
    (some (5 : Int))
    (self (IntKind.i64.wrap (s12 + (1 : Int)))))
   (self (IntKind.i64.wrap (s12 + (1 : Int)))))
  (k0)
def z74L0 (N : Nat) (c10 : List τ2) (c11 : Int) (κ2_1 : List τ1) (k0 : τ26) : Nat → Int → Option Int
 | 0, _ => none
 | n + 1, s12 => z74L0T N c10 c11 κ2_1 k0 (z74L0 N c10 c11 κ2_1 k0 n) s12
def ref3_checkWhen (N : Nat) (x0 : τ18) (x1 : GValue) : Option Int :=
 z74L0 N x1.cases (x1.cases.length : Int) x0.2.1 (some (0 : Int)) N (0 : Int)
abbrev z74sg (f : SV [.v τ4, .v τ15] → BV [] → Option (Int)) : AF := { ps := [.v τ4, .v τ15], bs := [], rs := [.v τ6], cs := [], R := Int, out := fun z => ((z, ()), ()), f := f }
noncomputable abbrev z74g (N : Nat) : AF := z74sg fun x _ => ref3_checkWhen N x.1 x.2.1
abbrev z74pk : SV [.v τ6] → BV [] → Int := fun x _ => x.1
def z74fn (N : Nat) : FuncId → Option Tmp → Option AF := fun f _ =>
 match f with
  | 71 => some (z57g N)
  | _ => none
theorem z74fn_ok (N : Nat) : FnOk (z74fn N) := by
 intro f q F h
 unfold z74fn at h
 split at h
 · cases h; exact z57sound N
 · cases h
def z74h : Nat → Hint := fun i =>
 match i with
 | 0 => ⟨[], [2, 10, 11, 12], [1002], [], [], []⟩
 | _ => hint0
abbrev z74E (N : Nat) : Env := mkE z74h (z74fn N) FF FF
noncomputable abbrev z74c0 : Code := cAt (bodyOf Tryz.f70) [true, false, true, false, false]
noncomputable abbrev z74R (N : Nat) := resD (z74E N) Tryz.f70 (z74g N) z74pk
abbrev z74L0_fs : List (Nat × Sl) := [(2, .box 1002 0), (10, .v (.sl τ3)), (11, .v τ6), (12, .v τ6)]
abbrev z74L0_bs : List (Nat × Sb) := [(1002, .cells [.v τ9, .v (.sl τ8), .v τ28, .v τ25, .v τ20])]
def z74L0_hd (c10 : List τ2) (c11 : Int) (κ2_0 : τ7) (κ2_1 : List τ1) (κ2_2 : τ11) (κ2_3 : List τ10) (κ2_4 : τ12) (s12 : Int) : St := ⟨32, [(2, .box 1002 0), (10, .v (.sl τ3) c10), (11, .v τ6 c11), (12, .v τ6 s12)], [(1002, .cells [.v τ9 κ2_0, .v (.sl τ8) κ2_1, .v τ28 κ2_2, .v τ25 κ2_3, .v τ20 κ2_4])]⟩
def z74L0_tl0 (_c10 : List τ2) (_c11 : Int) (_κ2_0 : τ7) (_κ2_1 : List τ1) (_κ2_2 : τ11) (_κ2_3 : List τ10) (_κ2_4 : τ12) : St := ⟨32, [], []⟩
def z74L0_G (N : Nat) (c10 : List τ2) (c11 : Int) (κ2_0 : τ7) (κ2_1 : List τ1) (κ2_2 : τ11) (κ2_3 : List τ10) (κ2_4 : τ12) (s12 : Int) (k : Ex → St → Option Int) : Option Int :=
 z74L0 N c10 c11 κ2_1 (k (.exit 0) (z74L0_tl0 c10 c11 κ2_0 κ2_1 κ2_2 κ2_3 κ2_4)) N s12
abbrev z74L0_F (N : Nat) : FV z74L0_fs → HV z74L0_bs → (Ex → St → Option Int) → Option Int := fun x y k => z74L0_G N x.2.1 x.2.2.1 y.1.1 y.1.2.1 y.1.2.2.1 y.1.2.2.2.1 y.1.2.2.2.2.1 x.2.2.2.1 k
noncomputable def z74LP (N : Nat) : Nat → Code → St → (Ex → St → Option Int) → Option Int := fun i c =>
 match i with
 | 0 => (LPc 32 z74L0_fs z74L0_bs (z74L0_F N) (fun st k => iter (z74h 0) (exec (z74E N) N c 0) N st k))
 | i => fun st k => iter (z74h i) (exec (z74E N) N c i) N st k
theorem z74L0_step (N : Nat) (c10 : List τ2) (c11 : Int) (κ2_0 : τ7) (κ2_1 : List τ1) (κ2_2 : τ11) (κ2_3 : List τ10) (κ2_4 : τ12) (KX : Nat → St → Option Int) (I : St → Option Int) (s12 : Int) :
  execL (z74LP N) (z74E N) z74c0 0 (z74L0_hd c10 c11 κ2_0 κ2_1 κ2_2 κ2_3 κ2_4 s12) (roundK (z74h 0) I KX (z74R N)) = z74L0T N c10 c11 κ2_1 (KX 0 (z74L0_tl0 c10 c11 κ2_0 κ2_1 κ2_2 κ2_3 κ2_4)) (fun s12 => I (z74L0_hd c10 c11 κ2_0 κ2_1 κ2_2 κ2_3 κ2_4 s12)) s12 := by kernel_rfl
theorem z74L0_ok (N : Nat) : ∀ x y k, (∀ st, k .ret st = (z74R N) st) → iter (z74h 0) (exec (z74E N) N z74c0 0) N ⟨32, unF z74L0_fs x, unH z74L0_bs y⟩ k = z74L0_F N x y k := fun x y k hk =>
 iter_link (S := (Int) × Unit) (z74h 0) _ (execL (z74LP N) (z74E N) z74c0 0) (z74R N) (fun st k hk => execL_eq _ _ N _ z74c0 0 (show LoopsOk (z74LP N) (z74E N) N (z74R N) [] from trivial) st k hk) (fun s => z74L0_hd x.2.1 x.2.2.1 y.1.1 y.1.2.1 y.1.2.2.1 y.1.2.2.2.1 y.1.2.2.2.2.1 s.1) k hk
  (fun self s => z74L0T N x.2.1 x.2.2.1 y.1.2.1 (k (.exit 0) (z74L0_tl0 x.2.1 x.2.2.1 y.1.1 y.1.2.1 y.1.2.2.1 y.1.2.2.2.1 y.1.2.2.2.2.1)) (fun s12 => self (s12, ())) s.1) (fun n s => z74L0 N x.2.1 x.2.2.1 y.1.2.1 (k (.exit 0) (z74L0_tl0 x.2.1 x.2.2.1 y.1.1 y.1.2.1 y.1.2.2.1 y.1.2.2.2.1 y.1.2.2.2.2.1)) n s.1) (fun _ => rfl) (fun _ _ => rfl)
  (fun I s => z74L0_step N x.2.1 x.2.2.1 y.1.1 y.1.2.1 y.1.2.2.1 y.1.2.2.2.1 y.1.2.2.2.2.1 (fun j => k (.exit j)) I s.1) N (x.2.2.2.1, ())
theorem z74lp0 (N : Nat) : ∀ st k, (∀ st, k .ret st = (z74R N) st) → z74LP N 0 z74c0 st k = iter (Env.hint (z74E N) 0) (exec (z74E N) N z74c0 0) N st k := fun st k hk => LPc_eq 32 z74L0_fs z74L0_bs _ _ (z74R N) (z74L0_ok N) _ st k hk (rfl)
theorem z74core (N : Nat) (x : SV [.v τ4, .v τ15]) (y : BV []) : runL (z74E N) Tryz.f70 (z74g N) z74pk (z74LP N) x y = ref3_checkWhen N x.1 x.2.1 := by kernel_rfl
theorem z74sound (N : Nat) : Snd 70 (z74g N) :=
 sndL (z74fn_ok N) Tryz.func70 rfl Tryz.call70 (z74g N) z74pk (fun _ _ => rfl) N (z74LP N) (show LoopsOk (z74LP N) (z74E N) N (z74R N) [(0, z74c0)] from ⟨z74lp0 N, trivial⟩) (z74core N)
def z118L0T (N : Nat) (x0 : List τ5) (x1 : List τ5) (c8 : Int) (k0 : τ30) (self : Int → Option Bool) (s9 : Int) : Option Bool :=
 br (decide (s9 < c8))
  (bnd (geti x1 s9) fun t11 =>
  bnd (slices_Contains_api_Pair N x0 t11) fun t15 =>
  br (!t15)
   (some false)
   (self (IntKind.i64.wrap (s9 + (1 : Int)))))
  (k0)
def z118L0 (N : Nat) (x0 : List τ5) (x1 : List τ5) (c8 : Int) (k0 : τ30) : Nat → Int → Option Bool
 | 0, _ => none
 | n + 1, s9 => z118L0T N x0 x1 c8 k0 (z118L0 N x0 x1 c8 k0 n) s9
def ref3_has (N : Nat) (x0 : List τ5) (x1 : List τ5) : Option Bool :=
 z118L0 N x0 x1 (x1.length : Int) (some true) N (0 : Int)
abbrev z118sg (f : SV [.v τ0, .v τ0] → BV [] → Option (Bool)) : AF := { ps := [.v τ0, .v τ0], bs := [], rs := [.v .bool], cs := [], R := Bool, out := fun z => ((z, ()), ()), f := f }
noncomputable abbrev z118g (N : Nat) : AF := z118sg fun x _ => ref3_has N x.1 x.2.1
abbrev z118pk : SV [.v .bool] → BV [] → Bool := fun x _ => x.1
def z118fn (N : Nat) : FuncId → Option Tmp → Option AF := fun f _ =>
 match f with
  | 185 => some (z23g N)
  | _ => none
theorem z118fn_ok (N : Nat) : FnOk (z118fn N) := by
 intro f q F h
 unfold z118fn at h
 split at h
 · cases h; exact z23sound N
 · cases h
def z118h : Nat → Hint := fun i =>
 match i with
 | 0 => ⟨[], [0, 7, 8, 9], [], [], [], []⟩
 | _ => hint0
abbrev z118E (N : Nat) : Env := mkE z118h (z118fn N) FF FF
noncomputable abbrev z118c0 : Code := cAt (bodyOf Tryz.f139) [true, false, true, false, false]
noncomputable abbrev z118R (N : Nat) := resD (z118E N) Tryz.f139 (z118g N) z118pk
abbrev z118L0_fs : List (Nat × Sl) := [(0, .v τ0), (7, .v τ0), (8, .v τ6), (9, .v τ6)]
abbrev z118L0_bs : List (Nat × Sb) := []
def z118L0_hd (x0 : List τ5) (x1 : List τ5) (c8 : Int) (s9 : Int) : St := ⟨18, [(0, .v τ0 x0), (7, .v τ0 x1), (8, .v τ6 c8), (9, .v τ6 s9)], []⟩
def z118L0_tl0 (_x0 : List τ5) (_x1 : List τ5) (_c8 : Int) : St := ⟨18, [], []⟩
def z118L0_G (N : Nat) (x0 : List τ5) (x1 : List τ5) (c8 : Int) (s9 : Int) (k : Ex → St → Option Bool) : Option Bool :=
 z118L0 N x0 x1 c8 (k (.exit 0) (z118L0_tl0 x0 x1 c8)) N s9
abbrev z118L0_F (N : Nat) : FV z118L0_fs → HV z118L0_bs → (Ex → St → Option Bool) → Option Bool := fun x _ k => z118L0_G N x.1 x.2.1 x.2.2.1 x.2.2.2.1 k
noncomputable def z118LP (N : Nat) : Nat → Code → St → (Ex → St → Option Bool) → Option Bool := fun i c =>
 match i with
 | 0 => (LPc 18 z118L0_fs z118L0_bs (z118L0_F N) (fun st k => iter (z118h 0) (exec (z118E N) N c 0) N st k))
 | i => fun st k => iter (z118h i) (exec (z118E N) N c i) N st k
theorem z118L0_step (N : Nat) (x0 : List τ5) (x1 : List τ5) (c8 : Int) (KX : Nat → St → Option Bool) (I : St → Option Bool) (s9 : Int) :
  execL (z118LP N) (z118E N) z118c0 0 (z118L0_hd x0 x1 c8 s9) (roundK (z118h 0) I KX (z118R N)) = z118L0T N x0 x1 c8 (KX 0 (z118L0_tl0 x0 x1 c8)) (fun s9 => I (z118L0_hd x0 x1 c8 s9)) s9 := by kernel_rfl
theorem z118L0_ok (N : Nat) : ∀ x y k, (∀ st, k .ret st = (z118R N) st) → iter (z118h 0) (exec (z118E N) N z118c0 0) N ⟨18, unF z118L0_fs x, unH z118L0_bs y⟩ k = z118L0_F N x y k := fun x _ k hk =>
 iter_link (S := (Int) × Unit) (z118h 0) _ (execL (z118LP N) (z118E N) z118c0 0) (z118R N) (fun st k hk => execL_eq _ _ N _ z118c0 0 (show LoopsOk (z118LP N) (z118E N) N (z118R N) [] from trivial) st k hk) (fun s => z118L0_hd x.1 x.2.1 x.2.2.1 s.1) k hk
  (fun self s => z118L0T N x.1 x.2.1 x.2.2.1 (k (.exit 0) (z118L0_tl0 x.1 x.2.1 x.2.2.1)) (fun s9 => self (s9, ())) s.1) (fun n s => z118L0 N x.1 x.2.1 x.2.2.1 (k (.exit 0) (z118L0_tl0 x.1 x.2.1 x.2.2.1)) n s.1) (fun _ => rfl) (fun _ _ => rfl)
  (fun I s => z118L0_step N x.1 x.2.1 x.2.2.1 (fun j => k (.exit j)) I s.1) N (x.2.2.2.1, ())
theorem z118lp0 (N : Nat) : ∀ st k, (∀ st, k .ret st = (z118R N) st) → z118LP N 0 z118c0 st k = iter (Env.hint (z118E N) 0) (exec (z118E N) N z118c0 0) N st k := fun st k hk => LPc_eq 18 z118L0_fs z118L0_bs _ _ (z118R N) (z118L0_ok N) _ st k hk (rfl)
theorem z118core (N : Nat) (x : SV [.v τ0, .v τ0]) (y : BV []) : runL (z118E N) Tryz.f139 (z118g N) z118pk (z118LP N) x y = ref3_has N x.1 x.2.1 := by kernel_rfl
theorem z118sound (N : Nat) : Snd 139 (z118g N) :=
 sndL (z118fn_ok N) Tryz.func139 rfl Tryz.call139 (z118g N) z118pk (fun _ _ => rfl) N (z118LP N) (show LoopsOk (z118LP N) (z118E N) N (z118R N) [(0, z118c0)] from ⟨z118lp0 N, trivial⟩) (z118core N)
def ref3_isMore (N : Nat) (x0 : Str × List τ5 × List τ5) (x1 : Str × List τ5 × List τ5) : Option Bool :=
 bnd (ref3_has N x0.2.1 x1.2.1) fun t9 =>
 br (t9)
  (bnd (ref3_has N x0.2.2 x1.2.2) fun t15 =>
  br (t15)
   (some (decide ((IntKind.i64.wrap ((x0.2.1.length : Int) + (x0.2.2.length : Int))) > (IntKind.i64.wrap ((x1.2.1.length : Int) + (x1.2.2.length : Int))))))
   (some false))
  (some false)
abbrev z108sg (f : SV [.v τ8, .v τ8] → BV [] → Option (Bool)) : AF := { ps := [.v τ8, .v τ8], bs := [], rs := [.v .bool], cs := [], R := Bool, out := fun z => ((z, ()), ()), f := f }
noncomputable abbrev z108g (N : Nat) : AF := z108sg fun x _ => ref3_isMore N x.1 x.2.1
abbrev z108pk : SV [.v .bool] → BV [] → Bool := fun x _ => x.1
def z108fn (N : Nat) : FuncId → Option Tmp → Option AF := fun f _ =>
 match f with
  | 139 => some (z118g N)
  | _ => none
theorem z108fn_ok (N : Nat) : FnOk (z108fn N) := by
 intro f q F h
 unfold z108fn at h
 split at h
 · cases h; exact z118sound N
 · cases h
def z108h : Nat → Hint := fun i =>
 match i with
 | _ => hint0
abbrev z108E (N : Nat) : Env := mkE z108h (z108fn N) FF FF
noncomputable def z108LP (N : Nat) : Nat → Code → St → (Ex → St → Option Bool) → Option Bool := fun i c =>
 match i with
 | i => fun st k => iter (z108h i) (exec (z108E N) N c i) N st k
theorem z108core (N : Nat) (x : SV [.v τ8, .v τ8]) (y : BV []) : runL (z108E N) Tryz.f92 (z108g N) z108pk (z108LP N) x y = ref3_isMore N x.1 x.2.1 := by kernel_rfl
theorem z108sound (N : Nat) : Snd 92 (z108g N) :=
 sndL (z108fn_ok N) Tryz.func92 rfl Tryz.call92 (z108g N) z108pk (fun _ _ => rfl) N (z108LP N) (show LoopsOk (z108LP N) (z108E N) N (resD (z108E N) Tryz.f92 (z108g N) z108pk) [] from trivial) (z108core N)
def z107L0T (N : Nat) (x2 : List τ5) (c38 : List τ2) (c39 : Int) (κ4_0 : τ7) (κ4_1 : List τ1) (κ7_0 : Str) (κ7_1 : List τ5) (k0 : Bool → τ21 → (List τ1) → Int → Str → Int → τ24 → τ21 → Option τ17) (self : Bool → Int → τ21 → (List τ1) → Int → Str → Int → τ24 → τ21 → Option τ17) (s14 : Bool) (s40 : Int) (w1011 : List τ2) (w1012 : List τ1) (b1013_0 : Int) (b1013_1 : Str) (b1013_2 : Int) (b1013_3 : List Str) (b1013_4 : List τ2) : Option τ17 :=
 br (decide (s40 < c39))
  (bnd (geti c38 s40) fun t42 =>
  bnd (ref3_conditionOf N κ4_1 t42.1) fun t49 =>
  br (!t49.2)
   (self true (IntKind.i64.wrap (s40 + (1 : Int))) w1011 w1012 t42.2.kind t42.2.text t42.2.number t42.2.list t42.2.cases)
   (bnd (ref3_holds N κ4_0 t49.1 x2 (κ7_0, κ7_1)) fun t61 =>
   br (t61)
    (both
     (times 1
      (br (decide ((w1011.length + [(t42.1, GValue.mk t42.2.kind t42.2.text t42.2.number t42.2.list t42.2.cases)].length) * (24 * Ty.sz τ3) ≤ 140737488355328))
       (br (decide ((w1012.length + [t49.1].length) * (24 * Ty.sz τ8) ≤ 140737488355328))
        (self s14 (IntKind.i64.wrap (s40 + (1 : Int))) (w1011 ++ [(t42.1, GValue.mk t42.2.kind t42.2.text t42.2.number t42.2.list t42.2.cases)]) (w1012 ++ [t49.1]) b1013_0 b1013_1 b1013_2 b1013_3 b1013_4)
        none)
       none))
     (br (decide ((w1011.length + [(t42.1, GValue.mk t42.2.kind t42.2.text t42.2.number t42.2.list t42.2.cases)].length) * (24 * Ty.sz τ3) ≤ 140737488355328))
      (br (decide ((w1012.length + [t49.1].length) * (24 * Ty.sz τ8) ≤ 140737488355328))
       (self s14 (IntKind.i64.wrap (s40 + (1 : Int))) (w1011 ++ [(t42.1, GValue.mk t42.2.kind t42.2.text t42.2.number t42.2.list t42.2.cases)]) (w1012 ++ [t49.1]) b1013_0 b1013_1 b1013_2 b1013_3 b1013_4)
       none)
      none))
    (self s14 (IntKind.i64.wrap (s40 + (1 : Int))) w1011 w1012 b1013_0 b1013_1 b1013_2 b1013_3 b1013_4)))
  (k0 s14 w1011 w1012 b1013_0 b1013_1 b1013_2 b1013_3 b1013_4)
def z107L0 (N : Nat) (x2 : List τ5) (c38 : List τ2) (c39 : Int) (κ4_0 : τ7) (κ4_1 : List τ1) (κ7_0 : Str) (κ7_1 : List τ5) (k0 : Bool → τ21 → (List τ1) → Int → Str → Int → τ24 → τ21 → Option τ17) : Nat → Bool → Int → τ21 → (List τ1) → Int → Str → Int → τ24 → τ21 → Option τ17
 | 0, _, _, _, _, _, _, _, _, _ => none
 | n + 1, s14, s40, w1011, w1012, b1013_0, b1013_1, b1013_2, b1013_3, b1013_4 => z107L0T N x2 c38 c39 κ4_0 κ4_1 κ7_0 κ7_1 k0 (z107L0 N x2 c38 c39 κ4_0 κ4_1 κ7_0 κ7_1 k0 n) s14 s40 w1011 w1012 b1013_0 b1013_1 b1013_2 b1013_3 b1013_4
def z107L2T (N : Nat) (s80 : Int) (c96 : Int) (o0_w1012 : List τ1) (k4 : Bool → Option τ17) (self : Bool → Int → Option τ17) (s22 : Bool) (s97 : Int) : Option τ17 :=
 br (decide (s97 < c96))
  (bnd (geti o0_w1012 s97) fun t100 =>
  br (s22)
   (br (s80 == s97)
    (self true (IntKind.i64.wrap (s97 + (1 : Int))))
    (bnd (geti o0_w1012 s80) fun t110 =>
    bnd (ref3_isMore N t110 t100) fun t113 =>
    self t113 (IntKind.i64.wrap (s97 + (1 : Int)))))
   (self false (IntKind.i64.wrap (s97 + (1 : Int)))))
  (k4 s22)
def z107L2 (N : Nat) (s80 : Int) (c96 : Int) (o0_w1012 : List τ1) (k4 : Bool → Option τ17) : Nat → Bool → Int → Option τ17
 | 0, _, _ => none
 | n + 1, s22, s97 => z107L2T N s80 c96 o0_w1012 k4 (z107L2 N s80 c96 o0_w1012 k4 n) s22 s97
def z107L3T (N : Nat) (s80 : Int) (c96_6 : Int) (o0_w1012 : List τ1) (k4 : Bool → Option τ17) (self : Bool → Int → Option τ17) (s22_4 : Bool) (s97_7 : Int) : Option τ17 :=
 br (decide (s97_7 < c96_6))
  (bnd (geti o0_w1012 s97_7) fun t100_14 =>
  br (s22_4)
   (br (s80 == s97_7)
    (self true (IntKind.i64.wrap (s97_7 + (1 : Int))))
    (bnd (geti o0_w1012 s80) fun t110_15 =>
    bnd (ref3_isMore N t110_15 t100_14) fun t113_16 =>
    self t113_16 (IntKind.i64.wrap (s97_7 + (1 : Int)))))
   (self false (IntKind.i64.wrap (s97_7 + (1 : Int)))))
  (k4 s22_4)
def z107L3 (N : Nat) (s80 : Int) (c96_6 : Int) (o0_w1012 : List τ1) (k4 : Bool → Option τ17) : Nat → Bool → Int → Option τ17
 | 0, _, _ => none
 | n + 1, s22_4, s97_7 => z107L3T N s80 c96_6 o0_w1012 k4 (z107L3 N s80 c96_6 o0_w1012 k4 n) s22_4 s97_7
def z107L1T (N : Nat) (c79 : Int) (o0_w1011 : List τ2) (o0_w1012 : List τ1) (k2 : Bool → Option τ17) (self : Bool → Int → Option τ17) (s19 : Bool) (s80 : Int) : Option τ17 :=
 br (decide (s80 < c79))
  (bnd (geti o0_w1011 s80) fun t83 =>
  br (s19)
   (bnd (geti o0_w1011 (0 : Int)) fun t90 =>
   bnd (ref2_SameValue N N (GValue.mk t83.2.kind t83.2.text t83.2.number t83.2.list t83.2.cases) t90.2) fun t93 =>
   z107L2 N s80 (o0_w1012.length : Int) o0_w1012 (fun o2_22 =>
     br (o2_22)
      (some (GValue.mk t83.2.kind t83.2.text t83.2.number t83.2.list t83.2.cases, (0 : Int)))
      (self t93 (IntKind.i64.wrap (s80 + (1 : Int))))) N true (0 : Int))
   (z107L3 N s80 (o0_w1012.length : Int) o0_w1012 (fun o3_22 =>
     br (o3_22)
      (some (GValue.mk t83.2.kind t83.2.text t83.2.number t83.2.list t83.2.cases, (0 : Int)))
      (self false (IntKind.i64.wrap (s80 + (1 : Int))))) N true (0 : Int)))
  (k2 s19)
def z107L1 (N : Nat) (c79 : Int) (o0_w1011 : List τ2) (o0_w1012 : List τ1) (k2 : Bool → Option τ17) : Nat → Bool → Int → Option τ17
 | 0, _, _ => none
 | n + 1, s19, s80 => z107L1T N c79 o0_w1011 o0_w1012 k2 (z107L1 N c79 o0_w1011 o0_w1012 k2 n) s19 s80
def ref3_chosen (N : Nat) (x0 : τ18) (x1 : GValue) (x2 : List τ5) (x3 : Str × List τ5) : Option τ17 :=
 bnd (ref3_checkWhen N x0 (GValue.mk x1.kind x1.text x1.number x1.list x1.cases)) fun t27 =>
 br (t27 != (0 : Int))
  (some (GValue.mk (0 : Int) ([] : Str) (0 : Int) ([] : List Str) ([] : List τ2), t27))
  (br (x1.kind != (4 : Int))
   (some (GValue.mk x1.kind x1.text x1.number x1.list x1.cases, (0 : Int)))
   (z107L0 N x2 x1.cases (x1.cases.length : Int) x0.1 x0.2.1 x3.1 x3.2 (fun o0_14 o0_w1011 o0_w1012 o0_1013_0 o0_1013_1 o0_1013_2 o0_1013_3 o0_1013_4 =>
     br ((o0_w1011.length : Int) == (0 : Int))
      (br (!o0_14)
       (some (GValue.mk (0 : Int) ([] : Str) (0 : Int) ([] : List Str) ([] : List τ2), (9 : Int)))
       (some (GValue.mk o0_1013_0 o0_1013_1 o0_1013_2 o0_1013_3 o0_1013_4, (0 : Int))))
      (z107L1 N (o0_w1011.length : Int) o0_w1011 o0_w1012 (fun o1_19 =>
        br (o1_19)
         (bnd (geti o0_w1011 (0 : Int)) fun t123 =>
         some (GValue.mk t123.2.kind t123.2.text t123.2.number t123.2.list t123.2.cases, (0 : Int)))
         (some (GValue.mk (0 : Int) ([] : Str) (0 : Int) ([] : List Str) ([] : List τ2), (12 : Int)))) N true (0 : Int))) N false (0 : Int) ([] : List τ2) ([] : List τ1) (0 : Int) ([] : Str) (0 : Int) ([] : List Str) ([] : List τ2)))
abbrev z107sg (f : SV [.v τ4, .v τ15, .v τ0, .v τ16] → BV [] → Option τ17) : AF := { ps := [.v τ4, .v τ15, .v τ0, .v τ16], bs := [], rs := [.v τ15, .v τ6], cs := [], R := GValue × Int, out := fun z => ((z.1, z.2, ()), ()), f := f }
noncomputable abbrev z107g (N : Nat) : AF := z107sg fun x _ => ref3_chosen N x.1 x.2.1 x.2.2.1 x.2.2.2.1
abbrev z107pk : SV [.v τ15, .v τ6] → BV [] → τ17 := fun x _ => (x.1, x.2.1)
def z107fn (N : Nat) : FuncId → Option Tmp → Option AF := fun f _ =>
 match f with
  | 10 => some (z72sg fun x _ => ref2_SameValue N N x.1 x.2.1)
  | 70 => some (z74g N)
  | 71 => some (z57g N)
  | 91 => some (z113g N)
  | 92 => some (z108g N)
  | _ => none
theorem z107fn_ok (N : Nat) : FnOk (z107fn N) := by
 intro f q F h
 unfold z107fn at h
 split at h
 · cases h; exact z72sound N N
 · cases h; exact z74sound N
 · cases h; exact z57sound N
 · cases h; exact z113sound N
 · cases h; exact z108sound N
 · cases h
def z107h : Nat → Hint := fun i =>
 match i with
 | 0 => ⟨[], [2, 4, 7, 8, 11, 12, 13, 14, 38, 39, 40], [1004, 1007, 1008, 1011, 1012, 1013], [8, 11, 12, 13, 14], [1008, 1011, 1012, 1013], [(1013, 3, 0, 0, .str), (1013, 4, 0, 0, τ3)]⟩
 | 2 => ⟨[], [8, 11, 12, 19, 78, 79, 80], [1008, 1011, 1012], [8, 11, 19], [1008, 1011], []⟩
 | 4 => ⟨[], [8, 11, 12, 19, 20, 21, 22, 78, 79, 80, 87, 88, 89, 90, 91, 92, 93, 95, 96, 97], [1008, 1011, 1012, 1021], [8, 11, 12, 19, 21, 22, 78, 79, 80, 87, 88, 89, 90, 91, 92, 93], [1008, 1011, 1012, 1021], []⟩
 | 100016 => ⟨[1016, 1017], [], [], [], [], []⟩
 | _ => hint0
abbrev z107E (N : Nat) : Env := mkE z107h (z107fn N) FF FF
noncomputable abbrev z107c2 : Code := cAt (bodyOf Tryz.f35) [true, true, true, true, true, true, false, true, false, false]
noncomputable abbrev z107c1 : Code := cAt (bodyOf Tryz.f35) [true, true, true, true, true, true, true, true, true, false, true, false, false]
noncomputable abbrev z107c0 : Code := cAt (bodyOf Tryz.f35) [true, true, true, true, true, true, true, true, true, false, true, false, false, true, true, false, false, true, true, true, false, true, false, false]
noncomputable abbrev z107R (N : Nat) := resD (z107E N) Tryz.f35 (z107g N) z107pk
abbrev z107L0_fs : List (Nat × Sl) := [(2, .v τ0), (4, .box 1004 0), (7, .box 1007 0), (8, .box 1008 0), (11, .row 1011), (12, .row 1012), (13, .box 1013 0), (14, .v .bool), (38, .v (.sl τ3)), (39, .v τ6), (40, .v τ6)]
abbrev z107L0_bs : List (Nat × Sb) := [(1004, .cells [.v τ9, .v (.sl τ8), .v τ28, .v τ25, .v τ20]), (1007, .cells [.v .str, .v τ0]), (1008, .cells [.v τ6, .v .str, .v τ6, .nilS, .nilS]), (1011, .row 78 τ3 false), (1012, .row 108 τ8 false), (1013, .cells [.v τ6, .v .str, .v τ6, .v τ22, .v (.sl τ3)])]
def z107L0_hd (x2 : List τ5) (c38 : List τ2) (c39 : Int) (κ4_0 : τ7) (κ4_1 : List τ1) (κ4_2 : τ11) (κ4_3 : List τ10) (κ4_4 : τ12) (κ7_0 : Str) (κ7_1 : List τ5) (κ8_0 : Int) (κ8_1 : Str) (κ8_2 : Int) (s14 : Bool) (s40 : Int) (w1011 : List τ2) (w1012 : List τ1) (b1013_0 : Int) (b1013_1 : Str) (b1013_2 : Int) (b1013_3 : List Str) (b1013_4 : List τ2) : St := ⟨127, [(2, .v τ0 x2), (4, .box 1004 0), (7, .box 1007 0), (8, .box 1008 0), (11, .row 1011), (12, .row 1012), (13, .box 1013 0), (14, .v .bool s14), (38, .v (.sl τ3) c38), (39, .v τ6 c39), (40, .v τ6 s40)], [(1004, .cells [.v τ9 κ4_0, .v (.sl τ8) κ4_1, .v τ28 κ4_2, .v τ25 κ4_3, .v τ20 κ4_4]), (1007, .cells [.v .str κ7_0, .v τ0 κ7_1]), (1008, .cells [.v τ6 κ8_0, .v .str κ8_1, .v τ6 κ8_2, .nilS, .nilS]), (1011, .row 78 τ3 false w1011), (1012, .row 108 τ8 false w1012), (1013, .cells [.v τ6 b1013_0, .v .str b1013_1, .v τ6 b1013_2, .v τ22 b1013_3, .v (.sl τ3) b1013_4])]⟩
def z107L0_tl0 (_x2 : List τ5) (_c38 : List τ2) (_c39 : Int) (_κ4_0 : τ7) (_κ4_1 : List τ1) (_κ4_2 : τ11) (_κ4_3 : List τ10) (_κ4_4 : τ12) (_κ7_0 : Str) (_κ7_1 : List τ5) (κ8_0 : Int) (κ8_1 : Str) (κ8_2 : Int) (o0_14 : Bool) (o0_w1011 : List τ2) (o0_w1012 : List τ1) (o0_1013_0 : Int) (o0_1013_1 : Str) (o0_1013_2 : Int) (o0_1013_3 : List Str) (o0_1013_4 : List τ2) : St := ⟨127, [(8, .box 1008 0), (11, .row 1011), (12, .row 1012), (13, .box 1013 0), (14, .v .bool o0_14)], [(1008, .cells [.v τ6 κ8_0, .v .str κ8_1, .v τ6 κ8_2, .nilS, .nilS]), (1011, .row 78 τ3 false o0_w1011), (1012, .row 108 τ8 false o0_w1012), (1013, .cells [.v τ6 o0_1013_0, .v .str o0_1013_1, .v τ6 o0_1013_2, .v τ22 o0_1013_3, .v (.sl τ3) o0_1013_4])]⟩
def z107L0_G (N : Nat) (x2 : List τ5) (c38 : List τ2) (c39 : Int) (κ4_0 : τ7) (κ4_1 : List τ1) (κ4_2 : τ11) (κ4_3 : List τ10) (κ4_4 : τ12) (κ7_0 : Str) (κ7_1 : List τ5) (κ8_0 : Int) (κ8_1 : Str) (κ8_2 : Int) (s14 : Bool) (s40 : Int) (w1011 : List τ2) (w1012 : List τ1) (b1013_0 : Int) (b1013_1 : Str) (b1013_2 : Int) (b1013_3 : List Str) (b1013_4 : List τ2) (k : Ex → St → Option τ17) : Option τ17 :=
 z107L0 N x2 c38 c39 κ4_0 κ4_1 κ7_0 κ7_1 (fun o0_14 o0_w1011 o0_w1012 o0_1013_0 o0_1013_1 o0_1013_2 o0_1013_3 o0_1013_4 => k (.exit 0) (z107L0_tl0 x2 c38 c39 κ4_0 κ4_1 κ4_2 κ4_3 κ4_4 κ7_0 κ7_1 κ8_0 κ8_1 κ8_2 o0_14 o0_w1011 o0_w1012 o0_1013_0 o0_1013_1 o0_1013_2 o0_1013_3 o0_1013_4)) N s14 s40 w1011 w1012 b1013_0 b1013_1 b1013_2 b1013_3 b1013_4
abbrev z107L0_F (N : Nat) : FV z107L0_fs → HV z107L0_bs → (Ex → St → Option τ17) → Option τ17 := fun x y k => z107L0_G N x.1 x.2.2.2.2.2.2.2.2.1 x.2.2.2.2.2.2.2.2.2.1 y.1.1 y.1.2.1 y.1.2.2.1 y.1.2.2.2.1 y.1.2.2.2.2.1 y.2.1.1 y.2.1.2.1 y.2.2.1.1 y.2.2.1.2.1 y.2.2.1.2.2.1 x.2.2.2.2.2.2.2.1 x.2.2.2.2.2.2.2.2.2.2.1 y.2.2.2.1 y.2.2.2.2.1 y.2.2.2.2.2.1.1 y.2.2.2.2.2.1.2.1 y.2.2.2.2.2.1.2.2.1 y.2.2.2.2.2.1.2.2.2.1 y.2.2.2.2.2.1.2.2.2.2.1 k
abbrev z107L2_fs : List (Nat × Sl) := [(8, .box 1008 0), (11, .row 1011), (12, .row 1012), (19, .v .bool), (20, .v τ6), (21, .box 1021 0), (22, .v .bool), (78, .row 1011), (79, .v τ6), (80, .v τ6), (87, .box 1021 1), (88, .v τ15), (89, .row 1011), (90, .at_ τ3), (91, .at_ τ15), (92, .v τ15), (93, .v .bool), (95, .row 1012), (96, .v τ6), (97, .v τ6)]
abbrev z107L2_bs : List (Nat × Sb) := [(1008, .cells [.v τ6, .v .str, .v τ6, .nilS, .nilS]), (1011, .row 78 τ3 false), (1012, .row 108 τ8 false), (1021, .cells [.v .str, .v τ6, .v .str, .v τ6, .v τ22, .v (.sl τ3)])]
def z107L2_hd (t93 : Bool) (s80 : Int) (c79 : Int) (c80 : Int) (c88 : GValue) (t90 : Str × GValue) (c91 : GValue) (c92 : GValue) (c93 : Bool) (c96 : Int) (c1008_0_1 : Int) (c1008_1_2 : Str) (c1008_2_3 : Int) (o0_w1011 : List τ2) (o0_w1012 : List τ1) (κ21_0 : Str) (κ21_1 : Int) (κ21_2 : Str) (κ21_3 : Int) (κ21_4 : List Str) (κ21_5 : List τ2) (s22 : Bool) (s97 : Int) : St := ⟨127, [(8, .box 1008 0), (11, .row 1011), (12, .row 1012), (19, .v .bool t93), (20, .v τ6 s80), (21, .box 1021 0), (22, .v .bool s22), (78, .row 1011), (79, .v τ6 c79), (80, .v τ6 c80), (87, .box 1021 1), (88, .v τ15 c88), (89, .row 1011), (90, .at_ τ3 t90), (91, .at_ τ15 c91), (92, .v τ15 c92), (93, .v .bool c93), (95, .row 1012), (96, .v τ6 c96), (97, .v τ6 s97)], [(1008, .cells [.v τ6 c1008_0_1, .v .str c1008_1_2, .v τ6 c1008_2_3, .nilS, .nilS]), (1011, .row 78 τ3 false o0_w1011), (1012, .row 108 τ8 false o0_w1012), (1021, .cells [.v .str κ21_0, .v τ6 κ21_1, .v .str κ21_2, .v τ6 κ21_3, .v τ22 κ21_4, .v (.sl τ3) κ21_5])]⟩
def z107L2_tl4 (t93 : Bool) (_s80 : Int) (c79 : Int) (c80 : Int) (c88 : GValue) (t90 : Str × GValue) (c91 : GValue) (c92 : GValue) (c93 : Bool) (_c96 : Int) (c1008_0_1 : Int) (c1008_1_2 : Str) (c1008_2_3 : Int) (o0_w1011 : List τ2) (o0_w1012 : List τ1) (κ21_0 : Str) (κ21_1 : Int) (κ21_2 : Str) (κ21_3 : Int) (κ21_4 : List Str) (κ21_5 : List τ2) (o2_22 : Bool) : St := ⟨127, [(8, .box 1008 0), (11, .row 1011), (12, .row 1012), (19, .v .bool t93), (21, .box 1021 0), (22, .v .bool o2_22), (78, .row 1011), (79, .v τ6 c79), (80, .v τ6 c80), (87, .box 1021 1), (88, .v τ15 c88), (89, .row 1011), (90, .at_ τ3 t90), (91, .at_ τ15 c91), (92, .v τ15 c92), (93, .v .bool c93)], [(1008, .cells [.v τ6 c1008_0_1, .v .str c1008_1_2, .v τ6 c1008_2_3, .nilS, .nilS]), (1011, .row 78 τ3 false o0_w1011), (1012, .row 108 τ8 false o0_w1012), (1021, .cells [.v .str κ21_0, .v τ6 κ21_1, .v .str κ21_2, .v τ6 κ21_3, .v τ22 κ21_4, .v (.sl τ3) κ21_5])]⟩
def z107L2_G (N : Nat) (t93 : Bool) (s80 : Int) (c79 : Int) (c80 : Int) (c88 : GValue) (t90 : Str × GValue) (c91 : GValue) (c92 : GValue) (c93 : Bool) (c96 : Int) (c1008_0_1 : Int) (c1008_1_2 : Str) (c1008_2_3 : Int) (o0_w1011 : List τ2) (o0_w1012 : List τ1) (κ21_0 : Str) (κ21_1 : Int) (κ21_2 : Str) (κ21_3 : Int) (κ21_4 : List Str) (κ21_5 : List τ2) (s22 : Bool) (s97 : Int) (k : Ex → St → Option τ17) : Option τ17 :=
 z107L2 N s80 c96 o0_w1012 (fun o2_22 => k (.exit 4) (z107L2_tl4 t93 s80 c79 c80 c88 t90 c91 c92 c93 c96 c1008_0_1 c1008_1_2 c1008_2_3 o0_w1011 o0_w1012 κ21_0 κ21_1 κ21_2 κ21_3 κ21_4 κ21_5 o2_22)) N s22 s97
abbrev z107L2_F (N : Nat) : FV z107L2_fs → HV z107L2_bs → (Ex → St → Option τ17) → Option τ17 := fun x y k => z107L2_G N x.2.2.2.1 x.2.2.2.2.1 x.2.2.2.2.2.2.2.2.1 x.2.2.2.2.2.2.2.2.2.1 x.2.2.2.2.2.2.2.2.2.2.2.1 x.2.2.2.2.2.2.2.2.2.2.2.2.2.1 x.2.2.2.2.2.2.2.2.2.2.2.2.2.2.1 x.2.2.2.2.2.2.2.2.2.2.2.2.2.2.2.1 x.2.2.2.2.2.2.2.2.2.2.2.2.2.2.2.2.1 x.2.2.2.2.2.2.2.2.2.2.2.2.2.2.2.2.2.2.1 y.1.1 y.1.2.1 y.1.2.2.1 y.2.1 y.2.2.1 y.2.2.2.1.1 y.2.2.2.1.2.1 y.2.2.2.1.2.2.1 y.2.2.2.1.2.2.2.1 y.2.2.2.1.2.2.2.2.1 y.2.2.2.1.2.2.2.2.2.1 x.2.2.2.2.2.2.1 x.2.2.2.2.2.2.2.2.2.2.2.2.2.2.2.2.2.2.2.1 k
abbrev z107L3_fs : List (Nat × Sl) := [(8, .box 1008 0), (11, .row 1011), (12, .row 1012), (19, .v .bool), (20, .v τ6), (21, .box 1021 0), (22, .v .bool), (78, .row 1011), (79, .v τ6), (80, .v τ6), (87, .skip), (88, .skip), (89, .skip), (90, .skip), (91, .skip), (92, .skip), (93, .skip), (95, .row 1012), (96, .v τ6), (97, .v τ6)]
abbrev z107L3_bs : List (Nat × Sb) := [(1008, .cells [.v τ6, .v .str, .v τ6, .nilS, .nilS]), (1011, .row 78 τ3 false), (1012, .row 108 τ8 false), (1021, .cells [.v .str, .v τ6, .v .str, .v τ6, .v τ22, .v (.sl τ3)])]
def z107L3_hd (c19 : Bool) (s80 : Int) (c79 : Int) (c80_5 : Int) (c96_6 : Int) (c1008_0_1 : Int) (c1008_1_2 : Str) (c1008_2_3 : Int) (o0_w1011 : List τ2) (o0_w1012 : List τ1) (c1021_0_8 : Str) (c1021_1_9 : Int) (c1021_2_10 : Str) (c1021_3_11 : Int) (c1021_4_12 : List Str) (c1021_5_13 : List τ2) (s22_4 : Bool) (s97_7 : Int) : St := ⟨127, [(8, .box 1008 0), (11, .row 1011), (12, .row 1012), (19, .v .bool c19), (20, .v τ6 s80), (21, .box 1021 0), (22, .v .bool s22_4), (78, .row 1011), (79, .v τ6 c79), (80, .v τ6 c80_5), (87, .skip), (88, .skip), (89, .skip), (90, .skip), (91, .skip), (92, .skip), (93, .skip), (95, .row 1012), (96, .v τ6 c96_6), (97, .v τ6 s97_7)], [(1008, .cells [.v τ6 c1008_0_1, .v .str c1008_1_2, .v τ6 c1008_2_3, .nilS, .nilS]), (1011, .row 78 τ3 false o0_w1011), (1012, .row 108 τ8 false o0_w1012), (1021, .cells [.v .str c1021_0_8, .v τ6 c1021_1_9, .v .str c1021_2_10, .v τ6 c1021_3_11, .v τ22 c1021_4_12, .v (.sl τ3) c1021_5_13])]⟩
def z107L3_tl4 (c19 : Bool) (_s80 : Int) (c79 : Int) (c80_5 : Int) (_c96_6 : Int) (c1008_0_1 : Int) (c1008_1_2 : Str) (c1008_2_3 : Int) (o0_w1011 : List τ2) (o0_w1012 : List τ1) (c1021_0_8 : Str) (c1021_1_9 : Int) (c1021_2_10 : Str) (c1021_3_11 : Int) (c1021_4_12 : List Str) (c1021_5_13 : List τ2) (o3_22 : Bool) : St := ⟨127, [(8, .box 1008 0), (11, .row 1011), (12, .row 1012), (19, .v .bool c19), (21, .box 1021 0), (22, .v .bool o3_22), (78, .row 1011), (79, .v τ6 c79), (80, .v τ6 c80_5), (87, .skip), (88, .skip), (89, .skip), (90, .skip), (91, .skip), (92, .skip), (93, .skip)], [(1008, .cells [.v τ6 c1008_0_1, .v .str c1008_1_2, .v τ6 c1008_2_3, .nilS, .nilS]), (1011, .row 78 τ3 false o0_w1011), (1012, .row 108 τ8 false o0_w1012), (1021, .cells [.v .str c1021_0_8, .v τ6 c1021_1_9, .v .str c1021_2_10, .v τ6 c1021_3_11, .v τ22 c1021_4_12, .v (.sl τ3) c1021_5_13])]⟩
def z107L3_G (N : Nat) (c19 : Bool) (s80 : Int) (c79 : Int) (c80_5 : Int) (c96_6 : Int) (c1008_0_1 : Int) (c1008_1_2 : Str) (c1008_2_3 : Int) (o0_w1011 : List τ2) (o0_w1012 : List τ1) (c1021_0_8 : Str) (c1021_1_9 : Int) (c1021_2_10 : Str) (c1021_3_11 : Int) (c1021_4_12 : List Str) (c1021_5_13 : List τ2) (s22_4 : Bool) (s97_7 : Int) (k : Ex → St → Option τ17) : Option τ17 :=
 z107L3 N s80 c96_6 o0_w1012 (fun o3_22 => k (.exit 4) (z107L3_tl4 c19 s80 c79 c80_5 c96_6 c1008_0_1 c1008_1_2 c1008_2_3 o0_w1011 o0_w1012 c1021_0_8 c1021_1_9 c1021_2_10 c1021_3_11 c1021_4_12 c1021_5_13 o3_22)) N s22_4 s97_7
abbrev z107L3_F (N : Nat) : FV z107L3_fs → HV z107L3_bs → (Ex → St → Option τ17) → Option τ17 := fun x y k => z107L3_G N x.2.2.2.1 x.2.2.2.2.1 x.2.2.2.2.2.2.2.2.1 x.2.2.2.2.2.2.2.2.2.1 x.2.2.2.2.2.2.2.2.2.2.2.2.2.2.2.2.2.2.1 y.1.1 y.1.2.1 y.1.2.2.1 y.2.1 y.2.2.1 y.2.2.2.1.1 y.2.2.2.1.2.1 y.2.2.2.1.2.2.1 y.2.2.2.1.2.2.2.1 y.2.2.2.1.2.2.2.2.1 y.2.2.2.1.2.2.2.2.2.1 x.2.2.2.2.2.2.1 x.2.2.2.2.2.2.2.2.2.2.2.2.2.2.2.2.2.2.2.1 k
abbrev z107L1_fs : List (Nat × Sl) := [(8, .box 1008 0), (11, .row 1011), (12, .row 1012), (19, .v .bool), (78, .row 1011), (79, .v τ6), (80, .v τ6)]
abbrev z107L1_bs : List (Nat × Sb) := [(1008, .cells [.v τ6, .v .str, .v τ6, .nilS, .nilS]), (1011, .row 78 τ3 false), (1012, .row 108 τ8 false)]
def z107L1_hd (c79 : Int) (c1008_0_1 : Int) (c1008_1_2 : Str) (c1008_2_3 : Int) (o0_w1011 : List τ2) (o0_w1012 : List τ1) (s19 : Bool) (s80 : Int) : St := ⟨127, [(8, .box 1008 0), (11, .row 1011), (12, .row 1012), (19, .v .bool s19), (78, .row 1011), (79, .v τ6 c79), (80, .v τ6 s80)], [(1008, .cells [.v τ6 c1008_0_1, .v .str c1008_1_2, .v τ6 c1008_2_3, .nilS, .nilS]), (1011, .row 78 τ3 false o0_w1011), (1012, .row 108 τ8 false o0_w1012)]⟩
def z107L1_tl2 (_c79 : Int) (c1008_0_1 : Int) (c1008_1_2 : Str) (c1008_2_3 : Int) (o0_w1011 : List τ2) (_o0_w1012 : List τ1) (o1_19 : Bool) : St := ⟨127, [(8, .box 1008 0), (11, .row 1011), (19, .v .bool o1_19)], [(1008, .cells [.v τ6 c1008_0_1, .v .str c1008_1_2, .v τ6 c1008_2_3, .nilS, .nilS]), (1011, .row 78 τ3 false o0_w1011)]⟩
def z107L1_G (N : Nat) (c79 : Int) (c1008_0_1 : Int) (c1008_1_2 : Str) (c1008_2_3 : Int) (o0_w1011 : List τ2) (o0_w1012 : List τ1) (s19 : Bool) (s80 : Int) (k : Ex → St → Option τ17) : Option τ17 :=
 z107L1 N c79 o0_w1011 o0_w1012 (fun o1_19 => k (.exit 2) (z107L1_tl2 c79 c1008_0_1 c1008_1_2 c1008_2_3 o0_w1011 o0_w1012 o1_19)) N s19 s80
abbrev z107L1_F (N : Nat) : FV z107L1_fs → HV z107L1_bs → (Ex → St → Option τ17) → Option τ17 := fun x y k => z107L1_G N x.2.2.2.2.2.1 y.1.1 y.1.2.1 y.1.2.2.1 y.2.1 y.2.2.1 x.2.2.2.1 x.2.2.2.2.2.2.1 k
noncomputable def z107LP (N : Nat) : Nat → Code → St → (Ex → St → Option τ17) → Option τ17 := fun i c =>
 match i with
 | 0 => (LPc 127 z107L0_fs z107L0_bs (z107L0_F N) (fun st k => iter (z107h 0) (exec (z107E N) N c 0) N st k))
 | 2 => (LPc 127 z107L1_fs z107L1_bs (z107L1_F N) (fun st k => iter (z107h 2) (exec (z107E N) N c 2) N st k))
 | 4 => (LPc 127 z107L3_fs z107L3_bs (z107L3_F N) (LPc 127 z107L2_fs z107L2_bs (z107L2_F N) (fun st k => iter (z107h 4) (exec (z107E N) N c 4) N st k)))
 | i => fun st k => iter (z107h i) (exec (z107E N) N c i) N st k
theorem z107L2_step (N : Nat) (t93 : Bool) (s80 : Int) (c79 : Int) (c80 : Int) (c88 : GValue) (t90 : Str × GValue) (c91 : GValue) (c92 : GValue) (c93 : Bool) (c96 : Int) (c1008_0_1 : Int) (c1008_1_2 : Str) (c1008_2_3 : Int) (o0_w1011 : List τ2) (o0_w1012 : List τ1) (κ21_0 : Str) (κ21_1 : Int) (κ21_2 : Str) (κ21_3 : Int) (κ21_4 : List Str) (κ21_5 : List τ2) (KX : Nat → St → Option τ17) (I : St → Option τ17) (s22 : Bool) (s97 : Int) :
  execL (z107LP N) (z107E N) z107c0 4 (z107L2_hd t93 s80 c79 c80 c88 t90 c91 c92 c93 c96 c1008_0_1 c1008_1_2 c1008_2_3 o0_w1011 o0_w1012 κ21_0 κ21_1 κ21_2 κ21_3 κ21_4 κ21_5 s22 s97) (roundK (z107h 4) I KX (z107R N)) = z107L2T N s80 c96 o0_w1012 (fun o2_22 => KX 4 (z107L2_tl4 t93 s80 c79 c80 c88 t90 c91 c92 c93 c96 c1008_0_1 c1008_1_2 c1008_2_3 o0_w1011 o0_w1012 κ21_0 κ21_1 κ21_2 κ21_3 κ21_4 κ21_5 o2_22)) (fun s22 s97 => I (z107L2_hd t93 s80 c79 c80 c88 t90 c91 c92 c93 c96 c1008_0_1 c1008_1_2 c1008_2_3 o0_w1011 o0_w1012 κ21_0 κ21_1 κ21_2 κ21_3 κ21_4 κ21_5 s22 s97)) s22 s97 := by kernel_rfl
theorem z107L2_ok (N : Nat) : ∀ x y k, (∀ st, k .ret st = (z107R N) st) → iter (z107h 4) (exec (z107E N) N z107c0 4) N ⟨127, unF z107L2_fs x, unH z107L2_bs y⟩ k = z107L2_F N x y k := fun x y k hk =>
 iter_link (S := (Bool) × (Int) × Unit) (z107h 4) _ (execL (z107LP N) (z107E N) z107c0 4) (z107R N) (fun st k hk => execL_eq _ _ N _ z107c0 4 (show LoopsOk (z107LP N) (z107E N) N (z107R N) [] from trivial) st k hk) (fun s => z107L2_hd x.2.2.2.1 x.2.2.2.2.1 x.2.2.2.2.2.2.2.2.1 x.2.2.2.2.2.2.2.2.2.1 x.2.2.2.2.2.2.2.2.2.2.2.1 x.2.2.2.2.2.2.2.2.2.2.2.2.2.1 x.2.2.2.2.2.2.2.2.2.2.2.2.2.2.1 x.2.2.2.2.2.2.2.2.2.2.2.2.2.2.2.1 x.2.2.2.2.2.2.2.2.2.2.2.2.2.2.2.2.1 x.2.2.2.2.2.2.2.2.2.2.2.2.2.2.2.2.2.2.1 y.1.1 y.1.2.1 y.1.2.2.1 y.2.1 y.2.2.1 y.2.2.2.1.1 y.2.2.2.1.2.1 y.2.2.2.1.2.2.1 y.2.2.2.1.2.2.2.1 y.2.2.2.1.2.2.2.2.1 y.2.2.2.1.2.2.2.2.2.1 s.1 s.2.1) k hk
  (fun self s => z107L2T N x.2.2.2.2.1 x.2.2.2.2.2.2.2.2.2.2.2.2.2.2.2.2.2.2.1 y.2.2.1 (fun o2_22 => k (.exit 4) (z107L2_tl4 x.2.2.2.1 x.2.2.2.2.1 x.2.2.2.2.2.2.2.2.1 x.2.2.2.2.2.2.2.2.2.1 x.2.2.2.2.2.2.2.2.2.2.2.1 x.2.2.2.2.2.2.2.2.2.2.2.2.2.1 x.2.2.2.2.2.2.2.2.2.2.2.2.2.2.1 x.2.2.2.2.2.2.2.2.2.2.2.2.2.2.2.1 x.2.2.2.2.2.2.2.2.2.2.2.2.2.2.2.2.1 x.2.2.2.2.2.2.2.2.2.2.2.2.2.2.2.2.2.2.1 y.1.1 y.1.2.1 y.1.2.2.1 y.2.1 y.2.2.1 y.2.2.2.1.1 y.2.2.2.1.2.1 y.2.2.2.1.2.2.1 y.2.2.2.1.2.2.2.1 y.2.2.2.1.2.2.2.2.1 y.2.2.2.1.2.2.2.2.2.1 o2_22)) (fun s22 s97 => self (s22, s97, ())) s.1 s.2.1) (fun n s => z107L2 N x.2.2.2.2.1 x.2.2.2.2.2.2.2.2.2.2.2.2.2.2.2.2.2.2.1 y.2.2.1 (fun o2_22 => k (.exit 4) (z107L2_tl4 x.2.2.2.1 x.2.2.2.2.1 x.2.2.2.2.2.2.2.2.1 x.2.2.2.2.2.2.2.2.2.1 x.2.2.2.2.2.2.2.2.2.2.2.1 x.2.2.2.2.2.2.2.2.2.2.2.2.2.1 x.2.2.2.2.2.2.2.2.2.2.2.2.2.2.1 x.2.2.2.2.2.2.2.2.2.2.2.2.2.2.2.1 x.2.2.2.2.2.2.2.2.2.2.2.2.2.2.2.2.1 x.2.2.2.2.2.2.2.2.2.2.2.2.2.2.2.2.2.2.1 y.1.1 y.1.2.1 y.1.2.2.1 y.2.1 y.2.2.1 y.2.2.2.1.1 y.2.2.2.1.2.1 y.2.2.2.1.2.2.1 y.2.2.2.1.2.2.2.1 y.2.2.2.1.2.2.2.2.1 y.2.2.2.1.2.2.2.2.2.1 o2_22)) n s.1 s.2.1) (fun _ => rfl) (fun _ _ => rfl)
  (fun I s => z107L2_step N x.2.2.2.1 x.2.2.2.2.1 x.2.2.2.2.2.2.2.2.1 x.2.2.2.2.2.2.2.2.2.1 x.2.2.2.2.2.2.2.2.2.2.2.1 x.2.2.2.2.2.2.2.2.2.2.2.2.2.1 x.2.2.2.2.2.2.2.2.2.2.2.2.2.2.1 x.2.2.2.2.2.2.2.2.2.2.2.2.2.2.2.1 x.2.2.2.2.2.2.2.2.2.2.2.2.2.2.2.2.1 x.2.2.2.2.2.2.2.2.2.2.2.2.2.2.2.2.2.2.1 y.1.1 y.1.2.1 y.1.2.2.1 y.2.1 y.2.2.1 y.2.2.2.1.1 y.2.2.2.1.2.1 y.2.2.2.1.2.2.1 y.2.2.2.1.2.2.2.1 y.2.2.2.1.2.2.2.2.1 y.2.2.2.1.2.2.2.2.2.1 (fun j => k (.exit j)) I s.1 s.2.1) N (x.2.2.2.2.2.2.1, x.2.2.2.2.2.2.2.2.2.2.2.2.2.2.2.2.2.2.2.1, ())
theorem z107L3_step (N : Nat) (c19 : Bool) (s80 : Int) (c79 : Int) (c80_5 : Int) (c96_6 : Int) (c1008_0_1 : Int) (c1008_1_2 : Str) (c1008_2_3 : Int) (o0_w1011 : List τ2) (o0_w1012 : List τ1) (c1021_0_8 : Str) (c1021_1_9 : Int) (c1021_2_10 : Str) (c1021_3_11 : Int) (c1021_4_12 : List Str) (c1021_5_13 : List τ2) (KX : Nat → St → Option τ17) (I : St → Option τ17) (s22_4 : Bool) (s97_7 : Int) :
  execL (z107LP N) (z107E N) z107c0 4 (z107L3_hd c19 s80 c79 c80_5 c96_6 c1008_0_1 c1008_1_2 c1008_2_3 o0_w1011 o0_w1012 c1021_0_8 c1021_1_9 c1021_2_10 c1021_3_11 c1021_4_12 c1021_5_13 s22_4 s97_7) (roundK (z107h 4) I KX (z107R N)) = z107L3T N s80 c96_6 o0_w1012 (fun o3_22 => KX 4 (z107L3_tl4 c19 s80 c79 c80_5 c96_6 c1008_0_1 c1008_1_2 c1008_2_3 o0_w1011 o0_w1012 c1021_0_8 c1021_1_9 c1021_2_10 c1021_3_11 c1021_4_12 c1021_5_13 o3_22)) (fun s22_4 s97_7 => I (z107L3_hd c19 s80 c79 c80_5 c96_6 c1008_0_1 c1008_1_2 c1008_2_3 o0_w1011 o0_w1012 c1021_0_8 c1021_1_9 c1021_2_10 c1021_3_11 c1021_4_12 c1021_5_13 s22_4 s97_7)) s22_4 s97_7 := by kernel_rfl
theorem z107L3_ok (N : Nat) : ∀ x y k, (∀ st, k .ret st = (z107R N) st) → iter (z107h 4) (exec (z107E N) N z107c0 4) N ⟨127, unF z107L3_fs x, unH z107L3_bs y⟩ k = z107L3_F N x y k := fun x y k hk =>
 iter_link (S := (Bool) × (Int) × Unit) (z107h 4) _ (execL (z107LP N) (z107E N) z107c0 4) (z107R N) (fun st k hk => execL_eq _ _ N _ z107c0 4 (show LoopsOk (z107LP N) (z107E N) N (z107R N) [] from trivial) st k hk) (fun s => z107L3_hd x.2.2.2.1 x.2.2.2.2.1 x.2.2.2.2.2.2.2.2.1 x.2.2.2.2.2.2.2.2.2.1 x.2.2.2.2.2.2.2.2.2.2.2.2.2.2.2.2.2.2.1 y.1.1 y.1.2.1 y.1.2.2.1 y.2.1 y.2.2.1 y.2.2.2.1.1 y.2.2.2.1.2.1 y.2.2.2.1.2.2.1 y.2.2.2.1.2.2.2.1 y.2.2.2.1.2.2.2.2.1 y.2.2.2.1.2.2.2.2.2.1 s.1 s.2.1) k hk
  (fun self s => z107L3T N x.2.2.2.2.1 x.2.2.2.2.2.2.2.2.2.2.2.2.2.2.2.2.2.2.1 y.2.2.1 (fun o3_22 => k (.exit 4) (z107L3_tl4 x.2.2.2.1 x.2.2.2.2.1 x.2.2.2.2.2.2.2.2.1 x.2.2.2.2.2.2.2.2.2.1 x.2.2.2.2.2.2.2.2.2.2.2.2.2.2.2.2.2.2.1 y.1.1 y.1.2.1 y.1.2.2.1 y.2.1 y.2.2.1 y.2.2.2.1.1 y.2.2.2.1.2.1 y.2.2.2.1.2.2.1 y.2.2.2.1.2.2.2.1 y.2.2.2.1.2.2.2.2.1 y.2.2.2.1.2.2.2.2.2.1 o3_22)) (fun s22_4 s97_7 => self (s22_4, s97_7, ())) s.1 s.2.1) (fun n s => z107L3 N x.2.2.2.2.1 x.2.2.2.2.2.2.2.2.2.2.2.2.2.2.2.2.2.2.1 y.2.2.1 (fun o3_22 => k (.exit 4) (z107L3_tl4 x.2.2.2.1 x.2.2.2.2.1 x.2.2.2.2.2.2.2.2.1 x.2.2.2.2.2.2.2.2.2.1 x.2.2.2.2.2.2.2.2.2.2.2.2.2.2.2.2.2.2.1 y.1.1 y.1.2.1 y.1.2.2.1 y.2.1 y.2.2.1 y.2.2.2.1.1 y.2.2.2.1.2.1 y.2.2.2.1.2.2.1 y.2.2.2.1.2.2.2.1 y.2.2.2.1.2.2.2.2.1 y.2.2.2.1.2.2.2.2.2.1 o3_22)) n s.1 s.2.1) (fun _ => rfl) (fun _ _ => rfl)
  (fun I s => z107L3_step N x.2.2.2.1 x.2.2.2.2.1 x.2.2.2.2.2.2.2.2.1 x.2.2.2.2.2.2.2.2.2.1 x.2.2.2.2.2.2.2.2.2.2.2.2.2.2.2.2.2.2.1 y.1.1 y.1.2.1 y.1.2.2.1 y.2.1 y.2.2.1 y.2.2.2.1.1 y.2.2.2.1.2.1 y.2.2.2.1.2.2.1 y.2.2.2.1.2.2.2.1 y.2.2.2.1.2.2.2.2.1 y.2.2.2.1.2.2.2.2.2.1 (fun j => k (.exit j)) I s.1 s.2.1) N (x.2.2.2.2.2.2.1, x.2.2.2.2.2.2.2.2.2.2.2.2.2.2.2.2.2.2.2.1, ())
theorem z107lp4 (N : Nat) : ∀ st k, (∀ st, k .ret st = (z107R N) st) → z107LP N 4 z107c0 st k = iter (Env.hint (z107E N) 4) (exec (z107E N) N z107c0 4) N st k := fun st k hk => LPc_eq 127 z107L3_fs z107L3_bs _ _ (z107R N) (z107L3_ok N) _ st k hk (LPc_eq 127 z107L2_fs z107L2_bs _ _ (z107R N) (z107L2_ok N) _ st k hk (rfl))
theorem z107L1_step (N : Nat) (c79 : Int) (c1008_0_1 : Int) (c1008_1_2 : Str) (c1008_2_3 : Int) (o0_w1011 : List τ2) (o0_w1012 : List τ1) (KX : Nat → St → Option τ17) (I : St → Option τ17) (s19 : Bool) (s80 : Int) :
  execL (z107LP N) (z107E N) z107c1 2 (z107L1_hd c79 c1008_0_1 c1008_1_2 c1008_2_3 o0_w1011 o0_w1012 s19 s80) (roundK (z107h 2) I KX (z107R N)) = z107L1T N c79 o0_w1011 o0_w1012 (fun o1_19 => KX 2 (z107L1_tl2 c79 c1008_0_1 c1008_1_2 c1008_2_3 o0_w1011 o0_w1012 o1_19)) (fun s19 s80 => I (z107L1_hd c79 c1008_0_1 c1008_1_2 c1008_2_3 o0_w1011 o0_w1012 s19 s80)) s19 s80 := by kernel_rfl
theorem z107L1_ok (N : Nat) : ∀ x y k, (∀ st, k .ret st = (z107R N) st) → iter (z107h 2) (exec (z107E N) N z107c1 2) N ⟨127, unF z107L1_fs x, unH z107L1_bs y⟩ k = z107L1_F N x y k := fun x y k hk =>
 iter_link (S := (Bool) × (Int) × Unit) (z107h 2) _ (execL (z107LP N) (z107E N) z107c1 2) (z107R N) (fun st k hk => execL_eq _ _ N _ z107c1 2 (show LoopsOk (z107LP N) (z107E N) N (z107R N) [(4, z107c0)] from ⟨z107lp4 N, trivial⟩) st k hk) (fun s => z107L1_hd x.2.2.2.2.2.1 y.1.1 y.1.2.1 y.1.2.2.1 y.2.1 y.2.2.1 s.1 s.2.1) k hk
  (fun self s => z107L1T N x.2.2.2.2.2.1 y.2.1 y.2.2.1 (fun o1_19 => k (.exit 2) (z107L1_tl2 x.2.2.2.2.2.1 y.1.1 y.1.2.1 y.1.2.2.1 y.2.1 y.2.2.1 o1_19)) (fun s19 s80 => self (s19, s80, ())) s.1 s.2.1) (fun n s => z107L1 N x.2.2.2.2.2.1 y.2.1 y.2.2.1 (fun o1_19 => k (.exit 2) (z107L1_tl2 x.2.2.2.2.2.1 y.1.1 y.1.2.1 y.1.2.2.1 y.2.1 y.2.2.1 o1_19)) n s.1 s.2.1) (fun _ => rfl) (fun _ _ => rfl)
  (fun I s => z107L1_step N x.2.2.2.2.2.1 y.1.1 y.1.2.1 y.1.2.2.1 y.2.1 y.2.2.1 (fun j => k (.exit j)) I s.1 s.2.1) N (x.2.2.2.1, x.2.2.2.2.2.2.1, ())
theorem z107lp2 (N : Nat) : ∀ st k, (∀ st, k .ret st = (z107R N) st) → z107LP N 2 z107c1 st k = iter (Env.hint (z107E N) 2) (exec (z107E N) N z107c1 2) N st k := fun st k hk => LPc_eq 127 z107L1_fs z107L1_bs _ _ (z107R N) (z107L1_ok N) _ st k hk (rfl)
theorem z107L0_step (N : Nat) (x2 : List τ5) (c38 : List τ2) (c39 : Int) (κ4_0 : τ7) (κ4_1 : List τ1) (κ4_2 : τ11) (κ4_3 : List τ10) (κ4_4 : τ12) (κ7_0 : Str) (κ7_1 : List τ5) (κ8_0 : Int) (κ8_1 : Str) (κ8_2 : Int) (KX : Nat → St → Option τ17) (I : St → Option τ17) (s14 : Bool) (s40 : Int) (w1011 : List τ2) (w1012 : List τ1) (b1013_0 : Int) (b1013_1 : Str) (b1013_2 : Int) (b1013_3 : List Str) (b1013_4 : List τ2) :
  execL (z107LP N) (z107E N) z107c2 0 (z107L0_hd x2 c38 c39 κ4_0 κ4_1 κ4_2 κ4_3 κ4_4 κ7_0 κ7_1 κ8_0 κ8_1 κ8_2 s14 s40 w1011 w1012 b1013_0 b1013_1 b1013_2 b1013_3 b1013_4) (roundK (z107h 0) I KX (z107R N)) = z107L0T N x2 c38 c39 κ4_0 κ4_1 κ7_0 κ7_1 (fun o0_14 o0_w1011 o0_w1012 o0_1013_0 o0_1013_1 o0_1013_2 o0_1013_3 o0_1013_4 => KX 0 (z107L0_tl0 x2 c38 c39 κ4_0 κ4_1 κ4_2 κ4_3 κ4_4 κ7_0 κ7_1 κ8_0 κ8_1 κ8_2 o0_14 o0_w1011 o0_w1012 o0_1013_0 o0_1013_1 o0_1013_2 o0_1013_3 o0_1013_4)) (fun s14 s40 w1011 w1012 b1013_0 b1013_1 b1013_2 b1013_3 b1013_4 => I (z107L0_hd x2 c38 c39 κ4_0 κ4_1 κ4_2 κ4_3 κ4_4 κ7_0 κ7_1 κ8_0 κ8_1 κ8_2 s14 s40 w1011 w1012 b1013_0 b1013_1 b1013_2 b1013_3 b1013_4)) s14 s40 w1011 w1012 b1013_0 b1013_1 b1013_2 b1013_3 b1013_4 := by kernel_rfl
theorem z107L0_ok (N : Nat) : ∀ x y k, (∀ st, k .ret st = (z107R N) st) → iter (z107h 0) (exec (z107E N) N z107c2 0) N ⟨127, unF z107L0_fs x, unH z107L0_bs y⟩ k = z107L0_F N x y k := fun x y k hk =>
 iter_link (S := (Bool) × (Int) × τ21 × (List τ1) × (Int) × (Str) × (Int) × τ24 × τ21 × Unit) (z107h 0) _ (execL (z107LP N) (z107E N) z107c2 0) (z107R N) (fun st k hk => execL_eq _ _ N _ z107c2 0 (show LoopsOk (z107LP N) (z107E N) N (z107R N) [] from trivial) st k hk) (fun s => z107L0_hd x.1 x.2.2.2.2.2.2.2.2.1 x.2.2.2.2.2.2.2.2.2.1 y.1.1 y.1.2.1 y.1.2.2.1 y.1.2.2.2.1 y.1.2.2.2.2.1 y.2.1.1 y.2.1.2.1 y.2.2.1.1 y.2.2.1.2.1 y.2.2.1.2.2.1 s.1 s.2.1 s.2.2.1 s.2.2.2.1 s.2.2.2.2.1 s.2.2.2.2.2.1 s.2.2.2.2.2.2.1 s.2.2.2.2.2.2.2.1 s.2.2.2.2.2.2.2.2.1) k hk
  (fun self s => z107L0T N x.1 x.2.2.2.2.2.2.2.2.1 x.2.2.2.2.2.2.2.2.2.1 y.1.1 y.1.2.1 y.2.1.1 y.2.1.2.1 (fun o0_14 o0_w1011 o0_w1012 o0_1013_0 o0_1013_1 o0_1013_2 o0_1013_3 o0_1013_4 => k (.exit 0) (z107L0_tl0 x.1 x.2.2.2.2.2.2.2.2.1 x.2.2.2.2.2.2.2.2.2.1 y.1.1 y.1.2.1 y.1.2.2.1 y.1.2.2.2.1 y.1.2.2.2.2.1 y.2.1.1 y.2.1.2.1 y.2.2.1.1 y.2.2.1.2.1 y.2.2.1.2.2.1 o0_14 o0_w1011 o0_w1012 o0_1013_0 o0_1013_1 o0_1013_2 o0_1013_3 o0_1013_4)) (fun s14 s40 w1011 w1012 b1013_0 b1013_1 b1013_2 b1013_3 b1013_4 => self (s14, s40, w1011, w1012, b1013_0, b1013_1, b1013_2, b1013_3, b1013_4, ())) s.1 s.2.1 s.2.2.1 s.2.2.2.1 s.2.2.2.2.1 s.2.2.2.2.2.1 s.2.2.2.2.2.2.1 s.2.2.2.2.2.2.2.1 s.2.2.2.2.2.2.2.2.1) (fun n s => z107L0 N x.1 x.2.2.2.2.2.2.2.2.1 x.2.2.2.2.2.2.2.2.2.1 y.1.1 y.1.2.1 y.2.1.1 y.2.1.2.1 (fun o0_14 o0_w1011 o0_w1012 o0_1013_0 o0_1013_1 o0_1013_2 o0_1013_3 o0_1013_4 => k (.exit 0) (z107L0_tl0 x.1 x.2.2.2.2.2.2.2.2.1 x.2.2.2.2.2.2.2.2.2.1 y.1.1 y.1.2.1 y.1.2.2.1 y.1.2.2.2.1 y.1.2.2.2.2.1 y.2.1.1 y.2.1.2.1 y.2.2.1.1 y.2.2.1.2.1 y.2.2.1.2.2.1 o0_14 o0_w1011 o0_w1012 o0_1013_0 o0_1013_1 o0_1013_2 o0_1013_3 o0_1013_4)) n s.1 s.2.1 s.2.2.1 s.2.2.2.1 s.2.2.2.2.1 s.2.2.2.2.2.1 s.2.2.2.2.2.2.1 s.2.2.2.2.2.2.2.1 s.2.2.2.2.2.2.2.2.1) (fun _ => rfl) (fun _ _ => rfl)
  (fun I s => z107L0_step N x.1 x.2.2.2.2.2.2.2.2.1 x.2.2.2.2.2.2.2.2.2.1 y.1.1 y.1.2.1 y.1.2.2.1 y.1.2.2.2.1 y.1.2.2.2.2.1 y.2.1.1 y.2.1.2.1 y.2.2.1.1 y.2.2.1.2.1 y.2.2.1.2.2.1 (fun j => k (.exit j)) I s.1 s.2.1 s.2.2.1 s.2.2.2.1 s.2.2.2.2.1 s.2.2.2.2.2.1 s.2.2.2.2.2.2.1 s.2.2.2.2.2.2.2.1 s.2.2.2.2.2.2.2.2.1) N (x.2.2.2.2.2.2.2.1, x.2.2.2.2.2.2.2.2.2.2.1, y.2.2.2.1, y.2.2.2.2.1, y.2.2.2.2.2.1.1, y.2.2.2.2.2.1.2.1, y.2.2.2.2.2.1.2.2.1, y.2.2.2.2.2.1.2.2.2.1, y.2.2.2.2.2.1.2.2.2.2.1, ())
theorem z107lp0 (N : Nat) : ∀ st k, (∀ st, k .ret st = (z107R N) st) → z107LP N 0 z107c2 st k = iter (Env.hint (z107E N) 0) (exec (z107E N) N z107c2 0) N st k := fun st k hk => LPc_eq 127 z107L0_fs z107L0_bs _ _ (z107R N) (z107L0_ok N) _ st k hk (rfl)
theorem z107core (N : Nat) (x : SV [.v τ4, .v τ15, .v τ0, .v τ16]) (y : BV []) : runL (z107E N) Tryz.f35 (z107g N) z107pk (z107LP N) x y = ref3_chosen N x.1 x.2.1 x.2.2.1 x.2.2.2.1 := by kernel_rfl
theorem z107sound (N : Nat) : Snd 35 (z107g N) :=
 sndL (z107fn_ok N) Tryz.func35 rfl Tryz.call35 (z107g N) z107pk (fun _ _ => rfl) N (z107LP N) (show LoopsOk (z107LP N) (z107E N) N (z107R N) [(0, z107c2), (2, z107c1), (4, z107c0)] from ⟨z107lp0 N, z107lp2 N, z107lp4 N, trivial⟩) (z107core N)
end
end Go.Proofs.YtbekhaioddmliaaGreatDoor

