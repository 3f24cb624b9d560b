/- What functions of the program compute, as plain functions (printed). -/
import Derived.Test.YtahjncefiegflaaGreatDoorQDiF6
namespace Go.Proofs.YtahjncefiegflaaGreatDoor
open Go Go.RowKit
set_option maxRecDepth 100000
set_option linter.unusedVariables false
noncomputable section
def z31L0T (N : Nat) (c24 : List τ0) (c25 : Int) (κ1_2 : List τ0) (k1 : Option Int) (self : Int → Option Int) (s26 : Int) : Option Int :=
 br (decide (s26 < c25))
  (bnd (geti c24 s26) fun t29 =>
  bnd (ref2_IsName N t29.1) fun t33 =>
  br (!t33)
   (some (5 : Int))
   (bnd (ref2_CheckValue N (ref2_checkCases N N) (GValue.mk t29.2.kind t29.2.text t29.2.number t29.2.list t29.2.cases)) fun t37 =>
   br (t37 != (0 : Int))
    (some t37)
    (br (decide (s26 > (0 : Int)))
     (bnd (geti κ1_2 (IntKind.i64.wrap (s26 - (1 : Int)))) fun t50 =>
     br (Op.bytesLess t29.1 t50.1 || t29.1 == t50.1)
      (some (8 : Int))
      (self (IntKind.i64.wrap (s26 + (1 : Int)))))
     (self (IntKind.i64.wrap (s26 + (1 : Int)))))))
  (k1)
def z31L0 (N : Nat) (c24 : List τ0) (c25 : Int) (κ1_2 : List τ0) (k1 : Option Int) : Nat → Int → Option Int
 | 0, _ => none
 | n + 1, s26 => z31L0T N c24 c25 κ1_2 k1 (z31L0 N c24 c25 κ1_2 k1 n) s26
def z31L1T (_N : Nat) (c57 : List τ0) (c58 : Int) (k3 : Option Int) (self : Int → Option Int) (s59 : Int) : Option Int :=
 br (decide (s59 < c58))
  (bnd (geti c57 s59) fun t61 =>
  br (t61.1 == ([110, 97, 109, 101] : Str))
   (some (5 : Int))
   (br (t61.1 == ([107, 105, 110, 100] : Str))
    (some (5 : Int))
    (self (IntKind.i64.wrap (s59 + (1 : Int))))))
  (k3)
def z31L1 (N : Nat) (c57 : List τ0) (c58 : Int) (k3 : Option Int) : Nat → Int → Option Int
 | 0, _ => none
 | n + 1, s59 => z31L1T N c57 c58 k3 (z31L1 N c57 c58 k3 n) s59
def ref2_CheckTarget (N : Nat) (x0 : Str × Str × List τ0) : Option Int :=
 bnd (ref2_IsPath N x0.1) fun t11 =>
 br (!t11)
  (some (3 : Int))
  (bnd (ref2_IsName N x0.2.1) fun t16 =>
  br (!t16)
   (some (5 : Int))
   (br (decide ((x0.2.2.length : Int) > (30 : Int)))
    (some (2 : Int))
    (z31L0 N x0.2.2 (x0.2.2.length : Int) x0.2.2 (z31L1 N x0.2.2 (x0.2.2.length : Int) (some (0 : Int)) N (0 : Int)) N (0 : Int))))
abbrev z31sg (f : SV [.v τ3] → BV [] → Option (Int)) : AF := { ps := [.v τ3], bs := [], rs := [.v τ5], cs := [], R := Int, out := fun z => ((z, ()), ()), f := f }
noncomputable abbrev z31g (N : Nat) : AF := z31sg fun x _ => ref2_CheckTarget N x.1
abbrev z31pk : SV [.v τ5] → BV [] → Int := fun x _ => x.1
def z31fn (N : Nat) : FuncId → Option Tmp → Option AF := fun f _ =>
 match f with
  | 15 => some (z38sg fun x _ => ref2_CheckValue N (ref2_checkCases N N) x.1)
  | 54 => some (z59g N)
  | 62 => some (z60g N)
  | _ => none
theorem z31fn_ok (N : Nat) : FnOk (z31fn N) := by
 intro f q F h
 unfold z31fn at h
 split at h
 · cases h; exact z38sound N (ref2_checkCases N N) (z39sound N N)
 · cases h; exact z59sound N
 · cases h; exact z60sound N
 · cases h
def z31h : Nat → Hint := fun i =>
 match i with
 | 1 => ⟨[], [1, 24, 25, 26], [1001], [1], [1001], []⟩
 | 3 => ⟨[], [57, 58, 59], [], [], [], []⟩
 | _ => hint0
abbrev z31E (N : Nat) : Env := mkE z31h (z31fn N) FF FF
noncomputable abbrev z31c1 : Code := cAt (bodyOf Tryz.f53) [true, true, false, true, false, false]
noncomputable abbrev z31c0 : Code := cAt (bodyOf Tryz.f53) [true, true, true, false, true, false, false]
noncomputable abbrev z31R (N : Nat) := resD (z31E N) Tryz.f53 (z31g N) z31pk
abbrev z31L0_fs : List (Nat × Sl) := [(1, .box 1001 0), (24, .v τ1), (25, .v τ5), (26, .v τ5)]
abbrev z31L0_bs : List (Nat × Sb) := [(1001, .cells [.v .str, .v .str, .v τ1])]
def z31L0_hd (c24 : List τ0) (c25 : Int) (κ1_0 : Str) (κ1_1 : Str) (κ1_2 : List τ0) (s26 : Int) : St := ⟨72, [(1, .box 1001 0), (24, .v τ1 c24), (25, .v τ5 c25), (26, .v τ5 s26)], [(1001, .cells [.v .str κ1_0, .v .str κ1_1, .v τ1 κ1_2])]⟩
def z31L0_tl1 (_c24 : List τ0) (_c25 : Int) (κ1_0 : Str) (κ1_1 : Str) (κ1_2 : List τ0) : St := ⟨72, [(1, .box 1001 0)], [(1001, .cells [.v .str κ1_0, .v .str κ1_1, .v τ1 κ1_2])]⟩
def z31L0_G (N : Nat) (c24 : List τ0) (c25 : Int) (κ1_0 : Str) (κ1_1 : Str) (κ1_2 : List τ0) (s26 : Int) (k : Ex → St → Option Int) : Option Int :=
 z31L0 N c24 c25 κ1_2 (k (.exit 1) (z31L0_tl1 c24 c25 κ1_0 κ1_1 κ1_2)) N s26
abbrev z31L0_F (N : Nat) : FV z31L0_fs → HV z31L0_bs → (Ex → St → Option Int) → Option Int := fun x y k => z31L0_G N x.2.1 x.2.2.1 y.1.1 y.1.2.1 y.1.2.2.1 x.2.2.2.1 k
abbrev z31L1_fs : List (Nat × Sl) := [(57, .v τ1), (58, .v τ5), (59, .v τ5)]
abbrev z31L1_bs : List (Nat × Sb) := []
def z31L1_hd (c57 : List τ0) (c58 : Int) (s59 : Int) : St := ⟨72, [(57, .v τ1 c57), (58, .v τ5 c58), (59, .v τ5 s59)], []⟩
def z31L1_tl3 (_c57 : List τ0) (_c58 : Int) : St := ⟨72, [], []⟩
def z31L1_G (N : Nat) (c57 : List τ0) (c58 : Int) (s59 : Int) (k : Ex → St → Option Int) : Option Int :=
 z31L1 N c57 c58 (k (.exit 3) (z31L1_tl3 c57 c58)) N s59
abbrev z31L1_F (N : Nat) : FV z31L1_fs → HV z31L1_bs → (Ex → St → Option Int) → Option Int := fun x _ k => z31L1_G N x.1 x.2.1 x.2.2.1 k
noncomputable def z31LP (N : Nat) : Nat → Code → St → (Ex → St → Option Int) → Option Int := fun i c =>
 match i with
 | 1 => (LPc 72 z31L0_fs z31L0_bs (z31L0_F N) (fun st k => iter (z31h 1) (exec (z31E N) N c 1) N st k))
 | 3 => (LPc 72 z31L1_fs z31L1_bs (z31L1_F N) (fun st k => iter (z31h 3) (exec (z31E N) N c 3) N st k))
 | i => fun st k => iter (z31h i) (exec (z31E N) N c i) N st k
theorem z31L1_step (N : Nat) (c57 : List τ0) (c58 : Int) (KX : Nat → St → Option Int) (I : St → Option Int) (s59 : Int) :
  execL (z31LP N) (z31E N) z31c0 3 (z31L1_hd c57 c58 s59) (roundK (z31h 3) I KX (z31R N)) = z31L1T N c57 c58 (KX 3 (z31L1_tl3 c57 c58)) (fun s59 => I (z31L1_hd c57 c58 s59)) s59 := by kernel_rfl
theorem z31L1_ok (N : Nat) : ∀ x y k, (∀ st, k .ret st = (z31R N) st) → iter (z31h 3) (exec (z31E N) N z31c0 3) N ⟨72, unF z31L1_fs x, unH z31L1_bs y⟩ k = z31L1_F N x y k := fun x _ k hk =>
 iter_link (S := (Int) × Unit) (z31h 3) _ (execL (z31LP N) (z31E N) z31c0 3) (z31R N) (fun st k hk => execL_eq _ _ N _ z31c0 3 (show LoopsOk (z31LP N) (z31E N) N (z31R N) [] from trivial) st k hk) (fun s => z31L1_hd x.1 x.2.1 s.1) k hk
  (fun self s => z31L1T N x.1 x.2.1 (k (.exit 3) (z31L1_tl3 x.1 x.2.1)) (fun s59 => self (s59, ())) s.1) (fun n s => z31L1 N x.1 x.2.1 (k (.exit 3) (z31L1_tl3 x.1 x.2.1)) n s.1) (fun _ => rfl) (fun _ _ => rfl)
  (fun I s => z31L1_step N x.1 x.2.1 (fun j => k (.exit j)) I s.1) N (x.2.2.1, ())
theorem z31lp3 (N : Nat) : ∀ st k, (∀ st, k .ret st = (z31R N) st) → z31LP N 3 z31c0 st k = iter (Env.hint (z31E N) 3) (exec (z31E N) N z31c0 3) N st k := fun st k hk => LPc_eq 72 z31L1_fs z31L1_bs _ _ (z31R N) (z31L1_ok N) _ st k hk (rfl)
theorem z31L0_step (N : Nat) (c24 : List τ0) (c25 : Int) (κ1_0 : Str) (κ1_1 : Str) (κ1_2 : List τ0) (KX : Nat → St → Option Int) (I : St → Option Int) (s26 : Int) :
  execL (z31LP N) (z31E N) z31c1 1 (z31L0_hd c24 c25 κ1_0 κ1_1 κ1_2 s26) (roundK (z31h 1) I KX (z31R N)) = z31L0T N c24 c25 κ1_2 (KX 1 (z31L0_tl1 c24 c25 κ1_0 κ1_1 κ1_2)) (fun s26 => I (z31L0_hd c24 c25 κ1_0 κ1_1 κ1_2 s26)) s26 := by kernel_rfl
theorem z31L0_ok (N : Nat) : ∀ x y k, (∀ st, k .ret st = (z31R N) st) → iter (z31h 1) (exec (z31E N) N z31c1 1) N ⟨72, unF z31L0_fs x, unH z31L0_bs y⟩ k = z31L0_F N x y k := fun x y k hk =>
 iter_link (S := (Int) × Unit) (z31h 1) _ (execL (z31LP N) (z31E N) z31c1 1) (z31R N) (fun st k hk => execL_eq _ _ N _ z31c1 1 (show LoopsOk (z31LP N) (z31E N) N (z31R N) [] from trivial) st k hk) (fun s => z31L0_hd x.2.1 x.2.2.1 y.1.1 y.1.2.1 y.1.2.2.1 s.1) k hk
  (fun self s => z31L0T N x.2.1 x.2.2.1 y.1.2.2.1 (k (.exit 1) (z31L0_tl1 x.2.1 x.2.2.1 y.1.1 y.1.2.1 y.1.2.2.1)) (fun s26 => self (s26, ())) s.1) (fun n s => z31L0 N x.2.1 x.2.2.1 y.1.2.2.1 (k (.exit 1) (z31L0_tl1 x.2.1 x.2.2.1 y.1.1 y.1.2.1 y.1.2.2.1)) n s.1) (fun _ => rfl) (fun _ _ => rfl)
  (fun I s => z31L0_step N x.2.1 x.2.2.1 y.1.1 y.1.2.1 y.1.2.2.1 (fun j => k (.exit j)) I s.1) N (x.2.2.2.1, ())
theorem z31lp1 (N : Nat) : ∀ st k, (∀ st, k .ret st = (z31R N) st) → z31LP N 1 z31c1 st k = iter (Env.hint (z31E N) 1) (exec (z31E N) N z31c1 1) N st k := fun st k hk => LPc_eq 72 z31L0_fs z31L0_bs _ _ (z31R N) (z31L0_ok N) _ st k hk (rfl)
theorem z31core (N : Nat) (x : SV [.v τ3]) (y : BV []) : runL (z31E N) Tryz.f53 (z31g N) z31pk (z31LP N) x y = ref2_CheckTarget N x.1 := by kernel_rfl
theorem z31sound (N : Nat) : Snd 53 (z31g N) :=
 sndL (z31fn_ok N) Tryz.func53 rfl Tryz.call53 (z31g N) z31pk (fun _ _ => rfl) N (z31LP N) (show LoopsOk (z31LP N) (z31E N) N (z31R N) [(1, z31c1), (3, z31c0)] from ⟨z31lp1 N, z31lp3 N, trivial⟩) (z31core N)
def z67L0T (_N : Nat) (x1 : Str) (c9 : List τ0) (c10 : Int) (k0 : Option (GValue × Bool)) (self : Int → Option (GValue × Bool)) (s11 : Int) : Option (GValue × Bool) :=
 br (decide (s11 < c10))
  (bnd (geti c9 s11) fun t13 =>
  br (t13.1 == x1)
   (some (GValue.mk t13.2.kind t13.2.text t13.2.number t13.2.list t13.2.cases, true))
   (self (IntKind.i64.wrap (s11 + (1 : Int)))))
  (k0)
def z67L0 (N : Nat) (x1 : Str) (c9 : List τ0) (c10 : Int) (k0 : Option (GValue × Bool)) : Nat → Int → Option (GValue × Bool)
 | 0, _ => none
 | n + 1, s11 => z67L0T N x1 c9 c10 k0 (z67L0 N x1 c9 c10 k0 n) s11
def ref2_attr (N : Nat) (x0 : Str × Str × List τ0) (x1 : Str) : Option (GValue × Bool) :=
 z67L0 N x1 x0.2.2 (x0.2.2.length : Int) (some (GValue.mk (0 : Int) ([] : Str) (0 : Int) ([] : List Str) ([] : List τ0), false)) N (0 : Int)
abbrev z67sg (f : SV [.v τ3, .v .str] → BV [] → Option (GValue × Bool)) : AF := { ps := [.v τ3, .v .str], bs := [], rs := [.v τ6, .v .bool], cs := [], R := GValue × Bool, out := fun z => ((z.1, z.2, ()), ()), f := f }
noncomputable abbrev z67g (N : Nat) : AF := z67sg fun x _ => ref2_attr N x.1 x.2.1
abbrev z67pk : SV [.v τ6, .v .bool] → BV [] → (GValue × Bool) := fun x _ => (x.1, x.2.1)
def z67fn (_N : Nat) : FuncId → Option Tmp → Option AF := fun f _ =>
 match f with
  | _ => none
theorem z67fn_ok (N : Nat) : FnOk (z67fn N) := by
 intro f q F h
 unfold z67fn at h
 split at h
 · cases h
def z67h : Nat → Hint := fun i =>
 match i with
 | 0 => ⟨[], [1, 4, 9, 10, 11], [1004], [4], [1004], []⟩
 | _ => hint0
abbrev z67E (N : Nat) : Env := mkE z67h (z67fn N) FF FF
noncomputable abbrev z67c0 : Code := cAt (bodyOf Tryz.f55) [true, false, true, false, false]
noncomputable abbrev z67R (N : Nat) := resD (z67E N) Tryz.f55 (z67g N) z67pk
abbrev z67L0_fs : List (Nat × Sl) := [(1, .v .str), (4, .box 1004 0), (9, .v τ1), (10, .v τ5), (11, .v τ5)]
abbrev z67L0_bs : List (Nat × Sb) := [(1004, .cells [.v τ5, .v .str, .v τ5, .nilS, .nilS])]
def z67L0_hd (x1 : Str) (c9 : List τ0) (c10 : Int) (κ4_0 : Int) (κ4_1 : Str) (κ4_2 : Int) (s11 : Int) : St := ⟨23, [(1, .v .str x1), (4, .box 1004 0), (9, .v τ1 c9), (10, .v τ5 c10), (11, .v τ5 s11)], [(1004, .cells [.v τ5 κ4_0, .v .str κ4_1, .v τ5 κ4_2, .nilS, .nilS])]⟩
def z67L0_tl0 (_x1 : Str) (_c9 : List τ0) (_c10 : Int) (κ4_0 : Int) (κ4_1 : Str) (κ4_2 : Int) : St := ⟨23, [(4, .box 1004 0)], [(1004, .cells [.v τ5 κ4_0, .v .str κ4_1, .v τ5 κ4_2, .nilS, .nilS])]⟩
def z67L0_G (N : Nat) (x1 : Str) (c9 : List τ0) (c10 : Int) (κ4_0 : Int) (κ4_1 : Str) (κ4_2 : Int) (s11 : Int) (k : Ex → St → Option (GValue × Bool)) : Option (GValue × Bool) :=
 z67L0 N x1 c9 c10 (k (.exit 0) (z67L0_tl0 x1 c9 c10 κ4_0 κ4_1 κ4_2)) N s11
abbrev z67L0_F (N : Nat) : FV z67L0_fs → HV z67L0_bs → (Ex → St → Option (GValue × Bool)) → Option (GValue × Bool) := fun x y k => z67L0_G N x.1 x.2.2.1 x.2.2.2.1 y.1.1 y.1.2.1 y.1.2.2.1 x.2.2.2.2.1 k
noncomputable def z67LP (N : Nat) : Nat → Code → St → (Ex → St → Option (GValue × Bool)) → Option (GValue × Bool) := fun i c =>
 match i with
 | 0 => (LPc 23 z67L0_fs z67L0_bs (z67L0_F N) (fun st k => iter (z67h 0) (exec (z67E N) N c 0) N st k))
 | i => fun st k => iter (z67h i) (exec (z67E N) N c i) N st k
theorem z67L0_step (N : Nat) (x1 : Str) (c9 : List τ0) (c10 : Int) (κ4_0 : Int) (κ4_1 : Str) (κ4_2 : Int) (KX : Nat → St → Option (GValue × Bool)) (I : St → Option (GValue × Bool)) (s11 : Int) :
  execL (z67LP N) (z67E N) z67c0 0 (z67L0_hd x1 c9 c10 κ4_0 κ4_1 κ4_2 s11) (roundK (z67h 0) I KX (z67R N)) = z67L0T N x1 c9 c10 (KX 0 (z67L0_tl0 x1 c9 c10 κ4_0 κ4_1 κ4_2)) (fun s11 => I (z67L0_hd x1 c9 c10 κ4_0 κ4_1 κ4_2 s11)) s11 := by kernel_rfl
theorem z67L0_ok (N : Nat) : ∀ x y k, (∀ st, k .ret st = (z67R N) st) → iter (z67h 0) (exec (z67E N) N z67c0 0) N ⟨23, unF z67L0_fs x, unH z67L0_bs y⟩ k = z67L0_F N x y k := fun x y k hk =>
 iter_link (S := (Int) × Unit) (z67h 0) _ (execL (z67LP N) (z67E N) z67c0 0) (z67R N) (fun st k hk => execL_eq _ _ N _ z67c0 0 (show LoopsOk (z67LP N) (z67E N) N (z67R N) [] from trivial) st k hk) (fun s => z67L0_hd x.1 x.2.2.1 x.2.2.2.1 y.1.1 y.1.2.1 y.1.2.2.1 s.1) k hk
  (fun self s => z67L0T N x.1 x.2.2.1 x.2.2.2.1 (k (.exit 0) (z67L0_tl0 x.1 x.2.2.1 x.2.2.2.1 y.1.1 y.1.2.1 y.1.2.2.1)) (fun s11 => self (s11, ())) s.1) (fun n s => z67L0 N x.1 x.2.2.1 x.2.2.2.1 (k (.exit 0) (z67L0_tl0 x.1 x.2.2.1 x.2.2.2.1 y.1.1 y.1.2.1 y.1.2.2.1)) n s.1) (fun _ => rfl) (fun _ _ => rfl)
  (fun I s => z67L0_step N x.1 x.2.2.1 x.2.2.2.1 y.1.1 y.1.2.1 y.1.2.2.1 (fun j => k (.exit j)) I s.1) N (x.2.2.2.2.1, ())
theorem z67lp0 (N : Nat) : ∀ st k, (∀ st, k .ret st = (z67R N) st) → z67LP N 0 z67c0 st k = iter (Env.hint (z67E N) 0) (exec (z67E N) N z67c0 0) N st k := fun st k hk => LPc_eq 23 z67L0_fs z67L0_bs _ _ (z67R N) (z67L0_ok N) _ st k hk (rfl)
theorem z67core (N : Nat) (x : SV [.v τ3, .v .str]) (y : BV []) : runL (z67E N) Tryz.f55 (z67g N) z67pk (z67LP N) x y = ref2_attr N x.1 x.2.1 := by kernel_rfl
theorem z67sound (N : Nat) : Snd 55 (z67g N) :=
 sndL (z67fn_ok N) Tryz.func55 rfl Tryz.call55 (z67g N) z67pk (fun _ _ => rfl) N (z67LP N) (show LoopsOk (z67LP N) (z67E N) N (z67R N) [(0, z67c0)] from ⟨z67lp0 N, trivial⟩) (z67core N)
def z19L0T (N : Nat) (c20 : List τ2) (c21 : Int) (κ1_1 : List τ2) (k0 : Option Int) (self : Int → Option Int) (s22 : Int) : Option Int :=
 br (decide (s22 < c21))
  (bnd (geti c20 s22) fun t25 =>
  bnd (script_CheckTarget N t25) fun t28 =>
  br (t28 != (0 : Int))
   (some t28)
   (br (decide (s22 > (0 : Int)))
    (bnd (geti κ1_1 (IntKind.i64.wrap (s22 - (1 : Int)))) fun t41 =>
    br (Op.bytesLess t25.1 t41.1 || t25.1 == t41.1)
     (some (8 : Int))
     (self (IntKind.i64.wrap (s22 + (1 : Int)))))
    (self (IntKind.i64.wrap (s22 + (1 : Int))))))
  (k0)
def z19L0 (N : Nat) (c20 : List τ2) (c21 : Int) (κ1_1 : List τ2) (k0 : Option Int) : Nat → Int → Option Int
 | 0, _ => none
 | n + 1, s22 => z19L0T N c20 c21 κ1_1 k0 (z19L0 N c20 c21 κ1_1 k0 n) s22
def script_CheckPackage (N : Nat) (x0 : Str × List τ2) : Option Int :=
 br (!(x0.1 == ([] : Str)))
  (bnd (blob_IsPath N x0.1) fun t12 =>
  br (!t12)
   (some (3 : Int))
   (br (decide ((x0.2.length : Int) > (500 : Int)))
    (some (2 : Int))
    (z19L0 N x0.2 (x0.2.length : Int) x0.2 (some (0 : Int)) N (0 : Int))))
  (br (decide ((x0.2.length : Int) > (500 : Int)))
   (some (2 : Int))
   (z19L0 N x0.2 (x0.2.length : Int) x0.2 (some (0 : Int)) N (0 : Int)))
abbrev z19sg (f : SV [.v τ12] → BV [] → Option (Int)) : AF := { ps := [.v τ12], bs := [], rs := [.v τ5], cs := [], R := Int, out := fun z => ((z, ()), ()), f := f }
noncomputable abbrev z19g (N : Nat) : AF := z19sg fun x _ => script_CheckPackage N x.1
abbrev z19pk : SV [.v τ5] → BV [] → Int := fun x _ => x.1
def z19fn (N : Nat) : FuncId → Option Tmp → Option AF := fun f _ =>
 match f with
  | 50 => some (z24g N)
  | 56 => some (z55g N)
  | _ => none
theorem z19fn_ok (N : Nat) : FnOk (z19fn N) := by
 intro f q F h
 unfold z19fn at h
 split at h
 · cases h; exact z24sound N
 · cases h; exact z55sound N
 · cases h
def z19h : Nat → Hint := fun i =>
 match i with
 | 0 => ⟨[], [1, 20, 21, 22], [1001], [], [], []⟩
 | _ => hint0
abbrev z19E (N : Nat) : Env := mkE z19h (z19fn N) FF FF
noncomputable abbrev z19c0 : Code := cAt (bodyOf Tryz.f20) [true, true, true, false, true, false, false]
noncomputable abbrev z19R (N : Nat) := resD (z19E N) Tryz.f20 (z19g N) z19pk
abbrev z19L0_fs : List (Nat × Sl) := [(1, .box 1001 0), (20, .v (.sl τ3)), (21, .v τ5), (22, .v τ5)]
abbrev z19L0_bs : List (Nat × Sb) := [(1001, .cells [.v .str, .v (.sl τ3)])]
def z19L0_hd (c20 : List τ2) (c21 : Int) (κ1_0 : Str) (κ1_1 : List τ2) (s22 : Int) : St := ⟨47, [(1, .box 1001 0), (20, .v (.sl τ3) c20), (21, .v τ5 c21), (22, .v τ5 s22)], [(1001, .cells [.v .str κ1_0, .v (.sl τ3) κ1_1])]⟩
def z19L0_tl0 (_c20 : List τ2) (_c21 : Int) (_κ1_0 : Str) (_κ1_1 : List τ2) : St := ⟨47, [], []⟩
def z19L0_G (N : Nat) (c20 : List τ2) (c21 : Int) (κ1_0 : Str) (κ1_1 : List τ2) (s22 : Int) (k : Ex → St → Option Int) : Option Int :=
 z19L0 N c20 c21 κ1_1 (k (.exit 0) (z19L0_tl0 c20 c21 κ1_0 κ1_1)) N s22
abbrev z19L0_F (N : Nat) : FV z19L0_fs → HV z19L0_bs → (Ex → St → Option Int) → Option Int := fun x y k => z19L0_G N x.2.1 x.2.2.1 y.1.1 y.1.2.1 x.2.2.2.1 k
noncomputable def z19LP (N : Nat) : Nat → Code → St → (Ex → St → Option Int) → Option Int := fun i c =>
 match i with
 | 0 => (LPc 47 z19L0_fs z19L0_bs (z19L0_F N) (fun st k => iter (z19h 0) (exec (z19E N) N c 0) N st k))
 | i => fun st k => iter (z19h i) (exec (z19E N) N c i) N st k
theorem z19L0_step (N : Nat) (c20 : List τ2) (c21 : Int) (κ1_0 : Str) (κ1_1 : List τ2) (KX : Nat → St → Option Int) (I : St → Option Int) (s22 : Int) :
  execL (z19LP N) (z19E N) z19c0 0 (z19L0_hd c20 c21 κ1_0 κ1_1 s22) (roundK (z19h 0) I KX (z19R N)) = z19L0T N c20 c21 κ1_1 (KX 0 (z19L0_tl0 c20 c21 κ1_0 κ1_1)) (fun s22 => I (z19L0_hd c20 c21 κ1_0 κ1_1 s22)) s22 := by kernel_rfl
theorem z19L0_ok (N : Nat) : ∀ x y k, (∀ st, k .ret st = (z19R N) st) → iter (z19h 0) (exec (z19E N) N z19c0 0) N ⟨47, unF z19L0_fs x, unH z19L0_bs y⟩ k = z19L0_F N x y k := fun x y k hk =>
 iter_link (S := (Int) × Unit) (z19h 0) _ (execL (z19LP N) (z19E N) z19c0 0) (z19R N) (fun st k hk => execL_eq _ _ N _ z19c0 0 (show LoopsOk (z19LP N) (z19E N) N (z19R N) [] from trivial) st k hk) (fun s => z19L0_hd x.2.1 x.2.2.1 y.1.1 y.1.2.1 s.1) k hk
  (fun self s => z19L0T N x.2.1 x.2.2.1 y.1.2.1 (k (.exit 0) (z19L0_tl0 x.2.1 x.2.2.1 y.1.1 y.1.2.1)) (fun s22 => self (s22, ())) s.1) (fun n s => z19L0 N x.2.1 x.2.2.1 y.1.2.1 (k (.exit 0) (z19L0_tl0 x.2.1 x.2.2.1 y.1.1 y.1.2.1)) n s.1) (fun _ => rfl) (fun _ _ => rfl)
  (fun I s => z19L0_step N x.2.1 x.2.2.1 y.1.1 y.1.2.1 (fun j => k (.exit j)) I s.1) N (x.2.2.2.1, ())
theorem z19lp0 (N : Nat) : ∀ st k, (∀ st, k .ret st = (z19R N) st) → z19LP N 0 z19c0 st k = iter (Env.hint (z19E N) 0) (exec (z19E N) N z19c0 0) N st k := fun st k hk => LPc_eq 47 z19L0_fs z19L0_bs _ _ (z19R N) (z19L0_ok N) _ st k hk (rfl)
theorem z19core (N : Nat) (x : SV [.v τ12]) (y : BV []) : runL (z19E N) Tryz.f20 (z19g N) z19pk (z19LP N) x y = script_CheckPackage N x.1 := by kernel_rfl
theorem z19sound (N : Nat) : Snd 20 (z19g N) :=
 sndL (z19fn_ok N) Tryz.func20 rfl Tryz.call20 (z19g N) z19pk (fun _ _ => rfl) N (z19LP N) (show LoopsOk (z19LP N) (z19E N) N (z19R N) [(0, z19c0)] from ⟨z19lp0 N, trivial⟩) (z19core N)
def z27L0T (N : Nat) (c15 : List τ2) (c16 : Int) (κ1_1 : List τ2) (k0 : Option Int) (self : Int → Option Int) (s17 : Int) : Option Int :=
 br (decide (s17 < c16))
  (bnd (geti c15 s17) fun t20 =>
  bnd (ref2_CheckTarget N t20) fun t23 =>
  br (t23 != (0 : Int))
   (some t23)
   (br (decide (s17 > (0 : Int)))
    (bnd (geti κ1_1 (IntKind.i64.wrap (s17 - (1 : Int)))) fun t36 =>
    br (Op.bytesLess t20.1 t36.1 || t20.1 == t36.1)
     (some (8 : Int))
     (self (IntKind.i64.wrap (s17 + (1 : Int)))))
    (self (IntKind.i64.wrap (s17 + (1 : Int))))))
  (k0)
def z27L0 (N : Nat) (c15 : List τ2) (c16 : Int) (κ1_1 : List τ2) (k0 : Option Int) : Nat → Int → Option Int
 | 0, _ => none
 | n + 1, s17 => z27L0T N c15 c16 κ1_1 k0 (z27L0 N c15 c16 κ1_1 k0 n) s17
def ref2_CheckPackage (N : Nat) (x0 : Str × List τ2) : Option Int :=
 bnd (ref2_isPkg N x0.1) fun t8 =>
 br (!t8)
  (some (3 : Int))
  (br (decide ((x0.2.length : Int) > (500 : Int)))
   (some (2 : Int))
   (z27L0 N x0.2 (x0.2.length : Int) x0.2 (some (0 : Int)) N (0 : Int)))
abbrev z27sg (f : SV [.v τ12] → BV [] → Option (Int)) : AF := { ps := [.v τ12], bs := [], rs := [.v τ5], cs := [], R := Int, out := fun z => ((z, ()), ()), f := f }
noncomputable abbrev z27g (N : Nat) : AF := z27sg fun x _ => ref2_CheckPackage N x.1
abbrev z27pk : SV [.v τ5] → BV [] → Int := fun x _ => x.1
def z27fn (N : Nat) : FuncId → Option Tmp → Option AF := fun f _ =>
 match f with
  | 53 => some (z31g N)
  | 57 => some (z65g N)
  | _ => none
theorem z27fn_ok (N : Nat) : FnOk (z27fn N) := by
 intro f q F h
 unfold z27fn at h
 split at h
 · cases h; exact z31sound N
 · cases h; exact z65sound N
 · cases h
def z27h : Nat → Hint := fun i =>
 match i with
 | 0 => ⟨[], [1, 15, 16, 17], [1001], [], [], []⟩
 | _ => hint0
abbrev z27E (N : Nat) : Env := mkE z27h (z27fn N) FF FF
noncomputable abbrev z27c0 : Code := cAt (bodyOf Tryz.f21) [true, true, true, false, true, false, false]
noncomputable abbrev z27R (N : Nat) := resD (z27E N) Tryz.f21 (z27g N) z27pk
abbrev z27L0_fs : List (Nat × Sl) := [(1, .box 1001 0), (15, .v (.sl τ3)), (16, .v τ5), (17, .v τ5)]
abbrev z27L0_bs : List (Nat × Sb) := [(1001, .cells [.v .str, .v (.sl τ3)])]
def z27L0_hd (c15 : List τ2) (c16 : Int) (κ1_0 : Str) (κ1_1 : List τ2) (s17 : Int) : St := ⟨42, [(1, .box 1001 0), (15, .v (.sl τ3) c15), (16, .v τ5 c16), (17, .v τ5 s17)], [(1001, .cells [.v .str κ1_0, .v (.sl τ3) κ1_1])]⟩
def z27L0_tl0 (_c15 : List τ2) (_c16 : Int) (_κ1_0 : Str) (_κ1_1 : List τ2) : St := ⟨42, [], []⟩
def z27L0_G (N : Nat) (c15 : List τ2) (c16 : Int) (κ1_0 : Str) (κ1_1 : List τ2) (s17 : Int) (k : Ex → St → Option Int) : Option Int :=
 z27L0 N c15 c16 κ1_1 (k (.exit 0) (z27L0_tl0 c15 c16 κ1_0 κ1_1)) N s17
abbrev z27L0_F (N : Nat) : FV z27L0_fs → HV z27L0_bs → (Ex → St → Option Int) → Option Int := fun x y k => z27L0_G N x.2.1 x.2.2.1 y.1.1 y.1.2.1 x.2.2.2.1 k
noncomputable def z27LP (N : Nat) : Nat → Code → St → (Ex → St → Option Int) → Option Int := fun i c =>
 match i with
 | 0 => (LPc 42 z27L0_fs z27L0_bs (z27L0_F N) (fun st k => iter (z27h 0) (exec (z27E N) N c 0) N st k))
 | i => fun st k => iter (z27h i) (exec (z27E N) N c i) N st k
theorem z27L0_step (N : Nat) (c15 : List τ2) (c16 : Int) (κ1_0 : Str) (κ1_1 : List τ2) (KX : Nat → St → Option Int) (I : St → Option Int) (s17 : Int) :
  execL (z27LP N) (z27E N) z27c0 0 (z27L0_hd c15 c16 κ1_0 κ1_1 s17) (roundK (z27h 0) I KX (z27R N)) = z27L0T N c15 c16 κ1_1 (KX 0 (z27L0_tl0 c15 c16 κ1_0 κ1_1)) (fun s17 => I (z27L0_hd c15 c16 κ1_0 κ1_1 s17)) s17 := by kernel_rfl
theorem z27L0_ok (N : Nat) : ∀ x y k, (∀ st, k .ret st = (z27R N) st) → iter (z27h 0) (exec (z27E N) N z27c0 0) N ⟨42, unF z27L0_fs x, unH z27L0_bs y⟩ k = z27L0_F N x y k := fun x y k hk =>
 iter_link (S := (Int) × Unit) (z27h 0) _ (execL (z27LP N) (z27E N) z27c0 0) (z27R N) (fun st k hk => execL_eq _ _ N _ z27c0 0 (show LoopsOk (z27LP N) (z27E N) N (z27R N) [] from trivial) st k hk) (fun s => z27L0_hd x.2.1 x.2.2.1 y.1.1 y.1.2.1 s.1) k hk
  (fun self s => z27L0T N x.2.1 x.2.2.1 y.1.2.1 (k (.exit 0) (z27L0_tl0 x.2.1 x.2.2.1 y.1.1 y.1.2.1)) (fun s17 => self (s17, ())) s.1) (fun n s => z27L0 N x.2.1 x.2.2.1 y.1.2.1 (k (.exit 0) (z27L0_tl0 x.2.1 x.2.2.1 y.1.1 y.1.2.1)) n s.1) (fun _ => rfl) (fun _ _ => rfl)
  (fun I s => z27L0_step N x.2.1 x.2.2.1 y.1.1 y.1.2.1 (fun j => k (.exit j)) I s.1) N (x.2.2.2.1, ())
theorem z27lp0 (N : Nat) : ∀ st k, (∀ st, k .ret st = (z27R N) st) → z27LP N 0 z27c0 st k = iter (Env.hint (z27E N) 0) (exec (z27E N) N z27c0 0) N st k := fun st k hk => LPc_eq 42 z27L0_fs z27L0_bs _ _ (z27R N) (z27L0_ok N) _ st k hk (rfl)
theorem z27core (N : Nat) (x : SV [.v τ12]) (y : BV []) : runL (z27E N) Tryz.f21 (z27g N) z27pk (z27LP N) x y = ref2_CheckPackage N x.1 := by kernel_rfl
theorem z27sound (N : Nat) : Snd 21 (z27g N) :=
 sndL (z27fn_ok N) Tryz.func21 rfl Tryz.call21 (z27g N) z27pk (fun _ _ => rfl) N (z27LP N) (show LoopsOk (z27LP N) (z27E N) N (z27R N) [(0, z27c0)] from ⟨z27lp0 N, trivial⟩) (z27core N)
def z36L0T (_N : Nat) (c8 : List τ2) (c9 : Int) (k0 : (List τ14) → Option (List τ14)) (self : Int → (List τ14) → Option (List τ14)) (s10 : Int) (m1006 : List τ14) : Option (List τ14) :=
 br (decide (s10 < c9))
  (bnd (geti c8 s10) fun t12 =>
  self (IntKind.i64.wrap (s10 + (1 : Int))) (mset m1006 t12.1 t12))
  (k0 m1006)
def z36L0 (N : Nat) (c8 : List τ2) (c9 : Int) (k0 : (List τ14) → Option (List τ14)) : Nat → Int → (List τ14) → Option (List τ14)
 | 0, _, _ => none
 | n + 1, s10, m1006 => z36L0T N c8 c9 k0 (z36L0 N c8 c9 k0 n) s10 m1006
def script_targetsOf (N : Nat) (x0 : Str × List τ2) : Option (List τ14) :=
 z36L0 N x0.2 (x0.2.length : Int) (fun o0_m1006 =>
   some o0_m1006) N (0 : Int) ([] : List τ14)
abbrev z36sg (f : SV [.v τ12] → BV [] → Option (List τ14)) : AF := { ps := [.v τ12], bs := [], rs := [.mref 0], cs := [.map τ3], R := List τ14, out := fun z => (((), ()), (z, ())), f := f }
noncomputable abbrev z36g (N : Nat) : AF := z36sg fun x _ => script_targetsOf N x.1
abbrev z36pk : SV [.mref 0] → BV [.map τ3] → (List τ14) := fun _ y => y.1
def z36fn (_N : Nat) : FuncId → Option Tmp → Option AF := fun f _ =>
 match f with
  | _ => none
theorem z36fn_ok (N : Nat) : FnOk (z36fn N) := by
 intro f q F h
 unfold z36fn at h
 split at h
 · cases h
def z36h : Nat → Hint := fun i =>
 match i with
 | 0 => ⟨[], [3, 8, 9, 10], [1006], [3], [1006], []⟩
 | _ => hint0
abbrev z36E (N : Nat) : Env := mkE z36h (z36fn N) FF FF
noncomputable abbrev z36c0 : Code := cAt (bodyOf Tryz.f64) [true, true, false, true, false, false]
noncomputable abbrev z36R (N : Nat) := resD (z36E N) Tryz.f64 (z36g N) z36pk
abbrev z36L0_fs : List (Nat × Sl) := [(3, .mref 1006), (8, .v (.sl τ3)), (9, .v τ5), (10, .v τ5)]
abbrev z36L0_bs : List (Nat × Sb) := [(1006, .map τ3)]
def z36L0_hd (c8 : List τ2) (c9 : Int) (s10 : Int) (m1006 : List τ14) : St := ⟨20, [(3, .mref 1006), (8, .v (.sl τ3) c8), (9, .v τ5 c9), (10, .v τ5 s10)], [(1006, .map τ3 m1006)]⟩
def z36L0_tl0 (_c8 : List τ2) (_c9 : Int) (o0_m1006 : List τ14) : St := ⟨20, [(3, .mref 1006)], [(1006, .map τ3 o0_m1006)]⟩
def z36L0_G (N : Nat) (c8 : List τ2) (c9 : Int) (s10 : Int) (m1006 : List τ14) (k : Ex → St → Option (List τ14)) : Option (List τ14) :=
 z36L0 N c8 c9 (fun o0_m1006 => k (.exit 0) (z36L0_tl0 c8 c9 o0_m1006)) N s10 m1006
abbrev z36L0_F (N : Nat) : FV z36L0_fs → HV z36L0_bs → (Ex → St → Option (List τ14)) → Option (List τ14) := fun x y k => z36L0_G N x.2.1 x.2.2.1 x.2.2.2.1 y.1 k
noncomputable def z36LP (N : Nat) : Nat → Code → St → (Ex → St → Option (List τ14)) → Option (List τ14) := fun i c =>
 match i with
 | 0 => (LPc 20 z36L0_fs z36L0_bs (z36L0_F N) (fun st k => iter (z36h 0) (exec (z36E N) N c 0) N st k))
 | i => fun st k => iter (z36h i) (exec (z36E N) N c i) N st k
theorem z36L0_step (N : Nat) (c8 : List τ2) (c9 : Int) (KX : Nat → St → Option (List τ14)) (I : St → Option (List τ14)) (s10 : Int) (m1006 : List τ14) :
  execL (z36LP N) (z36E N) z36c0 0 (z36L0_hd c8 c9 s10 m1006) (roundK (z36h 0) I KX (z36R N)) = z36L0T N c8 c9 (fun o0_m1006 => KX 0 (z36L0_tl0 c8 c9 o0_m1006)) (fun s10 m1006 => I (z36L0_hd c8 c9 s10 m1006)) s10 m1006 := by kernel_rfl
theorem z36L0_ok (N : Nat) : ∀ x y k, (∀ st, k .ret st = (z36R N) st) → iter (z36h 0) (exec (z36E N) N z36c0 0) N ⟨20, unF z36L0_fs x, unH z36L0_bs y⟩ k = z36L0_F N x y k := fun x y k hk =>
 iter_link (S := (Int) × (List τ14) × Unit) (z36h 0) _ (execL (z36LP N) (z36E N) z36c0 0) (z36R N) (fun st k hk => execL_eq _ _ N _ z36c0 0 (show LoopsOk (z36LP N) (z36E N) N (z36R N) [] from trivial) st k hk) (fun s => z36L0_hd x.2.1 x.2.2.1 s.1 s.2.1) k hk
  (fun self s => z36L0T N x.2.1 x.2.2.1 (fun o0_m1006 => k (.exit 0) (z36L0_tl0 x.2.1 x.2.2.1 o0_m1006)) (fun s10 m1006 => self (s10, m1006, ())) s.1 s.2.1) (fun n s => z36L0 N x.2.1 x.2.2.1 (fun o0_m1006 => k (.exit 0) (z36L0_tl0 x.2.1 x.2.2.1 o0_m1006)) n s.1 s.2.1) (fun _ => rfl) (fun _ _ => rfl)
  (fun I s => z36L0_step N x.2.1 x.2.2.1 (fun j => k (.exit j)) I s.1 s.2.1) N (x.2.2.2.1, y.1, ())
theorem z36lp0 (N : Nat) : ∀ st k, (∀ st, k .ret st = (z36R N) st) → z36LP N 0 z36c0 st k = iter (Env.hint (z36E N) 0) (exec (z36E N) N z36c0 0) N st k := fun st k hk => LPc_eq 20 z36L0_fs z36L0_bs _ _ (z36R N) (z36L0_ok N) _ st k hk (rfl)
theorem z36core (N : Nat) (x : SV [.v τ12]) (y : BV []) : runL (z36E N) Tryz.f64 (z36g N) z36pk (z36LP N) x y = script_targetsOf N x.1 := by kernel_rfl
theorem z36sound (N : Nat) : Snd 64 (z36g N) :=
 sndL (z36fn_ok N) Tryz.func64 rfl Tryz.call64 (z36g N) z36pk (fun _ _ => rfl) N (z36LP N) (show LoopsOk (z36LP N) (z36E N) N (z36R N) [(0, z36c0)] from ⟨z36lp0 N, trivial⟩) (z36core N)
def z25L0T (N : Nat) (c21 : List τ0) (c22 : Int) (κ3_0 : Str) (κ3_1 : Str) (κ3_2 : List τ0) (k0 : (List (Str × Bool)) → Option τ10) (self : Int → (List (Str × Bool)) → Option τ10) (s23 : Int) (m1019 : List (Str × Bool)) : Option τ10 :=
 br (decide (s23 < c22))
  (bnd (geti c21 s23) fun t25 =>
  bnd (script_Attr N (κ3_0, (κ3_1, κ3_2)) t25.1) fun t31 =>
  br (!t31.2.1)
   (self (IntKind.i64.wrap (s23 + (1 : Int))) (mset m1019 t25.1 true))
   (bnd (script_Equal N (script_Equal_1 N N) (GValue.mk t31.1.kind t31.1.text t31.1.number t31.1.list t31.1.cases) (GValue.mk t25.2.kind t25.2.text t25.2.number t25.2.list t25.2.cases)) fun t44 =>
   self (IntKind.i64.wrap (s23 + (1 : Int))) (mset m1019 t25.1 (!t44))))
  (k0 m1019)
def z25L0 (N : Nat) (c21 : List τ0) (c22 : Int) (κ3_0 : Str) (κ3_1 : Str) (κ3_2 : List τ0) (k0 : (List (Str × Bool)) → Option τ10) : Nat → Int → (List (Str × Bool)) → Option τ10
 | 0, _, _ => none
 | n + 1, s23, m1019 => z25L0T N c21 c22 κ3_0 κ3_1 κ3_2 k0 (z25L0 N c21 c22 κ3_0 κ3_1 κ3_2 k0 n) s23 m1019
def z25L1T (N : Nat) (c49 : List τ0) (c50 : Int) (c1002_0_1 : Str) (c1002_1_2 : Str) (c1002_2_3 : List τ0) (k2 : (List (Str × Bool)) → Option τ10) (self : Int → (List (Str × Bool)) → Option τ10) (s51 : Int) (m1019_7 : List (Str × Bool)) : Option τ10 :=
 br (decide (s51 < c50))
  (bnd (geti c49 s51) fun t53 =>
  bnd (script_Attr N (c1002_0_1, (c1002_1_2, c1002_2_3)) t53.1) fun t59 =>
  br (!t59.2.1)
   (self (IntKind.i64.wrap (s51 + (1 : Int))) (mset m1019_7 t53.1 true))
   (self (IntKind.i64.wrap (s51 + (1 : Int))) m1019_7))
  (k2 m1019_7)
def z25L1 (N : Nat) (c49 : List τ0) (c50 : Int) (c1002_0_1 : Str) (c1002_1_2 : Str) (c1002_2_3 : List τ0) (k2 : (List (Str × Bool)) → Option τ10) : Nat → Int → (List (Str × Bool)) → Option τ10
 | 0, _, _ => none
 | n + 1, s51, m1019_7 => z25L1T N c49 c50 c1002_0_1 c1002_1_2 c1002_2_3 k2 (z25L1 N c49 c50 c1002_0_1 c1002_1_2 c1002_2_3 k2 n) s51 m1019_7
def z25L2T (_N : Nat) (k4 : τ10 → Option τ10) (self : τ10 → (List (Str × Bool)) → Option τ10) (w1016 : List Str) (i1070 : List (Str × Bool)) : Option τ10 :=
 br (i1070.isEmpty)
  (k4 w1016)
  (allC i1070 fun p71 q71 =>
  br (p71.2)
   (br (decide ((w1016.length + [p71.1].length) * (24 * Ty.sz .str) ≤ 140737488355328))
    (self (w1016 ++ [p71.1]) q71)
    none)
   (self w1016 q71))
def z25L2 (N : Nat) (k4 : τ10 → Option τ10) : Nat → τ10 → (List (Str × Bool)) → Option τ10
 | 0, _, _ => none
 | n + 1, w1016, i1070 => z25L2T N k4 (z25L2 N k4 n) w1016 i1070
def script_attrsDiffer (N : Nat) (x0 : Str × Str × List τ0) (x1 : Str × Str × List τ0) : Option τ10 :=
 z25L0 N x0.2.2 (x0.2.2.length : Int) x1.1 x1.2.1 x1.2.2 (fun o0_m1019 =>
   z25L1 N x1.2.2 (x1.2.2.length : Int) x0.1 x0.2.1 x0.2.2 (fun o1_m1019 =>
     z25L2 N (fun o2_w1016 =>
       bnd (slices_Sort_string_string o2_w1016) fun t82 =>
       br (!(x0.2.1 == x1.2.1))
        (bnd (slices_Insert_string (0 : Int) t82 [([107, 105, 110, 100] : Str)]) fun t90 =>
        some t90)
        (some t82)) N ([] : List Str) o1_m1019) N (0 : Int) o0_m1019) N (0 : Int) ([] : List (Str × Bool))
abbrev z25sg (f : SV [.v τ3, .v τ3] → BV [] → Option τ10) : AF := { ps := [.v τ3, .v τ3], bs := [], rs := [.row 0], cs := [.row 9 .str true], R := List Str, out := fun z => (((), ()), (z, ())), f := f }
noncomputable abbrev z25g (N : Nat) : AF := z25sg fun x _ => script_attrsDiffer N x.1 x.2.1
abbrev z25pk : SV [.row 0] → BV [.row 9 .str true] → τ10 := fun _ y => y.1
def z25fn (N : Nat) : FuncId → Option Tmp → Option AF := fun f _ =>
 match f with
  | 18 => some (z64g N)
  | 49 => some (z52sg fun x _ => script_Equal N (script_Equal_1 N N) x.1 x.2.1)
  | 70 => some (slices_Sort_string_string_sg fun _ y => slices_Sort_string_string y.1)
  | 109 => some (z18sg fun x y => slices_Insert_string x.2.1 y.1 y.2.1)
  | _ => none
theorem z25fn_ok (N : Nat) : FnOk (z25fn N) := by
 intro f q F h
 unfold z25fn at h
 split at h
 · cases h; exact z64sound N
 · cases h; exact z52sound N (script_Equal_1 N N) (z44sound N N)
 · cases h; exact slices_Sort_string_string_sound
 · cases h; exact z18sound
 · cases h
def z25h : Nat → Hint := fun i =>
 match i with
 | 0 => ⟨[], [2, 3, 5, 21, 22, 23], [1002, 1003, 1019], [2, 3, 5], [1002, 1003, 1019], []⟩
 | 2 => ⟨[], [2, 3, 5, 49, 50, 51], [1002, 1003, 1019], [2, 3, 5], [1002, 1003, 1019], []⟩
 | 4 => ⟨[], [2, 3, 16, 70], [1002, 1003, 1016, 1070], [2, 3, 16], [1002, 1003, 1016], []⟩
 | 100006 => ⟨[1007, 1008], [1], [], [], [], []⟩
 | _ => hint0
abbrev z25E (N : Nat) : Env := mkE z25h (z25fn N) (fun i => match i with | 16 => true | _ => false) (fun _ => false)
noncomputable abbrev z25c2 : Code := cAt (bodyOf Tryz.f65) [true, true, false, true, false, false]
noncomputable abbrev z25c1 : Code := cAt (bodyOf Tryz.f65) [true, true, true, false, true, false, false]
noncomputable abbrev z25c0 : Code := cAt (bodyOf Tryz.f65) [true, true, true, true, true, false, true, false, false]
noncomputable abbrev z25R (N : Nat) := resD (z25E N) Tryz.f65 (z25g N) z25pk
abbrev z25L0_fs : List (Nat × Sl) := [(2, .box 1002 0), (3, .box 1003 0), (5, .mref 1019), (21, .v τ1), (22, .v τ5), (23, .v τ5)]
abbrev z25L0_bs : List (Nat × Sb) := [(1002, .cells [.v .str, .v .str, .v τ1]), (1003, .cells [.v .str, .v .str, .v τ1]), (1019, .map .bool)]
def z25L0_hd (c21 : List τ0) (c22 : Int) (κ2_0 : Str) (κ2_1 : Str) (κ2_2 : List τ0) (κ3_0 : Str) (κ3_1 : Str) (κ3_2 : List τ0) (s23 : Int) (m1019 : List (Str × Bool)) : St := ⟨92, [(2, .box 1002 0), (3, .box 1003 0), (5, .mref 1019), (21, .v τ1 c21), (22, .v τ5 c22), (23, .v τ5 s23)], [(1002, .cells [.v .str κ2_0, .v .str κ2_1, .v τ1 κ2_2]), (1003, .cells [.v .str κ3_0, .v .str κ3_1, .v τ1 κ3_2]), (1019, .map .bool m1019)]⟩
def z25L0_tl0 (_c21 : List τ0) (_c22 : Int) (κ2_0 : Str) (κ2_1 : Str) (κ2_2 : List τ0) (κ3_0 : Str) (κ3_1 : Str) (κ3_2 : List τ0) (o0_m1019 : List (Str × Bool)) : St := ⟨92, [(2, .box 1002 0), (3, .box 1003 0), (5, .mref 1019)], [(1002, .cells [.v .str κ2_0, .v .str κ2_1, .v τ1 κ2_2]), (1003, .cells [.v .str κ3_0, .v .str κ3_1, .v τ1 κ3_2]), (1019, .map .bool o0_m1019)]⟩
def z25L0_G (N : Nat) (c21 : List τ0) (c22 : Int) (κ2_0 : Str) (κ2_1 : Str) (κ2_2 : List τ0) (κ3_0 : Str) (κ3_1 : Str) (κ3_2 : List τ0) (s23 : Int) (m1019 : List (Str × Bool)) (k : Ex → St → Option τ10) : Option τ10 :=
 z25L0 N c21 c22 κ3_0 κ3_1 κ3_2 (fun o0_m1019 => k (.exit 0) (z25L0_tl0 c21 c22 κ2_0 κ2_1 κ2_2 κ3_0 κ3_1 κ3_2 o0_m1019)) N s23 m1019
abbrev z25L0_F (N : Nat) : FV z25L0_fs → HV z25L0_bs → (Ex → St → Option τ10) → Option τ10 := fun x y k => z25L0_G N x.2.2.2.1 x.2.2.2.2.1 y.1.1 y.1.2.1 y.1.2.2.1 y.2.1.1 y.2.1.2.1 y.2.1.2.2.1 x.2.2.2.2.2.1 y.2.2.1 k
abbrev z25L1_fs : List (Nat × Sl) := [(2, .box 1002 0), (3, .box 1003 0), (5, .mref 1019), (49, .v τ1), (50, .v τ5), (51, .v τ5)]
abbrev z25L1_bs : List (Nat × Sb) := [(1002, .cells [.v .str, .v .str, .v τ1]), (1003, .cells [.v .str, .v .str, .v τ1]), (1019, .map .bool)]
def z25L1_hd (c49 : List τ0) (c50 : Int) (c1002_0_1 : Str) (c1002_1_2 : Str) (c1002_2_3 : List τ0) (c1003_0_4 : Str) (c1003_1_5 : Str) (c1003_2_6 : List τ0) (s51 : Int) (m1019_7 : List (Str × Bool)) : St := ⟨92, [(2, .box 1002 0), (3, .box 1003 0), (5, .mref 1019), (49, .v τ1 c49), (50, .v τ5 c50), (51, .v τ5 s51)], [(1002, .cells [.v .str c1002_0_1, .v .str c1002_1_2, .v τ1 c1002_2_3]), (1003, .cells [.v .str c1003_0_4, .v .str c1003_1_5, .v τ1 c1003_2_6]), (1019, .map .bool m1019_7)]⟩
def z25L1_tl2 (_c49 : List τ0) (_c50 : Int) (c1002_0_1 : Str) (c1002_1_2 : Str) (c1002_2_3 : List τ0) (c1003_0_4 : Str) (c1003_1_5 : Str) (c1003_2_6 : List τ0) (o1_m1019 : List (Str × Bool)) : St := ⟨92, [(2, .box 1002 0), (3, .box 1003 0), (5, .mref 1019)], [(1002, .cells [.v .str c1002_0_1, .v .str c1002_1_2, .v τ1 c1002_2_3]), (1003, .cells [.v .str c1003_0_4, .v .str c1003_1_5, .v τ1 c1003_2_6]), (1019, .map .bool o1_m1019)]⟩
def z25L1_G (N : Nat) (c49 : List τ0) (c50 : Int) (c1002_0_1 : Str) (c1002_1_2 : Str) (c1002_2_3 : List τ0) (c1003_0_4 : Str) (c1003_1_5 : Str) (c1003_2_6 : List τ0) (s51 : Int) (m1019_7 : List (Str × Bool)) (k : Ex → St → Option τ10) : Option τ10 :=
 z25L1 N c49 c50 c1002_0_1 c1002_1_2 c1002_2_3 (fun o1_m1019 => k (.exit 2) (z25L1_tl2 c49 c50 c1002_0_1 c1002_1_2 c1002_2_3 c1003_0_4 c1003_1_5 c1003_2_6 o1_m1019)) N s51 m1019_7
abbrev z25L1_F (N : Nat) : FV z25L1_fs → HV z25L1_bs → (Ex → St → Option τ10) → Option τ10 := fun x y k => z25L1_G N x.2.2.2.1 x.2.2.2.2.1 y.1.1 y.1.2.1 y.1.2.2.1 y.2.1.1 y.2.1.2.1 y.2.1.2.2.1 x.2.2.2.2.2.1 y.2.2.1 k
abbrev z25L2_fs : List (Nat × Sl) := [(2, .box 1002 0), (3, .box 1003 0), (16, .row 1016), (70, .box 1070 0)]
abbrev z25L2_bs : List (Nat × Sb) := [(1002, .cells [.v .str, .v .str, .v τ1]), (1003, .cells [.v .str, .v .str, .v τ1]), (1016, .row 9 .str true), (1070, .iter .bool)]
def z25L2_hd (c1002_0_8 : Str) (c1002_1_9 : Str) (c1002_2_10 : List τ0) (c1003_0_11 : Str) (c1003_1_12 : Str) (c1003_2_13 : List τ0) (w1016 : List Str) (i1070 : List (Str × Bool)) : St := ⟨92, [(2, .box 1002 0), (3, .box 1003 0), (16, .row 1016), (70, .box 1070 0)], [(1002, .cells [.v .str c1002_0_8, .v .str c1002_1_9, .v τ1 c1002_2_10]), (1003, .cells [.v .str c1003_0_11, .v .str c1003_1_12, .v τ1 c1003_2_13]), (1016, .row 9 .str true w1016), (1070, .iter .bool i1070 none)]⟩
def z25L2_tl4 (c1002_0_8 : Str) (c1002_1_9 : Str) (c1002_2_10 : List τ0) (c1003_0_11 : Str) (c1003_1_12 : Str) (c1003_2_13 : List τ0) (o2_w1016 : List Str) : St := ⟨92, [(2, .box 1002 0), (3, .box 1003 0), (16, .row 1016)], [(1002, .cells [.v .str c1002_0_8, .v .str c1002_1_9, .v τ1 c1002_2_10]), (1003, .cells [.v .str c1003_0_11, .v .str c1003_1_12, .v τ1 c1003_2_13]), (1016, .row 9 .str true o2_w1016)]⟩
def z25L2_G (N : Nat) (c1002_0_8 : Str) (c1002_1_9 : Str) (c1002_2_10 : List τ0) (c1003_0_11 : Str) (c1003_1_12 : Str) (c1003_2_13 : List τ0) (w1016 : List Str) (i1070 : List (Str × Bool)) (k : Ex → St → Option τ10) : Option τ10 :=
 z25L2 N (fun o2_w1016 => k (.exit 4) (z25L2_tl4 c1002_0_8 c1002_1_9 c1002_2_10 c1003_0_11 c1003_1_12 c1003_2_13 o2_w1016)) N w1016 i1070
abbrev z25L2_F (N : Nat) : FV z25L2_fs → HV z25L2_bs → (Ex → St → Option τ10) → Option τ10 := fun _ y k => z25L2_G N y.1.1 y.1.2.1 y.1.2.2.1 y.2.1.1 y.2.1.2.1 y.2.1.2.2.1 y.2.2.1 y.2.2.2.1 k
noncomputable def z25LP (N : Nat) : Nat → Code → St → (Ex → St → Option τ10) → Option τ10 := fun i c =>
 match i with
 | 0 => (LPc 92 z25L0_fs z25L0_bs (z25L0_F N) (fun st k => iter (z25h 0) (exec (z25E N) N c 0) N st k))
 | 2 => (LPc 92 z25L1_fs z25L1_bs (z25L1_F N) (fun st k => iter (z25h 2) (exec (z25E N) N c 2) N st k))
 | 4 => (LPc 92 z25L2_fs z25L2_bs (z25L2_F N) (fun st k => iter (z25h 4) (exec (z25E N) N c 4) N st k))
 | i => fun st k => iter (z25h i) (exec (z25E N) N c i) N st k
theorem z25L2_step (N : Nat) (c1002_0_8 : Str) (c1002_1_9 : Str) (c1002_2_10 : List τ0) (c1003_0_11 : Str) (c1003_1_12 : Str) (c1003_2_13 : List τ0) (KX : Nat → St → Option τ10) (I : St → Option τ10) (w1016 : List Str) (i1070 : List (Str × Bool)) :
  execL (z25LP N) (z25E N) z25c0 4 (z25L2_hd c1002_0_8 c1002_1_9 c1002_2_10 c1003_0_11 c1003_1_12 c1003_2_13 w1016 i1070) (roundK (z25h 4) I KX (z25R N)) = z25L2T N (fun o2_w1016 => KX 4 (z25L2_tl4 c1002_0_8 c1002_1_9 c1002_2_10 c1003_0_11 c1003_1_12 c1003_2_13 o2_w1016)) (fun w1016 i1070 => I (z25L2_hd c1002_0_8 c1002_1_9 c1002_2_10 c1003_0_11 c1003_1_12 c1003_2_13 w1016 i1070)) w1016 i1070 := by kernel_rfl
theorem z25L2_ok (N : Nat) : ∀ x y k, (∀ st, k .ret st = (z25R N) st) → iter (z25h 4) (exec (z25E N) N z25c0 4) N ⟨92, unF z25L2_fs x, unH z25L2_bs y⟩ k = z25L2_F N x y k := fun x y k hk =>
 iter_link (S := τ10 × (List (Str × Bool)) × Unit) (z25h 4) _ (execL (z25LP N) (z25E N) z25c0 4) (z25R N) (fun st k hk => execL_eq _ _ N _ z25c0 4 (show LoopsOk (z25LP N) (z25E N) N (z25R N) [] from trivial) st k hk) (fun s => z25L2_hd y.1.1 y.1.2.1 y.1.2.2.1 y.2.1.1 y.2.1.2.1 y.2.1.2.2.1 s.1 s.2.1) k hk
  (fun self s => z25L2T N (fun o2_w1016 => k (.exit 4) (z25L2_tl4 y.1.1 y.1.2.1 y.1.2.2.1 y.2.1.1 y.2.1.2.1 y.2.1.2.2.1 o2_w1016)) (fun w1016 i1070 => self (w1016, i1070, ())) s.1 s.2.1) (fun n s => z25L2 N (fun o2_w1016 => k (.exit 4) (z25L2_tl4 y.1.1 y.1.2.1 y.1.2.2.1 y.2.1.1 y.2.1.2.1 y.2.1.2.2.1 o2_w1016)) n s.1 s.2.1) (fun _ => rfl) (fun _ _ => rfl)
  (fun I s => z25L2_step N y.1.1 y.1.2.1 y.1.2.2.1 y.2.1.1 y.2.1.2.1 y.2.1.2.2.1 (fun j => k (.exit j)) I s.1 s.2.1) N (y.2.2.1, y.2.2.2.1, ())
theorem z25lp4 (N : Nat) : ∀ st k, (∀ st, k .ret st = (z25R N) st) → z25LP N 4 z25c0 st k = iter (Env.hint (z25E N) 4) (exec (z25E N) N z25c0 4) N st k := fun st k hk => LPc_eq 92 z25L2_fs z25L2_bs _ _ (z25R N) (z25L2_ok N) _ st k hk (rfl)
theorem z25L1_step (N : Nat) (c49 : List τ0) (c50 : Int) (c1002_0_1 : Str) (c1002_1_2 : Str) (c1002_2_3 : List τ0) (c1003_0_4 : Str) (c1003_1_5 : Str) (c1003_2_6 : List τ0) (KX : Nat → St → Option τ10) (I : St → Option τ10) (s51 : Int) (m1019_7 : List (Str × Bool)) :
  execL (z25LP N) (z25E N) z25c1 2 (z25L1_hd c49 c50 c1002_0_1 c1002_1_2 c1002_2_3 c1003_0_4 c1003_1_5 c1003_2_6 s51 m1019_7) (roundK (z25h 2) I KX (z25R N)) = z25L1T N c49 c50 c1002_0_1 c1002_1_2 c1002_2_3 (fun o1_m1019 => KX 2 (z25L1_tl2 c49 c50 c1002_0_1 c1002_1_2 c1002_2_3 c1003_0_4 c1003_1_5 c1003_2_6 o1_m1019)) (fun s51 m1019_7 => I (z25L1_hd c49 c50 c1002_0_1 c1002_1_2 c1002_2_3 c1003_0_4 c1003_1_5 c1003_2_6 s51 m1019_7)) s51 m1019_7 := by kernel_rfl
theorem z25L1_ok (N : Nat) : ∀ x y k, (∀ st, k .ret st = (z25R N) st) → iter (z25h 2) (exec (z25E N) N z25c1 2) N ⟨92, unF z25L1_fs x, unH z25L1_bs y⟩ k = z25L1_F N x y k := fun x y k hk =>
 iter_link (S := (Int) × (List (Str × Bool)) × Unit) (z25h 2) _ (execL (z25LP N) (z25E N) z25c1 2) (z25R N) (fun st k hk => execL_eq _ _ N _ z25c1 2 (show LoopsOk (z25LP N) (z25E N) N (z25R N) [] from trivial) st k hk) (fun s => z25L1_hd x.2.2.2.1 x.2.2.2.2.1 y.1.1 y.1.2.1 y.1.2.2.1 y.2.1.1 y.2.1.2.1 y.2.1.2.2.1 s.1 s.2.1) k hk
  (fun self s => z25L1T N x.2.2.2.1 x.2.2.2.2.1 y.1.1 y.1.2.1 y.1.2.2.1 (fun o1_m1019 => k (.exit 2) (z25L1_tl2 x.2.2.2.1 x.2.2.2.2.1 y.1.1 y.1.2.1 y.1.2.2.1 y.2.1.1 y.2.1.2.1 y.2.1.2.2.1 o1_m1019)) (fun s51 m1019_7 => self (s51, m1019_7, ())) s.1 s.2.1) (fun n s => z25L1 N x.2.2.2.1 x.2.2.2.2.1 y.1.1 y.1.2.1 y.1.2.2.1 (fun o1_m1019 => k (.exit 2) (z25L1_tl2 x.2.2.2.1 x.2.2.2.2.1 y.1.1 y.1.2.1 y.1.2.2.1 y.2.1.1 y.2.1.2.1 y.2.1.2.2.1 o1_m1019)) n s.1 s.2.1) (fun _ => rfl) (fun _ _ => rfl)
  (fun I s => z25L1_step N x.2.2.2.1 x.2.2.2.2.1 y.1.1 y.1.2.1 y.1.2.2.1 y.2.1.1 y.2.1.2.1 y.2.1.2.2.1 (fun j => k (.exit j)) I s.1 s.2.1) N (x.2.2.2.2.2.1, y.2.2.1, ())
theorem z25lp2 (N : Nat) : ∀ st k, (∀ st, k .ret st = (z25R N) st) → z25LP N 2 z25c1 st k = iter (Env.hint (z25E N) 2) (exec (z25E N) N z25c1 2) N st k := fun st k hk => LPc_eq 92 z25L1_fs z25L1_bs _ _ (z25R N) (z25L1_ok N) _ st k hk (rfl)
theorem z25L0_step (N : Nat) (c21 : List τ0) (c22 : Int) (κ2_0 : Str) (κ2_1 : Str) (κ2_2 : List τ0) (κ3_0 : Str) (κ3_1 : Str) (κ3_2 : List τ0) (KX : Nat → St → Option τ10) (I : St → Option τ10) (s23 : Int) (m1019 : List (Str × Bool)) :
  execL (z25LP N) (z25E N) z25c2 0 (z25L0_hd c21 c22 κ2_0 κ2_1 κ2_2 κ3_0 κ3_1 κ3_2 s23 m1019) (roundK (z25h 0) I KX (z25R N)) = z25L0T N c21 c22 κ3_0 κ3_1 κ3_2 (fun o0_m1019 => KX 0 (z25L0_tl0 c21 c22 κ2_0 κ2_1 κ2_2 κ3_0 κ3_1 κ3_2 o0_m1019)) (fun s23 m1019 => I (z25L0_hd c21 c22 κ2_0 κ2_1 κ2_2 κ3_0 κ3_1 κ3_2 s23 m1019)) s23 m1019 := by kernel_rfl
theorem z25L0_ok (N : Nat) : ∀ x y k, (∀ st, k .ret st = (z25R N) st) → iter (z25h 0) (exec (z25E N) N z25c2 0) N ⟨92, unF z25L0_fs x, unH z25L0_bs y⟩ k = z25L0_F N x y k := fun x y k hk =>
 iter_link (S := (Int) × (List (Str × Bool)) × Unit) (z25h 0) _ (execL (z25LP N) (z25E N) z25c2 0) (z25R N) (fun st k hk => execL_eq _ _ N _ z25c2 0 (show LoopsOk (z25LP N) (z25E N) N (z25R N) [] from trivial) st k hk) (fun s => z25L0_hd x.2.2.2.1 x.2.2.2.2.1 y.1.1 y.1.2.1 y.1.2.2.1 y.2.1.1 y.2.1.2.1 y.2.1.2.2.1 s.1 s.2.1) k hk
  (fun self s => z25L0T N x.2.2.2.1 x.2.2.2.2.1 y.2.1.1 y.2.1.2.1 y.2.1.2.2.1 (fun o0_m1019 => k (.exit 0) (z25L0_tl0 x.2.2.2.1 x.2.2.2.2.1 y.1.1 y.1.2.1 y.1.2.2.1 y.2.1.1 y.2.1.2.1 y.2.1.2.2.1 o0_m1019)) (fun s23 m1019 => self (s23, m1019, ())) s.1 s.2.1) (fun n s => z25L0 N x.2.2.2.1 x.2.2.2.2.1 y.2.1.1 y.2.1.2.1 y.2.1.2.2.1 (fun o0_m1019 => k (.exit 0) (z25L0_tl0 x.2.2.2.1 x.2.2.2.2.1 y.1.1 y.1.2.1 y.1.2.2.1 y.2.1.1 y.2.1.2.1 y.2.1.2.2.1 o0_m1019)) n s.1 s.2.1) (fun _ => rfl) (fun _ _ => rfl)
  (fun I s => z25L0_step N x.2.2.2.1 x.2.2.2.2.1 y.1.1 y.1.2.1 y.1.2.2.1 y.2.1.1 y.2.1.2.1 y.2.1.2.2.1 (fun j => k (.exit j)) I s.1 s.2.1) N (x.2.2.2.2.2.1, y.2.2.1, ())
theorem z25lp0 (N : Nat) : ∀ st k, (∀ st, k .ret st = (z25R N) st) → z25LP N 0 z25c2 st k = iter (Env.hint (z25E N) 0) (exec (z25E N) N z25c2 0) N st k := fun st k hk => LPc_eq 92 z25L0_fs z25L0_bs _ _ (z25R N) (z25L0_ok N) _ st k hk (rfl)
theorem z25core (N : Nat) (x : SV [.v τ3, .v τ3]) (y : BV []) : runL (z25E N) Tryz.f65 (z25g N) z25pk (z25LP N) x y = script_attrsDiffer N x.1 x.2.1 := by kernel_rfl
theorem z25sound (N : Nat) : Snd 65 (z25g N) :=
 runD_sound (mkE_ok z25h (z25fn N) _ _ (z25fn_ok N)) Tryz.func65 rfl Tryz.call65 (z25g N) z25pk (fun _ _ => rfl) N (fun x y _ h => ((runL_eq (z25E N) N Tryz.f65 (z25g N) z25pk (z25LP N) (show LoopsOk (z25LP N) (z25E N) N (z25R N) [(0, z25c2), (2, z25c1), (4, z25c0)] from ⟨z25lp0 N, z25lp2 N, z25lp4 N, trivial⟩) x y).trans (z25core N x y)).trans h)
end
end Go.Proofs.YtahjncefiegflaaGreatDoor

