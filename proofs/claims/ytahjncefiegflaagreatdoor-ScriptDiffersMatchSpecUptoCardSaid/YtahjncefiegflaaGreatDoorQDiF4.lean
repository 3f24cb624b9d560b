/- What functions of the program compute, as plain functions (printed). -/
import Derived.Test.YtahjncefiegflaaGreatDoorQDiF3
namespace Go.Proofs.YtahjncefiegflaaGreatDoor
open Go Go.RowKit
set_option maxRecDepth 100000
set_option linter.unusedVariables false
noncomputable section
def z8L0T (_N : Nat) (x0 : List Str) (x1 : List Str) (c12 : Int) (k0 : Option Bool) (self : Int → Option Bool) (s13 : Int) : Option Bool :=
 br (decide (s13 < c12))
  (bnd (geti x0 s13) fun t18 =>
  bnd (geti x1 s13) fun t22 =>
  br (!(t18 == t22))
   (some false)
   (self (IntKind.i64.wrap (s13 + (1 : Int)))))
  (k0)
def z8L0 (N : Nat) (x0 : List Str) (x1 : List Str) (c12 : Int) (k0 : Option Bool) : Nat → Int → Option Bool
 | 0, _ => none
 | n + 1, s13 => z8L0T N x0 x1 c12 k0 (z8L0 N x0 x1 c12 k0 n) s13
def slices_Equal_string_string (N : Nat) (x0 : List Str) (x1 : List Str) : Option Bool :=
 br ((x0.length : Int) != (x1.length : Int))
  (some false)
  (z8L0 N x0 x1 (x0.length : Int) (some true) N (0 : Int))
abbrev z8sg (f : SV [.v τ13, .v τ13] → BV [] → Option (Bool)) : AF := { ps := [.v τ13, .v τ13], bs := [], rs := [.v .bool], cs := [], R := Bool, out := fun z => ((z, ()), ()), f := f }
noncomputable abbrev z8g (N : Nat) : AF := z8sg fun x _ => slices_Equal_string_string N x.1 x.2.1
abbrev z8pk : SV [.v .bool] → BV [] → Bool := fun x _ => x.1
def z8fn (_N : Nat) : FuncId → Option Tmp → Option AF := fun f _ =>
 match f with
  | _ => none
theorem z8fn_ok (N : Nat) : FnOk (z8fn N) := by
 intro f q F h
 unfold z8fn at h
 split at h
 · cases h
def z8h : Nat → Hint := fun i =>
 match i with
 | 0 => ⟨[], [0, 1, 12, 13], [], [], [], []⟩
 | _ => hint0
abbrev z8E (N : Nat) : Env := mkE z8h (z8fn N) FF FF
noncomputable abbrev z8c0 : Code := cAt (bodyOf Tryz.f37) [true, true, false, true, false, false]
noncomputable abbrev z8R (N : Nat) := resD (z8E N) Tryz.f37 (z8g N) z8pk
abbrev z8L0_fs : List (Nat × Sl) := [(0, .v τ13), (1, .v τ13), (12, .v τ5), (13, .v τ5)]
abbrev z8L0_bs : List (Nat × Sb) := []
def z8L0_hd (x0 : List Str) (x1 : List Str) (c12 : Int) (s13 : Int) : St := ⟨26, [(0, .v τ13 x0), (1, .v τ13 x1), (12, .v τ5 c12), (13, .v τ5 s13)], []⟩
def z8L0_tl0 (_x0 : List Str) (_x1 : List Str) (_c12 : Int) : St := ⟨26, [], []⟩
def z8L0_G (N : Nat) (x0 : List Str) (x1 : List Str) (c12 : Int) (s13 : Int) (k : Ex → St → Option Bool) : Option Bool :=
 z8L0 N x0 x1 c12 (k (.exit 0) (z8L0_tl0 x0 x1 c12)) N s13
abbrev z8L0_F (N : Nat) : FV z8L0_fs → HV z8L0_bs → (Ex → St → Option Bool) → Option Bool := fun x _ k => z8L0_G N x.1 x.2.1 x.2.2.1 x.2.2.2.1 k
noncomputable def z8LP (N : Nat) : Nat → Code → St → (Ex → St → Option Bool) → Option Bool := fun i c =>
 match i with
 | 0 => (LPc 26 z8L0_fs z8L0_bs (z8L0_F N) (fun st k => iter (z8h 0) (exec (z8E N) N c 0) N st k))
 | i => fun st k => iter (z8h i) (exec (z8E N) N c i) N st k
theorem z8L0_step (N : Nat) (x0 : List Str) (x1 : List Str) (c12 : Int) (KX : Nat → St → Option Bool) (I : St → Option Bool) (s13 : Int) :
  execL (z8LP N) (z8E N) z8c0 0 (z8L0_hd x0 x1 c12 s13) (roundK (z8h 0) I KX (z8R N)) = z8L0T N x0 x1 c12 (KX 0 (z8L0_tl0 x0 x1 c12)) (fun s13 => I (z8L0_hd x0 x1 c12 s13)) s13 := by kernel_rfl
theorem z8L0_ok (N : Nat) : ∀ x y k, (∀ st, k .ret st = (z8R N) st) → iter (z8h 0) (exec (z8E N) N z8c0 0) N ⟨26, unF z8L0_fs x, unH z8L0_bs y⟩ k = z8L0_F N x y k := fun x _ k hk =>
 iter_link (S := (Int) × Unit) (z8h 0) _ (execL (z8LP N) (z8E N) z8c0 0) (z8R N) (fun st k hk => execL_eq _ _ N _ z8c0 0 (show LoopsOk (z8LP N) (z8E N) N (z8R N) [] from trivial) st k hk) (fun s => z8L0_hd x.1 x.2.1 x.2.2.1 s.1) k hk
  (fun self s => z8L0T N x.1 x.2.1 x.2.2.1 (k (.exit 0) (z8L0_tl0 x.1 x.2.1 x.2.2.1)) (fun s13 => self (s13, ())) s.1) (fun n s => z8L0 N x.1 x.2.1 x.2.2.1 (k (.exit 0) (z8L0_tl0 x.1 x.2.1 x.2.2.1)) n s.1) (fun _ => rfl) (fun _ _ => rfl)
  (fun I s => z8L0_step N x.1 x.2.1 x.2.2.1 (fun j => k (.exit j)) I s.1) N (x.2.2.2.1, ())
theorem z8lp0 (N : Nat) : ∀ st k, (∀ st, k .ret st = (z8R N) st) → z8LP N 0 z8c0 st k = iter (Env.hint (z8E N) 0) (exec (z8E N) N z8c0 0) N st k := fun st k hk => LPc_eq 26 z8L0_fs z8L0_bs _ _ (z8R N) (z8L0_ok N) _ st k hk (rfl)
theorem z8core (N : Nat) (x : SV [.v τ13, .v τ13]) (y : BV []) : runL (z8E N) Tryz.f37 (z8g N) z8pk (z8LP N) x y = slices_Equal_string_string N x.1 x.2.1 := by kernel_rfl
theorem z8sound (N : Nat) : Snd 37 (z8g N) :=
 sndL (z8fn_ok N) Tryz.func37 rfl Tryz.call37 (z8g N) z8pk (fun _ _ => rfl) N (z8LP N) (show LoopsOk (z8LP N) (z8E N) N (z8R N) [(0, z8c0)] from ⟨z8lp0 N, trivial⟩) (z8core N)
abbrev z42sg (f : SV [.v τ6, .v τ6] → BV [] → Option (Bool)) : AF := { ps := [.v τ6, .v τ6], bs := [], rs := [.v .bool], cs := [], R := Bool, out := fun z => ((z, ()), ()), f := f }
def z33L0T (_N : Nat) (r_ref2_SameValue : GValue → GValue → Option (Bool)) (c44 : Int) (κ2_4 : List τ0) (κ3_4 : List τ0) (k0 : Option Bool) (self : Int → Option Bool) (s45 : Int) : Option Bool :=
 br (decide (s45 < c44))
  (bnd (geti κ2_4 s45) fun t51 =>
  bnd (geti κ3_4 s45) fun t57 =>
  br (!(t51.1 == t57.1))
   (some false)
   (bnd (geti κ2_4 s45) fun t65 =>
   bnd (geti κ3_4 s45) fun t71 =>
   bnd (r_ref2_SameValue t65.2 t71.2) fun t74 =>
   br (!t74)
    (some false)
    (self (IntKind.i64.wrap (s45 + (1 : Int))))))
  (k0)
def z33L0 (N : Nat) (r_ref2_SameValue : GValue → GValue → Option (Bool)) (c44 : Int) (κ2_4 : List τ0) (κ3_4 : List τ0) (k0 : Option Bool) : Nat → Int → Option Bool
 | 0, _ => none
 | n + 1, s45 => z33L0T N r_ref2_SameValue c44 κ2_4 κ3_4 k0 (z33L0 N r_ref2_SameValue c44 κ2_4 κ3_4 k0 n) s45
def ref2_SameValue_b (N : Nat) (r_ref2_SameValue : GValue → GValue → Option (Bool)) (x0 : GValue) (x1 : GValue) : Option Bool :=
 br (x0.kind != x1.kind)
  (some false)
  (br (!(x0.text == x1.text))
   (some false)
   (br (x0.number != x1.number)
    (some false)
    (bnd (slices_Equal_string_string N x0.list x1.list) fun t30 =>
    br (!t30)
     (some false)
     (br ((x0.cases.length : Int) != (x1.cases.length : Int))
      (some false)
      (z33L0 N r_ref2_SameValue (x0.cases.length : Int) x0.cases x1.cases (some true) N (0 : Int))))))
abbrev z33sg (f : SV [.v τ6, .v τ6] → BV [] → Option (Bool)) : AF := { ps := [.v τ6, .v τ6], bs := [], rs := [.v .bool], cs := [], R := Bool, out := fun z => ((z, ()), ()), f := f }
abbrev z33pk : SV [.v .bool] → BV [] → Bool := fun x _ => x.1
def z33fn (N : Nat) (r_ref2_SameValue : GValue → GValue → Option (Bool)) : FuncId → Option Tmp → Option AF := fun f _ =>
 match f with
  | 12 => some (z42sg fun x _ => r_ref2_SameValue x.1 x.2.1)
  | 37 => some (z8g N)
  | _ => none
theorem z33fn_ok (N : Nat) (r_ref2_SameValue : GValue → GValue → Option (Bool)) (h_ref2_SameValue : Sound Tryz.prog GW B0G 12 (z42sg fun x y => r_ref2_SameValue x.1 x.2.1)) : ∀ f q F, z33fn N r_ref2_SameValue f q = some F → Sound Tryz.prog GW B0G f F := by
 intro f q F h
 unfold z33fn at h
 split at h
 · cases h; exact h_ref2_SameValue
 · cases h; exact z8sound N
 · cases h
def z33h : Nat → Hint := fun i =>
 match i with
 | 0 => ⟨[], [2, 3, 44, 45], [1002, 1003], [], [], []⟩
 | _ => hint0
abbrev z33E (N : Nat) (r_ref2_SameValue : GValue → GValue → Option (Bool)) : Env := mkE z33h (z33fn N r_ref2_SameValue) (fun _ => false) (fun _ => false)
noncomputable abbrev z33c0 : Code := cAt (bodyOf Tryz.f12) [true, true, false, true, false, false]
abbrev z33L0_fs : List (Nat × Sl) := [(2, .box 1002 0), (3, .box 1003 0), (44, .v τ5), (45, .v τ5)]
abbrev z33L0_bs : List (Nat × Sb) := [(1002, .cells [.v τ5, .v .str, .v τ5, .v τ13, .v τ1]), (1003, .cells [.v τ5, .v .str, .v τ5, .v τ13, .v τ1])]
def z33L0_hd (c44 : Int) (κ2_0 : Int) (κ2_1 : Str) (κ2_2 : Int) (κ2_3 : List Str) (κ2_4 : List τ0) (κ3_0 : Int) (κ3_1 : Str) (κ3_2 : Int) (κ3_3 : List Str) (κ3_4 : List τ0) (s45 : Int) : St := ⟨78, [(2, .box 1002 0), (3, .box 1003 0), (44, .v τ5 c44), (45, .v τ5 s45)], [(1002, .cells [.v τ5 κ2_0, .v .str κ2_1, .v τ5 κ2_2, .v τ13 κ2_3, .v τ1 κ2_4]), (1003, .cells [.v τ5 κ3_0, .v .str κ3_1, .v τ5 κ3_2, .v τ13 κ3_3, .v τ1 κ3_4])]⟩
def z33L0_tl0 (_c44 : Int) (_κ2_0 : Int) (_κ2_1 : Str) (_κ2_2 : Int) (_κ2_3 : List Str) (_κ2_4 : List τ0) (_κ3_0 : Int) (_κ3_1 : Str) (_κ3_2 : Int) (_κ3_3 : List Str) (_κ3_4 : List τ0) : St := ⟨78, [], []⟩
def z33L0_G (N : Nat) (r_ref2_SameValue : GValue → GValue → Option (Bool)) (c44 : Int) (κ2_0 : Int) (κ2_1 : Str) (κ2_2 : Int) (κ2_3 : List Str) (κ2_4 : List τ0) (κ3_0 : Int) (κ3_1 : Str) (κ3_2 : Int) (κ3_3 : List Str) (κ3_4 : List τ0) (s45 : Int) (k : Ex → St → Option Bool) : Option Bool :=
 z33L0 N r_ref2_SameValue c44 κ2_4 κ3_4 (k (.exit 0) (z33L0_tl0 c44 κ2_0 κ2_1 κ2_2 κ2_3 κ2_4 κ3_0 κ3_1 κ3_2 κ3_3 κ3_4)) N s45
abbrev z33L0_F (N : Nat) (r_ref2_SameValue : GValue → GValue → Option (Bool)) : FV z33L0_fs → HV z33L0_bs → (Ex → St → Option Bool) → Option Bool := fun x y k => z33L0_G N r_ref2_SameValue x.2.2.1 y.1.1 y.1.2.1 y.1.2.2.1 y.1.2.2.2.1 y.1.2.2.2.2.1 y.2.1.1 y.2.1.2.1 y.2.1.2.2.1 y.2.1.2.2.2.1 y.2.1.2.2.2.2.1 x.2.2.2.1 k
noncomputable def z33LP (N : Nat) (r_ref2_SameValue : GValue → GValue → Option (Bool)) : Nat → Code → St → (Ex → St → Option Bool) → Option Bool := fun i c =>
 match i with
 | 0 => (LPc 78 z33L0_fs z33L0_bs (z33L0_F N r_ref2_SameValue) (fun st k => iter (z33h 0) (exec (z33E N r_ref2_SameValue) N c 0) N st k))
 | i => fun st k => iter (z33h i) (exec (z33E N r_ref2_SameValue) N c i) N st k
theorem z33L0_step (N : Nat) (r_ref2_SameValue : GValue → GValue → Option (Bool)) (c44 : Int) (κ2_0 : Int) (κ2_1 : Str) (κ2_2 : Int) (κ2_3 : List Str) (κ2_4 : List τ0) (κ3_0 : Int) (κ3_1 : Str) (κ3_2 : Int) (κ3_3 : List Str) (κ3_4 : List τ0) (KX : Nat → St → Option Bool) (I : St → Option Bool) (s45 : Int) :
  execL (z33LP N r_ref2_SameValue) (z33E N r_ref2_SameValue) z33c0 0 (z33L0_hd c44 κ2_0 κ2_1 κ2_2 κ2_3 κ2_4 κ3_0 κ3_1 κ3_2 κ3_3 κ3_4 s45) (roundK (z33h 0) I KX (resD (z33E N r_ref2_SameValue) Tryz.f12 (z33sg fun x _ => ref2_SameValue_b N r_ref2_SameValue x.1 x.2.1) z33pk)) = z33L0T N r_ref2_SameValue c44 κ2_4 κ3_4 (KX 0 (z33L0_tl0 c44 κ2_0 κ2_1 κ2_2 κ2_3 κ2_4 κ3_0 κ3_1 κ3_2 κ3_3 κ3_4)) (fun s45 => I (z33L0_hd c44 κ2_0 κ2_1 κ2_2 κ2_3 κ2_4 κ3_0 κ3_1 κ3_2 κ3_3 κ3_4 s45)) s45 := by kernel_rfl
theorem z33L0_ok (N : Nat) (r_ref2_SameValue : GValue → GValue → Option (Bool)) : ∀ x y k, (∀ st, k .ret st = (resD (z33E N r_ref2_SameValue) Tryz.f12 (z33sg fun x _ => ref2_SameValue_b N r_ref2_SameValue x.1 x.2.1) z33pk) st) → iter (z33h 0) (exec (z33E N r_ref2_SameValue) N z33c0 0) N ⟨78, unF z33L0_fs x, unH z33L0_bs y⟩ k = z33L0_F N r_ref2_SameValue x y k := fun x y k hk =>
 iter_link (S := (Int) × Unit) (z33h 0) _ (execL (z33LP N r_ref2_SameValue) (z33E N r_ref2_SameValue) z33c0 0) (resD (z33E N r_ref2_SameValue) Tryz.f12 (z33sg fun x _ => ref2_SameValue_b N r_ref2_SameValue x.1 x.2.1) z33pk) (fun st k hk => execL_eq _ _ N _ z33c0 0 (show LoopsOk (z33LP N r_ref2_SameValue) (z33E N r_ref2_SameValue) N (resD (z33E N r_ref2_SameValue) Tryz.f12 (z33sg fun x _ => ref2_SameValue_b N r_ref2_SameValue x.1 x.2.1) z33pk) [] from trivial) st k hk) (fun s => z33L0_hd x.2.2.1 y.1.1 y.1.2.1 y.1.2.2.1 y.1.2.2.2.1 y.1.2.2.2.2.1 y.2.1.1 y.2.1.2.1 y.2.1.2.2.1 y.2.1.2.2.2.1 y.2.1.2.2.2.2.1 s.1) k hk
  (fun self s => z33L0T N r_ref2_SameValue x.2.2.1 y.1.2.2.2.2.1 y.2.1.2.2.2.2.1 (k (.exit 0) (z33L0_tl0 x.2.2.1 y.1.1 y.1.2.1 y.1.2.2.1 y.1.2.2.2.1 y.1.2.2.2.2.1 y.2.1.1 y.2.1.2.1 y.2.1.2.2.1 y.2.1.2.2.2.1 y.2.1.2.2.2.2.1)) (fun s45 => self (s45, ())) s.1) (fun n s => z33L0 N r_ref2_SameValue x.2.2.1 y.1.2.2.2.2.1 y.2.1.2.2.2.2.1 (k (.exit 0) (z33L0_tl0 x.2.2.1 y.1.1 y.1.2.1 y.1.2.2.1 y.1.2.2.2.1 y.1.2.2.2.2.1 y.2.1.1 y.2.1.2.1 y.2.1.2.2.1 y.2.1.2.2.2.1 y.2.1.2.2.2.2.1)) n s.1) (fun _ => rfl) (fun _ _ => rfl)
  (fun I s => z33L0_step N r_ref2_SameValue x.2.2.1 y.1.1 y.1.2.1 y.1.2.2.1 y.1.2.2.2.1 y.1.2.2.2.2.1 y.2.1.1 y.2.1.2.1 y.2.1.2.2.1 y.2.1.2.2.2.1 y.2.1.2.2.2.2.1 (fun j => k (.exit j)) I s.1) N (x.2.2.2.1, ())
theorem z33lp0 (N : Nat) (r_ref2_SameValue : GValue → GValue → Option (Bool)) : ∀ st k, (∀ st, k .ret st = (resD (z33E N r_ref2_SameValue) Tryz.f12 (z33sg fun x _ => ref2_SameValue_b N r_ref2_SameValue x.1 x.2.1) z33pk) st) → z33LP N r_ref2_SameValue 0 z33c0 st k = iter (Env.hint (z33E N r_ref2_SameValue) 0) (exec (z33E N r_ref2_SameValue) N z33c0 0) N st k := fun st k hk => LPc_eq 78 z33L0_fs z33L0_bs _ _ (resD (z33E N r_ref2_SameValue) Tryz.f12 (z33sg fun x _ => ref2_SameValue_b N r_ref2_SameValue x.1 x.2.1) z33pk) (z33L0_ok N r_ref2_SameValue) _ st k hk (rfl)
theorem z33core (N : Nat) (r_ref2_SameValue : GValue → GValue → Option (Bool)) (x : SV [.v τ6, .v τ6]) (y : BV []) : runL (z33E N r_ref2_SameValue) Tryz.f12 (z33sg fun x _ => ref2_SameValue_b N r_ref2_SameValue x.1 x.2.1) z33pk (z33LP N r_ref2_SameValue) x y = ref2_SameValue_b N r_ref2_SameValue x.1 x.2.1 := by kernel_rfl
theorem z33sound (N : Nat) (r_ref2_SameValue : GValue → GValue → Option (Bool)) (h_ref2_SameValue : Sound Tryz.prog GW B0G 12 (z42sg fun x y => r_ref2_SameValue x.1 x.2.1)) : Sound Tryz.prog GW B0G 12 (z33sg fun x _ => ref2_SameValue_b N r_ref2_SameValue x.1 x.2.1) :=
 runD_sound (mkE_ok z33h (z33fn N r_ref2_SameValue) _ _ (z33fn_ok N r_ref2_SameValue h_ref2_SameValue)) Tryz.func12 rfl Tryz.call12 (z33sg fun x _ => ref2_SameValue_b N r_ref2_SameValue x.1 x.2.1) z33pk (fun _ _ => rfl) N (fun x y _ h => ((runL_eq (z33E N r_ref2_SameValue) N Tryz.f12 (z33sg fun x _ => ref2_SameValue_b N r_ref2_SameValue x.1 x.2.1) z33pk (z33LP N r_ref2_SameValue) (show LoopsOk (z33LP N r_ref2_SameValue) (z33E N r_ref2_SameValue) N (resD (z33E N r_ref2_SameValue) Tryz.f12 (z33sg fun x _ => ref2_SameValue_b N r_ref2_SameValue x.1 x.2.1) z33pk) [(0, z33c0)] from ⟨z33lp0 N r_ref2_SameValue, trivial⟩) x y).trans (z33core N r_ref2_SameValue x y)).trans h)
def ref2_SameValue (N : Nat) : Nat → GValue → GValue → Option (Bool)
 | 0 => fun _ _ => none
 | d + 1 => ref2_SameValue_b N (ref2_SameValue N d)
theorem z42sound (N : Nat) : ∀ d, Sound Tryz.prog GW B0G 12 (z42sg fun x y => ref2_SameValue N d x.1 x.2.1)
 | 0 => Sound.never Tryz.call12 (fun _ _ => rfl)
 | d + 1 => z33sound N (ref2_SameValue N d) (z42sound N d)
def ref2_isPlain (_N : Nat) (x0 : GValue) : Option Bool :=
 br (x0.text == ([] : Str))
  (br (x0.number == (0 : Int))
   (br ((x0.list.length : Int) == (0 : Int))
    (br ((x0.cases.length : Int) == (0 : Int))
     (some true)
     (some (x0.kind == (4 : Int))))
    (br (x0.kind == (3 : Int))
     (br ((x0.cases.length : Int) == (0 : Int))
      (some true)
      (some (x0.kind == (4 : Int))))
     (some false)))
   (br (x0.kind == (2 : Int))
    (br ((x0.list.length : Int) == (0 : Int))
     (br ((x0.cases.length : Int) == (0 : Int))
      (some true)
      (some (x0.kind == (4 : Int))))
     (br (x0.kind == (3 : Int))
      (br ((x0.cases.length : Int) == (0 : Int))
       (some true)
       (some (x0.kind == (4 : Int))))
      (some false)))
    (some false)))
  (br (x0.kind == (1 : Int))
   (br (x0.number == (0 : Int))
    (br ((x0.list.length : Int) == (0 : Int))
     (br ((x0.cases.length : Int) == (0 : Int))
      (some true)
      (some (x0.kind == (4 : Int))))
     (br (x0.kind == (3 : Int))
      (br ((x0.cases.length : Int) == (0 : Int))
       (some true)
       (some (x0.kind == (4 : Int))))
      (some false)))
    (br (x0.kind == (2 : Int))
     (br ((x0.list.length : Int) == (0 : Int))
      (br ((x0.cases.length : Int) == (0 : Int))
       (some true)
       (some (x0.kind == (4 : Int))))
      (br (x0.kind == (3 : Int))
       (br ((x0.cases.length : Int) == (0 : Int))
        (some true)
        (some (x0.kind == (4 : Int))))
       (some false)))
     (some false)))
   (some false))
abbrev z51sg (f : SV [.v τ6] → BV [] → Option (Bool)) : AF := { ps := [.v τ6], bs := [], rs := [.v .bool], cs := [], R := Bool, out := fun z => ((z, ()), ()), f := f }
noncomputable abbrev z51g (N : Nat) : AF := z51sg fun x _ => ref2_isPlain N x.1
abbrev z51pk : SV [.v .bool] → BV [] → Bool := fun x _ => x.1
def z51fn (_N : Nat) : FuncId → Option Tmp → Option AF := fun f _ =>
 match f with
  | _ => none
theorem z51fn_ok (N : Nat) : FnOk (z51fn N) := by
 intro f q F h
 unfold z51fn at h
 split at h
 · cases h
def z51h : Nat → Hint := fun i =>
 match i with
 | _ => hint0
abbrev z51E (N : Nat) : Env := mkE z51h (z51fn N) FF FF
noncomputable def z51LP (N : Nat) : Nat → Code → St → (Ex → St → Option Bool) → Option Bool := fun i c =>
 match i with
 | i => fun st k => iter (z51h i) (exec (z51E N) N c i) N st k
theorem z51core (N : Nat) (x : SV [.v τ6]) (y : BV []) : runL (z51E N) Tryz.f45 (z51g N) z51pk (z51LP N) x y = ref2_isPlain N x.1 := by kernel_rfl
theorem z51sound (N : Nat) : Snd 45 (z51g N) :=
 sndL (z51fn_ok N) Tryz.func45 rfl Tryz.call45 (z51g N) z51pk (fun _ _ => rfl) N (z51LP N) (show LoopsOk (z51LP N) (z51E N) N (resD (z51E N) Tryz.f45 (z51g N) z51pk) [] from trivial) (z51core N)
def z62L0T (_N : Nat) (x0 : Str) (c5 : Int) (k0 : Option Bool) (self : Int → Option Bool) (s6 : Int) : Option Bool :=
 br (decide (s6 < c5))
  (bnd (geti x0 s6) fun t11 =>
  br (t11 != (10 : UInt8))
   (bnd (geti x0 s6) fun t16 =>
   br (decide (t16 < (32 : UInt8)))
    (some false)
    (bnd (geti x0 s6) fun t21 =>
    br (decide (t21 > (126 : UInt8)))
     (some false)
     (self (IntKind.i64.wrap (s6 + (1 : Int))))))
   (self (IntKind.i64.wrap (s6 + (1 : Int)))))
  (k0)
def z62L0 (N : Nat) (x0 : Str) (c5 : Int) (k0 : Option Bool) : Nat → Int → Option Bool
 | 0, _ => none
 | n + 1, s6 => z62L0T N x0 c5 k0 (z62L0 N x0 c5 k0 n) s6
def ref2_isText (N : Nat) (x0 : Str) : Option Bool :=
 z62L0 N x0 (x0.length : Int) (some true) N (0 : Int)
abbrev z62sg (f : SV [.v .str] → BV [] → Option (Bool)) : AF := { ps := [.v .str], bs := [], rs := [.v .bool], cs := [], R := Bool, out := fun z => ((z, ()), ()), f := f }
noncomputable abbrev z62g (N : Nat) : AF := z62sg fun x _ => ref2_isText N x.1
abbrev z62pk : SV [.v .bool] → BV [] → Bool := fun x _ => x.1
def z62fn (_N : Nat) : FuncId → Option Tmp → Option AF := fun f _ =>
 match f with
  | _ => none
theorem z62fn_ok (N : Nat) : FnOk (z62fn N) := by
 intro f q F h
 unfold z62fn at h
 split at h
 · cases h
def z62h : Nat → Hint := fun i =>
 match i with
 | 0 => ⟨[], [0, 5, 6], [], [], [], []⟩
 | _ => hint0
abbrev z62E (N : Nat) : Env := mkE z62h (z62fn N) FF FF
noncomputable abbrev z62c0 : Code := cAt (bodyOf Tryz.f46) [true, false, true, false, false]
noncomputable abbrev z62R (N : Nat) := resD (z62E N) Tryz.f46 (z62g N) z62pk
abbrev z62L0_fs : List (Nat × Sl) := [(0, .v .str), (5, .v τ5), (6, .v τ5)]
abbrev z62L0_bs : List (Nat × Sb) := []
def z62L0_hd (x0 : Str) (c5 : Int) (s6 : Int) : St := ⟨26, [(0, .v .str x0), (5, .v τ5 c5), (6, .v τ5 s6)], []⟩
def z62L0_tl0 (_x0 : Str) (_c5 : Int) : St := ⟨26, [], []⟩
def z62L0_G (N : Nat) (x0 : Str) (c5 : Int) (s6 : Int) (k : Ex → St → Option Bool) : Option Bool :=
 z62L0 N x0 c5 (k (.exit 0) (z62L0_tl0 x0 c5)) N s6
abbrev z62L0_F (N : Nat) : FV z62L0_fs → HV z62L0_bs → (Ex → St → Option Bool) → Option Bool := fun x _ k => z62L0_G N x.1 x.2.1 x.2.2.1 k
noncomputable def z62LP (N : Nat) : Nat → Code → St → (Ex → St → Option Bool) → Option Bool := fun i c =>
 match i with
 | 0 => (LPc 26 z62L0_fs z62L0_bs (z62L0_F N) (fun st k => iter (z62h 0) (exec (z62E N) N c 0) N st k))
 | i => fun st k => iter (z62h i) (exec (z62E N) N c i) N st k
theorem z62L0_step (N : Nat) (x0 : Str) (c5 : Int) (KX : Nat → St → Option Bool) (I : St → Option Bool) (s6 : Int) :
  execL (z62LP N) (z62E N) z62c0 0 (z62L0_hd x0 c5 s6) (roundK (z62h 0) I KX (z62R N)) = z62L0T N x0 c5 (KX 0 (z62L0_tl0 x0 c5)) (fun s6 => I (z62L0_hd x0 c5 s6)) s6 := by kernel_rfl
theorem z62L0_ok (N : Nat) : ∀ x y k, (∀ st, k .ret st = (z62R N) st) → iter (z62h 0) (exec (z62E N) N z62c0 0) N ⟨26, unF z62L0_fs x, unH z62L0_bs y⟩ k = z62L0_F N x y k := fun x _ k hk =>
 iter_link (S := (Int) × Unit) (z62h 0) _ (execL (z62LP N) (z62E N) z62c0 0) (z62R N) (fun st k hk => execL_eq _ _ N _ z62c0 0 (show LoopsOk (z62LP N) (z62E N) N (z62R N) [] from trivial) st k hk) (fun s => z62L0_hd x.1 x.2.1 s.1) k hk
  (fun self s => z62L0T N x.1 x.2.1 (k (.exit 0) (z62L0_tl0 x.1 x.2.1)) (fun s6 => self (s6, ())) s.1) (fun n s => z62L0 N x.1 x.2.1 (k (.exit 0) (z62L0_tl0 x.1 x.2.1)) n s.1) (fun _ => rfl) (fun _ _ => rfl)
  (fun I s => z62L0_step N x.1 x.2.1 (fun j => k (.exit j)) I s.1) N (x.2.2.1, ())
theorem z62lp0 (N : Nat) : ∀ st k, (∀ st, k .ret st = (z62R N) st) → z62LP N 0 z62c0 st k = iter (Env.hint (z62E N) 0) (exec (z62E N) N z62c0 0) N st k := fun st k hk => LPc_eq 26 z62L0_fs z62L0_bs _ _ (z62R N) (z62L0_ok N) _ st k hk (rfl)
theorem z62core (N : Nat) (x : SV [.v .str]) (y : BV []) : runL (z62E N) Tryz.f46 (z62g N) z62pk (z62LP N) x y = ref2_isText N x.1 := by kernel_rfl
theorem z62sound (N : Nat) : Snd 46 (z62g N) :=
 sndL (z62fn_ok N) Tryz.func46 rfl Tryz.call46 (z62g N) z62pk (fun _ _ => rfl) N (z62LP N) (show LoopsOk (z62LP N) (z62E N) N (z62R N) [(0, z62c0)] from ⟨z62lp0 N, trivial⟩) (z62core N)
def ref2_checkText (N : Nat) (x0 : Str) : Option Int :=
 br (decide ((x0.length : Int) > (1000 : Int)))
  (some (2 : Int))
  (bnd (ref2_isText N x0) fun t7 =>
  br (!t7)
   (some (3 : Int))
   (some (0 : Int)))
abbrev z43sg (f : SV [.v .str] → BV [] → Option (Int)) : AF := { ps := [.v .str], bs := [], rs := [.v τ5], cs := [], R := Int, out := fun z => ((z, ()), ()), f := f }
noncomputable abbrev z43g (N : Nat) : AF := z43sg fun x _ => ref2_checkText N x.1
abbrev z43pk : SV [.v τ5] → BV [] → Int := fun x _ => x.1
def z43fn (N : Nat) : FuncId → Option Tmp → Option AF := fun f _ =>
 match f with
  | 46 => some (z62g N)
  | _ => none
theorem z43fn_ok (N : Nat) : FnOk (z43fn N) := by
 intro f q F h
 unfold z43fn at h
 split at h
 · cases h; exact z62sound N
 · cases h
def z43h : Nat → Hint := fun i =>
 match i with
 | _ => hint0
abbrev z43E (N : Nat) : Env := mkE z43h (z43fn N) FF FF
noncomputable def z43LP (N : Nat) : Nat → Code → St → (Ex → St → Option Int) → Option Int := fun i c =>
 match i with
 | i => fun st k => iter (z43h i) (exec (z43E N) N c i) N st k
theorem z43core (N : Nat) (x : SV [.v .str]) (y : BV []) : runL (z43E N) Tryz.f91 (z43g N) z43pk (z43LP N) x y = ref2_checkText N x.1 := by kernel_rfl
theorem z43sound (N : Nat) : Snd 91 (z43g N) :=
 sndL (z43fn_ok N) Tryz.func91 rfl Tryz.call91 (z43g N) z43pk (fun _ _ => rfl) N (z43LP N) (show LoopsOk (z43LP N) (z43E N) N (resD (z43E N) Tryz.f91 (z43g N) z43pk) [] from trivial) (z43core N)
abbrev z39sg (f : SV [.v τ1] → BV [] → Option (Int)) : AF := { ps := [.v τ1], bs := [], rs := [.v τ5], cs := [], R := Int, out := fun z => ((z, ()), ()), f := f }
def z38L0T (_N : Nat) (r_ref2_checkCases : τ8 → Option (Int)) (c35 : List Str) (c36 : Int) (k0 : Option Int) (self : Int → Option Int) (s37 : Int) : Option Int :=
 br (decide (s37 < c36))
  (bnd (geti c35 s37) fun t39 =>
  br (decide ((t39.length : Int) > (1000 : Int)))
   (some (2 : Int))
   (self (IntKind.i64.wrap (s37 + (1 : Int)))))
  (k0)
def z38L0 (N : Nat) (r_ref2_checkCases : τ8 → Option (Int)) (c35 : List Str) (c36 : Int) (k0 : Option Int) : Nat → Int → Option Int
 | 0, _ => none
 | n + 1, s37 => z38L0T N r_ref2_checkCases c35 c36 k0 (z38L0 N r_ref2_checkCases c35 c36 k0 n) s37
def z38L1T (N : Nat) (r_ref2_checkCases : τ8 → Option (Int)) (c50 : List Str) (c51 : Int) (k2 : Option Int) (self : Int → Option Int) (s52 : Int) : Option Int :=
 br (decide (s52 < c51))
  (bnd (geti c50 s52) fun t54 =>
  bnd (ref2_isText N t54) fun t57 =>
  br (!t57)
   (some (3 : Int))
   (self (IntKind.i64.wrap (s52 + (1 : Int)))))
  (k2)
def z38L1 (N : Nat) (r_ref2_checkCases : τ8 → Option (Int)) (c50 : List Str) (c51 : Int) (k2 : Option Int) : Nat → Int → Option Int
 | 0, _ => none
 | n + 1, s52 => z38L1T N r_ref2_checkCases c50 c51 k2 (z38L1 N r_ref2_checkCases c50 c51 k2 n) s52
def ref2_CheckValue (N : Nat) (r_ref2_checkCases : τ8 → Option (Int)) (x0 : GValue) : Option Int :=
 br (decide (x0.kind < (1 : Int)))
  (some (4 : Int))
  (br (decide (x0.kind > (4 : Int)))
   (some (4 : Int))
   (bnd (ref2_isPlain N (GValue.mk x0.kind x0.text x0.number x0.list x0.cases)) fun t16 =>
   br (!t16)
    (some (3 : Int))
    (br (decide ((x0.text.length : Int) > (1000 : Int)))
     (some (2 : Int))
     (br (decide ((x0.list.length : Int) > (1000 : Int)))
      (some (2 : Int))
      (br (decide ((x0.cases.length : Int) > (50 : Int)))
       (some (2 : Int))
       (z38L0 N r_ref2_checkCases x0.list (x0.list.length : Int) (bnd (ref2_isText N x0.text) fun t47 =>
         br (!t47)
          (some (3 : Int))
          (z38L1 N r_ref2_checkCases x0.list (x0.list.length : Int) (bnd (ref2_within N x0.number (0 : Int) (999999999 : Int)) fun t62 =>
            br (!t62)
             (some (1 : Int))
             (br (x0.kind == (4 : Int))
              (bnd (r_ref2_checkCases x0.cases) fun t69 =>
              some t69)
              (some (0 : Int)))) N (0 : Int))) N (0 : Int)))))))
abbrev z38sg (f : SV [.v τ6] → BV [] → Option (Int)) : AF := { ps := [.v τ6], bs := [], rs := [.v τ5], cs := [], R := Int, out := fun z => ((z, ()), ()), f := f }
abbrev z38pk : SV [.v τ5] → BV [] → Int := fun x _ => x.1
def z38fn (N : Nat) (r_ref2_checkCases : τ8 → Option (Int)) : FuncId → Option Tmp → Option AF := fun f _ =>
 match f with
  | 45 => some (z51g N)
  | 46 => some (z62g N)
  | 47 => some (z63g N)
  | 48 => some (z39sg fun x _ => r_ref2_checkCases x.1)
  | _ => none
theorem z38fn_ok (N : Nat) (r_ref2_checkCases : τ8 → Option (Int)) (h_ref2_checkCases : Sound Tryz.prog GW B0G 48 (z39sg fun x y => r_ref2_checkCases x.1)) : ∀ f q F, z38fn N r_ref2_checkCases f q = some F → Sound Tryz.prog GW B0G f F := by
 intro f q F h
 unfold z38fn at h
 split at h
 · cases h; exact z51sound N
 · cases h; exact z62sound N
 · cases h; exact z63sound N
 · cases h; exact h_ref2_checkCases
 · cases h
def z38h : Nat → Hint := fun i =>
 match i with
 | 0 => ⟨[], [1, 35, 36, 37], [1001], [1], [1001], []⟩
 | 2 => ⟨[], [1, 50, 51, 52], [1001], [1], [1001], []⟩
 | _ => hint0
abbrev z38E (N : Nat) (r_ref2_checkCases : τ8 → Option (Int)) : Env := mkE z38h (z38fn N r_ref2_checkCases) (fun _ => false) (fun _ => false)
noncomputable abbrev z38c1 : Code := cAt (bodyOf Tryz.f15) [true, true, true, true, false, true, false, false]
noncomputable abbrev z38c0 : Code := cAt (bodyOf Tryz.f15) [true, true, true, true, true, true, false, true, false, false]
abbrev z38L0_fs : List (Nat × Sl) := [(1, .box 1001 0), (35, .v τ13), (36, .v τ5), (37, .v τ5)]
abbrev z38L0_bs : List (Nat × Sb) := [(1001, .cells [.v τ5, .v .str, .v τ5, .v τ13, .v τ1])]
def z38L0_hd (c35 : List Str) (c36 : Int) (κ1_0 : Int) (κ1_1 : Str) (κ1_2 : Int) (κ1_3 : List Str) (κ1_4 : List τ0) (s37 : Int) : St := ⟨70, [(1, .box 1001 0), (35, .v τ13 c35), (36, .v τ5 c36), (37, .v τ5 s37)], [(1001, .cells [.v τ5 κ1_0, .v .str κ1_1, .v τ5 κ1_2, .v τ13 κ1_3, .v τ1 κ1_4])]⟩
def z38L0_tl0 (_c35 : List Str) (_c36 : Int) (κ1_0 : Int) (κ1_1 : Str) (κ1_2 : Int) (κ1_3 : List Str) (κ1_4 : List τ0) : St := ⟨70, [(1, .box 1001 0)], [(1001, .cells [.v τ5 κ1_0, .v .str κ1_1, .v τ5 κ1_2, .v τ13 κ1_3, .v τ1 κ1_4])]⟩
def z38L0_G (N : Nat) (r_ref2_checkCases : τ8 → Option (Int)) (c35 : List Str) (c36 : Int) (κ1_0 : Int) (κ1_1 : Str) (κ1_2 : Int) (κ1_3 : List Str) (κ1_4 : List τ0) (s37 : Int) (k : Ex → St → Option Int) : Option Int :=
 z38L0 N r_ref2_checkCases c35 c36 (k (.exit 0) (z38L0_tl0 c35 c36 κ1_0 κ1_1 κ1_2 κ1_3 κ1_4)) N s37
abbrev z38L0_F (N : Nat) (r_ref2_checkCases : τ8 → Option (Int)) : FV z38L0_fs → HV z38L0_bs → (Ex → St → Option Int) → Option Int := fun x y k => z38L0_G N r_ref2_checkCases x.2.1 x.2.2.1 y.1.1 y.1.2.1 y.1.2.2.1 y.1.2.2.2.1 y.1.2.2.2.2.1 x.2.2.2.1 k
abbrev z38L1_fs : List (Nat × Sl) := [(1, .box 1001 0), (50, .v τ13), (51, .v τ5), (52, .v τ5)]
abbrev z38L1_bs : List (Nat × Sb) := [(1001, .cells [.v τ5, .v .str, .v τ5, .v τ13, .v τ1])]
def z38L1_hd (c50 : List Str) (c51 : Int) (c1001_0_1 : Int) (c1001_1_2 : Str) (c1001_2_3 : Int) (c1001_3_4 : List Str) (c1001_4_5 : List τ0) (s52 : Int) : St := ⟨70, [(1, .box 1001 0), (50, .v τ13 c50), (51, .v τ5 c51), (52, .v τ5 s52)], [(1001, .cells [.v τ5 c1001_0_1, .v .str c1001_1_2, .v τ5 c1001_2_3, .v τ13 c1001_3_4, .v τ1 c1001_4_5])]⟩
def z38L1_tl2 (_c50 : List Str) (_c51 : Int) (c1001_0_1 : Int) (c1001_1_2 : Str) (c1001_2_3 : Int) (c1001_3_4 : List Str) (c1001_4_5 : List τ0) : St := ⟨70, [(1, .box 1001 0)], [(1001, .cells [.v τ5 c1001_0_1, .v .str c1001_1_2, .v τ5 c1001_2_3, .v τ13 c1001_3_4, .v τ1 c1001_4_5])]⟩
def z38L1_G (N : Nat) (r_ref2_checkCases : τ8 → Option (Int)) (c50 : List Str) (c51 : Int) (c1001_0_1 : Int) (c1001_1_2 : Str) (c1001_2_3 : Int) (c1001_3_4 : List Str) (c1001_4_5 : List τ0) (s52 : Int) (k : Ex → St → Option Int) : Option Int :=
 z38L1 N r_ref2_checkCases c50 c51 (k (.exit 2) (z38L1_tl2 c50 c51 c1001_0_1 c1001_1_2 c1001_2_3 c1001_3_4 c1001_4_5)) N s52
abbrev z38L1_F (N : Nat) (r_ref2_checkCases : τ8 → Option (Int)) : FV z38L1_fs → HV z38L1_bs → (Ex → St → Option Int) → Option Int := fun x y k => z38L1_G N r_ref2_checkCases x.2.1 x.2.2.1 y.1.1 y.1.2.1 y.1.2.2.1 y.1.2.2.2.1 y.1.2.2.2.2.1 x.2.2.2.1 k
noncomputable def z38LP (N : Nat) (r_ref2_checkCases : τ8 → Option (Int)) : Nat → Code → St → (Ex → St → Option Int) → Option Int := fun i c =>
 match i with
 | 0 => (LPc 70 z38L0_fs z38L0_bs (z38L0_F N r_ref2_checkCases) (fun st k => iter (z38h 0) (exec (z38E N r_ref2_checkCases) N c 0) N st k))
 | 2 => (LPc 70 z38L1_fs z38L1_bs (z38L1_F N r_ref2_checkCases) (fun st k => iter (z38h 2) (exec (z38E N r_ref2_checkCases) N c 2) N st k))
 | i => fun st k => iter (z38h i) (exec (z38E N r_ref2_checkCases) N c i) N st k
theorem z38L1_step (N : Nat) (r_ref2_checkCases : τ8 → Option (Int)) (c50 : List Str) (c51 : Int) (c1001_0_1 : Int) (c1001_1_2 : Str) (c1001_2_3 : Int) (c1001_3_4 : List Str) (c1001_4_5 : List τ0) (KX : Nat → St → Option Int) (I : St → Option Int) (s52 : Int) :
  execL (z38LP N r_ref2_checkCases) (z38E N r_ref2_checkCases) z38c0 2 (z38L1_hd c50 c51 c1001_0_1 c1001_1_2 c1001_2_3 c1001_3_4 c1001_4_5 s52) (roundK (z38h 2) I KX (resD (z38E N r_ref2_checkCases) Tryz.f15 (z38sg fun x _ => ref2_CheckValue N r_ref2_checkCases x.1) z38pk)) = z38L1T N r_ref2_checkCases c50 c51 (KX 2 (z38L1_tl2 c50 c51 c1001_0_1 c1001_1_2 c1001_2_3 c1001_3_4 c1001_4_5)) (fun s52 => I (z38L1_hd c50 c51 c1001_0_1 c1001_1_2 c1001_2_3 c1001_3_4 c1001_4_5 s52)) s52 := by kernel_rfl
theorem z38L1_ok (N : Nat) (r_ref2_checkCases : τ8 → Option (Int)) : ∀ x y k, (∀ st, k .ret st = (resD (z38E N r_ref2_checkCases) Tryz.f15 (z38sg fun x _ => ref2_CheckValue N r_ref2_checkCases x.1) z38pk) st) → iter (z38h 2) (exec (z38E N r_ref2_checkCases) N z38c0 2) N ⟨70, unF z38L1_fs x, unH z38L1_bs y⟩ k = z38L1_F N r_ref2_checkCases x y k := fun x y k hk =>
 iter_link (S := (Int) × Unit) (z38h 2) _ (execL (z38LP N r_ref2_checkCases) (z38E N r_ref2_checkCases) z38c0 2) (resD (z38E N r_ref2_checkCases) Tryz.f15 (z38sg fun x _ => ref2_CheckValue N r_ref2_checkCases x.1) z38pk) (fun st k hk => execL_eq _ _ N _ z38c0 2 (show LoopsOk (z38LP N r_ref2_checkCases) (z38E N r_ref2_checkCases) N (resD (z38E N r_ref2_checkCases) Tryz.f15 (z38sg fun x _ => ref2_CheckValue N r_ref2_checkCases x.1) z38pk) [] from trivial) st k hk) (fun s => z38L1_hd x.2.1 x.2.2.1 y.1.1 y.1.2.1 y.1.2.2.1 y.1.2.2.2.1 y.1.2.2.2.2.1 s.1) k hk
  (fun self s => z38L1T N r_ref2_checkCases x.2.1 x.2.2.1 (k (.exit 2) (z38L1_tl2 x.2.1 x.2.2.1 y.1.1 y.1.2.1 y.1.2.2.1 y.1.2.2.2.1 y.1.2.2.2.2.1)) (fun s52 => self (s52, ())) s.1) (fun n s => z38L1 N r_ref2_checkCases x.2.1 x.2.2.1 (k (.exit 2) (z38L1_tl2 x.2.1 x.2.2.1 y.1.1 y.1.2.1 y.1.2.2.1 y.1.2.2.2.1 y.1.2.2.2.2.1)) n s.1) (fun _ => rfl) (fun _ _ => rfl)
  (fun I s => z38L1_step N r_ref2_checkCases x.2.1 x.2.2.1 y.1.1 y.1.2.1 y.1.2.2.1 y.1.2.2.2.1 y.1.2.2.2.2.1 (fun j => k (.exit j)) I s.1) N (x.2.2.2.1, ())
theorem z38lp2 (N : Nat) (r_ref2_checkCases : τ8 → Option (Int)) : ∀ st k, (∀ st, k .ret st = (resD (z38E N r_ref2_checkCases) Tryz.f15 (z38sg fun x _ => ref2_CheckValue N r_ref2_checkCases x.1) z38pk) st) → z38LP N r_ref2_checkCases 2 z38c0 st k = iter (Env.hint (z38E N r_ref2_checkCases) 2) (exec (z38E N r_ref2_checkCases) N z38c0 2) N st k := fun st k hk => LPc_eq 70 z38L1_fs z38L1_bs _ _ (resD (z38E N r_ref2_checkCases) Tryz.f15 (z38sg fun x _ => ref2_CheckValue N r_ref2_checkCases x.1) z38pk) (z38L1_ok N r_ref2_checkCases) _ st k hk (rfl)
theorem z38L0_step (N : Nat) (r_ref2_checkCases : τ8 → Option (Int)) (c35 : List Str) (c36 : Int) (κ1_0 : Int) (κ1_1 : Str) (κ1_2 : Int) (κ1_3 : List Str) (κ1_4 : List τ0) (KX : Nat → St → Option Int) (I : St → Option Int) (s37 : Int) :
  execL (z38LP N r_ref2_checkCases) (z38E N r_ref2_checkCases) z38c1 0 (z38L0_hd c35 c36 κ1_0 κ1_1 κ1_2 κ1_3 κ1_4 s37) (roundK (z38h 0) I KX (resD (z38E N r_ref2_checkCases) Tryz.f15 (z38sg fun x _ => ref2_CheckValue N r_ref2_checkCases x.1) z38pk)) = z38L0T N r_ref2_checkCases c35 c36 (KX 0 (z38L0_tl0 c35 c36 κ1_0 κ1_1 κ1_2 κ1_3 κ1_4)) (fun s37 => I (z38L0_hd c35 c36 κ1_0 κ1_1 κ1_2 κ1_3 κ1_4 s37)) s37 := by kernel_rfl
theorem z38L0_ok (N : Nat) (r_ref2_checkCases : τ8 → Option (Int)) : ∀ x y k, (∀ st, k .ret st = (resD (z38E N r_ref2_checkCases) Tryz.f15 (z38sg fun x _ => ref2_CheckValue N r_ref2_checkCases x.1) z38pk) st) → iter (z38h 0) (exec (z38E N r_ref2_checkCases) N z38c1 0) N ⟨70, unF z38L0_fs x, unH z38L0_bs y⟩ k = z38L0_F N r_ref2_checkCases x y k := fun x y k hk =>
 iter_link (S := (Int) × Unit) (z38h 0) _ (execL (z38LP N r_ref2_checkCases) (z38E N r_ref2_checkCases) z38c1 0) (resD (z38E N r_ref2_checkCases) Tryz.f15 (z38sg fun x _ => ref2_CheckValue N r_ref2_checkCases x.1) z38pk) (fun st k hk => execL_eq _ _ N _ z38c1 0 (show LoopsOk (z38LP N r_ref2_checkCases) (z38E N r_ref2_checkCases) N (resD (z38E N r_ref2_checkCases) Tryz.f15 (z38sg fun x _ => ref2_CheckValue N r_ref2_checkCases x.1) z38pk) [] from trivial) st k hk) (fun s => z38L0_hd x.2.1 x.2.2.1 y.1.1 y.1.2.1 y.1.2.2.1 y.1.2.2.2.1 y.1.2.2.2.2.1 s.1) k hk
  (fun self s => z38L0T N r_ref2_checkCases x.2.1 x.2.2.1 (k (.exit 0) (z38L0_tl0 x.2.1 x.2.2.1 y.1.1 y.1.2.1 y.1.2.2.1 y.1.2.2.2.1 y.1.2.2.2.2.1)) (fun s37 => self (s37, ())) s.1) (fun n s => z38L0 N r_ref2_checkCases x.2.1 x.2.2.1 (k (.exit 0) (z38L0_tl0 x.2.1 x.2.2.1 y.1.1 y.1.2.1 y.1.2.2.1 y.1.2.2.2.1 y.1.2.2.2.2.1)) n s.1) (fun _ => rfl) (fun _ _ => rfl)
  (fun I s => z38L0_step N r_ref2_checkCases x.2.1 x.2.2.1 y.1.1 y.1.2.1 y.1.2.2.1 y.1.2.2.2.1 y.1.2.2.2.2.1 (fun j => k (.exit j)) I s.1) N (x.2.2.2.1, ())
theorem z38lp0 (N : Nat) (r_ref2_checkCases : τ8 → Option (Int)) : ∀ st k, (∀ st, k .ret st = (resD (z38E N r_ref2_checkCases) Tryz.f15 (z38sg fun x _ => ref2_CheckValue N r_ref2_checkCases x.1) z38pk) st) → z38LP N r_ref2_checkCases 0 z38c1 st k = iter (Env.hint (z38E N r_ref2_checkCases) 0) (exec (z38E N r_ref2_checkCases) N z38c1 0) N st k := fun st k hk => LPc_eq 70 z38L0_fs z38L0_bs _ _ (resD (z38E N r_ref2_checkCases) Tryz.f15 (z38sg fun x _ => ref2_CheckValue N r_ref2_checkCases x.1) z38pk) (z38L0_ok N r_ref2_checkCases) _ st k hk (rfl)
theorem z38core (N : Nat) (r_ref2_checkCases : τ8 → Option (Int)) (x : SV [.v τ6]) (y : BV []) : runL (z38E N r_ref2_checkCases) Tryz.f15 (z38sg fun x _ => ref2_CheckValue N r_ref2_checkCases x.1) z38pk (z38LP N r_ref2_checkCases) x y = ref2_CheckValue N r_ref2_checkCases x.1 := by kernel_rfl
theorem z38sound (N : Nat) (r_ref2_checkCases : τ8 → Option (Int)) (h_ref2_checkCases : Sound Tryz.prog GW B0G 48 (z39sg fun x y => r_ref2_checkCases x.1)) : Sound Tryz.prog GW B0G 15 (z38sg fun x _ => ref2_CheckValue N r_ref2_checkCases x.1) :=
 runD_sound (mkE_ok z38h (z38fn N r_ref2_checkCases) _ _ (z38fn_ok N r_ref2_checkCases h_ref2_checkCases)) Tryz.func15 rfl Tryz.call15 (z38sg fun x _ => ref2_CheckValue N r_ref2_checkCases x.1) z38pk (fun _ _ => rfl) N (fun x y _ h => ((runL_eq (z38E N r_ref2_checkCases) N Tryz.f15 (z38sg fun x _ => ref2_CheckValue N r_ref2_checkCases x.1) z38pk (z38LP N r_ref2_checkCases) (show LoopsOk (z38LP N r_ref2_checkCases) (z38E N r_ref2_checkCases) N (resD (z38E N r_ref2_checkCases) Tryz.f15 (z38sg fun x _ => ref2_CheckValue N r_ref2_checkCases x.1) z38pk) [(0, z38c1), (2, z38c0)] from ⟨z38lp0 N r_ref2_checkCases, z38lp2 N r_ref2_checkCases, trivial⟩) x y).trans (z38core N r_ref2_checkCases x y)).trans h)
end
end Go.Proofs.YtahjncefiegflaaGreatDoor

