/- What functions of the program compute, as plain functions (printed). -/
import Derived.Test.YtbekhaioddmliaaGreatDoorQZeT
namespace Go.Proofs.YtbekhaioddmliaaGreatDoor
open Go Go.RowKit
abbrev FF : Nat → Bool := fun _ => false
abbrev hint0 : Hint := ⟨[], [], [], [], [], []⟩
abbrev FnOk (fn : FuncId → Option Tmp → Option AF) : Prop := ∀ f q F, fn f q = some F → Sound Tryz.prog GW B0G f F
abbrev Snd : FuncId → AF → Prop := Sound Tryz.prog GW B0G
theorem sndL {h : Nat → Hint} {fn : FuncId → Option Tmp → Option AF} (ok : FnOk fn) {f : FuncId} {g : Func} {c : Code} (hf : Tryz.prog.funcs[f]? = some g) (hb : g.body = some c)
  (hcall : ∀ (args : Array Value) (w : World), (callFunc f args).run Tryz.prog w = .ok (.enter f args) w) (F : AF) (pk : SV F.rs → BV F.cs → F.R) (hpk : ∀ x y, F.out (pk x y) = (x, y)) (N : Nat)
  (LP : Nat → Code → St → (Ex → St → Option F.R) → Option F.R) (hl : LoopsOk LP (mkE h fn FF FF) N (resD (mkE h fn FF FF) g F pk) (loops (bodyOf g) 0))
  (core : ∀ x y, runL (mkE h fn FF FF) g F pk LP x y = F.f x y) (hkp : keptF F.bs F.cs = false := by rfl) : Snd f F :=
 runD_sound (mkE_ok h fn _ _ ok) hf hb hcall F pk hpk N (fun x y _ e => ((runL_eq (mkE h fn FF FF) N g F pk LP hl x y).trans (core x y)).trans e) hkp
end Go.Proofs.YtbekhaioddmliaaGreatDoor
namespace Go.Proofs.YtbekhaioddmliaaGreatDoor
open Go Go.RowKit
set_option maxRecDepth 100000
set_option linter.unusedVariables false
noncomputable section
def config_IsWord (_N : Nat) (x0 : Str) : Option Bool :=
 br (decide ((x0.length : Int) < (1 : Int)))
  (some false)
  (br (decide ((x0.length : Int) > (40 : Int)))
   (some false)
   (bnd (geti x0 (0 : Int)) fun t13 =>
   br (decide (t13 < (97 : UInt8)))
    (some false)
    (bnd (geti x0 (0 : Int)) fun t18 =>
    br (decide (t18 > (122 : UInt8)))
     (some false)
     (bnd (strings_Trim x0 ([97, 98, 99, 100, 101, 102, 103, 104, 105, 106, 107, 108, 109, 110, 111, 112, 113, 114, 115, 116, 117, 118, 119, 120, 121, 122, 48, 49, 50, 51, 52, 53, 54, 55, 56, 57, 95, 45] : Str)) fun t22 =>
     some (t22 == ([] : Str))))))
abbrev z70sg (f : SV [.v .str] → BV [] → Option (Bool)) : AF := { ps := [.v .str], bs := [], rs := [.v .bool], cs := [], R := Bool, out := fun z => ((z, ()), ()), f := f }
noncomputable abbrev z70g (N : Nat) : AF := z70sg fun x _ => config_IsWord N x.1
abbrev z70pk : SV [.v .bool] → BV [] → Bool := fun x _ => x.1
def z70fn (_N : Nat) : FuncId → Option Tmp → Option AF := fun f _ =>
 match f with
  | 102 => some (z86sg fun x _ => strings_Trim x.1 x.2.1)
  | _ => none
theorem z70fn_ok (N : Nat) : FnOk (z70fn N) := by
 intro f q F h
 unfold z70fn at h
 split at h
 · cases h; exact z86sound
 · cases h
def z70h : Nat → Hint := fun i =>
 match i with
 | _ => hint0
abbrev z70E (N : Nat) : Env := mkE z70h (z70fn N) FF FF
noncomputable def z70LP (N : Nat) : Nat → Code → St → (Ex → St → Option Bool) → Option Bool := fun i c =>
 match i with
 | i => fun st k => iter (z70h i) (exec (z70E N) N c i) N st k
theorem z70core (N : Nat) (x : SV [.v .str]) (y : BV []) : runL (z70E N) Tryz.f43 (z70g N) z70pk (z70LP N) x y = config_IsWord N x.1 := by kernel_rfl
theorem z70sound (N : Nat) : Snd 43 (z70g N) :=
 sndL (z70fn_ok N) Tryz.func43 rfl Tryz.call43 (z70g N) z70pk (fun _ _ => rfl) N (z70LP N) (show LoopsOk (z70LP N) (z70E N) N (resD (z70E N) Tryz.f43 (z70g N) z70pk) [] from trivial) (z70core N)
def z19L0T (_N : Nat) (x0 : List Str) (x1 : Str) (c7 : Int) (k0 : Option Int) (self : Int → Option Int) (s8 : Int) : Option Int :=
 br (decide (s8 < c7))
  (bnd (geti x0 s8) fun t14 =>
  br (x1 == t14)
   (some s8)
   (self (IntKind.i64.wrap (s8 + (1 : Int)))))
  (k0)
def z19L0 (N : Nat) (x0 : List Str) (x1 : Str) (c7 : Int) (k0 : Option Int) : Nat → Int → Option Int
 | 0, _ => none
 | n + 1, s8 => z19L0T N x0 x1 c7 k0 (z19L0 N x0 x1 c7 k0 n) s8
def slices_Index_string_string (N : Nat) (x0 : List Str) (x1 : Str) : Option Int :=
 z19L0 N x0 x1 (x0.length : Int) (some (-1 : Int)) N (0 : Int)
abbrev z19sg (f : SV [.v τ24, .v .str] → BV [] → Option (Int)) : AF := { ps := [.v τ24, .v .str], bs := [], rs := [.v τ5], cs := [], R := Int, out := fun z => ((z, ()), ()), f := f }
noncomputable abbrev z19g (N : Nat) : AF := z19sg fun x _ => slices_Index_string_string N x.1 x.2.1
abbrev z19pk : SV [.v τ5] → BV [] → Int := fun x _ => x.1
def z19fn (_N : Nat) : FuncId → Option Tmp → Option AF := fun f _ =>
 match f with
  | _ => none
theorem z19fn_ok (N : Nat) : FnOk (z19fn N) := by
 intro f q F h
 unfold z19fn at h
 split at h
 · cases h
def z19h : Nat → Hint := fun i =>
 match i with
 | 0 => ⟨[], [0, 1, 7, 8], [], [], [], []⟩
 | _ => hint0
abbrev z19E (N : Nat) : Env := mkE z19h (z19fn N) FF FF
noncomputable abbrev z19c0 : Code := cAt (bodyOf Tryz.f105) [true, false, true, false, false]
noncomputable abbrev z19R (N : Nat) := resD (z19E N) Tryz.f105 (z19g N) z19pk
abbrev z19L0_fs : List (Nat × Sl) := [(0, .v τ24), (1, .v .str), (7, .v τ5), (8, .v τ5)]
abbrev z19L0_bs : List (Nat × Sb) := []
def z19L0_hd (x0 : List Str) (x1 : Str) (c7 : Int) (s8 : Int) : St := ⟨19, [(0, .v τ24 x0), (1, .v .str x1), (7, .v τ5 c7), (8, .v τ5 s8)], []⟩
def z19L0_tl0 (_x0 : List Str) (_x1 : Str) (_c7 : Int) : St := ⟨19, [], []⟩
def z19L0_G (N : Nat) (x0 : List Str) (x1 : Str) (c7 : Int) (s8 : Int) (k : Ex → St → Option Int) : Option Int :=
 z19L0 N x0 x1 c7 (k (.exit 0) (z19L0_tl0 x0 x1 c7)) N s8
abbrev z19L0_F (N : Nat) : FV z19L0_fs → HV z19L0_bs → (Ex → St → Option Int) → Option Int := fun x _ k => z19L0_G N x.1 x.2.1 x.2.2.1 x.2.2.2.1 k
noncomputable def z19LP (N : Nat) : Nat → Code → St → (Ex → St → Option Int) → Option Int := fun i c =>
 match i with
 | 0 => (LPc 19 z19L0_fs z19L0_bs (z19L0_F N) (fun st k => iter (z19h 0) (exec (z19E N) N c 0) N st k))
 | i => fun st k => iter (z19h i) (exec (z19E N) N c i) N st k
theorem z19L0_step (N : Nat) (x0 : List Str) (x1 : Str) (c7 : Int) (KX : Nat → St → Option Int) (I : St → Option Int) (s8 : Int) :
  execL (z19LP N) (z19E N) z19c0 0 (z19L0_hd x0 x1 c7 s8) (roundK (z19h 0) I KX (z19R N)) = z19L0T N x0 x1 c7 (KX 0 (z19L0_tl0 x0 x1 c7)) (fun s8 => I (z19L0_hd x0 x1 c7 s8)) s8 := by kernel_rfl
theorem z19L0_ok (N : Nat) : ∀ x y k, (∀ st, k .ret st = (z19R N) st) → iter (z19h 0) (exec (z19E N) N z19c0 0) N ⟨19, unF z19L0_fs x, unH z19L0_bs y⟩ k = z19L0_F N x y k := fun x _ k hk =>
 iter_link (S := (Int) × Unit) (z19h 0) _ (execL (z19LP N) (z19E N) z19c0 0) (z19R N) (fun st k hk => execL_eq _ _ N _ z19c0 0 (show LoopsOk (z19LP N) (z19E N) N (z19R N) [] from trivial) st k hk) (fun s => z19L0_hd x.1 x.2.1 x.2.2.1 s.1) k hk
  (fun self s => z19L0T N x.1 x.2.1 x.2.2.1 (k (.exit 0) (z19L0_tl0 x.1 x.2.1 x.2.2.1)) (fun s8 => self (s8, ())) s.1) (fun n s => z19L0 N x.1 x.2.1 x.2.2.1 (k (.exit 0) (z19L0_tl0 x.1 x.2.1 x.2.2.1)) n s.1) (fun _ => rfl) (fun _ _ => rfl)
  (fun I s => z19L0_step N x.1 x.2.1 x.2.2.1 (fun j => k (.exit j)) I s.1) N (x.2.2.2.1, ())
theorem z19lp0 (N : Nat) : ∀ st k, (∀ st, k .ret st = (z19R N) st) → z19LP N 0 z19c0 st k = iter (Env.hint (z19E N) 0) (exec (z19E N) N z19c0 0) N st k := fun st k hk => LPc_eq 19 z19L0_fs z19L0_bs _ _ (z19R N) (z19L0_ok N) _ st k hk (rfl)
theorem z19core (N : Nat) (x : SV [.v τ24, .v .str]) (y : BV []) : runL (z19E N) Tryz.f105 (z19g N) z19pk (z19LP N) x y = slices_Index_string_string N x.1 x.2.1 := by kernel_rfl
theorem z19sound (N : Nat) : Snd 105 (z19g N) :=
 sndL (z19fn_ok N) Tryz.func105 rfl Tryz.call105 (z19g N) z19pk (fun _ _ => rfl) N (z19LP N) (show LoopsOk (z19LP N) (z19E N) N (z19R N) [(0, z19c0)] from ⟨z19lp0 N, trivial⟩) (z19core N)
def slices_Contains_string_string (N : Nat) (x0 : List Str) (x1 : Str) : Option Bool :=
 bnd (slices_Index_string_string N x0 x1) fun t7 =>
 some (decide (t7 ≥ (0 : Int)))
abbrev z8sg (f : SV [.v τ24, .v .str] → BV [] → Option (Bool)) : AF := { ps := [.v τ24, .v .str], bs := [], rs := [.v .bool], cs := [], R := Bool, out := fun z => ((z, ()), ()), f := f }
noncomputable abbrev z8g (N : Nat) : AF := z8sg fun x _ => slices_Contains_string_string N x.1 x.2.1
abbrev z8pk : SV [.v .bool] → BV [] → Bool := fun x _ => x.1
def z8fn (N : Nat) : FuncId → Option Tmp → Option AF := fun f _ =>
 match f with
  | 105 => some (z19g N)
  | _ => none
theorem z8fn_ok (N : Nat) : FnOk (z8fn N) := by
 intro f q F h
 unfold z8fn at h
 split at h
 · cases h; exact z19sound N
 · cases h
def z8h : Nat → Hint := fun i =>
 match i with
 | _ => hint0
abbrev z8E (N : Nat) : Env := mkE z8h (z8fn N) FF FF
noncomputable def z8LP (N : Nat) : Nat → Code → St → (Ex → St → Option Bool) → Option Bool := fun i c =>
 match i with
 | i => fun st k => iter (z8h i) (exec (z8E N) N c i) N st k
theorem z8core (N : Nat) (x : SV [.v τ24, .v .str]) (y : BV []) : runL (z8E N) Tryz.f56 (z8g N) z8pk (z8LP N) x y = slices_Contains_string_string N x.1 x.2.1 := by kernel_rfl
theorem z8sound (N : Nat) : Snd 56 (z8g N) :=
 sndL (z8fn_ok N) Tryz.func56 rfl Tryz.call56 (z8g N) z8pk (fun _ _ => rfl) N (z8LP N) (show LoopsOk (z8LP N) (z8E N) N (resD (z8E N) Tryz.f56 (z8g N) z8pk) [] from trivial) (z8core N)
def z34L1T (N : Nat) (c33 : List Str) (c34 : Int) (κ4_1 : List Str) (k3 : Option Int) (self : Int → Option Int) (s35 : Int) : Option Int :=
 br (decide (s35 < c34))
  (bnd (geti c33 s35) fun t38 =>
  bnd (config_IsWord N t38) fun t41 =>
  br (!t41)
   (some (5 : Int))
   (bnd (slc κ4_1 (0 : Int) s35) fun t46 =>
   bnd (slices_Contains_string_string N t46 t38) fun t48 =>
   br (t48)
    (some (7 : Int))
    (self (IntKind.i64.wrap (s35 + (1 : Int))))))
  (k3)
def z34L1 (N : Nat) (c33 : List Str) (c34 : Int) (κ4_1 : List Str) (k3 : Option Int) : Nat → Int → Option Int
 | 0, _ => none
 | n + 1, s35 => z34L1T N c33 c34 κ4_1 k3 (z34L1 N c33 c34 κ4_1 k3 n) s35
def z34L0T (N : Nat) (x0 : τ7) (c10 : τ7) (c11 : Int) (k0 : Option Int) (self : Int → Option Int) (s12 : Int) : Option Int :=
 br (decide (s12 < c11))
  (bnd (geti c10 s12) fun t15 =>
  bnd (config_IsWord N t15.1) fun t20 =>
  br (!t20)
   (some (5 : Int))
   (br ((t15.2.length : Int) == (0 : Int))
    (some (9 : Int))
    (br (decide ((t15.2.length : Int) > (20 : Int)))
     (some (2 : Int))
     (z34L1 N t15.2 (t15.2.length : Int) t15.2 (br (decide (s12 > (0 : Int)))
        (bnd (geti x0 (IntKind.i64.wrap (s12 - (1 : Int)))) fun t58 =>
        br (Op.bytesLess t15.1 t58.1 || t15.1 == t58.1)
         (some (8 : Int))
         (self (IntKind.i64.wrap (s12 + (1 : Int)))))
        (self (IntKind.i64.wrap (s12 + (1 : Int))))) N (0 : Int)))))
  (k0)
def z34L0 (N : Nat) (x0 : τ7) (c10 : τ7) (c11 : Int) (k0 : Option Int) : Nat → Int → Option Int
 | 0, _ => none
 | n + 1, s12 => z34L0T N x0 c10 c11 k0 (z34L0 N x0 c10 c11 k0 n) s12
def config_CheckSettings (N : Nat) (x0 : τ7) : Option Int :=
 br (decide ((x0.length : Int) > (30 : Int)))
  (some (2 : Int))
  (z34L0 N x0 x0 (x0.length : Int) (some (0 : Int)) N (0 : Int))
abbrev z34sg (f : SV [.v τ8] → BV [] → Option (Int)) : AF := { ps := [.v τ8], bs := [], rs := [.v τ5], cs := [], R := Int, out := fun z => ((z, ()), ()), f := f }
noncomputable abbrev z34g (N : Nat) : AF := z34sg fun x _ => config_CheckSettings N x.1
abbrev z34pk : SV [.v τ5] → BV [] → Int := fun x _ => x.1
def z34fn (N : Nat) : FuncId → Option Tmp → Option AF := fun f _ =>
 match f with
  | 43 => some (z70g N)
  | 56 => some (z8g N)
  | _ => none
theorem z34fn_ok (N : Nat) : FnOk (z34fn N) := by
 intro f q F h
 unfold z34fn at h
 split at h
 · cases h; exact z70sound N
 · cases h; exact z8sound N
 · cases h
def z34h : Nat → Hint := fun i =>
 match i with
 | 0 => ⟨[], [0, 10, 11, 12], [], [], [], []⟩
 | 3 => ⟨[], [0, 3, 4, 10, 11, 12, 33, 34, 35], [1004], [0, 3, 4, 10, 11, 12], [1004], []⟩
 | _ => hint0
abbrev z34E (N : Nat) : Env := mkE z34h (z34fn N) FF FF
noncomputable abbrev z34c1 : Code := cAt (bodyOf Tryz.f42) [true, true, false, true, false, false]
noncomputable abbrev z34c0 : Code := cAt (bodyOf Tryz.f42) [true, true, false, true, false, false, true, true, false, false, true, true, false, true, false, false]
noncomputable abbrev z34R (N : Nat) := resD (z34E N) Tryz.f42 (z34g N) z34pk
abbrev z34L1_fs : List (Nat × Sl) := [(0, .v τ8), (3, .v τ5), (4, .box 1004 0), (10, .v τ8), (11, .v τ5), (12, .v τ5), (33, .v τ24), (34, .v τ5), (35, .v τ5)]
abbrev z34L1_bs : List (Nat × Sb) := [(1004, .cells [.v .str, .v τ24])]
def z34L1_hd (x0 : τ7) (s12 : Int) (c10 : τ7) (c11 : Int) (c12 : Int) (c33 : List Str) (c34 : Int) (κ4_0 : Str) (κ4_1 : List Str) (s35 : Int) : St := ⟨64, [(0, .v τ8 x0), (3, .v τ5 s12), (4, .box 1004 0), (10, .v τ8 c10), (11, .v τ5 c11), (12, .v τ5 c12), (33, .v τ24 c33), (34, .v τ5 c34), (35, .v τ5 s35)], [(1004, .cells [.v .str κ4_0, .v τ24 κ4_1])]⟩
def z34L1_tl3 (x0 : τ7) (s12 : Int) (c10 : τ7) (c11 : Int) (c12 : Int) (_c33 : List Str) (_c34 : Int) (κ4_0 : Str) (κ4_1 : List Str) : St := ⟨64, [(0, .v τ8 x0), (3, .v τ5 s12), (4, .box 1004 0), (10, .v τ8 c10), (11, .v τ5 c11), (12, .v τ5 c12)], [(1004, .cells [.v .str κ4_0, .v τ24 κ4_1])]⟩
def z34L1_G (N : Nat) (x0 : τ7) (s12 : Int) (c10 : τ7) (c11 : Int) (c12 : Int) (c33 : List Str) (c34 : Int) (κ4_0 : Str) (κ4_1 : List Str) (s35 : Int) (k : Ex → St → Option Int) : Option Int :=
 z34L1 N c33 c34 κ4_1 (k (.exit 3) (z34L1_tl3 x0 s12 c10 c11 c12 c33 c34 κ4_0 κ4_1)) N s35
abbrev z34L1_F (N : Nat) : FV z34L1_fs → HV z34L1_bs → (Ex → St → Option Int) → Option Int := fun x y k => z34L1_G N x.1 x.2.1 x.2.2.2.1 x.2.2.2.2.1 x.2.2.2.2.2.1 x.2.2.2.2.2.2.1 x.2.2.2.2.2.2.2.1 y.1.1 y.1.2.1 x.2.2.2.2.2.2.2.2.1 k
abbrev z34L0_fs : List (Nat × Sl) := [(0, .v τ8), (10, .v τ8), (11, .v τ5), (12, .v τ5)]
abbrev z34L0_bs : List (Nat × Sb) := []
def z34L0_hd (x0 : τ7) (c10 : τ7) (c11 : Int) (s12 : Int) : St := ⟨64, [(0, .v τ8 x0), (10, .v τ8 c10), (11, .v τ5 c11), (12, .v τ5 s12)], []⟩
def z34L0_tl0 (_x0 : τ7) (_c10 : τ7) (_c11 : Int) : St := ⟨64, [], []⟩
def z34L0_G (N : Nat) (x0 : τ7) (c10 : τ7) (c11 : Int) (s12 : Int) (k : Ex → St → Option Int) : Option Int :=
 z34L0 N x0 c10 c11 (k (.exit 0) (z34L0_tl0 x0 c10 c11)) N s12
abbrev z34L0_F (N : Nat) : FV z34L0_fs → HV z34L0_bs → (Ex → St → Option Int) → Option Int := fun x _ k => z34L0_G N x.1 x.2.1 x.2.2.1 x.2.2.2.1 k
noncomputable def z34LP (N : Nat) : Nat → Code → St → (Ex → St → Option Int) → Option Int := fun i c =>
 match i with
 | 0 => (LPc 64 z34L0_fs z34L0_bs (z34L0_F N) (fun st k => iter (z34h 0) (exec (z34E N) N c 0) N st k))
 | 3 => (LPc 64 z34L1_fs z34L1_bs (z34L1_F N) (fun st k => iter (z34h 3) (exec (z34E N) N c 3) N st k))
 | i => fun st k => iter (z34h i) (exec (z34E N) N c i) N st k
theorem z34L1_step (N : Nat) (x0 : τ7) (s12 : Int) (c10 : τ7) (c11 : Int) (c12 : Int) (c33 : List Str) (c34 : Int) (κ4_0 : Str) (κ4_1 : List Str) (KX : Nat → St → Option Int) (I : St → Option Int) (s35 : Int) :
  execL (z34LP N) (z34E N) z34c0 3 (z34L1_hd x0 s12 c10 c11 c12 c33 c34 κ4_0 κ4_1 s35) (roundK (z34h 3) I KX (z34R N)) = z34L1T N c33 c34 κ4_1 (KX 3 (z34L1_tl3 x0 s12 c10 c11 c12 c33 c34 κ4_0 κ4_1)) (fun s35 => I (z34L1_hd x0 s12 c10 c11 c12 c33 c34 κ4_0 κ4_1 s35)) s35 := by kernel_rfl
theorem z34L1_ok (N : Nat) : ∀ x y k, (∀ st, k .ret st = (z34R N) st) → iter (z34h 3) (exec (z34E N) N z34c0 3) N ⟨64, unF z34L1_fs x, unH z34L1_bs y⟩ k = z34L1_F N x y k := fun x y k hk =>
 iter_link (S := (Int) × Unit) (z34h 3) _ (execL (z34LP N) (z34E N) z34c0 3) (z34R N) (fun st k hk => execL_eq _ _ N _ z34c0 3 (show LoopsOk (z34LP N) (z34E N) N (z34R N) [] from trivial) st k hk) (fun s => z34L1_hd x.1 x.2.1 x.2.2.2.1 x.2.2.2.2.1 x.2.2.2.2.2.1 x.2.2.2.2.2.2.1 x.2.2.2.2.2.2.2.1 y.1.1 y.1.2.1 s.1) k hk
  (fun self s => z34L1T N x.2.2.2.2.2.2.1 x.2.2.2.2.2.2.2.1 y.1.2.1 (k (.exit 3) (z34L1_tl3 x.1 x.2.1 x.2.2.2.1 x.2.2.2.2.1 x.2.2.2.2.2.1 x.2.2.2.2.2.2.1 x.2.2.2.2.2.2.2.1 y.1.1 y.1.2.1)) (fun s35 => self (s35, ())) s.1) (fun n s => z34L1 N x.2.2.2.2.2.2.1 x.2.2.2.2.2.2.2.1 y.1.2.1 (k (.exit 3) (z34L1_tl3 x.1 x.2.1 x.2.2.2.1 x.2.2.2.2.1 x.2.2.2.2.2.1 x.2.2.2.2.2.2.1 x.2.2.2.2.2.2.2.1 y.1.1 y.1.2.1)) n s.1) (fun _ => rfl) (fun _ _ => rfl)
  (fun I s => z34L1_step N x.1 x.2.1 x.2.2.2.1 x.2.2.2.2.1 x.2.2.2.2.2.1 x.2.2.2.2.2.2.1 x.2.2.2.2.2.2.2.1 y.1.1 y.1.2.1 (fun j => k (.exit j)) I s.1) N (x.2.2.2.2.2.2.2.2.1, ())
theorem z34lp3 (N : Nat) : ∀ st k, (∀ st, k .ret st = (z34R N) st) → z34LP N 3 z34c0 st k = iter (Env.hint (z34E N) 3) (exec (z34E N) N z34c0 3) N st k := fun st k hk => LPc_eq 64 z34L1_fs z34L1_bs _ _ (z34R N) (z34L1_ok N) _ st k hk (rfl)
theorem z34L0_step (N : Nat) (x0 : τ7) (c10 : τ7) (c11 : Int) (KX : Nat → St → Option Int) (I : St → Option Int) (s12 : Int) :
  execL (z34LP N) (z34E N) z34c1 0 (z34L0_hd x0 c10 c11 s12) (roundK (z34h 0) I KX (z34R N)) = z34L0T N x0 c10 c11 (KX 0 (z34L0_tl0 x0 c10 c11)) (fun s12 => I (z34L0_hd x0 c10 c11 s12)) s12 := by kernel_rfl
theorem z34L0_ok (N : Nat) : ∀ x y k, (∀ st, k .ret st = (z34R N) st) → iter (z34h 0) (exec (z34E N) N z34c1 0) N ⟨64, unF z34L0_fs x, unH z34L0_bs y⟩ k = z34L0_F N x y k := fun x _ k hk =>
 iter_link (S := (Int) × Unit) (z34h 0) _ (execL (z34LP N) (z34E N) z34c1 0) (z34R N) (fun st k hk => execL_eq _ _ N _ z34c1 0 (show LoopsOk (z34LP N) (z34E N) N (z34R N) [(3, z34c0)] from ⟨z34lp3 N, trivial⟩) st k hk) (fun s => z34L0_hd x.1 x.2.1 x.2.2.1 s.1) k hk
  (fun self s => z34L0T N x.1 x.2.1 x.2.2.1 (k (.exit 0) (z34L0_tl0 x.1 x.2.1 x.2.2.1)) (fun s12 => self (s12, ())) s.1) (fun n s => z34L0 N x.1 x.2.1 x.2.2.1 (k (.exit 0) (z34L0_tl0 x.1 x.2.1 x.2.2.1)) n s.1) (fun _ => rfl) (fun _ _ => rfl)
  (fun I s => z34L0_step N x.1 x.2.1 x.2.2.1 (fun j => k (.exit j)) I s.1) N (x.2.2.2.1, ())
theorem z34lp0 (N : Nat) : ∀ st k, (∀ st, k .ret st = (z34R N) st) → z34LP N 0 z34c1 st k = iter (Env.hint (z34E N) 0) (exec (z34E N) N z34c1 0) N st k := fun st k hk => LPc_eq 64 z34L0_fs z34L0_bs _ _ (z34R N) (z34L0_ok N) _ st k hk (rfl)
theorem z34core (N : Nat) (x : SV [.v τ8]) (y : BV []) : runL (z34E N) Tryz.f42 (z34g N) z34pk (z34LP N) x y = config_CheckSettings N x.1 := by kernel_rfl
theorem z34sound (N : Nat) : Snd 42 (z34g N) :=
 sndL (z34fn_ok N) Tryz.func42 rfl Tryz.call42 (z34g N) z34pk (fun _ _ => rfl) N (z34LP N) (show LoopsOk (z34LP N) (z34E N) N (z34R N) [(0, z34c1), (3, z34c0)] from ⟨z34lp0 N, z34lp3 N, trivial⟩) (z34core N)
def config_find_1 (_N : Nat) (x0 : Str × List Str) (x1 : Str) : Option Bool :=
 some (x0.1 == x1)
abbrev z72sg (f : SV [.v (.pr .str τ24), .v (.ptr .str)] → BV [] → Option (Bool)) : AF := { ps := [.v (.pr .str τ24), .v (.ptr .str)], bs := [], rs := [.v .bool], cs := [], R := Bool, out := fun z => ((z, ()), ()), f := f }
noncomputable abbrev z72g (N : Nat) : AF := z72sg fun x _ => config_find_1 N x.1 x.2.1
abbrev z72pk : SV [.v .bool] → BV [] → Bool := fun x _ => x.1
def z72fn (_N : Nat) : FuncId → Option Tmp → Option AF := fun f _ =>
 match f with
  | _ => none
theorem z72fn_ok (N : Nat) : FnOk (z72fn N) := by
 intro f q F h
 unfold z72fn at h
 split at h
 · cases h
def z72h : Nat → Hint := fun i =>
 match i with
 | _ => hint0
abbrev z72E (N : Nat) : Env := mkE z72h (z72fn N) FF FF
noncomputable def z72LP (N : Nat) : Nat → Code → St → (Ex → St → Option Bool) → Option Bool := fun i c =>
 match i with
 | i => fun st k => iter (z72h i) (exec (z72E N) N c i) N st k
theorem z72core (N : Nat) (x : SV [.v (.pr .str τ24), .v (.ptr .str)]) (y : BV []) : runL (z72E N) Tryz.f127 (z72g N) z72pk (z72LP N) x y = config_find_1 N x.1 x.2.1 := by kernel_rfl
theorem z72sound (N : Nat) : Snd 127 (z72g N) :=
 sndL (z72fn_ok N) Tryz.func127 rfl Tryz.call127 (z72g N) z72pk (fun _ _ => rfl) N (z72LP N) (show LoopsOk (z72LP N) (z72E N) N (resD (z72E N) Tryz.f127 (z72g N) z72pk) [] from trivial) (z72core N)
def z13L0T (N : Nat) (x0 : τ7) (x1 : Str × Unit) (c7 : Int) (k0 : Option Int) (self : Int → Option Int) (s8 : Int) : Option Int :=
 br (decide (s8 < c7))
  (bnd (geti x0 s8) fun t14 =>
  bnd (config_find_1 N t14 x1.1) fun t16 =>
  br (t16)
   (some s8)
   (self (IntKind.i64.wrap (s8 + (1 : Int)))))
  (k0)
def z13L0 (N : Nat) (x0 : τ7) (x1 : Str × Unit) (c7 : Int) (k0 : Option Int) : Nat → Int → Option Int
 | 0, _ => none
 | n + 1, s8 => z13L0T N x0 x1 c7 k0 (z13L0 N x0 x1 c7 k0 n) s8
def slices_IndexFunc_api_Setting (N : Nat) (x0 : τ7) (x1 : Str × Unit) : Option Int :=
 z13L0 N x0 x1 (x0.length : Int) (some (-1 : Int)) N (0 : Int)
abbrev z13sg (f : SV [.v τ8, .v (.clo 127 τ26)] → BV [] → Option (Int)) : AF := { ps := [.v τ8, .v (.clo 127 τ26)], bs := [], rs := [.v τ5], cs := [], R := Int, out := fun z => ((z, ()), ()), f := f }
noncomputable abbrev z13g (N : Nat) : AF := z13sg fun x _ => slices_IndexFunc_api_Setting N x.1 x.2.1
abbrev z13pk : SV [.v τ5] → BV [] → Int := fun x _ => x.1
def z13fn (N : Nat) : FuncId → Option Tmp → Option AF := fun f _ =>
 match f with
  | 127 => some (z72g N)
  | _ => none
theorem z13fn_ok (N : Nat) : FnOk (z13fn N) := by
 intro f q F h
 unfold z13fn at h
 split at h
 · cases h; exact z72sound N
 · cases h
def z13h : Nat → Hint := fun i =>
 match i with
 | 0 => ⟨[], [0, 1, 7, 8], [], [], [], []⟩
 | _ => hint0
abbrev z13E (N : Nat) : Env := mkE z13h (z13fn N) FF FF
noncomputable abbrev z13c0 : Code := cAt (bodyOf Tryz.f126) [true, false, true, false, false]
noncomputable abbrev z13R (N : Nat) := resD (z13E N) Tryz.f126 (z13g N) z13pk
abbrev z13L0_fs : List (Nat × Sl) := [(0, .v τ8), (1, .v (.clo 127 τ26)), (7, .v τ5), (8, .v τ5)]
abbrev z13L0_bs : List (Nat × Sb) := []
def z13L0_hd (x0 : τ7) (x1 : Str × Unit) (c7 : Int) (s8 : Int) : St := ⟨19, [(0, .v τ8 x0), (1, .v (.clo 127 τ26) x1), (7, .v τ5 c7), (8, .v τ5 s8)], []⟩
def z13L0_tl0 (_x0 : τ7) (_x1 : Str × Unit) (_c7 : Int) : St := ⟨19, [], []⟩
def z13L0_G (N : Nat) (x0 : τ7) (x1 : Str × Unit) (c7 : Int) (s8 : Int) (k : Ex → St → Option Int) : Option Int :=
 z13L0 N x0 x1 c7 (k (.exit 0) (z13L0_tl0 x0 x1 c7)) N s8
abbrev z13L0_F (N : Nat) : FV z13L0_fs → HV z13L0_bs → (Ex → St → Option Int) → Option Int := fun x _ k => z13L0_G N x.1 x.2.1 x.2.2.1 x.2.2.2.1 k
noncomputable def z13LP (N : Nat) : Nat → Code → St → (Ex → St → Option Int) → Option Int := fun i c =>
 match i with
 | 0 => (LPc 19 z13L0_fs z13L0_bs (z13L0_F N) (fun st k => iter (z13h 0) (exec (z13E N) N c 0) N st k))
 | i => fun st k => iter (z13h i) (exec (z13E N) N c i) N st k
theorem z13L0_step (N : Nat) (x0 : τ7) (x1 : Str × Unit) (c7 : Int) (KX : Nat → St → Option Int) (I : St → Option Int) (s8 : Int) :
  execL (z13LP N) (z13E N) z13c0 0 (z13L0_hd x0 x1 c7 s8) (roundK (z13h 0) I KX (z13R N)) = z13L0T N x0 x1 c7 (KX 0 (z13L0_tl0 x0 x1 c7)) (fun s8 => I (z13L0_hd x0 x1 c7 s8)) s8 := by kernel_rfl
theorem z13L0_ok (N : Nat) : ∀ x y k, (∀ st, k .ret st = (z13R N) st) → iter (z13h 0) (exec (z13E N) N z13c0 0) N ⟨19, unF z13L0_fs x, unH z13L0_bs y⟩ k = z13L0_F N x y k := fun x _ k hk =>
 iter_link (S := (Int) × Unit) (z13h 0) _ (execL (z13LP N) (z13E N) z13c0 0) (z13R N) (fun st k hk => execL_eq _ _ N _ z13c0 0 (show LoopsOk (z13LP N) (z13E N) N (z13R N) [] from trivial) st k hk) (fun s => z13L0_hd x.1 x.2.1 x.2.2.1 s.1) k hk
  (fun self s => z13L0T N x.1 x.2.1 x.2.2.1 (k (.exit 0) (z13L0_tl0 x.1 x.2.1 x.2.2.1)) (fun s8 => self (s8, ())) s.1) (fun n s => z13L0 N x.1 x.2.1 x.2.2.1 (k (.exit 0) (z13L0_tl0 x.1 x.2.1 x.2.2.1)) n s.1) (fun _ => rfl) (fun _ _ => rfl)
  (fun I s => z13L0_step N x.1 x.2.1 x.2.2.1 (fun j => k (.exit j)) I s.1) N (x.2.2.2.1, ())
theorem z13lp0 (N : Nat) : ∀ st k, (∀ st, k .ret st = (z13R N) st) → z13LP N 0 z13c0 st k = iter (Env.hint (z13E N) 0) (exec (z13E N) N z13c0 0) N st k := fun st k hk => LPc_eq 19 z13L0_fs z13L0_bs _ _ (z13R N) (z13L0_ok N) _ st k hk (rfl)
theorem z13core (N : Nat) (x : SV [.v τ8, .v (.clo 127 τ26)]) (y : BV []) : runL (z13E N) Tryz.f126 (z13g N) z13pk (z13LP N) x y = slices_IndexFunc_api_Setting N x.1 x.2.1 := by kernel_rfl
theorem z13sound (N : Nat) : Snd 126 (z13g N) :=
 sndL (z13fn_ok N) Tryz.func126 rfl Tryz.call126 (z13g N) z13pk (fun _ _ => rfl) N (z13LP N) (show LoopsOk (z13LP N) (z13E N) N (z13R N) [(0, z13c0)] from ⟨z13lp0 N, trivial⟩) (z13core N)
def config_find (N : Nat) (x0 : τ7) (x1 : Str) : Option Int :=
 bnd (slices_IndexFunc_api_Setting N x0 (x1, ())) fun t7 =>
 some t7
abbrev z91sg (f : SV [.v τ8, .v .str] → BV [] → Option (Int)) : AF := { ps := [.v τ8, .v .str], bs := [], rs := [.v τ5], cs := [], R := Int, out := fun z => ((z, ()), ()), f := f }
noncomputable abbrev z91g (N : Nat) : AF := z91sg fun x _ => config_find N x.1 x.2.1
abbrev z91pk : SV [.v τ5] → BV [] → Int := fun x _ => x.1
def z91fn (N : Nat) : FuncId → Option Tmp → Option AF := fun f _ =>
 match f with
  | 126 => some (z13g N)
  | 127 => some (noneAF [.v (.ptr .str)])
  | _ => none
theorem z91fn_ok (N : Nat) : FnOk (z91fn N) := by
 intro f q F h
 unfold z91fn at h
 split at h
 · cases h; exact z13sound N
 · cases h; exact noneAF_sound Tryz.call127 _
 · cases h
def z91h : Nat → Hint := fun i =>
 match i with
 | _ => hint0
abbrev z91E (N : Nat) : Env := mkE z91h (z91fn N) FF FF
noncomputable def z91LP (N : Nat) : Nat → Code → St → (Ex → St → Option Int) → Option Int := fun i c =>
 match i with
 | i => fun st k => iter (z91h i) (exec (z91E N) N c i) N st k
theorem z91core (N : Nat) (x : SV [.v τ8, .v .str]) (y : BV []) : runL (z91E N) Tryz.f73 (z91g N) z91pk (z91LP N) x y = config_find N x.1 x.2.1 := by kernel_rfl
theorem z91sound (N : Nat) : Snd 73 (z91g N) :=
 sndL (z91fn_ok N) Tryz.func73 rfl Tryz.call73 (z91g N) z91pk (fun _ _ => rfl) N (z91LP N) (show LoopsOk (z91LP N) (z91E N) N (resD (z91E N) Tryz.f73 (z91g N) z91pk) [] from trivial) (z91core N)
def z58L0T (N : Nat) (x0 : τ7) (x1 : List τ1) (x2 : Bool) (c10 : List τ1) (c11 : Int) (k0 : Option Int) (self : Int → Option Int) (s12 : Int) : Option Int :=
 br (decide (s12 < c11))
  (bnd (geti c10 s12) fun t15 =>
  bnd (config_find N x0 t15.1) fun t20 =>
  br (decide (t20 < (0 : Int)))
   (some (5 : Int))
   (bnd (geti x0 t20) fun t27 =>
   bnd (slices_Contains_string_string N t27.2 t15.2) fun t32 =>
   br (!t32)
    (some (1 : Int))
    (br (x2)
     (bnd (geti x0 t20) fun t41 =>
     bnd (geti t41.2 (0 : Int)) fun t44 =>
     br (t15.2 == t44)
      (some (3 : Int))
      (br (decide (s12 > (0 : Int)))
       (bnd (geti x1 (IntKind.i64.wrap (s12 - (1 : Int)))) fun t57 =>
       br (Op.bytesLess t15.1 t57.1 || t15.1 == t57.1)
        (some (8 : Int))
        (self (IntKind.i64.wrap (s12 + (1 : Int)))))
       (self (IntKind.i64.wrap (s12 + (1 : Int))))))
     (br (decide (s12 > (0 : Int)))
      (bnd (geti x1 (IntKind.i64.wrap (s12 - (1 : Int)))) fun t57_1 =>
      br (Op.bytesLess t15.1 t57_1.1 || t15.1 == t57_1.1)
       (some (8 : Int))
       (self (IntKind.i64.wrap (s12 + (1 : Int)))))
      (self (IntKind.i64.wrap (s12 + (1 : Int))))))))
  (k0)
def z58L0 (N : Nat) (x0 : τ7) (x1 : List τ1) (x2 : Bool) (c10 : List τ1) (c11 : Int) (k0 : Option Int) : Nat → Int → Option Int
 | 0, _ => none
 | n + 1, s12 => z58L0T N x0 x1 x2 c10 c11 k0 (z58L0 N x0 x1 x2 c10 c11 k0 n) s12
def config_checkSet (N : Nat) (x0 : τ7) (x1 : List τ1) (x2 : Bool) : Option Int :=
 z58L0 N x0 x1 x2 x1 (x1.length : Int) (some (0 : Int)) N (0 : Int)
abbrev z58sg (f : SV [.v τ8, .v τ0, .v .bool] → BV [] → Option (Int)) : AF := { ps := [.v τ8, .v τ0, .v .bool], bs := [], rs := [.v τ5], cs := [], R := Int, out := fun z => ((z, ()), ()), f := f }
noncomputable abbrev z58g (N : Nat) : AF := z58sg fun x _ => config_checkSet N x.1 x.2.1 x.2.2.1
abbrev z58pk : SV [.v τ5] → BV [] → Int := fun x _ => x.1
def z58fn (N : Nat) : FuncId → Option Tmp → Option AF := fun f _ =>
 match f with
  | 56 => some (z8g N)
  | 73 => some (z91g N)
  | _ => none
theorem z58fn_ok (N : Nat) : FnOk (z58fn N) := by
 intro f q F h
 unfold z58fn at h
 split at h
 · cases h; exact z8sound N
 · cases h; exact z91sound N
 · cases h
def z58h : Nat → Hint := fun i =>
 match i with
 | 0 => ⟨[], [0, 1, 2, 10, 11, 12], [], [], [], []⟩
 | _ => hint0
abbrev z58E (N : Nat) : Env := mkE z58h (z58fn N) FF FF
noncomputable abbrev z58c0 : Code := cAt (bodyOf Tryz.f44) [true, false, true, false, false]
noncomputable abbrev z58R (N : Nat) := resD (z58E N) Tryz.f44 (z58g N) z58pk
abbrev z58L0_fs : List (Nat × Sl) := [(0, .v τ8), (1, .v τ0), (2, .v .bool), (10, .v τ0), (11, .v τ5), (12, .v τ5)]
abbrev z58L0_bs : List (Nat × Sb) := []
def z58L0_hd (x0 : τ7) (x1 : List τ1) (x2 : Bool) (c10 : List τ1) (c11 : Int) (s12 : Int) : St := ⟨63, [(0, .v τ8 x0), (1, .v τ0 x1), (2, .v .bool x2), (10, .v τ0 c10), (11, .v τ5 c11), (12, .v τ5 s12)], []⟩
def z58L0_tl0 (_x0 : τ7) (_x1 : List τ1) (_x2 : Bool) (_c10 : List τ1) (_c11 : Int) : St := ⟨63, [], []⟩
def z58L0_G (N : Nat) (x0 : τ7) (x1 : List τ1) (x2 : Bool) (c10 : List τ1) (c11 : Int) (s12 : Int) (k : Ex → St → Option Int) : Option Int :=
 z58L0 N x0 x1 x2 c10 c11 (k (.exit 0) (z58L0_tl0 x0 x1 x2 c10 c11)) N s12
abbrev z58L0_F (N : Nat) : FV z58L0_fs → HV z58L0_bs → (Ex → St → Option Int) → Option Int := fun x _ k => z58L0_G N x.1 x.2.1 x.2.2.1 x.2.2.2.1 x.2.2.2.2.1 x.2.2.2.2.2.1 k
noncomputable def z58LP (N : Nat) : Nat → Code → St → (Ex → St → Option Int) → Option Int := fun i c =>
 match i with
 | 0 => (LPc 63 z58L0_fs z58L0_bs (z58L0_F N) (fun st k => iter (z58h 0) (exec (z58E N) N c 0) N st k))
 | i => fun st k => iter (z58h i) (exec (z58E N) N c i) N st k
theorem z58L0_step (N : Nat) (x0 : τ7) (x1 : List τ1) (x2 : Bool) (c10 : List τ1) (c11 : Int) (KX : Nat → St → Option Int) (I : St → Option Int) (s12 : Int) :
  execL (z58LP N) (z58E N) z58c0 0 (z58L0_hd x0 x1 x2 c10 c11 s12) (roundK (z58h 0) I KX (z58R N)) = z58L0T N x0 x1 x2 c10 c11 (KX 0 (z58L0_tl0 x0 x1 x2 c10 c11)) (fun s12 => I (z58L0_hd x0 x1 x2 c10 c11 s12)) s12 := by kernel_rfl
theorem z58L0_ok (N : Nat) : ∀ x y k, (∀ st, k .ret st = (z58R N) st) → iter (z58h 0) (exec (z58E N) N z58c0 0) N ⟨63, unF z58L0_fs x, unH z58L0_bs y⟩ k = z58L0_F N x y k := fun x _ k hk =>
 iter_link (S := (Int) × Unit) (z58h 0) _ (execL (z58LP N) (z58E N) z58c0 0) (z58R N) (fun st k hk => execL_eq _ _ N _ z58c0 0 (show LoopsOk (z58LP N) (z58E N) N (z58R N) [] from trivial) st k hk) (fun s => z58L0_hd x.1 x.2.1 x.2.2.1 x.2.2.2.1 x.2.2.2.2.1 s.1) k hk
  (fun self s => z58L0T N x.1 x.2.1 x.2.2.1 x.2.2.2.1 x.2.2.2.2.1 (k (.exit 0) (z58L0_tl0 x.1 x.2.1 x.2.2.1 x.2.2.2.1 x.2.2.2.2.1)) (fun s12 => self (s12, ())) s.1) (fun n s => z58L0 N x.1 x.2.1 x.2.2.1 x.2.2.2.1 x.2.2.2.2.1 (k (.exit 0) (z58L0_tl0 x.1 x.2.1 x.2.2.1 x.2.2.2.1 x.2.2.2.2.1)) n s.1) (fun _ => rfl) (fun _ _ => rfl)
  (fun I s => z58L0_step N x.1 x.2.1 x.2.2.1 x.2.2.2.1 x.2.2.2.2.1 (fun j => k (.exit j)) I s.1) N (x.2.2.2.2.2.1, ())
theorem z58lp0 (N : Nat) : ∀ st k, (∀ st, k .ret st = (z58R N) st) → z58LP N 0 z58c0 st k = iter (Env.hint (z58E N) 0) (exec (z58E N) N z58c0 0) N st k := fun st k hk => LPc_eq 63 z58L0_fs z58L0_bs _ _ (z58R N) (z58L0_ok N) _ st k hk (rfl)
theorem z58core (N : Nat) (x : SV [.v τ8, .v τ0, .v .bool]) (y : BV []) : runL (z58E N) Tryz.f44 (z58g N) z58pk (z58LP N) x y = config_checkSet N x.1 x.2.1 x.2.2.1 := by kernel_rfl
theorem z58sound (N : Nat) : Snd 44 (z58g N) :=
 sndL (z58fn_ok N) Tryz.func44 rfl Tryz.call44 (z58g N) z58pk (fun _ _ => rfl) N (z58LP N) (show LoopsOk (z58LP N) (z58E N) N (z58R N) [(0, z58c0)] from ⟨z58lp0 N, trivial⟩) (z58core N)
def config_CheckConfig (N : Nat) (x0 : τ7) (x1 : List τ1) : Option Int :=
 bnd (config_CheckSettings N x0) fun t7 =>
 br (t7 != (0 : Int))
  (some t7)
  (bnd (config_checkSet N x0 x1 true) fun t13 =>
  some t13)
abbrev z42sg (f : SV [.v τ8, .v τ0] → BV [] → Option (Int)) : AF := { ps := [.v τ8, .v τ0], bs := [], rs := [.v τ5], cs := [], R := Int, out := fun z => ((z, ()), ()), f := f }
noncomputable abbrev z42g (N : Nat) : AF := z42sg fun x _ => config_CheckConfig N x.1 x.2.1
abbrev z42pk : SV [.v τ5] → BV [] → Int := fun x _ => x.1
def z42fn (N : Nat) : FuncId → Option Tmp → Option AF := fun f _ =>
 match f with
  | 42 => some (z34g N)
  | 44 => some (z58g N)
  | _ => none
theorem z42fn_ok (N : Nat) : FnOk (z42fn N) := by
 intro f q F h
 unfold z42fn at h
 split at h
 · cases h; exact z34sound N
 · cases h; exact z58sound N
 · cases h
def z42h : Nat → Hint := fun i =>
 match i with
 | _ => hint0
abbrev z42E (N : Nat) : Env := mkE z42h (z42fn N) FF FF
noncomputable def z42LP (N : Nat) : Nat → Code → St → (Ex → St → Option Int) → Option Int := fun i c =>
 match i with
 | i => fun st k => iter (z42h i) (exec (z42E N) N c i) N st k
theorem z42core (N : Nat) (x : SV [.v τ8, .v τ0]) (y : BV []) : runL (z42E N) Tryz.f29 (z42g N) z42pk (z42LP N) x y = config_CheckConfig N x.1 x.2.1 := by kernel_rfl
theorem z42sound (N : Nat) : Snd 29 (z42g N) :=
 sndL (z42fn_ok N) Tryz.func29 rfl Tryz.call29 (z42g N) z42pk (fun _ _ => rfl) N (z42LP N) (show LoopsOk (z42LP N) (z42E N) N (resD (z42E N) Tryz.f29 (z42g N) z42pk) [] from trivial) (z42core N)
def z74L0T (_N : Nat) (x1 : Str) (x0 : List τ1) (c9 : Int) (k0 : Option τ21) (self : Int → Option τ21) (s10 : Int) : Option τ21 :=
 br (decide (s10 < c9))
  (bnd (geti x0 s10) fun t12 =>
  br (t12.1 == x1)
   (some (t12.2, true))
   (self (IntKind.i64.wrap (s10 + (1 : Int)))))
  (k0)
def z74L0 (N : Nat) (x1 : Str) (x0 : List τ1) (c9 : Int) (k0 : Option τ21) : Nat → Int → Option τ21
 | 0, _ => none
 | n + 1, s10 => z74L0T N x1 x0 c9 k0 (z74L0 N x1 x0 c9 k0 n) s10
def config_pairOf (N : Nat) (x0 : List τ1) (x1 : Str) : Option τ21 :=
 z74L0 N x1 x0 (x0.length : Int) (some (([] : Str), false)) N (0 : Int)
abbrev z74sg (f : SV [.v τ0, .v .str] → BV [] → Option τ21) : AF := { ps := [.v τ0, .v .str], bs := [], rs := [.v .str, .v .bool], cs := [], R := Str × Bool, out := fun z => ((z.1, z.2, ()), ()), f := f }
noncomputable abbrev z74g (N : Nat) : AF := z74sg fun x _ => config_pairOf N x.1 x.2.1
abbrev z74pk : SV [.v .str, .v .bool] → BV [] → τ21 := fun x _ => (x.1, x.2.1)
def z74fn (_N : Nat) : FuncId → Option Tmp → Option AF := fun f _ =>
 match f with
  | _ => none
theorem z74fn_ok (N : Nat) : FnOk (z74fn N) := by
 intro f q F h
 unfold z74fn at h
 split at h
 · cases h
def z74h : Nat → Hint := fun i =>
 match i with
 | 0 => ⟨[], [1, 8, 9, 10], [], [], [], []⟩
 | _ => hint0
abbrev z74E (N : Nat) : Env := mkE z74h (z74fn N) FF FF
noncomputable abbrev z74c0 : Code := cAt (bodyOf Tryz.f48) [true, false, true, false, false]
noncomputable abbrev z74R (N : Nat) := resD (z74E N) Tryz.f48 (z74g N) z74pk
abbrev z74L0_fs : List (Nat × Sl) := [(1, .v .str), (8, .v τ0), (9, .v τ5), (10, .v τ5)]
abbrev z74L0_bs : List (Nat × Sb) := []
def z74L0_hd (x1 : Str) (x0 : List τ1) (c9 : Int) (s10 : Int) : St := ⟨21, [(1, .v .str x1), (8, .v τ0 x0), (9, .v τ5 c9), (10, .v τ5 s10)], []⟩
def z74L0_tl0 (_x1 : Str) (_x0 : List τ1) (_c9 : Int) : St := ⟨21, [], []⟩
def z74L0_G (N : Nat) (x1 : Str) (x0 : List τ1) (c9 : Int) (s10 : Int) (k : Ex → St → Option τ21) : Option τ21 :=
 z74L0 N x1 x0 c9 (k (.exit 0) (z74L0_tl0 x1 x0 c9)) N s10
abbrev z74L0_F (N : Nat) : FV z74L0_fs → HV z74L0_bs → (Ex → St → Option τ21) → Option τ21 := fun x _ k => z74L0_G N x.1 x.2.1 x.2.2.1 x.2.2.2.1 k
noncomputable def z74LP (N : Nat) : Nat → Code → St → (Ex → St → Option τ21) → Option τ21 := fun i c =>
 match i with
 | 0 => (LPc 21 z74L0_fs z74L0_bs (z74L0_F N) (fun st k => iter (z74h 0) (exec (z74E N) N c 0) N st k))
 | i => fun st k => iter (z74h i) (exec (z74E N) N c i) N st k
theorem z74L0_step (N : Nat) (x1 : Str) (x0 : List τ1) (c9 : Int) (KX : Nat → St → Option τ21) (I : St → Option τ21) (s10 : Int) :
  execL (z74LP N) (z74E N) z74c0 0 (z74L0_hd x1 x0 c9 s10) (roundK (z74h 0) I KX (z74R N)) = z74L0T N x1 x0 c9 (KX 0 (z74L0_tl0 x1 x0 c9)) (fun s10 => I (z74L0_hd x1 x0 c9 s10)) s10 := by kernel_rfl
theorem z74L0_ok (N : Nat) : ∀ x y k, (∀ st, k .ret st = (z74R N) st) → iter (z74h 0) (exec (z74E N) N z74c0 0) N ⟨21, unF z74L0_fs x, unH z74L0_bs y⟩ k = z74L0_F N x y k := fun x _ k hk =>
 iter_link (S := (Int) × Unit) (z74h 0) _ (execL (z74LP N) (z74E N) z74c0 0) (z74R N) (fun st k hk => execL_eq _ _ N _ z74c0 0 (show LoopsOk (z74LP N) (z74E N) N (z74R N) [] from trivial) st k hk) (fun s => z74L0_hd x.1 x.2.1 x.2.2.1 s.1) k hk
  (fun self s => z74L0T N x.1 x.2.1 x.2.2.1 (k (.exit 0) (z74L0_tl0 x.1 x.2.1 x.2.2.1)) (fun s10 => self (s10, ())) s.1) (fun n s => z74L0 N x.1 x.2.1 x.2.2.1 (k (.exit 0) (z74L0_tl0 x.1 x.2.1 x.2.2.1)) n s.1) (fun _ => rfl) (fun _ _ => rfl)
  (fun I s => z74L0_step N x.1 x.2.1 x.2.2.1 (fun j => k (.exit j)) I s.1) N (x.2.2.2.1, ())
theorem z74lp0 (N : Nat) : ∀ st k, (∀ st, k .ret st = (z74R N) st) → z74LP N 0 z74c0 st k = iter (Env.hint (z74E N) 0) (exec (z74E N) N z74c0 0) N st k := fun st k hk => LPc_eq 21 z74L0_fs z74L0_bs _ _ (z74R N) (z74L0_ok N) _ st k hk (rfl)
theorem z74core (N : Nat) (x : SV [.v τ0, .v .str]) (y : BV []) : runL (z74E N) Tryz.f48 (z74g N) z74pk (z74LP N) x y = config_pairOf N x.1 x.2.1 := by kernel_rfl
theorem z74sound (N : Nat) : Snd 48 (z74g N) :=
 sndL (z74fn_ok N) Tryz.func48 rfl Tryz.call48 (z74g N) z74pk (fun _ _ => rfl) N (z74LP N) (show LoopsOk (z74LP N) (z74E N) N (z74R N) [(0, z74c0)] from ⟨z74lp0 N, trivial⟩) (z74core N)
def config_valueOf (N : Nat) (x0 : τ7) (x1 : List τ1) (x2 : Str) : Option Str :=
 bnd (config_pairOf N x1 x2) fun t12 =>
 br (t12.2)
  (some t12.1)
  (bnd (config_find N x0 x2) fun t20 =>
  bnd (geti x0 t20) fun t21 =>
  bnd (geti t21.2 (0 : Int)) fun t24 =>
  some t24)
abbrev z64sg (f : SV [.v τ8, .v τ0, .v .str] → BV [] → Option (Str)) : AF := { ps := [.v τ8, .v τ0, .v .str], bs := [], rs := [.v .str], cs := [], R := Str, out := fun z => ((z, ()), ()), f := f }
noncomputable abbrev z64g (N : Nat) : AF := z64sg fun x _ => config_valueOf N x.1 x.2.1 x.2.2.1
abbrev z64pk : SV [.v .str] → BV [] → Str := fun x _ => x.1
def z64fn (N : Nat) : FuncId → Option Tmp → Option AF := fun f _ =>
 match f with
  | 48 => some (z74g N)
  | 73 => some (z91g N)
  | _ => none
theorem z64fn_ok (N : Nat) : FnOk (z64fn N) := by
 intro f q F h
 unfold z64fn at h
 split at h
 · cases h; exact z74sound N
 · cases h; exact z91sound N
 · cases h
def z64h : Nat → Hint := fun i =>
 match i with
 | _ => hint0
abbrev z64E (N : Nat) : Env := mkE z64h (z64fn N) FF FF
noncomputable def z64LP (N : Nat) : Nat → Code → St → (Ex → St → Option Str) → Option Str := fun i c =>
 match i with
 | i => fun st k => iter (z64h i) (exec (z64E N) N c i) N st k
theorem z64core (N : Nat) (x : SV [.v τ8, .v τ0, .v .str]) (y : BV []) : runL (z64E N) Tryz.f74 (z64g N) z64pk (z64LP N) x y = config_valueOf N x.1 x.2.1 x.2.2.1 := by kernel_rfl
theorem z64sound (N : Nat) : Snd 74 (z64g N) :=
 sndL (z64fn_ok N) Tryz.func74 rfl Tryz.call74 (z64g N) z64pk (fun _ _ => rfl) N (z64LP N) (show LoopsOk (z64LP N) (z64E N) N (resD (z64E N) Tryz.f74 (z64g N) z64pk) [] from trivial) (z64core N)
def config_ValueOf (N : Nat) (x0 : τ7) (x1 : List τ1) (x2 : Str) : Option (Str × Int) :=
 bnd (config_CheckConfig N x0 x1) fun t11 =>
 br (t11 != (0 : Int))
  (some (([] : Str), t11))
  (bnd (config_find N x0 x2) fun t17 =>
  br (decide (t17 < (0 : Int)))
   (some (([] : Str), (5 : Int)))
   (bnd (config_valueOf N x0 x1 x2) fun t22 =>
   some (t22, (0 : Int))))
abbrev z63sg (f : SV [.v τ8, .v τ0, .v .str] → BV [] → Option (Str × Int)) : AF := { ps := [.v τ8, .v τ0, .v .str], bs := [], rs := [.v .str, .v τ5], cs := [], R := Str × Int, out := fun z => ((z.1, z.2, ()), ()), f := f }
noncomputable abbrev z63g (N : Nat) : AF := z63sg fun x _ => config_ValueOf N x.1 x.2.1 x.2.2.1
abbrev z63pk : SV [.v .str, .v τ5] → BV [] → (Str × Int) := fun x _ => (x.1, x.2.1)
def z63fn (N : Nat) : FuncId → Option Tmp → Option AF := fun f _ =>
 match f with
  | 29 => some (z42g N)
  | 73 => some (z91g N)
  | 74 => some (z64g N)
  | _ => none
theorem z63fn_ok (N : Nat) : FnOk (z63fn N) := by
 intro f q F h
 unfold z63fn at h
 split at h
 · cases h; exact z42sound N
 · cases h; exact z91sound N
 · cases h; exact z64sound N
 · cases h
def z63h : Nat → Hint := fun i =>
 match i with
 | _ => hint0
abbrev z63E (N : Nat) : Env := mkE z63h (z63fn N) FF FF
noncomputable def z63LP (N : Nat) : Nat → Code → St → (Ex → St → Option (Str × Int)) → Option (Str × Int) := fun i c =>
 match i with
 | i => fun st k => iter (z63h i) (exec (z63E N) N c i) N st k
theorem z63core (N : Nat) (x : SV [.v τ8, .v τ0, .v .str]) (y : BV []) : runL (z63E N) Tryz.f27 (z63g N) z63pk (z63LP N) x y = config_ValueOf N x.1 x.2.1 x.2.2.1 := by kernel_rfl
theorem z63sound (N : Nat) : Snd 27 (z63g N) :=
 sndL (z63fn_ok N) Tryz.func27 rfl Tryz.call27 (z63g N) z63pk (fun _ _ => rfl) N (z63LP N) (show LoopsOk (z63LP N) (z63E N) N (resD (z63E N) Tryz.f27 (z63g N) z63pk) [] from trivial) (z63core N)
end
end Go.Proofs.YtbekhaioddmliaaGreatDoor

