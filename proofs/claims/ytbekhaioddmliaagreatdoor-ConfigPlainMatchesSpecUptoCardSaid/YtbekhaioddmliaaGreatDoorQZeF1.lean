/- What functions of the program compute, as plain functions (printed). -/
import Derived.Test.YtbekhaioddmliaaGreatDoorQZeT
namespace Go.Proofs.YtbekhaioddmliaaGreatDoor
open Go Go.RowKit
abbrev FF : Nat → Bool := fun _ => false
abbrev hint0 : Hint := ⟨[], [], [], [], [], []⟩
abbrev FnOk (fn : FuncId → Option Tmp → Option AF) : Prop := ∀ f q F, fn f q = some F → Sound Tryz.prog GW B0G f F
abbrev Snd : FuncId → AF → Prop := Sound Tryz.prog GW B0G
theorem sndL {h : Nat → Hint} {fn : FuncId → Option Tmp → Option AF} (ok : FnOk fn) {f : FuncId} {g : Func} {c : Code} (hf : Tryz.prog.funcs[f]? = some g) (hb : g.body = some c)
  (hcall : ∀ (args : Array Value) (w : World), (callFunc f args).run Tryz.prog w = .ok (.enter f args) w) (F : AF) (pk : SV F.rs → BV F.cs → F.R) (hpk : ∀ x y, F.out (pk x y) = (x, y)) (N : Nat)
  (LP : Nat → Code → St → (Ex → St → Option F.R) → Option F.R) (hl : LoopsOk LP (mkE h fn FF FF) N (resD (mkE h fn FF FF) g F pk) (loops (bodyOf g) 0))
  (core : ∀ x y, runL (mkE h fn FF FF) g F pk LP x y = F.f x y) (hkp : keptF F.bs F.cs = false := by rfl) : Snd f F :=
 runD_sound (mkE_ok h fn _ _ ok) hf hb hcall F pk hpk N (fun x y _ e => ((runL_eq (mkE h fn FF FF) N g F pk LP hl x y).trans (core x y)).trans e) hkp
end Go.Proofs.YtbekhaioddmliaaGreatDoor
namespace Go.Proofs.YtbekhaioddmliaaGreatDoor
open Go Go.RowKit
set_option maxRecDepth 100000
set_option linter.unusedVariables false
noncomputable section
def config_IsWord (_N : Nat) (x0 : Str) : Option Bool :=
 br (decide ((x0.length : Int) < (1 : Int)))
  (some false)
  (br (decide ((x0.length : Int) > (40 : Int)))
   (some false)
   (bnd (geti x0 (0 : Int)) fun t13 =>
   br (decide (t13 < (97 : UInt8)))
    (some false)
    (bnd (geti x0 (0 : Int)) fun t18 =>
    br (decide (t18 > (122 : UInt8)))
     (some false)
     (bnd (strings_Trim x0 ([97, 98, 99, 100, 101, 102, 103, 104, 105, 106, 107, 108, 109, 110, 111, 112, 113, 114, 115, 116, 117, 118, 119, 120, 121, 122, 48, 49, 50, 51, 52, 53, 54, 55, 56, 57, 95, 45] : Str)) fun t22 =>
     some (t22 == ([] : Str))))))
abbrev z79sg (f : SV [.v .str] → BV [] → Option (Bool)) : AF := { ps := [.v .str], bs := [], rs := [.v .bool], cs := [], R := Bool, out := fun z => ((z, ()), ()), f := f }
noncomputable abbrev z79g (N : Nat) : AF := z79sg fun x _ => config_IsWord N x.1
abbrev z79pk : SV [.v .bool] → BV [] → Bool := fun x _ => x.1
def z79fn (_N : Nat) : FuncId → Option Tmp → Option AF := fun f _ =>
 match f with
  | 102 => some (z96sg fun x _ => strings_Trim x.1 x.2.1)
  | _ => none
theorem z79fn_ok (N : Nat) : FnOk (z79fn N) := by
 intro f q F h
 unfold z79fn at h
 split at h
 · cases h; exact z96sound
 · cases h
def z79h : Nat → Hint := fun i =>
 match i with
 | _ => hint0
abbrev z79E (N : Nat) : Env := mkE z79h (z79fn N) FF FF
noncomputable def z79LP (N : Nat) : Nat → Code → St → (Ex → St → Option Bool) → Option Bool := fun i c =>
 match i with
 | i => fun st k => iter (z79h i) (exec (z79E N) N c i) N st k
theorem z79core (N : Nat) (x : SV [.v .str]) (y : BV []) : runL (z79E N) Tryz.f43 (z79g N) z79pk (z79LP N) x y = config_IsWord N x.1 := by kernel_rfl
theorem z79sound (N : Nat) : Snd 43 (z79g N) :=
 sndL (z79fn_ok N) Tryz.func43 rfl Tryz.call43 (z79g N) z79pk (fun _ _ => rfl) N (z79LP N) (show LoopsOk (z79LP N) (z79E N) N (resD (z79E N) Tryz.f43 (z79g N) z79pk) [] from trivial) (z79core N)
def z17L0T (_N : Nat) (x0 : List Str) (x1 : Str) (c7 : Int) (k0 : τ26) (self : Int → Option Int) (s8 : Int) : Option Int :=
 br (decide (s8 < c7))
  (bnd (geti x0 s8) fun t14 =>
  br (x1 == t14)
   (some s8)
   (self (IntKind.i64.wrap (s8 + (1 : Int)))))
  (k0)
def z17L0 (N : Nat) (x0 : List Str) (x1 : Str) (c7 : Int) (k0 : τ26) : Nat → Int → Option Int
 | 0, _ => none
 | n + 1, s8 => z17L0T N x0 x1 c7 k0 (z17L0 N x0 x1 c7 k0 n) s8
def slices_Index_string_string (N : Nat) (x0 : List Str) (x1 : Str) : Option Int :=
 z17L0 N x0 x1 (x0.length : Int) (some (-1 : Int)) N (0 : Int)
abbrev z17sg (f : SV [.v τ22, .v .str] → BV [] → Option (Int)) : AF := { ps := [.v τ22, .v .str], bs := [], rs := [.v τ6], cs := [], R := Int, out := fun z => ((z, ()), ()), f := f }
noncomputable abbrev z17g (N : Nat) : AF := z17sg fun x _ => slices_Index_string_string N x.1 x.2.1
abbrev z17pk : SV [.v τ6] → BV [] → Int := fun x _ => x.1
def z17fn (_N : Nat) : FuncId → Option Tmp → Option AF := fun f _ =>
 match f with
  | _ => none
theorem z17fn_ok (N : Nat) : FnOk (z17fn N) := by
 intro f q F h
 unfold z17fn at h
 split at h
 · cases h
def z17h : Nat → Hint := fun i =>
 match i with
 | 0 => ⟨[], [0, 1, 7, 8], [], [], [], []⟩
 | _ => hint0
abbrev z17E (N : Nat) : Env := mkE z17h (z17fn N) FF FF
noncomputable abbrev z17c0 : Code := cAt (bodyOf Tryz.f105) [true, false, true, false, false]
noncomputable abbrev z17R (N : Nat) := resD (z17E N) Tryz.f105 (z17g N) z17pk
abbrev z17L0_fs : List (Nat × Sl) := [(0, .v τ22), (1, .v .str), (7, .v τ6), (8, .v τ6)]
abbrev z17L0_bs : List (Nat × Sb) := []
def z17L0_hd (x0 : List Str) (x1 : Str) (c7 : Int) (s8 : Int) : St := ⟨19, [(0, .v τ22 x0), (1, .v .str x1), (7, .v τ6 c7), (8, .v τ6 s8)], []⟩
def z17L0_tl0 (_x0 : List Str) (_x1 : Str) (_c7 : Int) : St := ⟨19, [], []⟩
def z17L0_G (N : Nat) (x0 : List Str) (x1 : Str) (c7 : Int) (s8 : Int) (k : Ex → St → Option Int) : Option Int :=
 z17L0 N x0 x1 c7 (k (.exit 0) (z17L0_tl0 x0 x1 c7)) N s8
abbrev z17L0_F (N : Nat) : FV z17L0_fs → HV z17L0_bs → (Ex → St → Option Int) → Option Int := fun x _ k => z17L0_G N x.1 x.2.1 x.2.2.1 x.2.2.2.1 k
noncomputable def z17LP (N : Nat) : Nat → Code → St → (Ex → St → Option Int) → Option Int := fun i c =>
 match i with
 | 0 => (LPc 19 z17L0_fs z17L0_bs (z17L0_F N) (fun st k => iter (z17h 0) (exec (z17E N) N c 0) N st k))
 | i => fun st k => iter (z17h i) (exec (z17E N) N c i) N st k
theorem z17L0_step (N : Nat) (x0 : List Str) (x1 : Str) (c7 : Int) (KX : Nat → St → Option Int) (I : St → Option Int) (s8 : Int) :
  execL (z17LP N) (z17E N) z17c0 0 (z17L0_hd x0 x1 c7 s8) (roundK (z17h 0) I KX (z17R N)) = z17L0T N x0 x1 c7 (KX 0 (z17L0_tl0 x0 x1 c7)) (fun s8 => I (z17L0_hd x0 x1 c7 s8)) s8 := by kernel_rfl
theorem z17L0_ok (N : Nat) : ∀ x y k, (∀ st, k .ret st = (z17R N) st) → iter (z17h 0) (exec (z17E N) N z17c0 0) N ⟨19, unF z17L0_fs x, unH z17L0_bs y⟩ k = z17L0_F N x y k := fun x _ k hk =>
 iter_link (S := (Int) × Unit) (z17h 0) _ (execL (z17LP N) (z17E N) z17c0 0) (z17R N) (fun st k hk => execL_eq _ _ N _ z17c0 0 (show LoopsOk (z17LP N) (z17E N) N (z17R N) [] from trivial) st k hk) (fun s => z17L0_hd x.1 x.2.1 x.2.2.1 s.1) k hk
  (fun self s => z17L0T N x.1 x.2.1 x.2.2.1 (k (.exit 0) (z17L0_tl0 x.1 x.2.1 x.2.2.1)) (fun s8 => self (s8, ())) s.1) (fun n s => z17L0 N x.1 x.2.1 x.2.2.1 (k (.exit 0) (z17L0_tl0 x.1 x.2.1 x.2.2.1)) n s.1) (fun _ => rfl) (fun _ _ => rfl)
  (fun I s => z17L0_step N x.1 x.2.1 x.2.2.1 (fun j => k (.exit j)) I s.1) N (x.2.2.2.1, ())
theorem z17lp0 (N : Nat) : ∀ st k, (∀ st, k .ret st = (z17R N) st) → z17LP N 0 z17c0 st k = iter (Env.hint (z17E N) 0) (exec (z17E N) N z17c0 0) N st k := fun st k hk => LPc_eq 19 z17L0_fs z17L0_bs _ _ (z17R N) (z17L0_ok N) _ st k hk (rfl)
theorem z17core (N : Nat) (x : SV [.v τ22, .v .str]) (y : BV []) : runL (z17E N) Tryz.f105 (z17g N) z17pk (z17LP N) x y = slices_Index_string_string N x.1 x.2.1 := by kernel_rfl
theorem z17sound (N : Nat) : Snd 105 (z17g N) :=
 sndL (z17fn_ok N) Tryz.func105 rfl Tryz.call105 (z17g N) z17pk (fun _ _ => rfl) N (z17LP N) (show LoopsOk (z17LP N) (z17E N) N (z17R N) [(0, z17c0)] from ⟨z17lp0 N, trivial⟩) (z17core N)
def slices_Contains_string_string (N : Nat) (x0 : List Str) (x1 : Str) : Option Bool :=
 bnd (slices_Index_string_string N x0 x1) fun t7 =>
 some (decide (t7 ≥ (0 : Int)))
abbrev z7sg (f : SV [.v τ22, .v .str] → BV [] → Option (Bool)) : AF := { ps := [.v τ22, .v .str], bs := [], rs := [.v .bool], cs := [], R := Bool, out := fun z => ((z, ()), ()), f := f }
noncomputable abbrev z7g (N : Nat) : AF := z7sg fun x _ => slices_Contains_string_string N x.1 x.2.1
abbrev z7pk : SV [.v .bool] → BV [] → Bool := fun x _ => x.1
def z7fn (N : Nat) : FuncId → Option Tmp → Option AF := fun f _ =>
 match f with
  | 105 => some (z17g N)
  | _ => none
theorem z7fn_ok (N : Nat) : FnOk (z7fn N) := by
 intro f q F h
 unfold z7fn at h
 split at h
 · cases h; exact z17sound N
 · cases h
def z7h : Nat → Hint := fun i =>
 match i with
 | _ => hint0
abbrev z7E (N : Nat) : Env := mkE z7h (z7fn N) FF FF
noncomputable def z7LP (N : Nat) : Nat → Code → St → (Ex → St → Option Bool) → Option Bool := fun i c =>
 match i with
 | i => fun st k => iter (z7h i) (exec (z7E N) N c i) N st k
theorem z7core (N : Nat) (x : SV [.v τ22, .v .str]) (y : BV []) : runL (z7E N) Tryz.f56 (z7g N) z7pk (z7LP N) x y = slices_Contains_string_string N x.1 x.2.1 := by kernel_rfl
theorem z7sound (N : Nat) : Snd 56 (z7g N) :=
 sndL (z7fn_ok N) Tryz.func56 rfl Tryz.call56 (z7g N) z7pk (fun _ _ => rfl) N (z7LP N) (show LoopsOk (z7LP N) (z7E N) N (resD (z7E N) Tryz.f56 (z7g N) z7pk) [] from trivial) (z7core N)
def z30L1T (N : Nat) (c33 : List Str) (c34 : Int) (κ4_1 : List Str) (k3 : τ26) (self : Int → Option Int) (s35 : Int) : Option Int :=
 br (decide (s35 < c34))
  (bnd (geti c33 s35) fun t38 =>
  bnd (config_IsWord N t38) fun t41 =>
  br (!t41)
   (some (5 : Int))
   (bnd (slc κ4_1 (0 : Int) s35) fun t46 =>
   bnd (slices_Contains_string_string N t46 t38) fun t48 =>
   br (t48)
    (some (7 : Int))
    (self (IntKind.i64.wrap (s35 + (1 : Int))))))
  (k3)
def z30L1 (N : Nat) (c33 : List Str) (c34 : Int) (κ4_1 : List Str) (k3 : τ26) : Nat → Int → Option Int
 | 0, _ => none
 | n + 1, s35 => z30L1T N c33 c34 κ4_1 k3 (z30L1 N c33 c34 κ4_1 k3 n) s35
def z30L0T (N : Nat) (x0 : τ7) (c10 : τ7) (c11 : Int) (k0 : τ26) (self : Int → Option Int) (s12 : Int) : Option Int :=
 br (decide (s12 < c11))
  (bnd (geti c10 s12) fun t15 =>
  bnd (config_IsWord N t15.1) fun t20 =>
  br (!t20)
   (some (5 : Int))
   (br ((t15.2.length : Int) == (0 : Int))
    (some (9 : Int))
    (br (decide ((t15.2.length : Int) > (20 : Int)))
     (some (2 : Int))
     (z30L1 N t15.2 (t15.2.length : Int) t15.2 (br (decide (s12 > (0 : Int)))
        (bnd (geti x0 (IntKind.i64.wrap (s12 - (1 : Int)))) fun t58 =>
        br (Op.bytesLess t15.1 t58.1 || t15.1 == t58.1)
         (some (8 : Int))
         (self (IntKind.i64.wrap (s12 + (1 : Int)))))
        (self (IntKind.i64.wrap (s12 + (1 : Int))))) N (0 : Int)))))
  (k0)
def z30L0 (N : Nat) (x0 : τ7) (c10 : τ7) (c11 : Int) (k0 : τ26) : Nat → Int → Option Int
 | 0, _ => none
 | n + 1, s12 => z30L0T N x0 c10 c11 k0 (z30L0 N x0 c10 c11 k0 n) s12
def config_CheckSettings (N : Nat) (x0 : τ7) : Option Int :=
 br (decide ((x0.length : Int) > (30 : Int)))
  (some (2 : Int))
  (z30L0 N x0 x0 (x0.length : Int) (some (0 : Int)) N (0 : Int))
abbrev z30sg (f : SV [.v τ9] → BV [] → Option (Int)) : AF := { ps := [.v τ9], bs := [], rs := [.v τ6], cs := [], R := Int, out := fun z => ((z, ()), ()), f := f }
noncomputable abbrev z30g (N : Nat) : AF := z30sg fun x _ => config_CheckSettings N x.1
abbrev z30pk : SV [.v τ6] → BV [] → Int := fun x _ => x.1
def z30fn (N : Nat) : FuncId → Option Tmp → Option AF := fun f _ =>
 match f with
  | 43 => some (z79g N)
  | 56 => some (z7g N)
  | _ => none
theorem z30fn_ok (N : Nat) : FnOk (z30fn N) := by
 intro f q F h
 unfold z30fn at h
 split at h
 · cases h; exact z79sound N
 · cases h; exact z7sound N
 · cases h
def z30h : Nat → Hint := fun i =>
 match i with
 | 0 => ⟨[], [0, 10, 11, 12], [], [], [], []⟩
 | 3 => ⟨[], [0, 3, 4, 10, 11, 12, 33, 34, 35], [1004], [0, 3, 4, 10, 11, 12], [1004], []⟩
 | _ => hint0
abbrev z30E (N : Nat) : Env := mkE z30h (z30fn N) FF FF
noncomputable abbrev z30c1 : Code := cAt (bodyOf Tryz.f42) [true, true, false, true, false, false]
noncomputable abbrev z30c0 : Code := cAt (bodyOf Tryz.f42) [true, true, false, true, false, false, true, true, false, false, true, true, false, true, false, false]
noncomputable abbrev z30R (N : Nat) := resD (z30E N) Tryz.f42 (z30g N) z30pk
abbrev z30L1_fs : List (Nat × Sl) := [(0, .v τ9), (3, .v τ6), (4, .box 1004 0), (10, .v τ9), (11, .v τ6), (12, .v τ6), (33, .v τ22), (34, .v τ6), (35, .v τ6)]
abbrev z30L1_bs : List (Nat × Sb) := [(1004, .cells [.v .str, .v τ22])]
def z30L1_hd (x0 : τ7) (s12 : Int) (c10 : τ7) (c11 : Int) (c12 : Int) (c33 : List Str) (c34 : Int) (κ4_0 : Str) (κ4_1 : List Str) (s35 : Int) : St := ⟨64, [(0, .v τ9 x0), (3, .v τ6 s12), (4, .box 1004 0), (10, .v τ9 c10), (11, .v τ6 c11), (12, .v τ6 c12), (33, .v τ22 c33), (34, .v τ6 c34), (35, .v τ6 s35)], [(1004, .cells [.v .str κ4_0, .v τ22 κ4_1])]⟩
def z30L1_tl3 (x0 : τ7) (s12 : Int) (c10 : τ7) (c11 : Int) (c12 : Int) (_c33 : List Str) (_c34 : Int) (κ4_0 : Str) (κ4_1 : List Str) : St := ⟨64, [(0, .v τ9 x0), (3, .v τ6 s12), (4, .box 1004 0), (10, .v τ9 c10), (11, .v τ6 c11), (12, .v τ6 c12)], [(1004, .cells [.v .str κ4_0, .v τ22 κ4_1])]⟩
def z30L1_G (N : Nat) (x0 : τ7) (s12 : Int) (c10 : τ7) (c11 : Int) (c12 : Int) (c33 : List Str) (c34 : Int) (κ4_0 : Str) (κ4_1 : List Str) (s35 : Int) (k : Ex → St → Option Int) : Option Int :=
 z30L1 N c33 c34 κ4_1 (k (.exit 3) (z30L1_tl3 x0 s12 c10 c11 c12 c33 c34 κ4_0 κ4_1)) N s35
abbrev z30L1_F (N : Nat) : FV z30L1_fs → HV z30L1_bs → (Ex → St → Option Int) → Option Int := fun x y k => z30L1_G N x.1 x.2.1 x.2.2.2.1 x.2.2.2.2.1 x.2.2.2.2.2.1 x.2.2.2.2.2.2.1 x.2.2.2.2.2.2.2.1 y.1.1 y.1.2.1 x.2.2.2.2.2.2.2.2.1 k
abbrev z30L0_fs : List (Nat × Sl) := [(0, .v τ9), (10, .v τ9), (11, .v τ6), (12, .v τ6)]
abbrev z30L0_bs : List (Nat × Sb) := []
def z30L0_hd (x0 : τ7) (c10 : τ7) (c11 : Int) (s12 : Int) : St := ⟨64, [(0, .v τ9 x0), (10, .v τ9 c10), (11, .v τ6 c11), (12, .v τ6 s12)], []⟩
def z30L0_tl0 (_x0 : τ7) (_c10 : τ7) (_c11 : Int) : St := ⟨64, [], []⟩
def z30L0_G (N : Nat) (x0 : τ7) (c10 : τ7) (c11 : Int) (s12 : Int) (k : Ex → St → Option Int) : Option Int :=
 z30L0 N x0 c10 c11 (k (.exit 0) (z30L0_tl0 x0 c10 c11)) N s12
abbrev z30L0_F (N : Nat) : FV z30L0_fs → HV z30L0_bs → (Ex → St → Option Int) → Option Int := fun x _ k => z30L0_G N x.1 x.2.1 x.2.2.1 x.2.2.2.1 k
noncomputable def z30LP (N : Nat) : Nat → Code → St → (Ex → St → Option Int) → Option Int := fun i c =>
 match i with
 | 0 => (LPc 64 z30L0_fs z30L0_bs (z30L0_F N) (fun st k => iter (z30h 0) (exec (z30E N) N c 0) N st k))
 | 3 => (LPc 64 z30L1_fs z30L1_bs (z30L1_F N) (fun st k => iter (z30h 3) (exec (z30E N) N c 3) N st k))
 | i => fun st k => iter (z30h i) (exec (z30E N) N c i) N st k
theorem z30L1_step (N : Nat) (x0 : τ7) (s12 : Int) (c10 : τ7) (c11 : Int) (c12 : Int) (c33 : List Str) (c34 : Int) (κ4_0 : Str) (κ4_1 : List Str) (KX : Nat → St → Option Int) (I : St → Option Int) (s35 : Int) :
  execL (z30LP N) (z30E N) z30c0 3 (z30L1_hd x0 s12 c10 c11 c12 c33 c34 κ4_0 κ4_1 s35) (roundK (z30h 3) I KX (z30R N)) = z30L1T N c33 c34 κ4_1 (KX 3 (z30L1_tl3 x0 s12 c10 c11 c12 c33 c34 κ4_0 κ4_1)) (fun s35 => I (z30L1_hd x0 s12 c10 c11 c12 c33 c34 κ4_0 κ4_1 s35)) s35 := by kernel_rfl
theorem z30L1_ok (N : Nat) : ∀ x y k, (∀ st, k .ret st = (z30R N) st) → iter (z30h 3) (exec (z30E N) N z30c0 3) N ⟨64, unF z30L1_fs x, unH z30L1_bs y⟩ k = z30L1_F N x y k := fun x y k hk =>
 iter_link (S := (Int) × Unit) (z30h 3) _ (execL (z30LP N) (z30E N) z30c0 3) (z30R N) (fun st k hk => execL_eq _ _ N _ z30c0 3 (show LoopsOk (z30LP N) (z30E N) N (z30R N) [] from trivial) st k hk) (fun s => z30L1_hd x.1 x.2.1 x.2.2.2.1 x.2.2.2.2.1 x.2.2.2.2.2.1 x.2.2.2.2.2.2.1 x.2.2.2.2.2.2.2.1 y.1.1 y.1.2.1 s.1) k hk
  (fun self s => z30L1T N x.2.2.2.2.2.2.1 x.2.2.2.2.2.2.2.1 y.1.2.1 (k (.exit 3) (z30L1_tl3 x.1 x.2.1 x.2.2.2.1 x.2.2.2.2.1 x.2.2.2.2.2.1 x.2.2.2.2.2.2.1 x.2.2.2.2.2.2.2.1 y.1.1 y.1.2.1)) (fun s35 => self (s35, ())) s.1) (fun n s => z30L1 N x.2.2.2.2.2.2.1 x.2.2.2.2.2.2.2.1 y.1.2.1 (k (.exit 3) (z30L1_tl3 x.1 x.2.1 x.2.2.2.1 x.2.2.2.2.1 x.2.2.2.2.2.1 x.2.2.2.2.2.2.1 x.2.2.2.2.2.2.2.1 y.1.1 y.1.2.1)) n s.1) (fun _ => rfl) (fun _ _ => rfl)
  (fun I s => z30L1_step N x.1 x.2.1 x.2.2.2.1 x.2.2.2.2.1 x.2.2.2.2.2.1 x.2.2.2.2.2.2.1 x.2.2.2.2.2.2.2.1 y.1.1 y.1.2.1 (fun j => k (.exit j)) I s.1) N (x.2.2.2.2.2.2.2.2.1, ())
theorem z30lp3 (N : Nat) : ∀ st k, (∀ st, k .ret st = (z30R N) st) → z30LP N 3 z30c0 st k = iter (Env.hint (z30E N) 3) (exec (z30E N) N z30c0 3) N st k := fun st k hk => LPc_eq 64 z30L1_fs z30L1_bs _ _ (z30R N) (z30L1_ok N) _ st k hk (rfl)
theorem z30L0_step (N : Nat) (x0 : τ7) (c10 : τ7) (c11 : Int) (KX : Nat → St → Option Int) (I : St → Option Int) (s12 : Int) :
  execL (z30LP N) (z30E N) z30c1 0 (z30L0_hd x0 c10 c11 s12) (roundK (z30h 0) I KX (z30R N)) = z30L0T N x0 c10 c11 (KX 0 (z30L0_tl0 x0 c10 c11)) (fun s12 => I (z30L0_hd x0 c10 c11 s12)) s12 := by kernel_rfl
theorem z30L0_ok (N : Nat) : ∀ x y k, (∀ st, k .ret st = (z30R N) st) → iter (z30h 0) (exec (z30E N) N z30c1 0) N ⟨64, unF z30L0_fs x, unH z30L0_bs y⟩ k = z30L0_F N x y k := fun x _ k hk =>
 iter_link (S := (Int) × Unit) (z30h 0) _ (execL (z30LP N) (z30E N) z30c1 0) (z30R N) (fun st k hk => execL_eq _ _ N _ z30c1 0 (show LoopsOk (z30LP N) (z30E N) N (z30R N) [(3, z30c0)] from ⟨z30lp3 N, trivial⟩) st k hk) (fun s => z30L0_hd x.1 x.2.1 x.2.2.1 s.1) k hk
  (fun self s => z30L0T N x.1 x.2.1 x.2.2.1 (k (.exit 0) (z30L0_tl0 x.1 x.2.1 x.2.2.1)) (fun s12 => self (s12, ())) s.1) (fun n s => z30L0 N x.1 x.2.1 x.2.2.1 (k (.exit 0) (z30L0_tl0 x.1 x.2.1 x.2.2.1)) n s.1) (fun _ => rfl) (fun _ _ => rfl)
  (fun I s => z30L0_step N x.1 x.2.1 x.2.2.1 (fun j => k (.exit j)) I s.1) N (x.2.2.2.1, ())
theorem z30lp0 (N : Nat) : ∀ st k, (∀ st, k .ret st = (z30R N) st) → z30LP N 0 z30c1 st k = iter (Env.hint (z30E N) 0) (exec (z30E N) N z30c1 0) N st k := fun st k hk => LPc_eq 64 z30L0_fs z30L0_bs _ _ (z30R N) (z30L0_ok N) _ st k hk (rfl)
theorem z30core (N : Nat) (x : SV [.v τ9]) (y : BV []) : runL (z30E N) Tryz.f42 (z30g N) z30pk (z30LP N) x y = config_CheckSettings N x.1 := by kernel_rfl
theorem z30sound (N : Nat) : Snd 42 (z30g N) :=
 sndL (z30fn_ok N) Tryz.func42 rfl Tryz.call42 (z30g N) z30pk (fun _ _ => rfl) N (z30LP N) (show LoopsOk (z30LP N) (z30E N) N (z30R N) [(0, z30c1), (3, z30c0)] from ⟨z30lp0 N, z30lp3 N, trivial⟩) (z30core N)
def config_find_1 (_N : Nat) (x0 : Str × List Str) (x1 : Str) : Option Bool :=
 some (x0.1 == x1)
abbrev z81sg (f : SV [.v (.pr .str τ22), .v (.ptr .str)] → BV [] → Option (Bool)) : AF := { ps := [.v (.pr .str τ22), .v (.ptr .str)], bs := [], rs := [.v .bool], cs := [], R := Bool, out := fun z => ((z, ()), ()), f := f }
noncomputable abbrev z81g (N : Nat) : AF := z81sg fun x _ => config_find_1 N x.1 x.2.1
abbrev z81pk : SV [.v .bool] → BV [] → Bool := fun x _ => x.1
def z81fn (_N : Nat) : FuncId → Option Tmp → Option AF := fun f _ =>
 match f with
  | _ => none
theorem z81fn_ok (N : Nat) : FnOk (z81fn N) := by
 intro f q F h
 unfold z81fn at h
 split at h
 · cases h
def z81h : Nat → Hint := fun i =>
 match i with
 | _ => hint0
abbrev z81E (N : Nat) : Env := mkE z81h (z81fn N) FF FF
noncomputable def z81LP (N : Nat) : Nat → Code → St → (Ex → St → Option Bool) → Option Bool := fun i c =>
 match i with
 | i => fun st k => iter (z81h i) (exec (z81E N) N c i) N st k
theorem z81core (N : Nat) (x : SV [.v (.pr .str τ22), .v (.ptr .str)]) (y : BV []) : runL (z81E N) Tryz.f127 (z81g N) z81pk (z81LP N) x y = config_find_1 N x.1 x.2.1 := by kernel_rfl
theorem z81sound (N : Nat) : Snd 127 (z81g N) :=
 sndL (z81fn_ok N) Tryz.func127 rfl Tryz.call127 (z81g N) z81pk (fun _ _ => rfl) N (z81LP N) (show LoopsOk (z81LP N) (z81E N) N (resD (z81E N) Tryz.f127 (z81g N) z81pk) [] from trivial) (z81core N)
def z12L0T (N : Nat) (x0 : τ7) (x1 : Str × Unit) (c7 : Int) (k0 : τ26) (self : Int → Option Int) (s8 : Int) : Option Int :=
 br (decide (s8 < c7))
  (bnd (geti x0 s8) fun t14 =>
  bnd (config_find_1 N t14 x1.1) fun t16 =>
  br (t16)
   (some s8)
   (self (IntKind.i64.wrap (s8 + (1 : Int)))))
  (k0)
def z12L0 (N : Nat) (x0 : τ7) (x1 : Str × Unit) (c7 : Int) (k0 : τ26) : Nat → Int → Option Int
 | 0, _ => none
 | n + 1, s8 => z12L0T N x0 x1 c7 k0 (z12L0 N x0 x1 c7 k0 n) s8
def slices_IndexFunc_api_Setting (N : Nat) (x0 : τ7) (x1 : Str × Unit) : Option Int :=
 z12L0 N x0 x1 (x0.length : Int) (some (-1 : Int)) N (0 : Int)
abbrev z12sg (f : SV [.v τ9, .v (.clo 127 (.pr (.ptr .str) .un))] → BV [] → Option (Int)) : AF := { ps := [.v τ9, .v (.clo 127 (.pr (.ptr .str) .un))], bs := [], rs := [.v τ6], cs := [], R := Int, out := fun z => ((z, ()), ()), f := f }
noncomputable abbrev z12g (N : Nat) : AF := z12sg fun x _ => slices_IndexFunc_api_Setting N x.1 x.2.1
abbrev z12pk : SV [.v τ6] → BV [] → Int := fun x _ => x.1
def z12fn (N : Nat) : FuncId → Option Tmp → Option AF := fun f _ =>
 match f with
  | 127 => some (z81g N)
  | _ => none
theorem z12fn_ok (N : Nat) : FnOk (z12fn N) := by
 intro f q F h
 unfold z12fn at h
 split at h
 · cases h; exact z81sound N
 · cases h
def z12h : Nat → Hint := fun i =>
 match i with
 | 0 => ⟨[], [0, 1, 7, 8], [], [], [], []⟩
 | _ => hint0
abbrev z12E (N : Nat) : Env := mkE z12h (z12fn N) FF FF
noncomputable abbrev z12c0 : Code := cAt (bodyOf Tryz.f126) [true, false, true, false, false]
noncomputable abbrev z12R (N : Nat) := resD (z12E N) Tryz.f126 (z12g N) z12pk
abbrev z12L0_fs : List (Nat × Sl) := [(0, .v τ9), (1, .v (.clo 127 (.pr (.ptr .str) .un))), (7, .v τ6), (8, .v τ6)]
abbrev z12L0_bs : List (Nat × Sb) := []
def z12L0_hd (x0 : τ7) (x1 : Str × Unit) (c7 : Int) (s8 : Int) : St := ⟨19, [(0, .v τ9 x0), (1, .v (.clo 127 (.pr (.ptr .str) .un)) x1), (7, .v τ6 c7), (8, .v τ6 s8)], []⟩
def z12L0_tl0 (_x0 : τ7) (_x1 : Str × Unit) (_c7 : Int) : St := ⟨19, [], []⟩
def z12L0_G (N : Nat) (x0 : τ7) (x1 : Str × Unit) (c7 : Int) (s8 : Int) (k : Ex → St → Option Int) : Option Int :=
 z12L0 N x0 x1 c7 (k (.exit 0) (z12L0_tl0 x0 x1 c7)) N s8
abbrev z12L0_F (N : Nat) : FV z12L0_fs → HV z12L0_bs → (Ex → St → Option Int) → Option Int := fun x _ k => z12L0_G N x.1 x.2.1 x.2.2.1 x.2.2.2.1 k
noncomputable def z12LP (N : Nat) : Nat → Code → St → (Ex → St → Option Int) → Option Int := fun i c =>
 match i with
 | 0 => (LPc 19 z12L0_fs z12L0_bs (z12L0_F N) (fun st k => iter (z12h 0) (exec (z12E N) N c 0) N st k))
 | i => fun st k => iter (z12h i) (exec (z12E N) N c i) N st k
theorem z12L0_step (N : Nat) (x0 : τ7) (x1 : Str × Unit) (c7 : Int) (KX : Nat → St → Option Int) (I : St → Option Int) (s8 : Int) :
  execL (z12LP N) (z12E N) z12c0 0 (z12L0_hd x0 x1 c7 s8) (roundK (z12h 0) I KX (z12R N)) = z12L0T N x0 x1 c7 (KX 0 (z12L0_tl0 x0 x1 c7)) (fun s8 => I (z12L0_hd x0 x1 c7 s8)) s8 := by kernel_rfl
theorem z12L0_ok (N : Nat) : ∀ x y k, (∀ st, k .ret st = (z12R N) st) → iter (z12h 0) (exec (z12E N) N z12c0 0) N ⟨19, unF z12L0_fs x, unH z12L0_bs y⟩ k = z12L0_F N x y k := fun x _ k hk =>
 iter_link (S := (Int) × Unit) (z12h 0) _ (execL (z12LP N) (z12E N) z12c0 0) (z12R N) (fun st k hk => execL_eq _ _ N _ z12c0 0 (show LoopsOk (z12LP N) (z12E N) N (z12R N) [] from trivial) st k hk) (fun s => z12L0_hd x.1 x.2.1 x.2.2.1 s.1) k hk
  (fun self s => z12L0T N x.1 x.2.1 x.2.2.1 (k (.exit 0) (z12L0_tl0 x.1 x.2.1 x.2.2.1)) (fun s8 => self (s8, ())) s.1) (fun n s => z12L0 N x.1 x.2.1 x.2.2.1 (k (.exit 0) (z12L0_tl0 x.1 x.2.1 x.2.2.1)) n s.1) (fun _ => rfl) (fun _ _ => rfl)
  (fun I s => z12L0_step N x.1 x.2.1 x.2.2.1 (fun j => k (.exit j)) I s.1) N (x.2.2.2.1, ())
theorem z12lp0 (N : Nat) : ∀ st k, (∀ st, k .ret st = (z12R N) st) → z12LP N 0 z12c0 st k = iter (Env.hint (z12E N) 0) (exec (z12E N) N z12c0 0) N st k := fun st k hk => LPc_eq 19 z12L0_fs z12L0_bs _ _ (z12R N) (z12L0_ok N) _ st k hk (rfl)
theorem z12core (N : Nat) (x : SV [.v τ9, .v (.clo 127 (.pr (.ptr .str) .un))]) (y : BV []) : runL (z12E N) Tryz.f126 (z12g N) z12pk (z12LP N) x y = slices_IndexFunc_api_Setting N x.1 x.2.1 := by kernel_rfl
theorem z12sound (N : Nat) : Snd 126 (z12g N) :=
 sndL (z12fn_ok N) Tryz.func126 rfl Tryz.call126 (z12g N) z12pk (fun _ _ => rfl) N (z12LP N) (show LoopsOk (z12LP N) (z12E N) N (z12R N) [(0, z12c0)] from ⟨z12lp0 N, trivial⟩) (z12core N)
def config_find (N : Nat) (x0 : τ7) (x1 : Str) : Option Int :=
 bnd (slices_IndexFunc_api_Setting N x0 (x1, ())) fun t7 =>
 some t7
abbrev z100sg (f : SV [.v τ9, .v .str] → BV [] → Option (Int)) : AF := { ps := [.v τ9, .v .str], bs := [], rs := [.v τ6], cs := [], R := Int, out := fun z => ((z, ()), ()), f := f }
noncomputable abbrev z100g (N : Nat) : AF := z100sg fun x _ => config_find N x.1 x.2.1
abbrev z100pk : SV [.v τ6] → BV [] → Int := fun x _ => x.1
def z100fn (N : Nat) : FuncId → Option Tmp → Option AF := fun f _ =>
 match f with
  | 126 => some (z12g N)
  | 127 => some (noneAF [.v (.ptr .str)])
  | _ => none
theorem z100fn_ok (N : Nat) : FnOk (z100fn N) := by
 intro f q F h
 unfold z100fn at h
 split at h
 · cases h; exact z12sound N
 · cases h; exact noneAF_sound Tryz.call127 _
 · cases h
def z100h : Nat → Hint := fun i =>
 match i with
 | _ => hint0
abbrev z100E (N : Nat) : Env := mkE z100h (z100fn N) FF FF
noncomputable def z100LP (N : Nat) : Nat → Code → St → (Ex → St → Option Int) → Option Int := fun i c =>
 match i with
 | i => fun st k => iter (z100h i) (exec (z100E N) N c i) N st k
theorem z100core (N : Nat) (x : SV [.v τ9, .v .str]) (y : BV []) : runL (z100E N) Tryz.f73 (z100g N) z100pk (z100LP N) x y = config_find N x.1 x.2.1 := by kernel_rfl
theorem z100sound (N : Nat) : Snd 73 (z100g N) :=
 sndL (z100fn_ok N) Tryz.func73 rfl Tryz.call73 (z100g N) z100pk (fun _ _ => rfl) N (z100LP N) (show LoopsOk (z100LP N) (z100E N) N (resD (z100E N) Tryz.f73 (z100g N) z100pk) [] from trivial) (z100core N)
def z61L0T (N : Nat) (x0 : τ7) (x1 : List τ5) (x2 : Bool) (c10 : List τ5) (c11 : Int) (k0 : τ26) (self : Int → Option Int) (s12 : Int) : Option Int :=
 br (decide (s12 < c11))
  (bnd (geti c10 s12) fun t15 =>
  bnd (config_find N x0 t15.1) fun t20 =>
  br (decide (t20 < (0 : Int)))
   (some (5 : Int))
   (bnd (geti x0 t20) fun t27 =>
   bnd (slices_Contains_string_string N t27.2 t15.2) fun t32 =>
   br (!t32)
    (some (1 : Int))
    (br (x2)
     (bnd (geti x0 t20) fun t41 =>
     bnd (geti t41.2 (0 : Int)) fun t44 =>
     br (t15.2 == t44)
      (some (3 : Int))
      (br (decide (s12 > (0 : Int)))
       (bnd (geti x1 (IntKind.i64.wrap (s12 - (1 : Int)))) fun t57 =>
       br (Op.bytesLess t15.1 t57.1 || t15.1 == t57.1)
        (some (8 : Int))
        (self (IntKind.i64.wrap (s12 + (1 : Int)))))
       (self (IntKind.i64.wrap (s12 + (1 : Int))))))
     (br (decide (s12 > (0 : Int)))
      (bnd (geti x1 (IntKind.i64.wrap (s12 - (1 : Int)))) fun t57_1 =>
      br (Op.bytesLess t15.1 t57_1.1 || t15.1 == t57_1.1)
       (some (8 : Int))
       (self (IntKind.i64.wrap (s12 + (1 : Int)))))
      (self (IntKind.i64.wrap (s12 + (1 : Int))))))))
  (k0)
def z61L0 (N : Nat) (x0 : τ7) (x1 : List τ5) (x2 : Bool) (c10 : List τ5) (c11 : Int) (k0 : τ26) : Nat → Int → Option Int
 | 0, _ => none
 | n + 1, s12 => z61L0T N x0 x1 x2 c10 c11 k0 (z61L0 N x0 x1 x2 c10 c11 k0 n) s12
def config_checkSet (N : Nat) (x0 : τ7) (x1 : List τ5) (x2 : Bool) : Option Int :=
 z61L0 N x0 x1 x2 x1 (x1.length : Int) (some (0 : Int)) N (0 : Int)
abbrev z61sg (f : SV [.v τ9, .v τ0, .v .bool] → BV [] → Option (Int)) : AF := { ps := [.v τ9, .v τ0, .v .bool], bs := [], rs := [.v τ6], cs := [], R := Int, out := fun z => ((z, ()), ()), f := f }
noncomputable abbrev z61g (N : Nat) : AF := z61sg fun x _ => config_checkSet N x.1 x.2.1 x.2.2.1
abbrev z61pk : SV [.v τ6] → BV [] → Int := fun x _ => x.1
def z61fn (N : Nat) : FuncId → Option Tmp → Option AF := fun f _ =>
 match f with
  | 56 => some (z7g N)
  | 73 => some (z100g N)
  | _ => none
theorem z61fn_ok (N : Nat) : FnOk (z61fn N) := by
 intro f q F h
 unfold z61fn at h
 split at h
 · cases h; exact z7sound N
 · cases h; exact z100sound N
 · cases h
def z61h : Nat → Hint := fun i =>
 match i with
 | 0 => ⟨[], [0, 1, 2, 10, 11, 12], [], [], [], []⟩
 | _ => hint0
abbrev z61E (N : Nat) : Env := mkE z61h (z61fn N) FF FF
noncomputable abbrev z61c0 : Code := cAt (bodyOf Tryz.f44) [true, false, true, false, false]
noncomputable abbrev z61R (N : Nat) := resD (z61E N) Tryz.f44 (z61g N) z61pk
abbrev z61L0_fs : List (Nat × Sl) := [(0, .v τ9), (1, .v τ0), (2, .v .bool), (10, .v τ0), (11, .v τ6), (12, .v τ6)]
abbrev z61L0_bs : List (Nat × Sb) := []
def z61L0_hd (x0 : τ7) (x1 : List τ5) (x2 : Bool) (c10 : List τ5) (c11 : Int) (s12 : Int) : St := ⟨63, [(0, .v τ9 x0), (1, .v τ0 x1), (2, .v .bool x2), (10, .v τ0 c10), (11, .v τ6 c11), (12, .v τ6 s12)], []⟩
def z61L0_tl0 (_x0 : τ7) (_x1 : List τ5) (_x2 : Bool) (_c10 : List τ5) (_c11 : Int) : St := ⟨63, [], []⟩
def z61L0_G (N : Nat) (x0 : τ7) (x1 : List τ5) (x2 : Bool) (c10 : List τ5) (c11 : Int) (s12 : Int) (k : Ex → St → Option Int) : Option Int :=
 z61L0 N x0 x1 x2 c10 c11 (k (.exit 0) (z61L0_tl0 x0 x1 x2 c10 c11)) N s12
abbrev z61L0_F (N : Nat) : FV z61L0_fs → HV z61L0_bs → (Ex → St → Option Int) → Option Int := fun x _ k => z61L0_G N x.1 x.2.1 x.2.2.1 x.2.2.2.1 x.2.2.2.2.1 x.2.2.2.2.2.1 k
noncomputable def z61LP (N : Nat) : Nat → Code → St → (Ex → St → Option Int) → Option Int := fun i c =>
 match i with
 | 0 => (LPc 63 z61L0_fs z61L0_bs (z61L0_F N) (fun st k => iter (z61h 0) (exec (z61E N) N c 0) N st k))
 | i => fun st k => iter (z61h i) (exec (z61E N) N c i) N st k
theorem z61L0_step (N : Nat) (x0 : τ7) (x1 : List τ5) (x2 : Bool) (c10 : List τ5) (c11 : Int) (KX : Nat → St → Option Int) (I : St → Option Int) (s12 : Int) :
  execL (z61LP N) (z61E N) z61c0 0 (z61L0_hd x0 x1 x2 c10 c11 s12) (roundK (z61h 0) I KX (z61R N)) = z61L0T N x0 x1 x2 c10 c11 (KX 0 (z61L0_tl0 x0 x1 x2 c10 c11)) (fun s12 => I (z61L0_hd x0 x1 x2 c10 c11 s12)) s12 := by kernel_rfl
theorem z61L0_ok (N : Nat) : ∀ x y k, (∀ st, k .ret st = (z61R N) st) → iter (z61h 0) (exec (z61E N) N z61c0 0) N ⟨63, unF z61L0_fs x, unH z61L0_bs y⟩ k = z61L0_F N x y k := fun x _ k hk =>
 iter_link (S := (Int) × Unit) (z61h 0) _ (execL (z61LP N) (z61E N) z61c0 0) (z61R N) (fun st k hk => execL_eq _ _ N _ z61c0 0 (show LoopsOk (z61LP N) (z61E N) N (z61R N) [] from trivial) st k hk) (fun s => z61L0_hd x.1 x.2.1 x.2.2.1 x.2.2.2.1 x.2.2.2.2.1 s.1) k hk
  (fun self s => z61L0T N x.1 x.2.1 x.2.2.1 x.2.2.2.1 x.2.2.2.2.1 (k (.exit 0) (z61L0_tl0 x.1 x.2.1 x.2.2.1 x.2.2.2.1 x.2.2.2.2.1)) (fun s12 => self (s12, ())) s.1) (fun n s => z61L0 N x.1 x.2.1 x.2.2.1 x.2.2.2.1 x.2.2.2.2.1 (k (.exit 0) (z61L0_tl0 x.1 x.2.1 x.2.2.1 x.2.2.2.1 x.2.2.2.2.1)) n s.1) (fun _ => rfl) (fun _ _ => rfl)
  (fun I s => z61L0_step N x.1 x.2.1 x.2.2.1 x.2.2.2.1 x.2.2.2.2.1 (fun j => k (.exit j)) I s.1) N (x.2.2.2.2.2.1, ())
theorem z61lp0 (N : Nat) : ∀ st k, (∀ st, k .ret st = (z61R N) st) → z61LP N 0 z61c0 st k = iter (Env.hint (z61E N) 0) (exec (z61E N) N z61c0 0) N st k := fun st k hk => LPc_eq 63 z61L0_fs z61L0_bs _ _ (z61R N) (z61L0_ok N) _ st k hk (rfl)
theorem z61core (N : Nat) (x : SV [.v τ9, .v τ0, .v .bool]) (y : BV []) : runL (z61E N) Tryz.f44 (z61g N) z61pk (z61LP N) x y = config_checkSet N x.1 x.2.1 x.2.2.1 := by kernel_rfl
theorem z61sound (N : Nat) : Snd 44 (z61g N) :=
 sndL (z61fn_ok N) Tryz.func44 rfl Tryz.call44 (z61g N) z61pk (fun _ _ => rfl) N (z61LP N) (show LoopsOk (z61LP N) (z61E N) N (z61R N) [(0, z61c0)] from ⟨z61lp0 N, trivial⟩) (z61core N)
def config_CheckConfig (N : Nat) (x0 : τ7) (x1 : List τ5) : Option Int :=
 bnd (config_CheckSettings N x0) fun t7 =>
 br (t7 != (0 : Int))
  (some t7)
  (bnd (config_checkSet N x0 x1 true) fun t13 =>
  some t13)
abbrev z40sg (f : SV [.v τ9, .v τ0] → BV [] → Option (Int)) : AF := { ps := [.v τ9, .v τ0], bs := [], rs := [.v τ6], cs := [], R := Int, out := fun z => ((z, ()), ()), f := f }
noncomputable abbrev z40g (N : Nat) : AF := z40sg fun x _ => config_CheckConfig N x.1 x.2.1
abbrev z40pk : SV [.v τ6] → BV [] → Int := fun x _ => x.1
def z40fn (N : Nat) : FuncId → Option Tmp → Option AF := fun f _ =>
 match f with
  | 42 => some (z30g N)
  | 44 => some (z61g N)
  | _ => none
theorem z40fn_ok (N : Nat) : FnOk (z40fn N) := by
 intro f q F h
 unfold z40fn at h
 split at h
 · cases h; exact z30sound N
 · cases h; exact z61sound N
 · cases h
def z40h : Nat → Hint := fun i =>
 match i with
 | _ => hint0
abbrev z40E (N : Nat) : Env := mkE z40h (z40fn N) FF FF
noncomputable def z40LP (N : Nat) : Nat → Code → St → (Ex → St → Option Int) → Option Int := fun i c =>
 match i with
 | i => fun st k => iter (z40h i) (exec (z40E N) N c i) N st k
theorem z40core (N : Nat) (x : SV [.v τ9, .v τ0]) (y : BV []) : runL (z40E N) Tryz.f29 (z40g N) z40pk (z40LP N) x y = config_CheckConfig N x.1 x.2.1 := by kernel_rfl
theorem z40sound (N : Nat) : Snd 29 (z40g N) :=
 sndL (z40fn_ok N) Tryz.func29 rfl Tryz.call29 (z40g N) z40pk (fun _ _ => rfl) N (z40LP N) (show LoopsOk (z40LP N) (z40E N) N (resD (z40E N) Tryz.f29 (z40g N) z40pk) [] from trivial) (z40core N)
def z83L0T (_N : Nat) (x1 : Str) (x0 : List τ5) (c9 : Int) (k0 : Option τ23) (self : Int → Option τ23) (s10 : Int) : Option τ23 :=
 br (decide (s10 < c9))
  (bnd (geti x0 s10) fun t12 =>
  br (t12.1 == x1)
   (some (t12.2, true))
   (self (IntKind.i64.wrap (s10 + (1 : Int)))))
  (k0)
def z83L0 (N : Nat) (x1 : Str) (x0 : List τ5) (c9 : Int) (k0 : Option τ23) : Nat → Int → Option τ23
 | 0, _ => none
 | n + 1, s10 => z83L0T N x1 x0 c9 k0 (z83L0 N x1 x0 c9 k0 n) s10
def config_pairOf (N : Nat) (x0 : List τ5) (x1 : Str) : Option τ23 :=
 z83L0 N x1 x0 (x0.length : Int) (some (([] : Str), false)) N (0 : Int)
abbrev z83sg (f : SV [.v τ0, .v .str] → BV [] → Option τ23) : AF := { ps := [.v τ0, .v .str], bs := [], rs := [.v .str, .v .bool], cs := [], R := Str × Bool, out := fun z => ((z.1, z.2, ()), ()), f := f }
noncomputable abbrev z83g (N : Nat) : AF := z83sg fun x _ => config_pairOf N x.1 x.2.1
abbrev z83pk : SV [.v .str, .v .bool] → BV [] → τ23 := fun x _ => (x.1, x.2.1)
def z83fn (_N : Nat) : FuncId → Option Tmp → Option AF := fun f _ =>
 match f with
  | _ => none
theorem z83fn_ok (N : Nat) : FnOk (z83fn N) := by
 intro f q F h
 unfold z83fn at h
 split at h
 · cases h
def z83h : Nat → Hint := fun i =>
 match i with
 | 0 => ⟨[], [1, 8, 9, 10], [], [], [], []⟩
 | _ => hint0
abbrev z83E (N : Nat) : Env := mkE z83h (z83fn N) FF FF
noncomputable abbrev z83c0 : Code := cAt (bodyOf Tryz.f48) [true, false, true, false, false]
noncomputable abbrev z83R (N : Nat) := resD (z83E N) Tryz.f48 (z83g N) z83pk
abbrev z83L0_fs : List (Nat × Sl) := [(1, .v .str), (8, .v τ0), (9, .v τ6), (10, .v τ6)]
abbrev z83L0_bs : List (Nat × Sb) := []
def z83L0_hd (x1 : Str) (x0 : List τ5) (c9 : Int) (s10 : Int) : St := ⟨21, [(1, .v .str x1), (8, .v τ0 x0), (9, .v τ6 c9), (10, .v τ6 s10)], []⟩
def z83L0_tl0 (_x1 : Str) (_x0 : List τ5) (_c9 : Int) : St := ⟨21, [], []⟩
def z83L0_G (N : Nat) (x1 : Str) (x0 : List τ5) (c9 : Int) (s10 : Int) (k : Ex → St → Option τ23) : Option τ23 :=
 z83L0 N x1 x0 c9 (k (.exit 0) (z83L0_tl0 x1 x0 c9)) N s10
abbrev z83L0_F (N : Nat) : FV z83L0_fs → HV z83L0_bs → (Ex → St → Option τ23) → Option τ23 := fun x _ k => z83L0_G N x.1 x.2.1 x.2.2.1 x.2.2.2.1 k
noncomputable def z83LP (N : Nat) : Nat → Code → St → (Ex → St → Option τ23) → Option τ23 := fun i c =>
 match i with
 | 0 => (LPc 21 z83L0_fs z83L0_bs (z83L0_F N) (fun st k => iter (z83h 0) (exec (z83E N) N c 0) N st k))
 | i => fun st k => iter (z83h i) (exec (z83E N) N c i) N st k
theorem z83L0_step (N : Nat) (x1 : Str) (x0 : List τ5) (c9 : Int) (KX : Nat → St → Option τ23) (I : St → Option τ23) (s10 : Int) :
  execL (z83LP N) (z83E N) z83c0 0 (z83L0_hd x1 x0 c9 s10) (roundK (z83h 0) I KX (z83R N)) = z83L0T N x1 x0 c9 (KX 0 (z83L0_tl0 x1 x0 c9)) (fun s10 => I (z83L0_hd x1 x0 c9 s10)) s10 := by kernel_rfl
theorem z83L0_ok (N : Nat) : ∀ x y k, (∀ st, k .ret st = (z83R N) st) → iter (z83h 0) (exec (z83E N) N z83c0 0) N ⟨21, unF z83L0_fs x, unH z83L0_bs y⟩ k = z83L0_F N x y k := fun x _ k hk =>
 iter_link (S := (Int) × Unit) (z83h 0) _ (execL (z83LP N) (z83E N) z83c0 0) (z83R N) (fun st k hk => execL_eq _ _ N _ z83c0 0 (show LoopsOk (z83LP N) (z83E N) N (z83R N) [] from trivial) st k hk) (fun s => z83L0_hd x.1 x.2.1 x.2.2.1 s.1) k hk
  (fun self s => z83L0T N x.1 x.2.1 x.2.2.1 (k (.exit 0) (z83L0_tl0 x.1 x.2.1 x.2.2.1)) (fun s10 => self (s10, ())) s.1) (fun n s => z83L0 N x.1 x.2.1 x.2.2.1 (k (.exit 0) (z83L0_tl0 x.1 x.2.1 x.2.2.1)) n s.1) (fun _ => rfl) (fun _ _ => rfl)
  (fun I s => z83L0_step N x.1 x.2.1 x.2.2.1 (fun j => k (.exit j)) I s.1) N (x.2.2.2.1, ())
theorem z83lp0 (N : Nat) : ∀ st k, (∀ st, k .ret st = (z83R N) st) → z83LP N 0 z83c0 st k = iter (Env.hint (z83E N) 0) (exec (z83E N) N z83c0 0) N st k := fun st k hk => LPc_eq 21 z83L0_fs z83L0_bs _ _ (z83R N) (z83L0_ok N) _ st k hk (rfl)
theorem z83core (N : Nat) (x : SV [.v τ0, .v .str]) (y : BV []) : runL (z83E N) Tryz.f48 (z83g N) z83pk (z83LP N) x y = config_pairOf N x.1 x.2.1 := by kernel_rfl
theorem z83sound (N : Nat) : Snd 48 (z83g N) :=
 sndL (z83fn_ok N) Tryz.func48 rfl Tryz.call48 (z83g N) z83pk (fun _ _ => rfl) N (z83LP N) (show LoopsOk (z83LP N) (z83E N) N (z83R N) [(0, z83c0)] from ⟨z83lp0 N, trivial⟩) (z83core N)
def config_valueOf (N : Nat) (x0 : τ7) (x1 : List τ5) (x2 : Str) : Option Str :=
 bnd (config_pairOf N x1 x2) fun t12 =>
 br (t12.2)
  (some t12.1)
  (bnd (config_find N x0 x2) fun t20 =>
  bnd (geti x0 t20) fun t21 =>
  bnd (geti t21.2 (0 : Int)) fun t24 =>
  some t24)
abbrev z70sg (f : SV [.v τ9, .v τ0, .v .str] → BV [] → Option (Str)) : AF := { ps := [.v τ9, .v τ0, .v .str], bs := [], rs := [.v .str], cs := [], R := Str, out := fun z => ((z, ()), ()), f := f }
noncomputable abbrev z70g (N : Nat) : AF := z70sg fun x _ => config_valueOf N x.1 x.2.1 x.2.2.1
abbrev z70pk : SV [.v .str] → BV [] → Str := fun x _ => x.1
def z70fn (N : Nat) : FuncId → Option Tmp → Option AF := fun f _ =>
 match f with
  | 48 => some (z83g N)
  | 73 => some (z100g N)
  | _ => none
theorem z70fn_ok (N : Nat) : FnOk (z70fn N) := by
 intro f q F h
 unfold z70fn at h
 split at h
 · cases h; exact z83sound N
 · cases h; exact z100sound N
 · cases h
def z70h : Nat → Hint := fun i =>
 match i with
 | _ => hint0
abbrev z70E (N : Nat) : Env := mkE z70h (z70fn N) FF FF
noncomputable def z70LP (N : Nat) : Nat → Code → St → (Ex → St → Option Str) → Option Str := fun i c =>
 match i with
 | i => fun st k => iter (z70h i) (exec (z70E N) N c i) N st k
theorem z70core (N : Nat) (x : SV [.v τ9, .v τ0, .v .str]) (y : BV []) : runL (z70E N) Tryz.f74 (z70g N) z70pk (z70LP N) x y = config_valueOf N x.1 x.2.1 x.2.2.1 := by kernel_rfl
theorem z70sound (N : Nat) : Snd 74 (z70g N) :=
 sndL (z70fn_ok N) Tryz.func74 rfl Tryz.call74 (z70g N) z70pk (fun _ _ => rfl) N (z70LP N) (show LoopsOk (z70LP N) (z70E N) N (resD (z70E N) Tryz.f74 (z70g N) z70pk) [] from trivial) (z70core N)
def ref3_within (_N : Nat) (x0 : Int) (x1 : Int) (x2 : Int) : Option Bool :=
 br (decide (x1 ≤ x0))
  (some (decide (x0 ≤ x2)))
  (some false)
abbrev z109sg (f : SV [.v τ6, .v τ6, .v τ6] → BV [] → Option (Bool)) : AF := { ps := [.v τ6, .v τ6, .v τ6], bs := [], rs := [.v .bool], cs := [], R := Bool, out := fun z => ((z, ()), ()), f := f }
noncomputable abbrev z109g (N : Nat) : AF := z109sg fun x _ => ref3_within N x.1 x.2.1 x.2.2.1
abbrev z109pk : SV [.v .bool] → BV [] → Bool := fun x _ => x.1
def z109fn (_N : Nat) : FuncId → Option Tmp → Option AF := fun f _ =>
 match f with
  | _ => none
theorem z109fn_ok (N : Nat) : FnOk (z109fn N) := by
 intro f q F h
 unfold z109fn at h
 split at h
 · cases h
def z109h : Nat → Hint := fun i =>
 match i with
 | _ => hint0
abbrev z109E (N : Nat) : Env := mkE z109h (z109fn N) FF FF
noncomputable def z109LP (N : Nat) : Nat → Code → St → (Ex → St → Option Bool) → Option Bool := fun i c =>
 match i with
 | i => fun st k => iter (z109h i) (exec (z109E N) N c i) N st k
theorem z109core (N : Nat) (x : SV [.v τ6, .v τ6, .v τ6]) (y : BV []) : runL (z109E N) Tryz.f104 (z109g N) z109pk (z109LP N) x y = ref3_within N x.1 x.2.1 x.2.2.1 := by kernel_rfl
theorem z109sound (N : Nat) : Snd 104 (z109g N) :=
 sndL (z109fn_ok N) Tryz.func104 rfl Tryz.call104 (z109g N) z109pk (fun _ _ => rfl) N (z109LP N) (show LoopsOk (z109LP N) (z109E N) N (resD (z109E N) Tryz.f104 (z109g N) z109pk) [] from trivial) (z109core N)
def z106L0T (_N : Nat) (x0 : Str) (c20 : Int) (k0 : τ30) (self : Int → Option Bool) (s21 : Int) : Option Bool :=
 br (decide (s21 < c20))
  (bnd (geti x0 s21) fun t26 =>
  br (decide (t26 < (97 : UInt8)))
   (br (decide (t26 < (48 : UInt8)))
    (br (t26 != (45 : UInt8))
     (br (t26 != (95 : UInt8))
      (some false)
      (self (IntKind.i64.wrap (s21 + (1 : Int)))))
     (self (IntKind.i64.wrap (s21 + (1 : Int)))))
    (br (decide (t26 > (57 : UInt8)))
     (br (t26 != (45 : UInt8))
      (br (t26 != (95 : UInt8))
       (some false)
       (self (IntKind.i64.wrap (s21 + (1 : Int)))))
      (self (IntKind.i64.wrap (s21 + (1 : Int)))))
     (self (IntKind.i64.wrap (s21 + (1 : Int))))))
   (br (decide (t26 > (122 : UInt8)))
    (br (decide (t26 < (48 : UInt8)))
     (br (t26 != (45 : UInt8))
      (br (t26 != (95 : UInt8))
       (some false)
       (self (IntKind.i64.wrap (s21 + (1 : Int)))))
      (self (IntKind.i64.wrap (s21 + (1 : Int)))))
     (br (decide (t26 > (57 : UInt8)))
      (br (t26 != (45 : UInt8))
       (br (t26 != (95 : UInt8))
        (some false)
        (self (IntKind.i64.wrap (s21 + (1 : Int)))))
       (self (IntKind.i64.wrap (s21 + (1 : Int)))))
      (self (IntKind.i64.wrap (s21 + (1 : Int))))))
    (self (IntKind.i64.wrap (s21 + (1 : Int))))))
  (k0)
def z106L0 (N : Nat) (x0 : Str) (c20 : Int) (k0 : τ30) : Nat → Int → Option Bool
 | 0, _ => none
 | n + 1, s21 => z106L0T N x0 c20 k0 (z106L0 N x0 c20 k0 n) s21
def ref3_IsWord (N : Nat) (x0 : Str) : Option Bool :=
 bnd (ref3_within N (x0.length : Int) (1 : Int) (40 : Int)) fun t7 =>
 br (!t7)
  (some false)
  (bnd (geti x0 (0 : Int)) fun t11 =>
  br (decide (t11 < (97 : UInt8)))
   (some false)
   (bnd (geti x0 (0 : Int)) fun t16 =>
   br (decide (t16 > (122 : UInt8)))
    (some false)
    (z106L0 N x0 (x0.length : Int) (some true) N (0 : Int))))
abbrev z106sg (f : SV [.v .str] → BV [] → Option (Bool)) : AF := { ps := [.v .str], bs := [], rs := [.v .bool], cs := [], R := Bool, out := fun z => ((z, ()), ()), f := f }
noncomputable abbrev z106g (N : Nat) : AF := z106sg fun x _ => ref3_IsWord N x.1
abbrev z106pk : SV [.v .bool] → BV [] → Bool := fun x _ => x.1
def z106fn (N : Nat) : FuncId → Option Tmp → Option AF := fun f _ =>
 match f with
  | 104 => some (z109g N)
  | _ => none
theorem z106fn_ok (N : Nat) : FnOk (z106fn N) := by
 intro f q F h
 unfold z106fn at h
 split at h
 · cases h; exact z109sound N
 · cases h
def z106h : Nat → Hint := fun i =>
 match i with
 | 0 => ⟨[], [0, 20, 21], [], [], [], []⟩
 | _ => hint0
abbrev z106E (N : Nat) : Env := mkE z106h (z106fn N) FF FF
noncomputable abbrev z106c0 : Code := cAt (bodyOf Tryz.f50) [true, true, false, true, false, false]
noncomputable abbrev z106R (N : Nat) := resD (z106E N) Tryz.f50 (z106g N) z106pk
abbrev z106L0_fs : List (Nat × Sl) := [(0, .v .str), (20, .v τ6), (21, .v τ6)]
abbrev z106L0_bs : List (Nat × Sb) := []
def z106L0_hd (x0 : Str) (c20 : Int) (s21 : Int) : St := ⟨50, [(0, .v .str x0), (20, .v τ6 c20), (21, .v τ6 s21)], []⟩
def z106L0_tl0 (_x0 : Str) (_c20 : Int) : St := ⟨50, [], []⟩
def z106L0_G (N : Nat) (x0 : Str) (c20 : Int) (s21 : Int) (k : Ex → St → Option Bool) : Option Bool :=
 z106L0 N x0 c20 (k (.exit 0) (z106L0_tl0 x0 c20)) N s21
abbrev z106L0_F (N : Nat) : FV z106L0_fs → HV z106L0_bs → (Ex → St → Option Bool) → Option Bool := fun x _ k => z106L0_G N x.1 x.2.1 x.2.2.1 k
noncomputable def z106LP (N : Nat) : Nat → Code → St → (Ex → St → Option Bool) → Option Bool := fun i c =>
 match i with
 | 0 => (LPc 50 z106L0_fs z106L0_bs (z106L0_F N) (fun st k => iter (z106h 0) (exec (z106E N) N c 0) N st k))
 | i => fun st k => iter (z106h i) (exec (z106E N) N c i) N st k
theorem z106L0_step (N : Nat) (x0 : Str) (c20 : Int) (KX : Nat → St → Option Bool) (I : St → Option Bool) (s21 : Int) :
  execL (z106LP N) (z106E N) z106c0 0 (z106L0_hd x0 c20 s21) (roundK (z106h 0) I KX (z106R N)) = z106L0T N x0 c20 (KX 0 (z106L0_tl0 x0 c20)) (fun s21 => I (z106L0_hd x0 c20 s21)) s21 := by kernel_rfl
theorem z106L0_ok (N : Nat) : ∀ x y k, (∀ st, k .ret st = (z106R N) st) → iter (z106h 0) (exec (z106E N) N z106c0 0) N ⟨50, unF z106L0_fs x, unH z106L0_bs y⟩ k = z106L0_F N x y k := fun x _ k hk =>
 iter_link (S := (Int) × Unit) (z106h 0) _ (execL (z106LP N) (z106E N) z106c0 0) (z106R N) (fun st k hk => execL_eq _ _ N _ z106c0 0 (show LoopsOk (z106LP N) (z106E N) N (z106R N) [] from trivial) st k hk) (fun s => z106L0_hd x.1 x.2.1 s.1) k hk
  (fun self s => z106L0T N x.1 x.2.1 (k (.exit 0) (z106L0_tl0 x.1 x.2.1)) (fun s21 => self (s21, ())) s.1) (fun n s => z106L0 N x.1 x.2.1 (k (.exit 0) (z106L0_tl0 x.1 x.2.1)) n s.1) (fun _ => rfl) (fun _ _ => rfl)
  (fun I s => z106L0_step N x.1 x.2.1 (fun j => k (.exit j)) I s.1) N (x.2.2.1, ())
theorem z106lp0 (N : Nat) : ∀ st k, (∀ st, k .ret st = (z106R N) st) → z106LP N 0 z106c0 st k = iter (Env.hint (z106E N) 0) (exec (z106E N) N z106c0 0) N st k := fun st k hk => LPc_eq 50 z106L0_fs z106L0_bs _ _ (z106R N) (z106L0_ok N) _ st k hk (rfl)
theorem z106core (N : Nat) (x : SV [.v .str]) (y : BV []) : runL (z106E N) Tryz.f50 (z106g N) z106pk (z106LP N) x y = ref3_IsWord N x.1 := by kernel_rfl
theorem z106sound (N : Nat) : Snd 50 (z106g N) :=
 sndL (z106fn_ok N) Tryz.func50 rfl Tryz.call50 (z106g N) z106pk (fun _ _ => rfl) N (z106LP N) (show LoopsOk (z106LP N) (z106E N) N (z106R N) [(0, z106c0)] from ⟨z106lp0 N, trivial⟩) (z106core N)
end
end Go.Proofs.YtbekhaioddmliaaGreatDoor

