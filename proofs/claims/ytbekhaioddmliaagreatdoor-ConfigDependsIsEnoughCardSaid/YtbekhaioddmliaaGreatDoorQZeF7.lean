/- What functions of the program compute, as plain functions (printed). -/
import Derived.Test.YtbekhaioddmliaaGreatDoorQZeF6
namespace Go.Proofs.YtbekhaioddmliaaGreatDoor
open Go Go.RowKit
set_option maxRecDepth 100000
set_option linter.unusedVariables false
noncomputable section
def z5L0T (N : Nat) (x0 : List Str) (c7 : Int) (k0 : Option Int) (self : Int → Option Int) (s8 : Int) : Option Int :=
 br (decide (s8 < c7))
   (bnd (geti x0 s8) fun t14 =>
   bnd (script_CheckValue_2 N t14) fun t16 =>
   br (t16)
     (some s8)
     (self (IntKind.i64.wrap (s8 + (1 : Int)))))
   (k0)
def z5L0 (N : Nat) (x0 : List Str) (c7 : Int) (k0 : Option Int) : Nat → Int → Option Int
 | 0, _ => none
 | n + 1, s8 => z5L0T N x0 c7 k0 (z5L0 N x0 c7 k0 n) s8
def slices_IndexFunc_string_string_2 (N : Nat) (x0 : List Str) (_x1 : Unit) : Option Int :=
 z5L0 N x0 (x0.length : Int) (some (-1 : Int)) N (0 : Int)
abbrev z5sg (f : SV [.v τ24, .v (.clo 78 .un)] → BV [] → Option (Int)) : AF := { ps := [.v τ24, .v (.clo 78 .un)], bs := [], rs := [.v τ5], cs := [], R := Int, out := fun z => ((z, ()), ()), f := f }
noncomputable abbrev z5g (N : Nat) : AF := z5sg fun x _ => slices_IndexFunc_string_string_2 N x.1 x.2.1
abbrev z5pk : SV [.v τ5] → BV [] → Int := fun x _ => x.1
def z5fn (N : Nat) : FuncId → Option Tmp → Option AF := fun f _ =>
 match f with
   | 78 => some (z39g N)
   | _ => none
theorem z5fn_ok (N : Nat) : FnOk (z5fn N) := by
 intro f q F h
 unfold z5fn at h
 split at h
 · cases h; exact z39sound N
 · cases h
def z5h : Nat → Hint := fun i =>
 match i with
 | 0 => ⟨[], [0, 1, 7, 8], [], [], [], []⟩
 | _ => hint0
abbrev z5E (N : Nat) : Env := mkE z5h (z5fn N) FF FF
noncomputable abbrev z5R (N : Nat) := resD (z5E N) Tryz.f103 (z5g N) z5pk
abbrev z5L0_fs : List (Nat × Sl) := [(0, .v τ24), (1, .v (.clo 78 .un)), (7, .v τ5), (8, .v τ5)]
abbrev z5L0_bs : List (Nat × Sb) := []
def z5L0_hd (x0 : List Str) (x1 : Unit) (c7 : Int) (s8 : Int) : St := ⟨19, [(0, .v τ24 x0), (1, .v (.clo 78 .un) x1), (7, .v τ5 c7), (8, .v τ5 s8)], []⟩
def z5L0_tl0 (_x0 : List Str) (_x1 : Unit) (_c7 : Int) : St := ⟨19, [], []⟩
def z5L0_G (N : Nat) (x0 : List Str) (x1 : Unit) (c7 : Int) (s8 : Int) (k : Ex → St → Option Int) : Option Int :=
 z5L0 N x0 c7 (k (.exit 0) (z5L0_tl0 x0 x1 c7)) N s8
abbrev z5L0_F (N : Nat) : FV z5L0_fs → HV z5L0_bs → (Ex → St → Option Int) → Option Int := fun x _ k => z5L0_G N x.1 x.2.1 x.2.2.1 x.2.2.2.1 k
noncomputable def z5LP (N : Nat) : Nat → Code → St → (Ex → St → Option Int) → Option Int := fun i c =>
 match i with
 | 0 => (LPc 19 z5L0_fs z5L0_bs (z5L0_F N) (fun st k => iter (z5h 0) (exec (z5E N) N c 0) N st k))
 | i => fun st k => iter (z5h i) (exec (z5E N) N c i) N st k
theorem z5L0_step (N : Nat) (x0 : List Str) (x1 : Unit) (c7 : Int) (KX : Nat → St → Option Int) (I : St → Option Int) (s8 : Int) :
   execL (z5LP N) (z5E N) z7c0 0 (z5L0_hd x0 x1 c7 s8) (roundK (z5h 0) I KX (z5R N)) = z5L0T N x0 c7 (KX 0 (z5L0_tl0 x0 x1 c7)) (fun s8 => I (z5L0_hd x0 x1 c7 s8)) s8 := by kernel_rfl
theorem z5L0_ok (N : Nat) : ∀ x y k, (∀ st, k .ret st = (z5R N) st) → iter (z5h 0) (exec (z5E N) N z7c0 0) N ⟨19, unF z5L0_fs x, unH z5L0_bs y⟩ k = z5L0_F N x y k := fun x _ k hk =>
 iter_link (S := (Int) × Unit) (z5h 0) _ (execL (z5LP N) (z5E N) z7c0 0) (z5R N) (fun st k hk => execL_eq _ _ N _ z7c0 0 (show LoopsOk (z5LP N) (z5E N) N (z5R N) [] from trivial) st k hk) (fun s => z5L0_hd x.1 x.2.1 x.2.2.1 s.1) k hk
   (fun self s => z5L0T N x.1 x.2.2.1 (k (.exit 0) (z5L0_tl0 x.1 x.2.1 x.2.2.1)) (fun s8 => self (s8, ())) s.1) (fun n s => z5L0 N x.1 x.2.2.1 (k (.exit 0) (z5L0_tl0 x.1 x.2.1 x.2.2.1)) n s.1) (fun _ => rfl) (fun _ _ => rfl)
   (fun I s => z5L0_step N x.1 x.2.1 x.2.2.1 (fun j => k (.exit j)) I s.1) N (x.2.2.2.1, ())
theorem z5lp0 (N : Nat) : ∀ st k, (∀ st, k .ret st = (z5R N) st) → z5LP N 0 z7c0 st k = iter (Env.hint (z5E N) 0) (exec (z5E N) N z7c0 0) N st k := fun st k hk => LPc_eq 19 z5L0_fs z5L0_bs _ _ (z5R N) (z5L0_ok N) _ st k hk (rfl)
theorem z5core (N : Nat) (x : SV [.v τ24, .v (.clo 78 .un)]) (y : BV []) : runL (z5E N) Tryz.f103 (z5g N) z5pk (z5LP N) x y = slices_IndexFunc_string_string_2 N x.1 x.2.1 := by kernel_rfl
theorem z5sound (N : Nat) : Snd 103 (z5g N) :=
 sndL (z5fn_ok N) Tryz.func103 rfl Tryz.call103 (z5g N) z5pk (fun _ _ => rfl) N (z5LP N) (show LoopsOk (z5LP N) (z5E N) N (z5R N) [(0, z7c0)] from ⟨z5lp0 N, trivial⟩) (z5core N)
def slices_ContainsFunc_string_string_2 (N : Nat) (x0 : List Str) (x1 : Unit) : Option Bool :=
 bnd (slices_IndexFunc_string_string_2 N x0 x1) fun t7 =>
 some (decide (t7 ≥ (0 : Int)))
abbrev z2sg (f : SV [.v τ24, .v (.clo 78 .un)] → BV [] → Option (Bool)) : AF := { ps := [.v τ24, .v (.clo 78 .un)], bs := [], rs := [.v .bool], cs := [], R := Bool, out := fun z => ((z, ()), ()), f := f }
noncomputable abbrev z2g (N : Nat) : AF := z2sg fun x _ => slices_ContainsFunc_string_string_2 N x.1 x.2.1
abbrev z2pk : SV [.v .bool] → BV [] → Bool := fun x _ => x.1
def z2fn (N : Nat) : FuncId → Option Tmp → Option AF := fun f _ =>
 match f with
   | 103 => some (z5g N)
   | _ => none
theorem z2fn_ok (N : Nat) : FnOk (z2fn N) := by
 intro f q F h
 unfold z2fn at h
 split at h
 · cases h; exact z5sound N
 · cases h
def z2h : Nat → Hint := fun i =>
 match i with
 | _ => hint0
abbrev z2E (N : Nat) : Env := mkE z2h (z2fn N) FF FF
noncomputable def z2LP (N : Nat) : Nat → Code → St → (Ex → St → Option Bool) → Option Bool := fun i c =>
 match i with
 | i => fun st k => iter (z2h i) (exec (z2E N) N c i) N st k
theorem z2core (N : Nat) (x : SV [.v τ24, .v (.clo 78 .un)]) (y : BV []) : runL (z2E N) Tryz.f46 (z2g N) z2pk (z2LP N) x y = slices_ContainsFunc_string_string_2 N x.1 x.2.1 := by kernel_rfl
theorem z2sound (N : Nat) : Snd 46 (z2g N) :=
 sndL (z2fn_ok N) Tryz.func46 rfl Tryz.call46 (z2g N) z2pk (fun _ _ => rfl) N (z2LP N) (show LoopsOk (z2LP N) (z2E N) N (resD (z2E N) Tryz.f46 (z2g N) z2pk) [] from trivial) (z2core N)
abbrev z52sg (f : SV [.v (.sl τ2)] → BV [] → Option (Int)) : AF := { ps := [.v (.sl τ2)], bs := [], rs := [.v τ5], cs := [], R := Int, out := fun z => ((z, ()), ()), f := f }
def script_CheckValue (N : Nat) (r_script_checkCases : τ18 → Option (Int)) (x0 : GValue) : Option Int :=
 br (decide (x0.kind < (1 : Int)))
   (some (4 : Int))
   (br (decide (x0.kind > (4 : Int)))
     (some (4 : Int))
     (br (!(x0.text == ([] : Str)))
       (br (x0.kind != (1 : Int))
         (br (x0.kind != (1 : Int))
           (some (3 : Int))
           (br (decide ((x0.text.length : Int) > (1000 : Int)))
             (some (2 : Int))
             (br (decide ((x0.list.length : Int) > (1000 : Int)))
               (some (2 : Int))
               (bnd (slices_ContainsFunc_string_string N x0.list ()) fun t61 =>
               br (t61)
                 (some (2 : Int))
                 (br (decide ((x0.cases.length : Int) > (50 : Int)))
                   (some (2 : Int))
                   (bnd (script_isText N x0.text) fun t72 =>
                   br (!t72)
                     (some (3 : Int))
                     (bnd (slices_ContainsFunc_string_string_2 N x0.list ()) fun t77 =>
                     br (t77)
                       (some (3 : Int))
                       (br (decide (x0.number < (0 : Int)))
                         (some (1 : Int))
                         (br (decide (x0.number > (999999999 : Int)))
                           (some (1 : Int))
                           (br (x0.kind == (4 : Int))
                             (bnd (r_script_checkCases x0.cases) fun t94 =>
                             some t94)
                             (some (0 : Int))))))))))))
         (br (x0.number != (0 : Int))
           (br (x0.kind != (2 : Int))
             (br (x0.kind != (2 : Int))
               (some (3 : Int))
               (br (decide ((x0.text.length : Int) > (1000 : Int)))
                 (some (2 : Int))
                 (br (decide ((x0.list.length : Int) > (1000 : Int)))
                   (some (2 : Int))
                   (bnd (slices_ContainsFunc_string_string N x0.list ()) fun t61_1 =>
                   br (t61_1)
                     (some (2 : Int))
                     (br (decide ((x0.cases.length : Int) > (50 : Int)))
                       (some (2 : Int))
                       (bnd (script_isText N x0.text) fun t72_2 =>
                       br (!t72_2)
                         (some (3 : Int))
                         (bnd (slices_ContainsFunc_string_string_2 N x0.list ()) fun t77_3 =>
                         br (t77_3)
                           (some (3 : Int))
                           (br (decide (x0.number < (0 : Int)))
                             (some (1 : Int))
                             (br (decide (x0.number > (999999999 : Int)))
                               (some (1 : Int))
                               (br (x0.kind == (4 : Int))
                                 (bnd (r_script_checkCases x0.cases) fun t94_4 =>
                                 some t94_4)
                                 (some (0 : Int))))))))))))
             (br (decide ((x0.list.length : Int) > (0 : Int)))
               (br (x0.kind != (3 : Int))
                 (br (x0.kind != (3 : Int))
                   (some (3 : Int))
                   (br (decide ((x0.text.length : Int) > (1000 : Int)))
                     (some (2 : Int))
                     (br (decide ((x0.list.length : Int) > (1000 : Int)))
                       (some (2 : Int))
                       (bnd (slices_ContainsFunc_string_string N x0.list ()) fun t61_5 =>
                       br (t61_5)
                         (some (2 : Int))
                         (br (decide ((x0.cases.length : Int) > (50 : Int)))
                           (some (2 : Int))
                           (bnd (script_isText N x0.text) fun t72_6 =>
                           br (!t72_6)
                             (some (3 : Int))
                             (bnd (slices_ContainsFunc_string_string_2 N x0.list ()) fun t77_7 =>
                             br (t77_7)
                               (some (3 : Int))
                               (br (decide (x0.number < (0 : Int)))
                                 (some (1 : Int))
                                 (br (decide (x0.number > (999999999 : Int)))
                                   (some (1 : Int))
                                   (br (x0.kind == (4 : Int))
                                     (bnd (r_script_checkCases x0.cases) fun t94_8 =>
                                     some t94_8)
                                     (some (0 : Int))))))))))))
                 (br (decide ((x0.cases.length : Int) > (0 : Int)))
                   (br (x0.kind != (4 : Int))
                     (some (3 : Int))
                     (br (decide ((x0.text.length : Int) > (1000 : Int)))
                       (some (2 : Int))
                       (br (decide ((x0.list.length : Int) > (1000 : Int)))
                         (some (2 : Int))
                         (bnd (slices_ContainsFunc_string_string N x0.list ()) fun t61_9 =>
                         br (t61_9)
                           (some (2 : Int))
                           (br (decide ((x0.cases.length : Int) > (50 : Int)))
                             (some (2 : Int))
                             (bnd (script_isText N x0.text) fun t72_10 =>
                             br (!t72_10)
                               (some (3 : Int))
                               (bnd (slices_ContainsFunc_string_string_2 N x0.list ()) fun t77_11 =>
                               br (t77_11)
                                 (some (3 : Int))
                                 (br (decide (x0.number < (0 : Int)))
                                   (some (1 : Int))
                                   (br (decide (x0.number > (999999999 : Int)))
                                     (some (1 : Int))
                                     (br (x0.kind == (4 : Int))
                                       (bnd (r_script_checkCases x0.cases) fun t94_12 =>
                                       some t94_12)
                                       (some (0 : Int))))))))))))
                   (br (decide ((x0.text.length : Int) > (1000 : Int)))
                     (some (2 : Int))
                     (br (decide ((x0.list.length : Int) > (1000 : Int)))
                       (some (2 : Int))
                       (bnd (slices_ContainsFunc_string_string N x0.list ()) fun t61_13 =>
                       br (t61_13)
                         (some (2 : Int))
                         (br (decide ((x0.cases.length : Int) > (50 : Int)))
                           (some (2 : Int))
                           (bnd (script_isText N x0.text) fun t72_14 =>
                           br (!t72_14)
                             (some (3 : Int))
                             (bnd (slices_ContainsFunc_string_string_2 N x0.list ()) fun t77_15 =>
                             br (t77_15)
                               (some (3 : Int))
                               (br (decide (x0.number < (0 : Int)))
                                 (some (1 : Int))
                                 (br (decide (x0.number > (999999999 : Int)))
                                   (some (1 : Int))
                                   (br (x0.kind == (4 : Int))
                                     (bnd (r_script_checkCases x0.cases) fun t94_16 =>
                                     some t94_16)
                                     (some (0 : Int)))))))))))))
               (br (decide ((x0.cases.length : Int) > (0 : Int)))
                 (br (x0.kind != (4 : Int))
                   (some (3 : Int))
                   (br (decide ((x0.text.length : Int) > (1000 : Int)))
                     (some (2 : Int))
                     (br (decide ((x0.list.length : Int) > (1000 : Int)))
                       (some (2 : Int))
                       (bnd (slices_ContainsFunc_string_string N x0.list ()) fun t61_17 =>
                       br (t61_17)
                         (some (2 : Int))
                         (br (decide ((x0.cases.length : Int) > (50 : Int)))
                           (some (2 : Int))
                           (bnd (script_isText N x0.text) fun t72_18 =>
                           br (!t72_18)
                             (some (3 : Int))
                             (bnd (slices_ContainsFunc_string_string_2 N x0.list ()) fun t77_19 =>
                             br (t77_19)
                               (some (3 : Int))
                               (br (decide (x0.number < (0 : Int)))
                                 (some (1 : Int))
                                 (br (decide (x0.number > (999999999 : Int)))
                                   (some (1 : Int))
                                   (br (x0.kind == (4 : Int))
                                     (bnd (r_script_checkCases x0.cases) fun t94_20 =>
                                     some t94_20)
                                     (some (0 : Int))))))))))))
                 (br (decide ((x0.text.length : Int) > (1000 : Int)))
                   (some (2 : Int))
                   (br (decide ((x0.list.length : Int) > (1000 : Int)))
                     (some (2 : Int))
                     (bnd (slices_ContainsFunc_string_string N x0.list ()) fun t61_21 =>
                     br (t61_21)
                       (some (2 : Int))
                       (br (decide ((x0.cases.length : Int) > (50 : Int)))
                         (some (2 : Int))
                         (bnd (script_isText N x0.text) fun t72_22 =>
                         br (!t72_22)
                           (some (3 : Int))
                           (bnd (slices_ContainsFunc_string_string_2 N x0.list ()) fun t77_23 =>
                           br (t77_23)
                             (some (3 : Int))
                             (br (decide (x0.number < (0 : Int)))
                               (some (1 : Int))
                               (br (decide (x0.number > (999999999 : Int)))
                                 (some (1 : Int))
                                 (br (x0.kind == (4 : Int))
                                   (bnd (r_script_checkCases x0.cases) fun t94_24 =>
                                   some t94_24)
                                   (some (0 : Int))))))))))))))
           (br (decide ((x0.list.length : Int) > (0 : Int)))
             (br (x0.kind != (3 : Int))
               (br (x0.kind != (3 : Int))
                 (some (3 : Int))
                 (br (decide ((x0.text.length : Int) > (1000 : Int)))
                   (some (2 : Int))
                   (br (decide ((x0.list.length : Int) > (1000 : Int)))
                     (some (2 : Int))
                     (bnd (slices_ContainsFunc_string_string N x0.list ()) fun t61_25 =>
                     br (t61_25)
                       (some (2 : Int))
                       (br (decide ((x0.cases.length : Int) > (50 : Int)))
                         (some (2 : Int))
                         (bnd (script_isText N x0.text) fun t72_26 =>
                         br (!t72_26)
                           (some (3 : Int))
                           (bnd (slices_ContainsFunc_string_string_2 N x0.list ()) fun t77_27 =>
                           br (t77_27)
                             (some (3 : Int))
                             (br (decide (x0.number < (0 : Int)))
                               (some (1 : Int))
                               (br (decide (x0.number > (999999999 : Int)))
                                 (some (1 : Int))
                                 (br (x0.kind == (4 : Int))
                                   (bnd (r_script_checkCases x0.cases) fun t94_28 =>
                                   some t94_28)
                                   (some (0 : Int))))))))))))
               (br (decide ((x0.cases.length : Int) > (0 : Int)))
                 (br (x0.kind != (4 : Int))
                   (some (3 : Int))
                   (br (decide ((x0.text.length : Int) > (1000 : Int)))
                     (some (2 : Int))
                     (br (decide ((x0.list.length : Int) > (1000 : Int)))
                       (some (2 : Int))
                       (bnd (slices_ContainsFunc_string_string N x0.list ()) fun t61_29 =>
                       br (t61_29)
                         (some (2 : Int))
                         (br (decide ((x0.cases.length : Int) > (50 : Int)))
                           (some (2 : Int))
                           (bnd (script_isText N x0.text) fun t72_30 =>
                           br (!t72_30)
                             (some (3 : Int))
                             (bnd (slices_ContainsFunc_string_string_2 N x0.list ()) fun t77_31 =>
                             br (t77_31)
                               (some (3 : Int))
                               (br (decide (x0.number < (0 : Int)))
                                 (some (1 : Int))
                                 (br (decide (x0.number > (999999999 : Int)))
                                   (some (1 : Int))
                                   (br (x0.kind == (4 : Int))
                                     (bnd (r_script_checkCases x0.cases) fun t94_32 =>
                                     some t94_32)
                                     (some (0 : Int))))))))))))
                 (br (decide ((x0.text.length : Int) > (1000 : Int)))
                   (some (2 : Int))
                   (br (decide ((x0.list.length : Int) > (1000 : Int)))
                     (some (2 : Int))
                     (bnd (slices_ContainsFunc_string_string N x0.list ()) fun t61_33 =>
                     br (t61_33)
                       (some (2 : Int))
                       (br (decide ((x0.cases.length : Int) > (50 : Int)))
                         (some (2 : Int))
                         (bnd (script_isText N x0.text) fun t72_34 =>
                         br (!t72_34)
                           (some (3 : Int))
                           (bnd (slices_ContainsFunc_string_string_2 N x0.list ()) fun t77_35 =>
                           br (t77_35)
                             (some (3 : Int))
                             (br (decide (x0.number < (0 : Int)))
                               (some (1 : Int))
                               (br (decide (x0.number > (999999999 : Int)))
                                 (some (1 : Int))
                                 (br (x0.kind == (4 : Int))
                                   (bnd (r_script_checkCases x0.cases) fun t94_36 =>
                                   some t94_36)
                                   (some (0 : Int)))))))))))))
             (br (decide ((x0.cases.length : Int) > (0 : Int)))
               (br (x0.kind != (4 : Int))
                 (some (3 : Int))
                 (br (decide ((x0.text.length : Int) > (1000 : Int)))
                   (some (2 : Int))
                   (br (decide ((x0.list.length : Int) > (1000 : Int)))
                     (some (2 : Int))
                     (bnd (slices_ContainsFunc_string_string N x0.list ()) fun t61_37 =>
                     br (t61_37)
                       (some (2 : Int))
                       (br (decide ((x0.cases.length : Int) > (50 : Int)))
                         (some (2 : Int))
                         (bnd (script_isText N x0.text) fun t72_38 =>
                         br (!t72_38)
                           (some (3 : Int))
                           (bnd (slices_ContainsFunc_string_string_2 N x0.list ()) fun t77_39 =>
                           br (t77_39)
                             (some (3 : Int))
                             (br (decide (x0.number < (0 : Int)))
                               (some (1 : Int))
                               (br (decide (x0.number > (999999999 : Int)))
                                 (some (1 : Int))
                                 (br (x0.kind == (4 : Int))
                                   (bnd (r_script_checkCases x0.cases) fun t94_40 =>
                                   some t94_40)
                                   (some (0 : Int))))))))))))
               (br (decide ((x0.text.length : Int) > (1000 : Int)))
                 (some (2 : Int))
                 (br (decide ((x0.list.length : Int) > (1000 : Int)))
                   (some (2 : Int))
                   (bnd (slices_ContainsFunc_string_string N x0.list ()) fun t61_41 =>
                   br (t61_41)
                     (some (2 : Int))
                     (br (decide ((x0.cases.length : Int) > (50 : Int)))
                       (some (2 : Int))
                       (bnd (script_isText N x0.text) fun t72_42 =>
                       br (!t72_42)
                         (some (3 : Int))
                         (bnd (slices_ContainsFunc_string_string_2 N x0.list ()) fun t77_43 =>
                         br (t77_43)
                           (some (3 : Int))
                           (br (decide (x0.number < (0 : Int)))
                             (some (1 : Int))
                             (br (decide (x0.number > (999999999 : Int)))
                               (some (1 : Int))
                               (br (x0.kind == (4 : Int))
                                 (bnd (r_script_checkCases x0.cases) fun t94_44 =>
                                 some t94_44)
                                 (some (0 : Int)))))))))))))))
       (br (x0.number != (0 : Int))
         (br (x0.kind != (2 : Int))
           (br (x0.kind != (2 : Int))
             (some (3 : Int))
             (br (decide ((x0.text.length : Int) > (1000 : Int)))
               (some (2 : Int))
               (br (decide ((x0.list.length : Int) > (1000 : Int)))
                 (some (2 : Int))
                 (bnd (slices_ContainsFunc_string_string N x0.list ()) fun t61_45 =>
                 br (t61_45)
                   (some (2 : Int))
                   (br (decide ((x0.cases.length : Int) > (50 : Int)))
                     (some (2 : Int))
                     (bnd (script_isText N x0.text) fun t72_46 =>
                     br (!t72_46)
                       (some (3 : Int))
                       (bnd (slices_ContainsFunc_string_string_2 N x0.list ()) fun t77_47 =>
                       br (t77_47)
                         (some (3 : Int))
                         (br (decide (x0.number < (0 : Int)))
                           (some (1 : Int))
                           (br (decide (x0.number > (999999999 : Int)))
                             (some (1 : Int))
                             (br (x0.kind == (4 : Int))
                               (bnd (r_script_checkCases x0.cases) fun t94_48 =>
                               some t94_48)
                               (some (0 : Int))))))))))))
           (br (decide ((x0.list.length : Int) > (0 : Int)))
             (br (x0.kind != (3 : Int))
               (br (x0.kind != (3 : Int))
                 (some (3 : Int))
                 (br (decide ((x0.text.length : Int) > (1000 : Int)))
                   (some (2 : Int))
                   (br (decide ((x0.list.length : Int) > (1000 : Int)))
                     (some (2 : Int))
                     (bnd (slices_ContainsFunc_string_string N x0.list ()) fun t61_49 =>
                     br (t61_49)
                       (some (2 : Int))
                       (br (decide ((x0.cases.length : Int) > (50 : Int)))
                         (some (2 : Int))
                         (bnd (script_isText N x0.text) fun t72_50 =>
                         br (!t72_50)
                           (some (3 : Int))
                           (bnd (slices_ContainsFunc_string_string_2 N x0.list ()) fun t77_51 =>
                           br (t77_51)
                             (some (3 : Int))
                             (br (decide (x0.number < (0 : Int)))
                               (some (1 : Int))
                               (br (decide (x0.number > (999999999 : Int)))
                                 (some (1 : Int))
                                 (br (x0.kind == (4 : Int))
                                   (bnd (r_script_checkCases x0.cases) fun t94_52 =>
                                   some t94_52)
                                   (some (0 : Int))))))))))))
               (br (decide ((x0.cases.length : Int) > (0 : Int)))
                 (br (x0.kind != (4 : Int))
                   (some (3 : Int))
                   (br (decide ((x0.text.length : Int) > (1000 : Int)))
                     (some (2 : Int))
                     (br (decide ((x0.list.length : Int) > (1000 : Int)))
                       (some (2 : Int))
                       (bnd (slices_ContainsFunc_string_string N x0.list ()) fun t61_53 =>
                       br (t61_53)
                         (some (2 : Int))
                         (br (decide ((x0.cases.length : Int) > (50 : Int)))
                           (some (2 : Int))
                           (bnd (script_isText N x0.text) fun t72_54 =>
                           br (!t72_54)
                             (some (3 : Int))
                             (bnd (slices_ContainsFunc_string_string_2 N x0.list ()) fun t77_55 =>
                             br (t77_55)
                               (some (3 : Int))
                               (br (decide (x0.number < (0 : Int)))
                                 (some (1 : Int))
                                 (br (decide (x0.number > (999999999 : Int)))
                                   (some (1 : Int))
                                   (br (x0.kind == (4 : Int))
                                     (bnd (r_script_checkCases x0.cases) fun t94_56 =>
                                     some t94_56)
                                     (some (0 : Int))))))))))))
                 (br (decide ((x0.text.length : Int) > (1000 : Int)))
                   (some (2 : Int))
                   (br (decide ((x0.list.length : Int) > (1000 : Int)))
                     (some (2 : Int))
                     (bnd (slices_ContainsFunc_string_string N x0.list ()) fun t61_57 =>
                     br (t61_57)
                       (some (2 : Int))
                       (br (decide ((x0.cases.length : Int) > (50 : Int)))
                         (some (2 : Int))
                         (bnd (script_isText N x0.text) fun t72_58 =>
                         br (!t72_58)
                           (some (3 : Int))
                           (bnd (slices_ContainsFunc_string_string_2 N x0.list ()) fun t77_59 =>
                           br (t77_59)
                             (some (3 : Int))
                             (br (decide (x0.number < (0 : Int)))
                               (some (1 : Int))
                               (br (decide (x0.number > (999999999 : Int)))
                                 (some (1 : Int))
                                 (br (x0.kind == (4 : Int))
                                   (bnd (r_script_checkCases x0.cases) fun t94_60 =>
                                   some t94_60)
                                   (some (0 : Int)))))))))))))
             (br (decide ((x0.cases.length : Int) > (0 : Int)))
               (br (x0.kind != (4 : Int))
                 (some (3 : Int))
                 (br (decide ((x0.text.length : Int) > (1000 : Int)))
                   (some (2 : Int))
                   (br (decide ((x0.list.length : Int) > (1000 : Int)))
                     (some (2 : Int))
                     (bnd (slices_ContainsFunc_string_string N x0.list ()) fun t61_61 =>
                     br (t61_61)
                       (some (2 : Int))
                       (br (decide ((x0.cases.length : Int) > (50 : Int)))
                         (some (2 : Int))
                         (bnd (script_isText N x0.text) fun t72_62 =>
                         br (!t72_62)
                           (some (3 : Int))
                           (bnd (slices_ContainsFunc_string_string_2 N x0.list ()) fun t77_63 =>
                           br (t77_63)
                             (some (3 : Int))
                             (br (decide (x0.number < (0 : Int)))
                               (some (1 : Int))
                               (br (decide (x0.number > (999999999 : Int)))
                                 (some (1 : Int))
                                 (br (x0.kind == (4 : Int))
                                   (bnd (r_script_checkCases x0.cases) fun t94_64 =>
                                   some t94_64)
                                   (some (0 : Int))))))))))))
               (br (decide ((x0.text.length : Int) > (1000 : Int)))
                 (some (2 : Int))
                 (br (decide ((x0.list.length : Int) > (1000 : Int)))
                   (some (2 : Int))
                   (bnd (slices_ContainsFunc_string_string N x0.list ()) fun t61_65 =>
                   br (t61_65)
                     (some (2 : Int))
                     (br (decide ((x0.cases.length : Int) > (50 : Int)))
                       (some (2 : Int))
                       (bnd (script_isText N x0.text) fun t72_66 =>
                       br (!t72_66)
                         (some (3 : Int))
                         (bnd (slices_ContainsFunc_string_string_2 N x0.list ()) fun t77_67 =>
                         br (t77_67)
                           (some (3 : Int))
                           (br (decide (x0.number < (0 : Int)))
                             (some (1 : Int))
                             (br (decide (x0.number > (999999999 : Int)))
                               (some (1 : Int))
                               (br (x0.kind == (4 : Int))
                                 (bnd (r_script_checkCases x0.cases) fun t94_68 =>
                                 some t94_68)
                                 (some (0 : Int))))))))))))))
         (br (decide ((x0.list.length : Int) > (0 : Int)))
           (br (x0.kind != (3 : Int))
             (br (x0.kind != (3 : Int))
               (some (3 : Int))
               (br (decide ((x0.text.length : Int) > (1000 : Int)))
                 (some (2 : Int))
                 (br (decide ((x0.list.length : Int) > (1000 : Int)))
                   (some (2 : Int))
                   (bnd (slices_ContainsFunc_string_string N x0.list ()) fun t61_69 =>
                   br (t61_69)
                     (some (2 : Int))
                     (br (decide ((x0.cases.length : Int) > (50 : Int)))
                       (some (2 : Int))
                       (bnd (script_isText N x0.text) fun t72_70 =>
                       br (!t72_70)
                         (some (3 : Int))
                         (bnd (slices_ContainsFunc_string_string_2 N x0.list ()) fun t77_71 =>
                         br (t77_71)
                           (some (3 : Int))
                           (br (decide (x0.number < (0 : Int)))
                             (some (1 : Int))
                             (br (decide (x0.number > (999999999 : Int)))
                               (some (1 : Int))
                               (br (x0.kind == (4 : Int))
                                 (bnd (r_script_checkCases x0.cases) fun t94_72 =>
                                 some t94_72)
                                 (some (0 : Int))))))))))))
             (br (decide ((x0.cases.length : Int) > (0 : Int)))
               (br (x0.kind != (4 : Int))
                 (some (3 : Int))
                 (br (decide ((x0.text.length : Int) > (1000 : Int)))
                   (some (2 : Int))
                   (br (decide ((x0.list.length : Int) > (1000 : Int)))
                     (some (2 : Int))
                     (bnd (slices_ContainsFunc_string_string N x0.list ()) fun t61_73 =>
                     br (t61_73)
                       (some (2 : Int))
                       (br (decide ((x0.cases.length : Int) > (50 : Int)))
                         (some (2 : Int))
                         (bnd (script_isText N x0.text) fun t72_74 =>
                         br (!t72_74)
                           (some (3 : Int))
                           (bnd (slices_ContainsFunc_string_string_2 N x0.list ()) fun t77_75 =>
                           br (t77_75)
                             (some (3 : Int))
                             (br (decide (x0.number < (0 : Int)))
                               (some (1 : Int))
                               (br (decide (x0.number > (999999999 : Int)))
                                 (some (1 : Int))
                                 (br (x0.kind == (4 : Int))
                                   (bnd (r_script_checkCases x0.cases) fun t94_76 =>
                                   some t94_76)
                                   (some (0 : Int))))))))))))
               (br (decide ((x0.text.length : Int) > (1000 : Int)))
                 (some (2 : Int))
                 (br (decide ((x0.list.length : Int) > (1000 : Int)))
                   (some (2 : Int))
                   (bnd (slices_ContainsFunc_string_string N x0.list ()) fun t61_77 =>
                   br (t61_77)
                     (some (2 : Int))
                     (br (decide ((x0.cases.length : Int) > (50 : Int)))
                       (some (2 : Int))
                       (bnd (script_isText N x0.text) fun t72_78 =>
                       br (!t72_78)
                         (some (3 : Int))
                         (bnd (slices_ContainsFunc_string_string_2 N x0.list ()) fun t77_79 =>
                         br (t77_79)
                           (some (3 : Int))
                           (br (decide (x0.number < (0 : Int)))
                             (some (1 : Int))
                             (br (decide (x0.number > (999999999 : Int)))
                               (some (1 : Int))
                               (br (x0.kind == (4 : Int))
                                 (bnd (r_script_checkCases x0.cases) fun t94_80 =>
                                 some t94_80)
                                 (some (0 : Int)))))))))))))
           (br (decide ((x0.cases.length : Int) > (0 : Int)))
             (br (x0.kind != (4 : Int))
               (some (3 : Int))
               (br (decide ((x0.text.length : Int) > (1000 : Int)))
                 (some (2 : Int))
                 (br (decide ((x0.list.length : Int) > (1000 : Int)))
                   (some (2 : Int))
                   (bnd (slices_ContainsFunc_string_string N x0.list ()) fun t61_81 =>
                   br (t61_81)
                     (some (2 : Int))
                     (br (decide ((x0.cases.length : Int) > (50 : Int)))
                       (some (2 : Int))
                       (bnd (script_isText N x0.text) fun t72_82 =>
                       br (!t72_82)
                         (some (3 : Int))
                         (bnd (slices_ContainsFunc_string_string_2 N x0.list ()) fun t77_83 =>
                         br (t77_83)
                           (some (3 : Int))
                           (br (decide (x0.number < (0 : Int)))
                             (some (1 : Int))
                             (br (decide (x0.number > (999999999 : Int)))
                               (some (1 : Int))
                               (br (x0.kind == (4 : Int))
                                 (bnd (r_script_checkCases x0.cases) fun t94_84 =>
                                 some t94_84)
                                 (some (0 : Int))))))))))))
             (br (decide ((x0.text.length : Int) > (1000 : Int)))
               (some (2 : Int))
               (br (decide ((x0.list.length : Int) > (1000 : Int)))
                 (some (2 : Int))
                 (bnd (slices_ContainsFunc_string_string N x0.list ()) fun t61_85 =>
                 br (t61_85)
                   (some (2 : Int))
                   (br (decide ((x0.cases.length : Int) > (50 : Int)))
                     (some (2 : Int))
                     (bnd (script_isText N x0.text) fun t72_86 =>
                     br (!t72_86)
                       (some (3 : Int))
                       (bnd (slices_ContainsFunc_string_string_2 N x0.list ()) fun t77_87 =>
                       br (t77_87)
                         (some (3 : Int))
                         (br (decide (x0.number < (0 : Int)))
                           (some (1 : Int))
                           (br (decide (x0.number > (999999999 : Int)))
                             (some (1 : Int))
                             (br (x0.kind == (4 : Int))
                               (bnd (r_script_checkCases x0.cases) fun t94_88 =>
                               some t94_88)
                               (some (0 : Int))))))))))))))))
abbrev z51sg (f : SV [.v τ14] → BV [] → Option (Int)) : AF := { ps := [.v τ14], bs := [], rs := [.v τ5], cs := [], R := Int, out := fun z => ((z, ()), ()), f := f }
abbrev z51pk : SV [.v τ5] → BV [] → Int := fun x _ => x.1
def z51fn (N : Nat) (r_script_checkCases : τ18 → Option (Int)) : FuncId → Option Tmp → Option AF := fun f q =>
 match f with
   | 46 => match q with | some 61 => some (z3g N) | some 77 => some (z2g N) | _ => none
   | 77 => some (z78g N)
   | 79 => some (z52sg fun x _ => r_script_checkCases x.1)
   | _ => none
theorem z51fn_ok (N : Nat) (r_script_checkCases : τ18 → Option (Int)) (h_script_checkCases : Sound Tryz.prog GW B0G 79 (z52sg fun x y => r_script_checkCases x.1)) : ∀ f q F, z51fn N r_script_checkCases f q = some F → Sound Tryz.prog GW B0G f F := by
 intro f q F h
 unfold z51fn at h
 split at h
 · split at h
   · cases h; exact z3sound N
   · cases h; exact z2sound N
   · cases h
 · cases h; exact z78sound N
 · cases h; exact h_script_checkCases
 · cases h
def z51h : Nat → Hint := fun i =>
 match i with
 | _ => hint0
abbrev z51E (N : Nat) (r_script_checkCases : τ18 → Option (Int)) : Env := mkE z51h (z51fn N r_script_checkCases) (fun _ => false) (fun _ => false)
noncomputable def z51LP (N : Nat) (r_script_checkCases : τ18 → Option (Int)) : Nat → Code → St → (Ex → St → Option Int) → Option Int := fun i c =>
 match i with
 | i => fun st k => iter (z51h i) (exec (z51E N r_script_checkCases) N c i) N st k
theorem z51core (N : Nat) (r_script_checkCases : τ18 → Option (Int)) (x : SV [.v τ14]) (y : BV []) : runL (z51E N r_script_checkCases) Tryz.f31 (z51sg fun x _ => script_CheckValue N r_script_checkCases x.1) z51pk (z51LP N r_script_checkCases) x y = script_CheckValue N r_script_checkCases x.1 := by kernel_rfl
theorem z51sound (N : Nat) (r_script_checkCases : τ18 → Option (Int)) (h_script_checkCases : Sound Tryz.prog GW B0G 79 (z52sg fun x y => r_script_checkCases x.1)) : Sound Tryz.prog GW B0G 31 (z51sg fun x _ => script_CheckValue N r_script_checkCases x.1) :=
 runD_sound (mkE_ok z51h (z51fn N r_script_checkCases) _ _ (z51fn_ok N r_script_checkCases h_script_checkCases)) Tryz.func31 rfl Tryz.call31 (z51sg fun x _ => script_CheckValue N r_script_checkCases x.1) z51pk (fun _ _ => rfl) N (fun x y _ h => ((runL_eq (z51E N r_script_checkCases) N Tryz.f31 (z51sg fun x _ => script_CheckValue N r_script_checkCases x.1) z51pk (z51LP N r_script_checkCases) (show LoopsOk (z51LP N r_script_checkCases) (z51E N r_script_checkCases) N (resD (z51E N r_script_checkCases) Tryz.f31 (z51sg fun x _ => script_CheckValue N r_script_checkCases x.1) z51pk) [] from trivial) x y).trans (z51core N r_script_checkCases x y)).trans h)
def z41L0T (N : Nat) (r_script_checkCases : τ18 → Option (Int)) (x0 : List τ3) (c10 : List τ3) (c11 : Int) (k0 : Option Int) (self : Int → Option Int) (s12 : Int) : Option Int :=
 br (decide (s12 < c11))
   (bnd (geti c10 s12) fun t15 =>
   bnd (script_checkText N t15.1) fun t19 =>
   br (t19 != (0 : Int))
     (some t19)
     (bnd (slc x0 (0 : Int) s12) fun t25 =>
     bnd (slices_ContainsFunc_api_Case N t25 ((t15.1, GValue.mk t15.2.kind t15.2.text t15.2.number t15.2.list t15.2.cases), ())) fun t27 =>
     br (t27)
       (some (7 : Int))
       (br (t15.2.kind == (4 : Int))
         (some (4 : Int))
         (bnd (script_CheckValue N r_script_checkCases (GValue.mk t15.2.kind t15.2.text t15.2.number t15.2.list t15.2.cases)) fun t34 =>
         br (t34 != (0 : Int))
           (some t34)
           (bnd (geti x0 (0 : Int)) fun t42 =>
           br (t15.2.kind != t42.2.kind)
             (some (6 : Int))
             (self (IntKind.i64.wrap (s12 + (1 : Int)))))))))
   (k0)
def z41L0 (N : Nat) (r_script_checkCases : τ18 → Option (Int)) (x0 : List τ3) (c10 : List τ3) (c11 : Int) (k0 : Option Int) : Nat → Int → Option Int
 | 0, _ => none
 | n + 1, s12 => z41L0T N r_script_checkCases x0 c10 c11 k0 (z41L0 N r_script_checkCases x0 c10 c11 k0 n) s12
def script_checkCases_b (N : Nat) (r_script_checkCases : τ18 → Option (Int)) (x0 : List τ3) : Option Int :=
 br ((x0.length : Int) == (0 : Int))
   (some (9 : Int))
   (z41L0 N r_script_checkCases x0 x0 (x0.length : Int) (some (0 : Int)) N (0 : Int))
abbrev z41sg (f : SV [.v (.sl τ2)] → BV [] → Option (Int)) : AF := { ps := [.v (.sl τ2)], bs := [], rs := [.v τ5], cs := [], R := Int, out := fun z => ((z, ()), ()), f := f }
abbrev z41pk : SV [.v τ5] → BV [] → Int := fun x _ => x.1
def z41fn (N : Nat) (r_script_checkCases : τ18 → Option (Int)) : FuncId → Option Tmp → Option AF := fun f _ =>
 match f with
   | 31 => some (z51sg fun x _ => script_CheckValue N r_script_checkCases x.1)
   | 130 => some (z57g N)
   | 131 => some (z12g N)
   | 132 => some (noneAF [.v (.ptr τ2)])
   | _ => none
theorem z41fn_ok (N : Nat) (r_script_checkCases : τ18 → Option (Int)) (h_script_checkCases : Sound Tryz.prog GW B0G 79 (z52sg fun x y => r_script_checkCases x.1)) : ∀ f q F, z41fn N r_script_checkCases f q = some F → Sound Tryz.prog GW B0G f F := by
 intro f q F h
 unfold z41fn at h
 split at h
 · cases h; exact z51sound N r_script_checkCases h_script_checkCases
 · cases h; exact z57sound N
 · cases h; exact z12sound N
 · cases h; exact noneAF_sound Tryz.call132 _
 · cases h
def z41h : Nat → Hint := fun i =>
 match i with
 | 0 => ⟨[], [0, 10, 11, 12], [], [], [], []⟩
 | _ => hint0
abbrev z41E (N : Nat) (r_script_checkCases : τ18 → Option (Int)) : Env := mkE z41h (z41fn N r_script_checkCases) (fun _ => false) (fun _ => false)
noncomputable abbrev z41c0 : Code := cAt (bodyOf Tryz.f79) [true, true, false, true, false, false]
abbrev z41L0_fs : List (Nat × Sl) := [(0, .v (.sl τ2)), (10, .v (.sl τ2)), (11, .v τ5), (12, .v τ5)]
abbrev z41L0_bs : List (Nat × Sb) := []
def z41L0_hd (x0 : List τ3) (c10 : List τ3) (c11 : Int) (s12 : Int) : St := ⟨48, [(0, .v (.sl τ2) x0), (10, .v (.sl τ2) c10), (11, .v τ5 c11), (12, .v τ5 s12)], []⟩
def z41L0_tl0 (_x0 : List τ3) (_c10 : List τ3) (_c11 : Int) : St := ⟨48, [], []⟩
def z41L0_G (N : Nat) (r_script_checkCases : τ18 → Option (Int)) (x0 : List τ3) (c10 : List τ3) (c11 : Int) (s12 : Int) (k : Ex → St → Option Int) : Option Int :=
 z41L0 N r_script_checkCases x0 c10 c11 (k (.exit 0) (z41L0_tl0 x0 c10 c11)) N s12
abbrev z41L0_F (N : Nat) (r_script_checkCases : τ18 → Option (Int)) : FV z41L0_fs → HV z41L0_bs → (Ex → St → Option Int) → Option Int := fun x _ k => z41L0_G N r_script_checkCases x.1 x.2.1 x.2.2.1 x.2.2.2.1 k
noncomputable def z41LP (N : Nat) (r_script_checkCases : τ18 → Option (Int)) : Nat → Code → St → (Ex → St → Option Int) → Option Int := fun i c =>
 match i with
 | 0 => (LPc 48 z41L0_fs z41L0_bs (z41L0_F N r_script_checkCases) (fun st k => iter (z41h 0) (exec (z41E N r_script_checkCases) N c 0) N st k))
 | i => fun st k => iter (z41h i) (exec (z41E N r_script_checkCases) N c i) N st k
theorem z41L0_step (N : Nat) (r_script_checkCases : τ18 → Option (Int)) (x0 : List τ3) (c10 : List τ3) (c11 : Int) (KX : Nat → St → Option Int) (I : St → Option Int) (s12 : Int) :
   execL (z41LP N r_script_checkCases) (z41E N r_script_checkCases) z41c0 0 (z41L0_hd x0 c10 c11 s12) (roundK (z41h 0) I KX (resD (z41E N r_script_checkCases) Tryz.f79 (z41sg fun x _ => script_checkCases_b N r_script_checkCases x.1) z41pk)) = z41L0T N r_script_checkCases x0 c10 c11 (KX 0 (z41L0_tl0 x0 c10 c11)) (fun s12 => I (z41L0_hd x0 c10 c11 s12)) s12 := by kernel_rfl
theorem z41L0_ok (N : Nat) (r_script_checkCases : τ18 → Option (Int)) : ∀ x y k, (∀ st, k .ret st = (resD (z41E N r_script_checkCases) Tryz.f79 (z41sg fun x _ => script_checkCases_b N r_script_checkCases x.1) z41pk) st) → iter (z41h 0) (exec (z41E N r_script_checkCases) N z41c0 0) N ⟨48, unF z41L0_fs x, unH z41L0_bs y⟩ k = z41L0_F N r_script_checkCases x y k := fun x _ k hk =>
 iter_link (S := (Int) × Unit) (z41h 0) _ (execL (z41LP N r_script_checkCases) (z41E N r_script_checkCases) z41c0 0) (resD (z41E N r_script_checkCases) Tryz.f79 (z41sg fun x _ => script_checkCases_b N r_script_checkCases x.1) z41pk) (fun st k hk => execL_eq _ _ N _ z41c0 0 (show LoopsOk (z41LP N r_script_checkCases) (z41E N r_script_checkCases) N (resD (z41E N r_script_checkCases) Tryz.f79 (z41sg fun x _ => script_checkCases_b N r_script_checkCases x.1) z41pk) [] from trivial) st k hk) (fun s => z41L0_hd x.1 x.2.1 x.2.2.1 s.1) k hk
   (fun self s => z41L0T N r_script_checkCases x.1 x.2.1 x.2.2.1 (k (.exit 0) (z41L0_tl0 x.1 x.2.1 x.2.2.1)) (fun s12 => self (s12, ())) s.1) (fun n s => z41L0 N r_script_checkCases x.1 x.2.1 x.2.2.1 (k (.exit 0) (z41L0_tl0 x.1 x.2.1 x.2.2.1)) n s.1) (fun _ => rfl) (fun _ _ => rfl)
   (fun I s => z41L0_step N r_script_checkCases x.1 x.2.1 x.2.2.1 (fun j => k (.exit j)) I s.1) N (x.2.2.2.1, ())
theorem z41lp0 (N : Nat) (r_script_checkCases : τ18 → Option (Int)) : ∀ st k, (∀ st, k .ret st = (resD (z41E N r_script_checkCases) Tryz.f79 (z41sg fun x _ => script_checkCases_b N r_script_checkCases x.1) z41pk) st) → z41LP N r_script_checkCases 0 z41c0 st k = iter (Env.hint (z41E N r_script_checkCases) 0) (exec (z41E N r_script_checkCases) N z41c0 0) N st k := fun st k hk => LPc_eq 48 z41L0_fs z41L0_bs _ _ (resD (z41E N r_script_checkCases) Tryz.f79 (z41sg fun x _ => script_checkCases_b N r_script_checkCases x.1) z41pk) (z41L0_ok N r_script_checkCases) _ st k hk (rfl)
theorem z41core (N : Nat) (r_script_checkCases : τ18 → Option (Int)) (x : SV [.v (.sl τ2)]) (y : BV []) : runL (z41E N r_script_checkCases) Tryz.f79 (z41sg fun x _ => script_checkCases_b N r_script_checkCases x.1) z41pk (z41LP N r_script_checkCases) x y = script_checkCases_b N r_script_checkCases x.1 := by kernel_rfl
theorem z41sound (N : Nat) (r_script_checkCases : τ18 → Option (Int)) (h_script_checkCases : Sound Tryz.prog GW B0G 79 (z52sg fun x y => r_script_checkCases x.1)) : Sound Tryz.prog GW B0G 79 (z41sg fun x _ => script_checkCases_b N r_script_checkCases x.1) :=
 runD_sound (mkE_ok z41h (z41fn N r_script_checkCases) _ _ (z41fn_ok N r_script_checkCases h_script_checkCases)) Tryz.func79 rfl Tryz.call79 (z41sg fun x _ => script_checkCases_b N r_script_checkCases x.1) z41pk (fun _ _ => rfl) N (fun x y _ h => ((runL_eq (z41E N r_script_checkCases) N Tryz.f79 (z41sg fun x _ => script_checkCases_b N r_script_checkCases x.1) z41pk (z41LP N r_script_checkCases) (show LoopsOk (z41LP N r_script_checkCases) (z41E N r_script_checkCases) N (resD (z41E N r_script_checkCases) Tryz.f79 (z41sg fun x _ => script_checkCases_b N r_script_checkCases x.1) z41pk) [(0, z41c0)] from ⟨z41lp0 N r_script_checkCases, trivial⟩) x y).trans (z41core N r_script_checkCases x y)).trans h)
def script_checkCases (N : Nat) : Nat → τ18 → Option (Int)
 | 0 => fun _ => none
 | d + 1 => script_checkCases_b N (script_checkCases N d)
theorem z52sound (N : Nat) : ∀ d, Sound Tryz.prog GW B0G 79 (z52sg fun x y => script_checkCases N d x.1)
 | 0 => Sound.never Tryz.call79 (fun _ _ => rfl)
 | d + 1 => z41sound N (script_checkCases N d) (z52sound N d)
def slices_Clone_api_Case (_N : Nat) (x0 : List τ3) : Option τ18 :=
 br ((x0).isEmpty)
   (both
     (some ([] : List τ3))
     (br (decide ((([] : List τ3).length + x0.length) * (24 * Ty.sz τ2) ≤ 140737488355328))
       (some (([] : List τ3) ++ x0))
       none))
   (br (decide ((([] : List τ3).length + x0.length) * (24 * Ty.sz τ2) ≤ 140737488355328))
     (some (([] : List τ3) ++ x0))
     none)
abbrev z31sg (f : SV [.v (.sl τ2)] → BV [] → Option τ18) : AF := { ps := [.v (.sl τ2)], bs := [], rs := [.row 0], cs := [.row 78 τ2 true], R := List τ3, out := fun z => (((), ()), (z, ())), f := f }
noncomputable abbrev z31g (N : Nat) : AF := z31sg fun x _ => slices_Clone_api_Case N x.1
abbrev z31pk : SV [.row 0] → BV [.row 78 τ2 true] → τ18 := fun _ y => y.1
def z31fn (_N : Nat) : FuncId → Option Tmp → Option AF := fun f _ =>
 match f with
   | _ => none
theorem z31fn_ok (N : Nat) : FnOk (z31fn N) := by
 intro f q F h
 unfold z31fn at h
 split at h
 · cases h
def z31h : Nat → Hint := fun i =>
 match i with
 | _ => hint0
abbrev z31E (N : Nat) : Env := mkE z31h (z31fn N) (fun i => match i with | 2 => true | 5 => true | _ => false) (fun _ => false)
noncomputable def z31LP (N : Nat) : Nat → Code → St → (Ex → St → Option τ18) → Option τ18 := fun i c =>
 match i with
 | i => fun st k => iter (z31h i) (exec (z31E N) N c i) N st k
theorem z31core (N : Nat) (x : SV [.v (.sl τ2)]) (y : BV []) : runL (z31E N) Tryz.f133 (z31g N) z31pk (z31LP N) x y = slices_Clone_api_Case N x.1 := by kernel_rfl
theorem z31sound (N : Nat) : Snd 133 (z31g N) :=
 runD_sound (mkE_ok z31h (z31fn N) _ _ (z31fn_ok N)) Tryz.func133 rfl Tryz.call133 (z31g N) z31pk (fun _ _ => rfl) N (fun x y _ h => ((runL_eq (z31E N) N Tryz.f133 (z31g N) z31pk (z31LP N) (show LoopsOk (z31LP N) (z31E N) N (resD (z31E N) Tryz.f133 (z31g N) z31pk) [] from trivial) x y).trans (z31core N x y)).trans h)
abbrev z95sg (f : SV [.v τ14] → BV [] → Option (GValue)) : AF := { ps := [.v τ14], bs := [], rs := [.v τ14], cs := [], R := GValue, out := fun z => ((z, ()), ()), f := f }
def z83L0T (_N : Nat) (r_script_Own : GValue → Option (GValue)) (c14 : Int) (k0 : τ18 → Option GValue) (self : Int → τ18 → Option GValue) (s15 : Int) (w100900 : List τ3) : Option GValue :=
 br (decide (s15 < c14))
   (br (decide (0 ≤ s15 ∧ s15 < (w100900.length : Int)))
     (bnd (geti w100900 s15) fun t26 =>
     bnd (r_script_Own t26.2) fun t27 =>
     br (decide (0 ≤ s15 ∧ s15 < (w100900.length : Int)))
       (bnd (geti w100900 s15) fun u =>
       self (IntKind.i64.wrap (s15 + (1 : Int))) (seti w100900 s15 (u.1, t27)))
       none)
     none)
   (k0 w100900)
def z83L0 (N : Nat) (r_script_Own : GValue → Option (GValue)) (c14 : Int) (k0 : τ18 → Option GValue) : Nat → Int → τ18 → Option GValue
 | 0, _, _ => none
 | n + 1, s15, w100900 => z83L0T N r_script_Own c14 k0 (z83L0 N r_script_Own c14 k0 n) s15 w100900
def script_Own_b (N : Nat) (r_script_Own : GValue → Option (GValue)) (x0 : GValue) : Option GValue :=
 bnd (slices_Clone_string_string N x0.list) fun t6 =>
 bnd (slices_Clone_api_Case N x0.cases) fun t9 =>
 z83L0 N r_script_Own (t9.length : Int) (fun o0_w100900 =>
     some (GValue.mk x0.kind x0.text x0.number t6 o0_w100900)) N (0 : Int) t9
abbrev z83sg (f : SV [.v τ14] → BV [] → Option (GValue)) : AF := { ps := [.v τ14], bs := [], rs := [.v τ14], cs := [], R := GValue, out := fun z => ((z, ()), ()), f := f }
abbrev z83pk : SV [.v τ14] → BV [] → GValue := fun x _ => x.1
def z83fn (N : Nat) (r_script_Own : GValue → Option (GValue)) : FuncId → Option Tmp → Option AF := fun f _ =>
 match f with
   | 55 => some (z16g N)
   | 80 => some (z95sg fun x _ => r_script_Own x.1)
   | 133 => some (z31g N)
   | _ => none
theorem z83fn_ok (N : Nat) (r_script_Own : GValue → Option (GValue)) (h_script_Own : Sound Tryz.prog GW B0G 80 (z95sg fun x y => r_script_Own x.1)) : ∀ f q F, z83fn N r_script_Own f q = some F → Sound Tryz.prog GW B0G f F := by
 intro f q F h
 unfold z83fn at h
 split at h
 · cases h; exact z16sound N
 · cases h; exact h_script_Own
 · cases h; exact z31sound N
 · cases h
def z83h : Nat → Hint := fun i =>
 match i with
 | 0 => ⟨[], [1, 2, 14, 15], [1001, 1002, 100600, 100900], [1, 2], [1001, 1002, 100600, 100900], []⟩
 | 100001 => ⟨[1001], [], [], [], [], []⟩
 | 100005 => ⟨[1001, 100600, 100900], [], [], [], [], []⟩
 | _ => hint0
abbrev z83E (N : Nat) (r_script_Own : GValue → Option (GValue)) : Env := mkE z83h (z83fn N r_script_Own) (fun _ => false) (fun _ => false)
noncomputable abbrev z83c0 : Code := cAt (bodyOf Tryz.f80) [true, true, false, true, false, false]
abbrev z83L0_fs : List (Nat × Sl) := [(1, .box 1001 0), (2, .box 1002 0), (14, .v τ5), (15, .v τ5)]
abbrev z83L0_bs : List (Nat × Sb) := [(1001, .cells [.v τ5, .v .str, .v τ5, .row 100600, .row 100900]), (1002, .cells [.v τ5, .v .str, .v τ5, .nilS, .nilS]), (100600, .row 9 .str true), (100900, .row 78 τ2 true)]
def z83L0_hd (c14 : Int) (κ1_0 : Int) (κ1_1 : Str) (κ1_2 : Int) (κ2_0 : Int) (κ2_1 : Str) (κ2_2 : Int) (t6 : List Str) (s15 : Int) (w100900 : List τ3) : St := ⟨32, [(1, .box 1001 0), (2, .box 1002 0), (14, .v τ5 c14), (15, .v τ5 s15)], [(1001, .cells [.v τ5 κ1_0, .v .str κ1_1, .v τ5 κ1_2, .row 100600, .row 100900]), (1002, .cells [.v τ5 κ2_0, .v .str κ2_1, .v τ5 κ2_2, .nilS, .nilS]), (100600, .row 9 .str true t6), (100900, .row 78 τ2 true w100900)]⟩
def z83L0_tl0 (_c14 : Int) (κ1_0 : Int) (κ1_1 : Str) (κ1_2 : Int) (κ2_0 : Int) (κ2_1 : Str) (κ2_2 : Int) (t6 : List Str) (o0_w100900 : List τ3) : St := ⟨32, [(1, .box 1001 0), (2, .box 1002 0)], [(1001, .cells [.v τ5 κ1_0, .v .str κ1_1, .v τ5 κ1_2, .row 100600, .row 100900]), (1002, .cells [.v τ5 κ2_0, .v .str κ2_1, .v τ5 κ2_2, .nilS, .nilS]), (100600, .row 9 .str true t6), (100900, .row 78 τ2 true o0_w100900)]⟩
def z83L0_G (N : Nat) (r_script_Own : GValue → Option (GValue)) (c14 : Int) (κ1_0 : Int) (κ1_1 : Str) (κ1_2 : Int) (κ2_0 : Int) (κ2_1 : Str) (κ2_2 : Int) (t6 : List Str) (s15 : Int) (w100900 : List τ3) (k : Ex → St → Option GValue) : Option GValue :=
 z83L0 N r_script_Own c14 (fun o0_w100900 => k (.exit 0) (z83L0_tl0 c14 κ1_0 κ1_1 κ1_2 κ2_0 κ2_1 κ2_2 t6 o0_w100900)) N s15 w100900
abbrev z83L0_F (N : Nat) (r_script_Own : GValue → Option (GValue)) : FV z83L0_fs → HV z83L0_bs → (Ex → St → Option GValue) → Option GValue := fun x y k => z83L0_G N r_script_Own x.2.2.1 y.1.1 y.1.2.1 y.1.2.2.1 y.2.1.1 y.2.1.2.1 y.2.1.2.2.1 y.2.2.1 x.2.2.2.1 y.2.2.2.1 k
noncomputable def z83LP (N : Nat) (r_script_Own : GValue → Option (GValue)) : Nat → Code → St → (Ex → St → Option GValue) → Option GValue := fun i c =>
 match i with
 | 0 => (LPc 32 z83L0_fs z83L0_bs (z83L0_F N r_script_Own) (fun st k => iter (z83h 0) (exec (z83E N r_script_Own) N c 0) N st k))
 | i => fun st k => iter (z83h i) (exec (z83E N r_script_Own) N c i) N st k
theorem z83L0_step (N : Nat) (r_script_Own : GValue → Option (GValue)) (c14 : Int) (κ1_0 : Int) (κ1_1 : Str) (κ1_2 : Int) (κ2_0 : Int) (κ2_1 : Str) (κ2_2 : Int) (t6 : List Str) (KX : Nat → St → Option GValue) (I : St → Option GValue) (s15 : Int) (w100900 : List τ3) :
   execL (z83LP N r_script_Own) (z83E N r_script_Own) z83c0 0 (z83L0_hd c14 κ1_0 κ1_1 κ1_2 κ2_0 κ2_1 κ2_2 t6 s15 w100900) (roundK (z83h 0) I KX (resD (z83E N r_script_Own) Tryz.f80 (z83sg fun x _ => script_Own_b N r_script_Own x.1) z83pk)) = z83L0T N r_script_Own c14 (fun o0_w100900 => KX 0 (z83L0_tl0 c14 κ1_0 κ1_1 κ1_2 κ2_0 κ2_1 κ2_2 t6 o0_w100900)) (fun s15 w100900 => I (z83L0_hd c14 κ1_0 κ1_1 κ1_2 κ2_0 κ2_1 κ2_2 t6 s15 w100900)) s15 w100900 := by kernel_rfl
theorem z83L0_ok (N : Nat) (r_script_Own : GValue → Option (GValue)) : ∀ x y k, (∀ st, k .ret st = (resD (z83E N r_script_Own) Tryz.f80 (z83sg fun x _ => script_Own_b N r_script_Own x.1) z83pk) st) → iter (z83h 0) (exec (z83E N r_script_Own) N z83c0 0) N ⟨32, unF z83L0_fs x, unH z83L0_bs y⟩ k = z83L0_F N r_script_Own x y k := fun x y k hk =>
 iter_link (S := (Int) × τ18 × Unit) (z83h 0) _ (execL (z83LP N r_script_Own) (z83E N r_script_Own) z83c0 0) (resD (z83E N r_script_Own) Tryz.f80 (z83sg fun x _ => script_Own_b N r_script_Own x.1) z83pk) (fun st k hk => execL_eq _ _ N _ z83c0 0 (show LoopsOk (z83LP N r_script_Own) (z83E N r_script_Own) N (resD (z83E N r_script_Own) Tryz.f80 (z83sg fun x _ => script_Own_b N r_script_Own x.1) z83pk) [] from trivial) st k hk) (fun s => z83L0_hd x.2.2.1 y.1.1 y.1.2.1 y.1.2.2.1 y.2.1.1 y.2.1.2.1 y.2.1.2.2.1 y.2.2.1 s.1 s.2.1) k hk
   (fun self s => z83L0T N r_script_Own x.2.2.1 (fun o0_w100900 => k (.exit 0) (z83L0_tl0 x.2.2.1 y.1.1 y.1.2.1 y.1.2.2.1 y.2.1.1 y.2.1.2.1 y.2.1.2.2.1 y.2.2.1 o0_w100900)) (fun s15 w100900 => self (s15, w100900, ())) s.1 s.2.1) (fun n s => z83L0 N r_script_Own x.2.2.1 (fun o0_w100900 => k (.exit 0) (z83L0_tl0 x.2.2.1 y.1.1 y.1.2.1 y.1.2.2.1 y.2.1.1 y.2.1.2.1 y.2.1.2.2.1 y.2.2.1 o0_w100900)) n s.1 s.2.1) (fun _ => rfl) (fun _ _ => rfl)
   (fun I s => z83L0_step N r_script_Own x.2.2.1 y.1.1 y.1.2.1 y.1.2.2.1 y.2.1.1 y.2.1.2.1 y.2.1.2.2.1 y.2.2.1 (fun j => k (.exit j)) I s.1 s.2.1) N (x.2.2.2.1, y.2.2.2.1, ())
theorem z83lp0 (N : Nat) (r_script_Own : GValue → Option (GValue)) : ∀ st k, (∀ st, k .ret st = (resD (z83E N r_script_Own) Tryz.f80 (z83sg fun x _ => script_Own_b N r_script_Own x.1) z83pk) st) → z83LP N r_script_Own 0 z83c0 st k = iter (Env.hint (z83E N r_script_Own) 0) (exec (z83E N r_script_Own) N z83c0 0) N st k := fun st k hk => LPc_eq 32 z83L0_fs z83L0_bs _ _ (resD (z83E N r_script_Own) Tryz.f80 (z83sg fun x _ => script_Own_b N r_script_Own x.1) z83pk) (z83L0_ok N r_script_Own) _ st k hk (rfl)
theorem z83core (N : Nat) (r_script_Own : GValue → Option (GValue)) (x : SV [.v τ14]) (y : BV []) : runL (z83E N r_script_Own) Tryz.f80 (z83sg fun x _ => script_Own_b N r_script_Own x.1) z83pk (z83LP N r_script_Own) x y = script_Own_b N r_script_Own x.1 := by kernel_rfl
theorem z83sound (N : Nat) (r_script_Own : GValue → Option (GValue)) (h_script_Own : Sound Tryz.prog GW B0G 80 (z95sg fun x y => r_script_Own x.1)) : Sound Tryz.prog GW B0G 80 (z83sg fun x _ => script_Own_b N r_script_Own x.1) :=
 runD_sound (mkE_ok z83h (z83fn N r_script_Own) _ _ (z83fn_ok N r_script_Own h_script_Own)) Tryz.func80 rfl Tryz.call80 (z83sg fun x _ => script_Own_b N r_script_Own x.1) z83pk (fun _ _ => rfl) N (fun x y _ h => ((runL_eq (z83E N r_script_Own) N Tryz.f80 (z83sg fun x _ => script_Own_b N r_script_Own x.1) z83pk (z83LP N r_script_Own) (show LoopsOk (z83LP N r_script_Own) (z83E N r_script_Own) N (resD (z83E N r_script_Own) Tryz.f80 (z83sg fun x _ => script_Own_b N r_script_Own x.1) z83pk) [(0, z83c0)] from ⟨z83lp0 N r_script_Own, trivial⟩) x y).trans (z83core N r_script_Own x y)).trans h)
def script_Own (N : Nat) : Nat → GValue → Option (GValue)
 | 0 => fun _ => none
 | d + 1 => script_Own_b N (script_Own N d)
theorem z95sound (N : Nat) : ∀ d, Sound Tryz.prog GW B0G 80 (z95sg fun x y => script_Own N d x.1)
 | 0 => Sound.never Tryz.call80 (fun _ _ => rfl)
 | d + 1 => z83sound N (script_Own N d) (z95sound N d)
def config_conditionOf_1 (_N : Nat) (x0 : Str × List τ1 × List τ1) (x1 : Str) : Option Bool :=
 some (x0.1 == x1)
abbrev z35sg (f : SV [.v τ9, .v (.ptr .str)] → BV [] → Option (Bool)) : AF := { ps := [.v τ9, .v (.ptr .str)], bs := [], rs := [.v .bool], cs := [], R := Bool, out := fun z => ((z, ()), ()), f := f }
noncomputable abbrev z35g (N : Nat) : AF := z35sg fun x _ => config_conditionOf_1 N x.1 x.2.1
abbrev z35pk : SV [.v .bool] → BV [] → Bool := fun x _ => x.1
def z35fn (_N : Nat) : FuncId → Option Tmp → Option AF := fun f _ =>
 match f with
   | _ => none
theorem z35fn_ok (N : Nat) : FnOk (z35fn N) := by
 intro f q F h
 unfold z35fn at h
 split at h
 · cases h
def z35h : Nat → Hint := fun i =>
 match i with
 | _ => hint0
abbrev z35E (N : Nat) : Env := mkE z35h (z35fn N) FF FF
noncomputable def z35LP (N : Nat) : Nat → Code → St → (Ex → St → Option Bool) → Option Bool := fun i c =>
 match i with
 | i => fun st k => iter (z35h i) (exec (z35E N) N c i) N st k
theorem z35core (N : Nat) (x : SV [.v τ9, .v (.ptr .str)]) (y : BV []) : runL (z35E N) Tryz.f121 (z35g N) z35pk (z35LP N) x y = config_conditionOf_1 N x.1 x.2.1 := by kernel_rfl
theorem z35sound (N : Nat) : Snd 121 (z35g N) :=
 sndL (z35fn_ok N) Tryz.func121 rfl Tryz.call121 (z35g N) z35pk (fun _ _ => rfl) N (z35LP N) (show LoopsOk (z35LP N) (z35E N) N (resD (z35E N) Tryz.f121 (z35g N) z35pk) [] from trivial) (z35core N)
end
end Go.Proofs.YtbekhaioddmliaaGreatDoor

