/- What functions of the program compute, as plain functions (printed). -/
import Derived.Test.YtbekhaioddmliaaGreatDoorQZcF6
namespace Go.Proofs.YtbekhaioddmliaaGreatDoor
open Go Go.RowKit
set_option maxRecDepth 100000
set_option linter.unusedVariables false
noncomputable section
def z4L0T (N : Nat) (x0 : List Str) (c7 : Int) (k0 : Option Int) (self : Int → Option Int) (s8 : Int) : Option Int :=
  br (decide (s8 < c7))
    (bnd (geti x0 s8) fun t14 =>
    bnd (script_CheckValue_2 N t14) fun t16 =>
    br (t16)
      (some s8)
      (self (IntKind.i64.wrap (s8 + (1 : Int)))))
    (k0)
def z4L0 (N : Nat) (x0 : List Str) (c7 : Int) (k0 : Option Int) : Nat → Int → Option Int
  | 0, _ => none
  | n + 1, s8 => z4L0T N x0 c7 k0 (z4L0 N x0 c7 k0 n) s8
def slices_IndexFunc_string_string_2 (N : Nat) (x0 : List Str) (_x1 : Unit) : Option Int :=
  z4L0 N x0 (x0.length : Int) (some (-1 : Int)) N (0 : Int)
abbrev z4sg (f : SV [.v (.sl .str), .v (.clo 78 .un)] → BV [] → Option (Int)) : AF := { ps := [.v (.sl .str), .v (.clo 78 .un)], bs := [], rs := [.v (.int .i64)], cs := [], R := Int, out := fun z => ((z, ()), ()), f := f }
abbrev z4pk : SV [.v (.int .i64)] → BV [] → Int := fun x _ => x.1
def z4fn (N : Nat) : FuncId → Option Tmp → Option AF := fun f _ =>
  match f with
    | 78 => some (z30sg fun x _ => script_CheckValue_2 N x.1)
    | _ => none
theorem z4fn_ok (N : Nat) : ∀ f q F, z4fn N f q = some F → Sound Tryz.prog GW B0G f F := by
  intro f q F h
  unfold z4fn at h
  split at h
  · cases h; exact z30sound N
  · cases h
def z4h : Nat → Hint := fun i =>
  match i with
  | 0 => ⟨[], [0, 1, 7, 8], [], [], [], []⟩
  | _ => ⟨[], [], [], [], [], []⟩
abbrev z4E (N : Nat) : Env := mkE z4h (z4fn N) (fun _ => false) (fun _ => false)
abbrev z4L0_fs : List (Nat × Sl) := [(0, .v (.sl .str)), (1, .v (.clo 78 .un)), (7, .v (.int .i64)), (8, .v (.int .i64))]
abbrev z4L0_bs : List (Nat × Sb) := []
def z4L0_hd (x0 : List Str) (x1 : Unit) (c7 : Int) (s8 : Int) : St := ⟨19, [(0, .v (.sl .str) x0), (1, .v (.clo 78 .un) x1), (7, .v (.int .i64) c7), (8, .v (.int .i64) s8)], []⟩
def z4L0_tl0 (_x0 : List Str) (_x1 : Unit) (_c7 : Int) : St := ⟨19, [], []⟩
def z4L0_G (N : Nat) (x0 : List Str) (x1 : Unit) (c7 : Int) (s8 : Int) (k : Ex → St → Option Int) : Option Int :=
  z4L0 N x0 c7 (k (.exit 0) (z4L0_tl0 x0 x1 c7)) N s8
abbrev z4L0_F (N : Nat) : FV z4L0_fs → HV z4L0_bs → (Ex → St → Option Int) → Option Int := fun x _ k => z4L0_G N x.1 x.2.1 x.2.2.1 x.2.2.2.1 k
noncomputable def z4LP (N : Nat) : Nat → Code → St → (Ex → St → Option Int) → Option Int := fun i c =>
  match i with
  | 0 => (LPc 19 z4L0_fs z4L0_bs (z4L0_F N) (fun st k => iter (z4h 0) (exec (z4E N) N c 0) N st k))
  | i => fun st k => iter (z4h i) (exec (z4E N) N c i) N st k
theorem z4L0_step (N : Nat) (x0 : List Str) (x1 : Unit) (c7 : Int) (KX : Nat → St → Option Int) (I : St → Option Int) (s8 : Int) :
    execL (z4LP N) (z4E N) (cAt (bodyOf Tryz.f103) [true, false, true, false, false]) 0 (z4L0_hd x0 x1 c7 s8) (roundK (z4h 0) I KX (resD (z4E N) Tryz.f103 (z4sg fun x _ => slices_IndexFunc_string_string_2 N x.1 x.2.1) z4pk)) = z4L0T N x0 c7 (KX 0 (z4L0_tl0 x0 x1 c7)) (fun s8 => I (z4L0_hd x0 x1 c7 s8)) s8 := by kernel_rfl
theorem z4L0_ok (N : Nat) : ∀ x y k, (∀ st, k .ret st = (resD (z4E N) Tryz.f103 (z4sg fun x _ => slices_IndexFunc_string_string_2 N x.1 x.2.1) z4pk) st) → iter (z4h 0) (exec (z4E N) N (cAt (bodyOf Tryz.f103) [true, false, true, false, false]) 0) N ⟨19, unF z4L0_fs x, unH z4L0_bs y⟩ k = z4L0_F N x y k := fun x _ k hk =>
  iter_link (S := (Int) × Unit) (z4h 0) _ (execL (z4LP N) (z4E N) (cAt (bodyOf Tryz.f103) [true, false, true, false, false]) 0) (resD (z4E N) Tryz.f103 (z4sg fun x _ => slices_IndexFunc_string_string_2 N x.1 x.2.1) z4pk) (fun st k hk => execL_eq _ _ N _ (cAt (bodyOf Tryz.f103) [true, false, true, false, false]) 0 (show LoopsOk (z4LP N) (z4E N) N (resD (z4E N) Tryz.f103 (z4sg fun x _ => slices_IndexFunc_string_string_2 N x.1 x.2.1) z4pk) [] from trivial) st k hk) (fun s => z4L0_hd x.1 x.2.1 x.2.2.1 s.1) k hk
    (fun self s => z4L0T N x.1 x.2.2.1 (k (.exit 0) (z4L0_tl0 x.1 x.2.1 x.2.2.1)) (fun s8 => self (s8, ())) s.1) (fun n s => z4L0 N x.1 x.2.2.1 (k (.exit 0) (z4L0_tl0 x.1 x.2.1 x.2.2.1)) n s.1) (fun _ => rfl) (fun _ _ => rfl)
    (fun I s => z4L0_step N x.1 x.2.1 x.2.2.1 (fun j => k (.exit j)) I s.1) N (x.2.2.2.1, ())
theorem z4lp0 (N : Nat) : ∀ st k, (∀ st, k .ret st = (resD (z4E N) Tryz.f103 (z4sg fun x _ => slices_IndexFunc_string_string_2 N x.1 x.2.1) z4pk) st) → z4LP N 0 (cAt (bodyOf Tryz.f103) [true, false, true, false, false]) st k = iter (Env.hint (z4E N) 0) (exec (z4E N) N (cAt (bodyOf Tryz.f103) [true, false, true, false, false]) 0) N st k := fun st k hk => LPc_eq 19 z4L0_fs z4L0_bs _ _ (resD (z4E N) Tryz.f103 (z4sg fun x _ => slices_IndexFunc_string_string_2 N x.1 x.2.1) z4pk) (z4L0_ok N) _ st k hk (rfl)
theorem z4core (N : Nat) (x : SV [.v (.sl .str), .v (.clo 78 .un)]) (y : BV []) : runL (z4E N) Tryz.f103 (z4sg fun x _ => slices_IndexFunc_string_string_2 N x.1 x.2.1) z4pk (z4LP N) x y = slices_IndexFunc_string_string_2 N x.1 x.2.1 := by kernel_rfl
theorem z4sound (N : Nat) : Sound Tryz.prog GW B0G 103 (z4sg fun x _ => slices_IndexFunc_string_string_2 N x.1 x.2.1) :=
  runD_sound (mkE_ok z4h (z4fn N) _ _ (z4fn_ok N)) Tryz.func103 rfl Tryz.call103 (z4sg fun x _ => slices_IndexFunc_string_string_2 N x.1 x.2.1) z4pk (fun _ _ => rfl) N (fun x y _ h => ((runL_eq (z4E N) N Tryz.f103 (z4sg fun x _ => slices_IndexFunc_string_string_2 N x.1 x.2.1) z4pk (z4LP N) (show LoopsOk (z4LP N) (z4E N) N (resD (z4E N) Tryz.f103 (z4sg fun x _ => slices_IndexFunc_string_string_2 N x.1 x.2.1) z4pk) [(0, (cAt (bodyOf Tryz.f103) [true, false, true, false, false]))] from ⟨z4lp0 N, trivial⟩) x y).trans (z4core N x y)).trans h)
def slices_ContainsFunc_string_string_2 (N : Nat) (x0 : List Str) (x1 : Unit) : Option Bool :=
  bnd (slices_IndexFunc_string_string_2 N x0 x1) fun t7 =>
  some (decide (t7 ≥ (0 : Int)))
abbrev z1sg (f : SV [.v (.sl .str), .v (.clo 78 .un)] → BV [] → Option (Bool)) : AF := { ps := [.v (.sl .str), .v (.clo 78 .un)], bs := [], rs := [.v .bool], cs := [], R := Bool, out := fun z => ((z, ()), ()), f := f }
abbrev z1pk : SV [.v .bool] → BV [] → Bool := fun x _ => x.1
def z1fn (N : Nat) : FuncId → Option Tmp → Option AF := fun f _ =>
  match f with
    | 103 => some (z4sg fun x _ => slices_IndexFunc_string_string_2 N x.1 x.2.1)
    | _ => none
theorem z1fn_ok (N : Nat) : ∀ f q F, z1fn N f q = some F → Sound Tryz.prog GW B0G f F := by
  intro f q F h
  unfold z1fn at h
  split at h
  · cases h; exact z4sound N
  · cases h
def z1h : Nat → Hint := fun i =>
  match i with
  | _ => ⟨[], [], [], [], [], []⟩
abbrev z1E (N : Nat) : Env := mkE z1h (z1fn N) (fun _ => false) (fun _ => false)
noncomputable def z1LP (N : Nat) : Nat → Code → St → (Ex → St → Option Bool) → Option Bool := fun i c =>
  match i with
  | i => fun st k => iter (z1h i) (exec (z1E N) N c i) N st k
theorem z1core (N : Nat) (x : SV [.v (.sl .str), .v (.clo 78 .un)]) (y : BV []) : runL (z1E N) Tryz.f46 (z1sg fun x _ => slices_ContainsFunc_string_string_2 N x.1 x.2.1) z1pk (z1LP N) x y = slices_ContainsFunc_string_string_2 N x.1 x.2.1 := by kernel_rfl
theorem z1sound (N : Nat) : Sound Tryz.prog GW B0G 46 (z1sg fun x _ => slices_ContainsFunc_string_string_2 N x.1 x.2.1) :=
  runD_sound (mkE_ok z1h (z1fn N) _ _ (z1fn_ok N)) Tryz.func46 rfl Tryz.call46 (z1sg fun x _ => slices_ContainsFunc_string_string_2 N x.1 x.2.1) z1pk (fun _ _ => rfl) N (fun x y _ h => ((runL_eq (z1E N) N Tryz.f46 (z1sg fun x _ => slices_ContainsFunc_string_string_2 N x.1 x.2.1) z1pk (z1LP N) (show LoopsOk (z1LP N) (z1E N) N (resD (z1E N) Tryz.f46 (z1sg fun x _ => slices_ContainsFunc_string_string_2 N x.1 x.2.1) z1pk) [] from trivial) x y).trans (z1core N x y)).trans h)
abbrev z42sg (f : SV [.v (.sl (.pr .str (.rc .value)))] → BV [] → Option (Int)) : AF := { ps := [.v (.sl (.pr .str (.rc .value)))], bs := [], rs := [.v (.int .i64)], cs := [], R := Int, out := fun z => ((z, ()), ()), f := f }
def script_CheckValue (N : Nat) (r_script_checkCases : (List (Str × GValue)) → Option (Int)) (x0 : GValue) : Option Int :=
  br (decide (x0.kind < (1 : Int)))
    (some (4 : Int))
    (br (decide (x0.kind > (4 : Int)))
      (some (4 : Int))
      (br (!(x0.text == ([] : Str)))
        (br (x0.kind != (1 : Int))
          (br (x0.kind != (1 : Int))
            (some (3 : Int))
            (br (decide ((x0.text.length : Int) > (1000 : Int)))
              (some (2 : Int))
              (br (decide ((x0.list.length : Int) > (1000 : Int)))
                (some (2 : Int))
                (bnd (slices_ContainsFunc_string_string N x0.list ()) fun t61 =>
                br (t61)
                  (some (2 : Int))
                  (br (decide ((x0.cases.length : Int) > (50 : Int)))
                    (some (2 : Int))
                    (bnd (script_isText N x0.text) fun t72 =>
                    br (!t72)
                      (some (3 : Int))
                      (bnd (slices_ContainsFunc_string_string_2 N x0.list ()) fun t77 =>
                      br (t77)
                        (some (3 : Int))
                        (br (decide (x0.number < (0 : Int)))
                          (some (1 : Int))
                          (br (decide (x0.number > (999999999 : Int)))
                            (some (1 : Int))
                            (br (x0.kind == (4 : Int))
                              (bnd (r_script_checkCases x0.cases) fun t94 =>
                              some t94)
                              (some (0 : Int))))))))))))
          (br (x0.number != (0 : Int))
            (br (x0.kind != (2 : Int))
              (br (x0.kind != (2 : Int))
                (some (3 : Int))
                (br (decide ((x0.text.length : Int) > (1000 : Int)))
                  (some (2 : Int))
                  (br (decide ((x0.list.length : Int) > (1000 : Int)))
                    (some (2 : Int))
                    (bnd (slices_ContainsFunc_string_string N x0.list ()) fun t61_1 =>
                    br (t61_1)
                      (some (2 : Int))
                      (br (decide ((x0.cases.length : Int) > (50 : Int)))
                        (some (2 : Int))
                        (bnd (script_isText N x0.text) fun t72_2 =>
                        br (!t72_2)
                          (some (3 : Int))
                          (bnd (slices_ContainsFunc_string_string_2 N x0.list ()) fun t77_3 =>
                          br (t77_3)
                            (some (3 : Int))
                            (br (decide (x0.number < (0 : Int)))
                              (some (1 : Int))
                              (br (decide (x0.number > (999999999 : Int)))
                                (some (1 : Int))
                                (br (x0.kind == (4 : Int))
                                  (bnd (r_script_checkCases x0.cases) fun t94_4 =>
                                  some t94_4)
                                  (some (0 : Int))))))))))))
              (br (decide ((x0.list.length : Int) > (0 : Int)))
                (br (x0.kind != (3 : Int))
                  (br (x0.kind != (3 : Int))
                    (some (3 : Int))
                    (br (decide ((x0.text.length : Int) > (1000 : Int)))
                      (some (2 : Int))
                      (br (decide ((x0.list.length : Int) > (1000 : Int)))
                        (some (2 : Int))
                        (bnd (slices_ContainsFunc_string_string N x0.list ()) fun t61_5 =>
                        br (t61_5)
                          (some (2 : Int))
                          (br (decide ((x0.cases.length : Int) > (50 : Int)))
                            (some (2 : Int))
                            (bnd (script_isText N x0.text) fun t72_6 =>
                            br (!t72_6)
                              (some (3 : Int))
                              (bnd (slices_ContainsFunc_string_string_2 N x0.list ()) fun t77_7 =>
                              br (t77_7)
                                (some (3 : Int))
                                (br (decide (x0.number < (0 : Int)))
                                  (some (1 : Int))
                                  (br (decide (x0.number > (999999999 : Int)))
                                    (some (1 : Int))
                                    (br (x0.kind == (4 : Int))
                                      (bnd (r_script_checkCases x0.cases) fun t94_8 =>
                                      some t94_8)
                                      (some (0 : Int))))))))))))
                  (br (decide ((x0.cases.length : Int) > (0 : Int)))
                    (br (x0.kind != (4 : Int))
                      (some (3 : Int))
                      (br (decide ((x0.text.length : Int) > (1000 : Int)))
                        (some (2 : Int))
                        (br (decide ((x0.list.length : Int) > (1000 : Int)))
                          (some (2 : Int))
                          (bnd (slices_ContainsFunc_string_string N x0.list ()) fun t61_9 =>
                          br (t61_9)
                            (some (2 : Int))
                            (br (decide ((x0.cases.length : Int) > (50 : Int)))
                              (some (2 : Int))
                              (bnd (script_isText N x0.text) fun t72_10 =>
                              br (!t72_10)
                                (some (3 : Int))
                                (bnd (slices_ContainsFunc_string_string_2 N x0.list ()) fun t77_11 =>
                                br (t77_11)
                                  (some (3 : Int))
                                  (br (decide (x0.number < (0 : Int)))
                                    (some (1 : Int))
                                    (br (decide (x0.number > (999999999 : Int)))
                                      (some (1 : Int))
                                      (br (x0.kind == (4 : Int))
                                        (bnd (r_script_checkCases x0.cases) fun t94_12 =>
                                        some t94_12)
                                        (some (0 : Int))))))))))))
                    (br (decide ((x0.text.length : Int) > (1000 : Int)))
                      (some (2 : Int))
                      (br (decide ((x0.list.length : Int) > (1000 : Int)))
                        (some (2 : Int))
                        (bnd (slices_ContainsFunc_string_string N x0.list ()) fun t61_13 =>
                        br (t61_13)
                          (some (2 : Int))
                          (br (decide ((x0.cases.length : Int) > (50 : Int)))
                            (some (2 : Int))
                            (bnd (script_isText N x0.text) fun t72_14 =>
                            br (!t72_14)
                              (some (3 : Int))
                              (bnd (slices_ContainsFunc_string_string_2 N x0.list ()) fun t77_15 =>
                              br (t77_15)
                                (some (3 : Int))
                                (br (decide (x0.number < (0 : Int)))
                                  (some (1 : Int))
                                  (br (decide (x0.number > (999999999 : Int)))
                                    (some (1 : Int))
                                    (br (x0.kind == (4 : Int))
                                      (bnd (r_script_checkCases x0.cases) fun t94_16 =>
                                      some t94_16)
                                      (some (0 : Int)))))))))))))
                (br (decide ((x0.cases.length : Int) > (0 : Int)))
                  (br (x0.kind != (4 : Int))
                    (some (3 : Int))
                    (br (decide ((x0.text.length : Int) > (1000 : Int)))
                      (some (2 : Int))
                      (br (decide ((x0.list.length : Int) > (1000 : Int)))
                        (some (2 : Int))
                        (bnd (slices_ContainsFunc_string_string N x0.list ()) fun t61_17 =>
                        br (t61_17)
                          (some (2 : Int))
                          (br (decide ((x0.cases.length : Int) > (50 : Int)))
                            (some (2 : Int))
                            (bnd (script_isText N x0.text) fun t72_18 =>
                            br (!t72_18)
                              (some (3 : Int))
                              (bnd (slices_ContainsFunc_string_string_2 N x0.list ()) fun t77_19 =>
                              br (t77_19)
                                (some (3 : Int))
                                (br (decide (x0.number < (0 : Int)))
                                  (some (1 : Int))
                                  (br (decide (x0.number > (999999999 : Int)))
                                    (some (1 : Int))
                                    (br (x0.kind == (4 : Int))
                                      (bnd (r_script_checkCases x0.cases) fun t94_20 =>
                                      some t94_20)
                                      (some (0 : Int))))))))))))
                  (br (decide ((x0.text.length : Int) > (1000 : Int)))
                    (some (2 : Int))
                    (br (decide ((x0.list.length : Int) > (1000 : Int)))
                      (some (2 : Int))
                      (bnd (slices_ContainsFunc_string_string N x0.list ()) fun t61_21 =>
                      br (t61_21)
                        (some (2 : Int))
                        (br (decide ((x0.cases.length : Int) > (50 : Int)))
                          (some (2 : Int))
                          (bnd (script_isText N x0.text) fun t72_22 =>
                          br (!t72_22)
                            (some (3 : Int))
                            (bnd (slices_ContainsFunc_string_string_2 N x0.list ()) fun t77_23 =>
                            br (t77_23)
                              (some (3 : Int))
                              (br (decide (x0.number < (0 : Int)))
                                (some (1 : Int))
                                (br (decide (x0.number > (999999999 : Int)))
                                  (some (1 : Int))
                                  (br (x0.kind == (4 : Int))
                                    (bnd (r_script_checkCases x0.cases) fun t94_24 =>
                                    some t94_24)
                                    (some (0 : Int))))))))))))))
            (br (decide ((x0.list.length : Int) > (0 : Int)))
              (br (x0.kind != (3 : Int))
                (br (x0.kind != (3 : Int))
                  (some (3 : Int))
                  (br (decide ((x0.text.length : Int) > (1000 : Int)))
                    (some (2 : Int))
                    (br (decide ((x0.list.length : Int) > (1000 : Int)))
                      (some (2 : Int))
                      (bnd (slices_ContainsFunc_string_string N x0.list ()) fun t61_25 =>
                      br (t61_25)
                        (some (2 : Int))
                        (br (decide ((x0.cases.length : Int) > (50 : Int)))
                          (some (2 : Int))
                          (bnd (script_isText N x0.text) fun t72_26 =>
                          br (!t72_26)
                            (some (3 : Int))
                            (bnd (slices_ContainsFunc_string_string_2 N x0.list ()) fun t77_27 =>
                            br (t77_27)
                              (some (3 : Int))
                              (br (decide (x0.number < (0 : Int)))
                                (some (1 : Int))
                                (br (decide (x0.number > (999999999 : Int)))
                                  (some (1 : Int))
                                  (br (x0.kind == (4 : Int))
                                    (bnd (r_script_checkCases x0.cases) fun t94_28 =>
                                    some t94_28)
                                    (some (0 : Int))))))))))))
                (br (decide ((x0.cases.length : Int) > (0 : Int)))
                  (br (x0.kind != (4 : Int))
                    (some (3 : Int))
                    (br (decide ((x0.text.length : Int) > (1000 : Int)))
                      (some (2 : Int))
                      (br (decide ((x0.list.length : Int) > (1000 : Int)))
                        (some (2 : Int))
                        (bnd (slices_ContainsFunc_string_string N x0.list ()) fun t61_29 =>
                        br (t61_29)
                          (some (2 : Int))
                          (br (decide ((x0.cases.length : Int) > (50 : Int)))
                            (some (2 : Int))
                            (bnd (script_isText N x0.text) fun t72_30 =>
                            br (!t72_30)
                              (some (3 : Int))
                              (bnd (slices_ContainsFunc_string_string_2 N x0.list ()) fun t77_31 =>
                              br (t77_31)
                                (some (3 : Int))
                                (br (decide (x0.number < (0 : Int)))
                                  (some (1 : Int))
                                  (br (decide (x0.number > (999999999 : Int)))
                                    (some (1 : Int))
                                    (br (x0.kind == (4 : Int))
                                      (bnd (r_script_checkCases x0.cases) fun t94_32 =>
                                      some t94_32)
                                      (some (0 : Int))))))))))))
                  (br (decide ((x0.text.length : Int) > (1000 : Int)))
                    (some (2 : Int))
                    (br (decide ((x0.list.length : Int) > (1000 : Int)))
                      (some (2 : Int))
                      (bnd (slices_ContainsFunc_string_string N x0.list ()) fun t61_33 =>
                      br (t61_33)
                        (some (2 : Int))
                        (br (decide ((x0.cases.length : Int) > (50 : Int)))
                          (some (2 : Int))
                          (bnd (script_isText N x0.text) fun t72_34 =>
                          br (!t72_34)
                            (some (3 : Int))
                            (bnd (slices_ContainsFunc_string_string_2 N x0.list ()) fun t77_35 =>
                            br (t77_35)
                              (some (3 : Int))
                              (br (decide (x0.number < (0 : Int)))
                                (some (1 : Int))
                                (br (decide (x0.number > (999999999 : Int)))
                                  (some (1 : Int))
                                  (br (x0.kind == (4 : Int))
                                    (bnd (r_script_checkCases x0.cases) fun t94_36 =>
                                    some t94_36)
                                    (some (0 : Int)))))))))))))
              (br (decide ((x0.cases.length : Int) > (0 : Int)))
                (br (x0.kind != (4 : Int))
                  (some (3 : Int))
                  (br (decide ((x0.text.length : Int) > (1000 : Int)))
                    (some (2 : Int))
                    (br (decide ((x0.list.length : Int) > (1000 : Int)))
                      (some (2 : Int))
                      (bnd (slices_ContainsFunc_string_string N x0.list ()) fun t61_37 =>
                      br (t61_37)
                        (some (2 : Int))
                        (br (decide ((x0.cases.length : Int) > (50 : Int)))
                          (some (2 : Int))
                          (bnd (script_isText N x0.text) fun t72_38 =>
                          br (!t72_38)
                            (some (3 : Int))
                            (bnd (slices_ContainsFunc_string_string_2 N x0.list ()) fun t77_39 =>
                            br (t77_39)
                              (some (3 : Int))
                              (br (decide (x0.number < (0 : Int)))
                                (some (1 : Int))
                                (br (decide (x0.number > (999999999 : Int)))
                                  (some (1 : Int))
                                  (br (x0.kind == (4 : Int))
                                    (bnd (r_script_checkCases x0.cases) fun t94_40 =>
                                    some t94_40)
                                    (some (0 : Int))))))))))))
                (br (decide ((x0.text.length : Int) > (1000 : Int)))
                  (some (2 : Int))
                  (br (decide ((x0.list.length : Int) > (1000 : Int)))
                    (some (2 : Int))
                    (bnd (slices_ContainsFunc_string_string N x0.list ()) fun t61_41 =>
                    br (t61_41)
                      (some (2 : Int))
                      (br (decide ((x0.cases.length : Int) > (50 : Int)))
                        (some (2 : Int))
                        (bnd (script_isText N x0.text) fun t72_42 =>
                        br (!t72_42)
                          (some (3 : Int))
                          (bnd (slices_ContainsFunc_string_string_2 N x0.list ()) fun t77_43 =>
                          br (t77_43)
                            (some (3 : Int))
                            (br (decide (x0.number < (0 : Int)))
                              (some (1 : Int))
                              (br (decide (x0.number > (999999999 : Int)))
                                (some (1 : Int))
                                (br (x0.kind == (4 : Int))
                                  (bnd (r_script_checkCases x0.cases) fun t94_44 =>
                                  some t94_44)
                                  (some (0 : Int)))))))))))))))
        (br (x0.number != (0 : Int))
          (br (x0.kind != (2 : Int))
            (br (x0.kind != (2 : Int))
              (some (3 : Int))
              (br (decide ((x0.text.length : Int) > (1000 : Int)))
                (some (2 : Int))
                (br (decide ((x0.list.length : Int) > (1000 : Int)))
                  (some (2 : Int))
                  (bnd (slices_ContainsFunc_string_string N x0.list ()) fun t61_45 =>
                  br (t61_45)
                    (some (2 : Int))
                    (br (decide ((x0.cases.length : Int) > (50 : Int)))
                      (some (2 : Int))
                      (bnd (script_isText N x0.text) fun t72_46 =>
                      br (!t72_46)
                        (some (3 : Int))
                        (bnd (slices_ContainsFunc_string_string_2 N x0.list ()) fun t77_47 =>
                        br (t77_47)
                          (some (3 : Int))
                          (br (decide (x0.number < (0 : Int)))
                            (some (1 : Int))
                            (br (decide (x0.number > (999999999 : Int)))
                              (some (1 : Int))
                              (br (x0.kind == (4 : Int))
                                (bnd (r_script_checkCases x0.cases) fun t94_48 =>
                                some t94_48)
                                (some (0 : Int))))))))))))
            (br (decide ((x0.list.length : Int) > (0 : Int)))
              (br (x0.kind != (3 : Int))
                (br (x0.kind != (3 : Int))
                  (some (3 : Int))
                  (br (decide ((x0.text.length : Int) > (1000 : Int)))
                    (some (2 : Int))
                    (br (decide ((x0.list.length : Int) > (1000 : Int)))
                      (some (2 : Int))
                      (bnd (slices_ContainsFunc_string_string N x0.list ()) fun t61_49 =>
                      br (t61_49)
                        (some (2 : Int))
                        (br (decide ((x0.cases.length : Int) > (50 : Int)))
                          (some (2 : Int))
                          (bnd (script_isText N x0.text) fun t72_50 =>
                          br (!t72_50)
                            (some (3 : Int))
                            (bnd (slices_ContainsFunc_string_string_2 N x0.list ()) fun t77_51 =>
                            br (t77_51)
                              (some (3 : Int))
                              (br (decide (x0.number < (0 : Int)))
                                (some (1 : Int))
                                (br (decide (x0.number > (999999999 : Int)))
                                  (some (1 : Int))
                                  (br (x0.kind == (4 : Int))
                                    (bnd (r_script_checkCases x0.cases) fun t94_52 =>
                                    some t94_52)
                                    (some (0 : Int))))))))))))
                (br (decide ((x0.cases.length : Int) > (0 : Int)))
                  (br (x0.kind != (4 : Int))
                    (some (3 : Int))
                    (br (decide ((x0.text.length : Int) > (1000 : Int)))
                      (some (2 : Int))
                      (br (decide ((x0.list.length : Int) > (1000 : Int)))
                        (some (2 : Int))
                        (bnd (slices_ContainsFunc_string_string N x0.list ()) fun t61_53 =>
                        br (t61_53)
                          (some (2 : Int))
                          (br (decide ((x0.cases.length : Int) > (50 : Int)))
                            (some (2 : Int))
                            (bnd (script_isText N x0.text) fun t72_54 =>
                            br (!t72_54)
                              (some (3 : Int))
                              (bnd (slices_ContainsFunc_string_string_2 N x0.list ()) fun t77_55 =>
                              br (t77_55)
                                (some (3 : Int))
                                (br (decide (x0.number < (0 : Int)))
                                  (some (1 : Int))
                                  (br (decide (x0.number > (999999999 : Int)))
                                    (some (1 : Int))
                                    (br (x0.kind == (4 : Int))
                                      (bnd (r_script_checkCases x0.cases) fun t94_56 =>
                                      some t94_56)
                                      (some (0 : Int))))))))))))
                  (br (decide ((x0.text.length : Int) > (1000 : Int)))
                    (some (2 : Int))
                    (br (decide ((x0.list.length : Int) > (1000 : Int)))
                      (some (2 : Int))
                      (bnd (slices_ContainsFunc_string_string N x0.list ()) fun t61_57 =>
                      br (t61_57)
                        (some (2 : Int))
                        (br (decide ((x0.cases.length : Int) > (50 : Int)))
                          (some (2 : Int))
                          (bnd (script_isText N x0.text) fun t72_58 =>
                          br (!t72_58)
                            (some (3 : Int))
                            (bnd (slices_ContainsFunc_string_string_2 N x0.list ()) fun t77_59 =>
                            br (t77_59)
                              (some (3 : Int))
                              (br (decide (x0.number < (0 : Int)))
                                (some (1 : Int))
                                (br (decide (x0.number > (999999999 : Int)))
                                  (some (1 : Int))
                                  (br (x0.kind == (4 : Int))
                                    (bnd (r_script_checkCases x0.cases) fun t94_60 =>
                                    some t94_60)
                                    (some (0 : Int)))))))))))))
              (br (decide ((x0.cases.length : Int) > (0 : Int)))
                (br (x0.kind != (4 : Int))
                  (some (3 : Int))
                  (br (decide ((x0.text.length : Int) > (1000 : Int)))
                    (some (2 : Int))
                    (br (decide ((x0.list.length : Int) > (1000 : Int)))
                      (some (2 : Int))
                      (bnd (slices_ContainsFunc_string_string N x0.list ()) fun t61_61 =>
                      br (t61_61)
                        (some (2 : Int))
                        (br (decide ((x0.cases.length : Int) > (50 : Int)))
                          (some (2 : Int))
                          (bnd (script_isText N x0.text) fun t72_62 =>
                          br (!t72_62)
                            (some (3 : Int))
                            (bnd (slices_ContainsFunc_string_string_2 N x0.list ()) fun t77_63 =>
                            br (t77_63)
                              (some (3 : Int))
                              (br (decide (x0.number < (0 : Int)))
                                (some (1 : Int))
                                (br (decide (x0.number > (999999999 : Int)))
                                  (some (1 : Int))
                                  (br (x0.kind == (4 : Int))
                                    (bnd (r_script_checkCases x0.cases) fun t94_64 =>
                                    some t94_64)
                                    (some (0 : Int))))))))))))
                (br (decide ((x0.text.length : Int) > (1000 : Int)))
                  (some (2 : Int))
                  (br (decide ((x0.list.length : Int) > (1000 : Int)))
                    (some (2 : Int))
                    (bnd (slices_ContainsFunc_string_string N x0.list ()) fun t61_65 =>
                    br (t61_65)
                      (some (2 : Int))
                      (br (decide ((x0.cases.length : Int) > (50 : Int)))
                        (some (2 : Int))
                        (bnd (script_isText N x0.text) fun t72_66 =>
                        br (!t72_66)
                          (some (3 : Int))
                          (bnd (slices_ContainsFunc_string_string_2 N x0.list ()) fun t77_67 =>
                          br (t77_67)
                            (some (3 : Int))
                            (br (decide (x0.number < (0 : Int)))
                              (some (1 : Int))
                              (br (decide (x0.number > (999999999 : Int)))
                                (some (1 : Int))
                                (br (x0.kind == (4 : Int))
                                  (bnd (r_script_checkCases x0.cases) fun t94_68 =>
                                  some t94_68)
                                  (some (0 : Int))))))))))))))
          (br (decide ((x0.list.length : Int) > (0 : Int)))
            (br (x0.kind != (3 : Int))
              (br (x0.kind != (3 : Int))
                (some (3 : Int))
                (br (decide ((x0.text.length : Int) > (1000 : Int)))
                  (some (2 : Int))
                  (br (decide ((x0.list.length : Int) > (1000 : Int)))
                    (some (2 : Int))
                    (bnd (slices_ContainsFunc_string_string N x0.list ()) fun t61_69 =>
                    br (t61_69)
                      (some (2 : Int))
                      (br (decide ((x0.cases.length : Int) > (50 : Int)))
                        (some (2 : Int))
                        (bnd (script_isText N x0.text) fun t72_70 =>
                        br (!t72_70)
                          (some (3 : Int))
                          (bnd (slices_ContainsFunc_string_string_2 N x0.list ()) fun t77_71 =>
                          br (t77_71)
                            (some (3 : Int))
                            (br (decide (x0.number < (0 : Int)))
                              (some (1 : Int))
                              (br (decide (x0.number > (999999999 : Int)))
                                (some (1 : Int))
                                (br (x0.kind == (4 : Int))
                                  (bnd (r_script_checkCases x0.cases) fun t94_72 =>
                                  some t94_72)
                                  (some (0 : Int))))))))))))
              (br (decide ((x0.cases.length : Int) > (0 : Int)))
                (br (x0.kind != (4 : Int))
                  (some (3 : Int))
                  (br (decide ((x0.text.length : Int) > (1000 : Int)))
                    (some (2 : Int))
                    (br (decide ((x0.list.length : Int) > (1000 : Int)))
                      (some (2 : Int))
                      (bnd (slices_ContainsFunc_string_string N x0.list ()) fun t61_73 =>
                      br (t61_73)
                        (some (2 : Int))
                        (br (decide ((x0.cases.length : Int) > (50 : Int)))
                          (some (2 : Int))
                          (bnd (script_isText N x0.text) fun t72_74 =>
                          br (!t72_74)
                            (some (3 : Int))
                            (bnd (slices_ContainsFunc_string_string_2 N x0.list ()) fun t77_75 =>
                            br (t77_75)
                              (some (3 : Int))
                              (br (decide (x0.number < (0 : Int)))
                                (some (1 : Int))
                                (br (decide (x0.number > (999999999 : Int)))
                                  (some (1 : Int))
                                  (br (x0.kind == (4 : Int))
                                    (bnd (r_script_checkCases x0.cases) fun t94_76 =>
                                    some t94_76)
                                    (some (0 : Int))))))))))))
                (br (decide ((x0.text.length : Int) > (1000 : Int)))
                  (some (2 : Int))
                  (br (decide ((x0.list.length : Int) > (1000 : Int)))
                    (some (2 : Int))
                    (bnd (slices_ContainsFunc_string_string N x0.list ()) fun t61_77 =>
                    br (t61_77)
                      (some (2 : Int))
                      (br (decide ((x0.cases.length : Int) > (50 : Int)))
                        (some (2 : Int))
                        (bnd (script_isText N x0.text) fun t72_78 =>
                        br (!t72_78)
                          (some (3 : Int))
                          (bnd (slices_ContainsFunc_string_string_2 N x0.list ()) fun t77_79 =>
                          br (t77_79)
                            (some (3 : Int))
                            (br (decide (x0.number < (0 : Int)))
                              (some (1 : Int))
                              (br (decide (x0.number > (999999999 : Int)))
                                (some (1 : Int))
                                (br (x0.kind == (4 : Int))
                                  (bnd (r_script_checkCases x0.cases) fun t94_80 =>
                                  some t94_80)
                                  (some (0 : Int)))))))))))))
            (br (decide ((x0.cases.length : Int) > (0 : Int)))
              (br (x0.kind != (4 : Int))
                (some (3 : Int))
                (br (decide ((x0.text.length : Int) > (1000 : Int)))
                  (some (2 : Int))
                  (br (decide ((x0.list.length : Int) > (1000 : Int)))
                    (some (2 : Int))
                    (bnd (slices_ContainsFunc_string_string N x0.list ()) fun t61_81 =>
                    br (t61_81)
                      (some (2 : Int))
                      (br (decide ((x0.cases.length : Int) > (50 : Int)))
                        (some (2 : Int))
                        (bnd (script_isText N x0.text) fun t72_82 =>
                        br (!t72_82)
                          (some (3 : Int))
                          (bnd (slices_ContainsFunc_string_string_2 N x0.list ()) fun t77_83 =>
                          br (t77_83)
                            (some (3 : Int))
                            (br (decide (x0.number < (0 : Int)))
                              (some (1 : Int))
                              (br (decide (x0.number > (999999999 : Int)))
                                (some (1 : Int))
                                (br (x0.kind == (4 : Int))
                                  (bnd (r_script_checkCases x0.cases) fun t94_84 =>
                                  some t94_84)
                                  (some (0 : Int))))))))))))
              (br (decide ((x0.text.length : Int) > (1000 : Int)))
                (some (2 : Int))
                (br (decide ((x0.list.length : Int) > (1000 : Int)))
                  (some (2 : Int))
                  (bnd (slices_ContainsFunc_string_string N x0.list ()) fun t61_85 =>
                  br (t61_85)
                    (some (2 : Int))
                    (br (decide ((x0.cases.length : Int) > (50 : Int)))
                      (some (2 : Int))
                      (bnd (script_isText N x0.text) fun t72_86 =>
                      br (!t72_86)
                        (some (3 : Int))
                        (bnd (slices_ContainsFunc_string_string_2 N x0.list ()) fun t77_87 =>
                        br (t77_87)
                          (some (3 : Int))
                          (br (decide (x0.number < (0 : Int)))
                            (some (1 : Int))
                            (br (decide (x0.number > (999999999 : Int)))
                              (some (1 : Int))
                              (br (x0.kind == (4 : Int))
                                (bnd (r_script_checkCases x0.cases) fun t94_88 =>
                                some t94_88)
                                (some (0 : Int))))))))))))))))
abbrev z41sg (f : SV [.v (.rc .value)] → BV [] → Option (Int)) : AF := { ps := [.v (.rc .value)], bs := [], rs := [.v (.int .i64)], cs := [], R := Int, out := fun z => ((z, ()), ()), f := f }
abbrev z41pk : SV [.v (.int .i64)] → BV [] → Int := fun x _ => x.1
def z41fn (N : Nat) (r_script_checkCases : (List (Str × GValue)) → Option (Int)) : FuncId → Option Tmp → Option AF := fun f q =>
  match f with
    | 46 => match q with | some 61 => some (z2sg fun x _ => slices_ContainsFunc_string_string N x.1 x.2.1) | some 77 => some (z1sg fun x _ => slices_ContainsFunc_string_string_2 N x.1 x.2.1) | _ => none
    | 77 => some (z67sg fun x _ => script_isText N x.1)
    | 79 => some (z42sg fun x _ => r_script_checkCases x.1)
    | _ => none
theorem z41fn_ok (N : Nat) (r_script_checkCases : (List (Str × GValue)) → Option (Int)) (h_script_checkCases : Sound Tryz.prog GW B0G 79 (z42sg fun x y => r_script_checkCases x.1)) : ∀ f q F, z41fn N r_script_checkCases f q = some F → Sound Tryz.prog GW B0G f F := by
  intro f q F h
  unfold z41fn at h
  split at h
  · split at h
    · cases h; exact z2sound N
    · cases h; exact z1sound N
    · cases h
  · cases h; exact z67sound N
  · cases h; exact h_script_checkCases
  · cases h
def z41h : Nat → Hint := fun i =>
  match i with
  | _ => ⟨[], [], [], [], [], []⟩
abbrev z41E (N : Nat) (r_script_checkCases : (List (Str × GValue)) → Option (Int)) : Env := mkE z41h (z41fn N r_script_checkCases) (fun _ => false) (fun _ => false)
noncomputable def z41LP (N : Nat) (r_script_checkCases : (List (Str × GValue)) → Option (Int)) : Nat → Code → St → (Ex → St → Option Int) → Option Int := fun i c =>
  match i with
  | i => fun st k => iter (z41h i) (exec (z41E N r_script_checkCases) N c i) N st k
theorem z41core (N : Nat) (r_script_checkCases : (List (Str × GValue)) → Option (Int)) (x : SV [.v (.rc .value)]) (y : BV []) : runL (z41E N r_script_checkCases) Tryz.f31 (z41sg fun x _ => script_CheckValue N r_script_checkCases x.1) z41pk (z41LP N r_script_checkCases) x y = script_CheckValue N r_script_checkCases x.1 := by kernel_rfl
theorem z41sound (N : Nat) (r_script_checkCases : (List (Str × GValue)) → Option (Int)) (h_script_checkCases : Sound Tryz.prog GW B0G 79 (z42sg fun x y => r_script_checkCases x.1)) : Sound Tryz.prog GW B0G 31 (z41sg fun x _ => script_CheckValue N r_script_checkCases x.1) :=
  runD_sound (mkE_ok z41h (z41fn N r_script_checkCases) _ _ (z41fn_ok N r_script_checkCases h_script_checkCases)) Tryz.func31 rfl Tryz.call31 (z41sg fun x _ => script_CheckValue N r_script_checkCases x.1) z41pk (fun _ _ => rfl) N (fun x y _ h => ((runL_eq (z41E N r_script_checkCases) N Tryz.f31 (z41sg fun x _ => script_CheckValue N r_script_checkCases x.1) z41pk (z41LP N r_script_checkCases) (show LoopsOk (z41LP N r_script_checkCases) (z41E N r_script_checkCases) N (resD (z41E N r_script_checkCases) Tryz.f31 (z41sg fun x _ => script_CheckValue N r_script_checkCases x.1) z41pk) [] from trivial) x y).trans (z41core N r_script_checkCases x y)).trans h)
def z32L0T (N : Nat) (r_script_checkCases : (List (Str × GValue)) → Option (Int)) (x0 : List (Str × GValue)) (c10 : List (Str × GValue)) (c11 : Int) (k0 : Option Int) (self : Int → Option Int) (s12 : Int) : Option Int :=
  br (decide (s12 < c11))
    (bnd (geti c10 s12) fun t15 =>
    bnd (script_checkText N t15.1) fun t19 =>
    br (t19 != (0 : Int))
      (some t19)
      (bnd (slc x0 (0 : Int) s12) fun t25 =>
      bnd (slices_ContainsFunc_api_Case N t25 ((t15.1, GValue.mk t15.2.kind t15.2.text t15.2.number t15.2.list t15.2.cases), ())) fun t27 =>
      br (t27)
        (some (7 : Int))
        (br (t15.2.kind == (4 : Int))
          (some (4 : Int))
          (bnd (script_CheckValue N r_script_checkCases (GValue.mk t15.2.kind t15.2.text t15.2.number t15.2.list t15.2.cases)) fun t34 =>
          br (t34 != (0 : Int))
            (some t34)
            (bnd (geti x0 (0 : Int)) fun t42 =>
            br (t15.2.kind != t42.2.kind)
              (some (6 : Int))
              (self (IntKind.i64.wrap (s12 + (1 : Int)))))))))
    (k0)
def z32L0 (N : Nat) (r_script_checkCases : (List (Str × GValue)) → Option (Int)) (x0 : List (Str × GValue)) (c10 : List (Str × GValue)) (c11 : Int) (k0 : Option Int) : Nat → Int → Option Int
  | 0, _ => none
  | n + 1, s12 => z32L0T N r_script_checkCases x0 c10 c11 k0 (z32L0 N r_script_checkCases x0 c10 c11 k0 n) s12
def script_checkCases_b (N : Nat) (r_script_checkCases : (List (Str × GValue)) → Option (Int)) (x0 : List (Str × GValue)) : Option Int :=
  br ((x0.length : Int) == (0 : Int))
    (some (9 : Int))
    (z32L0 N r_script_checkCases x0 x0 (x0.length : Int) (some (0 : Int)) N (0 : Int))
abbrev z32sg (f : SV [.v (.sl (.pr .str (.rc .value)))] → BV [] → Option (Int)) : AF := { ps := [.v (.sl (.pr .str (.rc .value)))], bs := [], rs := [.v (.int .i64)], cs := [], R := Int, out := fun z => ((z, ()), ()), f := f }
abbrev z32pk : SV [.v (.int .i64)] → BV [] → Int := fun x _ => x.1
def z32fn (N : Nat) (r_script_checkCases : (List (Str × GValue)) → Option (Int)) : FuncId → Option Tmp → Option AF := fun f _ =>
  match f with
    | 31 => some (z41sg fun x _ => script_CheckValue N r_script_checkCases x.1)
    | 130 => some (z48sg fun x _ => script_checkText N x.1)
    | 131 => some (z10sg fun x _ => slices_ContainsFunc_api_Case N x.1 x.2.1)
    | 132 => some (noneAF [.v (.ptr (.pr .str (.rc .value)))])
    | _ => none
theorem z32fn_ok (N : Nat) (r_script_checkCases : (List (Str × GValue)) → Option (Int)) (h_script_checkCases : Sound Tryz.prog GW B0G 79 (z42sg fun x y => r_script_checkCases x.1)) : ∀ f q F, z32fn N r_script_checkCases f q = some F → Sound Tryz.prog GW B0G f F := by
  intro f q F h
  unfold z32fn at h
  split at h
  · cases h; exact z41sound N r_script_checkCases h_script_checkCases
  · cases h; exact z48sound N
  · cases h; exact z10sound N
  · cases h; exact noneAF_sound Tryz.call132 _
  · cases h
def z32h : Nat → Hint := fun i =>
  match i with
  | 0 => ⟨[], [0, 10, 11, 12], [], [], [], []⟩
  | _ => ⟨[], [], [], [], [], []⟩
abbrev z32E (N : Nat) (r_script_checkCases : (List (Str × GValue)) → Option (Int)) : Env := mkE z32h (z32fn N r_script_checkCases) (fun _ => false) (fun _ => false)
abbrev z32L0_fs : List (Nat × Sl) := [(0, .v (.sl (.pr .str (.rc .value)))), (10, .v (.sl (.pr .str (.rc .value)))), (11, .v (.int .i64)), (12, .v (.int .i64))]
abbrev z32L0_bs : List (Nat × Sb) := []
def z32L0_hd (x0 : List (Str × GValue)) (c10 : List (Str × GValue)) (c11 : Int) (s12 : Int) : St := ⟨48, [(0, .v (.sl (.pr .str (.rc .value))) x0), (10, .v (.sl (.pr .str (.rc .value))) c10), (11, .v (.int .i64) c11), (12, .v (.int .i64) s12)], []⟩
def z32L0_tl0 (_x0 : List (Str × GValue)) (_c10 : List (Str × GValue)) (_c11 : Int) : St := ⟨48, [], []⟩
def z32L0_G (N : Nat) (r_script_checkCases : (List (Str × GValue)) → Option (Int)) (x0 : List (Str × GValue)) (c10 : List (Str × GValue)) (c11 : Int) (s12 : Int) (k : Ex → St → Option Int) : Option Int :=
  z32L0 N r_script_checkCases x0 c10 c11 (k (.exit 0) (z32L0_tl0 x0 c10 c11)) N s12
abbrev z32L0_F (N : Nat) (r_script_checkCases : (List (Str × GValue)) → Option (Int)) : FV z32L0_fs → HV z32L0_bs → (Ex → St → Option Int) → Option Int := fun x _ k => z32L0_G N r_script_checkCases x.1 x.2.1 x.2.2.1 x.2.2.2.1 k
noncomputable def z32LP (N : Nat) (r_script_checkCases : (List (Str × GValue)) → Option (Int)) : Nat → Code → St → (Ex → St → Option Int) → Option Int := fun i c =>
  match i with
  | 0 => (LPc 48 z32L0_fs z32L0_bs (z32L0_F N r_script_checkCases) (fun st k => iter (z32h 0) (exec (z32E N r_script_checkCases) N c 0) N st k))
  | i => fun st k => iter (z32h i) (exec (z32E N r_script_checkCases) N c i) N st k
theorem z32L0_step (N : Nat) (r_script_checkCases : (List (Str × GValue)) → Option (Int)) (x0 : List (Str × GValue)) (c10 : List (Str × GValue)) (c11 : Int) (KX : Nat → St → Option Int) (I : St → Option Int) (s12 : Int) :
    execL (z32LP N r_script_checkCases) (z32E N r_script_checkCases) (cAt (bodyOf Tryz.f79) [true, true, false, true, false, false]) 0 (z32L0_hd x0 c10 c11 s12) (roundK (z32h 0) I KX (resD (z32E N r_script_checkCases) Tryz.f79 (z32sg fun x _ => script_checkCases_b N r_script_checkCases x.1) z32pk)) = z32L0T N r_script_checkCases x0 c10 c11 (KX 0 (z32L0_tl0 x0 c10 c11)) (fun s12 => I (z32L0_hd x0 c10 c11 s12)) s12 := by kernel_rfl
theorem z32L0_ok (N : Nat) (r_script_checkCases : (List (Str × GValue)) → Option (Int)) : ∀ x y k, (∀ st, k .ret st = (resD (z32E N r_script_checkCases) Tryz.f79 (z32sg fun x _ => script_checkCases_b N r_script_checkCases x.1) z32pk) st) → iter (z32h 0) (exec (z32E N r_script_checkCases) N (cAt (bodyOf Tryz.f79) [true, true, false, true, false, false]) 0) N ⟨48, unF z32L0_fs x, unH z32L0_bs y⟩ k = z32L0_F N r_script_checkCases x y k := fun x _ k hk =>
  iter_link (S := (Int) × Unit) (z32h 0) _ (execL (z32LP N r_script_checkCases) (z32E N r_script_checkCases) (cAt (bodyOf Tryz.f79) [true, true, false, true, false, false]) 0) (resD (z32E N r_script_checkCases) Tryz.f79 (z32sg fun x _ => script_checkCases_b N r_script_checkCases x.1) z32pk) (fun st k hk => execL_eq _ _ N _ (cAt (bodyOf Tryz.f79) [true, true, false, true, false, false]) 0 (show LoopsOk (z32LP N r_script_checkCases) (z32E N r_script_checkCases) N (resD (z32E N r_script_checkCases) Tryz.f79 (z32sg fun x _ => script_checkCases_b N r_script_checkCases x.1) z32pk) [] from trivial) st k hk) (fun s => z32L0_hd x.1 x.2.1 x.2.2.1 s.1) k hk
    (fun self s => z32L0T N r_script_checkCases x.1 x.2.1 x.2.2.1 (k (.exit 0) (z32L0_tl0 x.1 x.2.1 x.2.2.1)) (fun s12 => self (s12, ())) s.1) (fun n s => z32L0 N r_script_checkCases x.1 x.2.1 x.2.2.1 (k (.exit 0) (z32L0_tl0 x.1 x.2.1 x.2.2.1)) n s.1) (fun _ => rfl) (fun _ _ => rfl)
    (fun I s => z32L0_step N r_script_checkCases x.1 x.2.1 x.2.2.1 (fun j => k (.exit j)) I s.1) N (x.2.2.2.1, ())
theorem z32lp0 (N : Nat) (r_script_checkCases : (List (Str × GValue)) → Option (Int)) : ∀ st k, (∀ st, k .ret st = (resD (z32E N r_script_checkCases) Tryz.f79 (z32sg fun x _ => script_checkCases_b N r_script_checkCases x.1) z32pk) st) → z32LP N r_script_checkCases 0 (cAt (bodyOf Tryz.f79) [true, true, false, true, false, false]) st k = iter (Env.hint (z32E N r_script_checkCases) 0) (exec (z32E N r_script_checkCases) N (cAt (bodyOf Tryz.f79) [true, true, false, true, false, false]) 0) N st k := fun st k hk => LPc_eq 48 z32L0_fs z32L0_bs _ _ (resD (z32E N r_script_checkCases) Tryz.f79 (z32sg fun x _ => script_checkCases_b N r_script_checkCases x.1) z32pk) (z32L0_ok N r_script_checkCases) _ st k hk (rfl)
theorem z32core (N : Nat) (r_script_checkCases : (List (Str × GValue)) → Option (Int)) (x : SV [.v (.sl (.pr .str (.rc .value)))]) (y : BV []) : runL (z32E N r_script_checkCases) Tryz.f79 (z32sg fun x _ => script_checkCases_b N r_script_checkCases x.1) z32pk (z32LP N r_script_checkCases) x y = script_checkCases_b N r_script_checkCases x.1 := by kernel_rfl
theorem z32sound (N : Nat) (r_script_checkCases : (List (Str × GValue)) → Option (Int)) (h_script_checkCases : Sound Tryz.prog GW B0G 79 (z42sg fun x y => r_script_checkCases x.1)) : Sound Tryz.prog GW B0G 79 (z32sg fun x _ => script_checkCases_b N r_script_checkCases x.1) :=
  runD_sound (mkE_ok z32h (z32fn N r_script_checkCases) _ _ (z32fn_ok N r_script_checkCases h_script_checkCases)) Tryz.func79 rfl Tryz.call79 (z32sg fun x _ => script_checkCases_b N r_script_checkCases x.1) z32pk (fun _ _ => rfl) N (fun x y _ h => ((runL_eq (z32E N r_script_checkCases) N Tryz.f79 (z32sg fun x _ => script_checkCases_b N r_script_checkCases x.1) z32pk (z32LP N r_script_checkCases) (show LoopsOk (z32LP N r_script_checkCases) (z32E N r_script_checkCases) N (resD (z32E N r_script_checkCases) Tryz.f79 (z32sg fun x _ => script_checkCases_b N r_script_checkCases x.1) z32pk) [(0, (cAt (bodyOf Tryz.f79) [true, true, false, true, false, false]))] from ⟨z32lp0 N r_script_checkCases, trivial⟩) x y).trans (z32core N r_script_checkCases x y)).trans h)
def script_checkCases (N : Nat) : Nat → (List (Str × GValue)) → Option (Int)
  | 0 => fun _ => none
  | d + 1 => script_checkCases_b N (script_checkCases N d)
theorem z42sound (N : Nat) : ∀ d, Sound Tryz.prog GW B0G 79 (z42sg fun x y => script_checkCases N d x.1)
  | 0 => Sound.never Tryz.call79 (fun _ _ => rfl)
  | d + 1 => z32sound N (script_checkCases N d) (z42sound N d)
def slices_Clone_api_Case (_N : Nat) (x0 : List (Str × GValue)) : Option (List (Str × GValue)) :=
  br ((x0).isEmpty)
    (both
      (some ([] : List (Str × GValue)))
      (br (decide ((([] : List (Str × GValue)).length + x0.length) * (24 * Ty.sz (.pr .str (.rc .value))) ≤ 140737488355328))
        (some (([] : List (Str × GValue)) ++ x0))
        none))
    (br (decide ((([] : List (Str × GValue)).length + x0.length) * (24 * Ty.sz (.pr .str (.rc .value))) ≤ 140737488355328))
      (some (([] : List (Str × GValue)) ++ x0))
      none)
abbrev z23sg (f : SV [.v (.sl (.pr .str (.rc .value)))] → BV [] → Option (List (Str × GValue))) : AF := { ps := [.v (.sl (.pr .str (.rc .value)))], bs := [], rs := [.row 0], cs := [.row 78 (.pr .str (.rc .value)) true], R := List (Str × GValue), out := fun z => (((), ()), (z, ())), f := f }
abbrev z23pk : SV [.row 0] → BV [.row 78 (.pr .str (.rc .value)) true] → (List (Str × GValue)) := fun _ y => y.1
def z23fn (_N : Nat) : FuncId → Option Tmp → Option AF := fun f _ =>
  match f with
    | _ => none
theorem z23fn_ok (N : Nat) : ∀ f q F, z23fn N f q = some F → Sound Tryz.prog GW B0G f F := by
  intro f q F h
  unfold z23fn at h
  split at h
  · cases h
def z23h : Nat → Hint := fun i =>
  match i with
  | _ => ⟨[], [], [], [], [], []⟩
abbrev z23E (N : Nat) : Env := mkE z23h (z23fn N) (fun i => match i with | 2 => true | 5 => true | _ => false) (fun _ => false)
noncomputable def z23LP (N : Nat) : Nat → Code → St → (Ex → St → Option (List (Str × GValue))) → Option (List (Str × GValue)) := fun i c =>
  match i with
  | i => fun st k => iter (z23h i) (exec (z23E N) N c i) N st k
theorem z23core (N : Nat) (x : SV [.v (.sl (.pr .str (.rc .value)))]) (y : BV []) : runL (z23E N) Tryz.f133 (z23sg fun x _ => slices_Clone_api_Case N x.1) z23pk (z23LP N) x y = slices_Clone_api_Case N x.1 := by kernel_rfl
theorem z23sound (N : Nat) : Sound Tryz.prog GW B0G 133 (z23sg fun x _ => slices_Clone_api_Case N x.1) :=
  runD_sound (mkE_ok z23h (z23fn N) _ _ (z23fn_ok N)) Tryz.func133 rfl Tryz.call133 (z23sg fun x _ => slices_Clone_api_Case N x.1) z23pk (fun _ _ => rfl) N (fun x y _ h => ((runL_eq (z23E N) N Tryz.f133 (z23sg fun x _ => slices_Clone_api_Case N x.1) z23pk (z23LP N) (show LoopsOk (z23LP N) (z23E N) N (resD (z23E N) Tryz.f133 (z23sg fun x _ => slices_Clone_api_Case N x.1) z23pk) [] from trivial) x y).trans (z23core N x y)).trans h)
abbrev z86sg (f : SV [.v (.rc .value)] → BV [] → Option (GValue)) : AF := { ps := [.v (.rc .value)], bs := [], rs := [.v (.rc .value)], cs := [], R := GValue, out := fun z => ((z, ()), ()), f := f }
def z72L0T (_N : Nat) (r_script_Own : GValue → Option (GValue)) (c14 : Int) (k0 : (List (Str × GValue)) → Option GValue) (self : Int → (List (Str × GValue)) → Option GValue) (s15 : Int) (w100900 : List (Str × GValue)) : Option GValue :=
  br (decide (s15 < c14))
    (br (decide (0 ≤ s15 ∧ s15 < (w100900.length : Int)))
      (bnd (geti w100900 s15) fun t26 =>
      bnd (r_script_Own t26.2) fun t27 =>
      br (decide (0 ≤ s15 ∧ s15 < (w100900.length : Int)))
        (bnd (geti w100900 s15) fun u =>
        self (IntKind.i64.wrap (s15 + (1 : Int))) (seti w100900 s15 (u.1, t27)))
        none)
      none)
    (k0 w100900)
def z72L0 (N : Nat) (r_script_Own : GValue → Option (GValue)) (c14 : Int) (k0 : (List (Str × GValue)) → Option GValue) : Nat → Int → (List (Str × GValue)) → Option GValue
  | 0, _, _ => none
  | n + 1, s15, w100900 => z72L0T N r_script_Own c14 k0 (z72L0 N r_script_Own c14 k0 n) s15 w100900
def script_Own_b (N : Nat) (r_script_Own : GValue → Option (GValue)) (x0 : GValue) : Option GValue :=
  bnd (slices_Clone_string_string N x0.list) fun t6 =>
  bnd (slices_Clone_api_Case N x0.cases) fun t9 =>
  z72L0 N r_script_Own (t9.length : Int) (fun o0_w100900 =>
      some (GValue.mk x0.kind x0.text x0.number t6 o0_w100900)) N (0 : Int) t9
abbrev z72sg (f : SV [.v (.rc .value)] → BV [] → Option (GValue)) : AF := { ps := [.v (.rc .value)], bs := [], rs := [.v (.rc .value)], cs := [], R := GValue, out := fun z => ((z, ()), ()), f := f }
abbrev z72pk : SV [.v (.rc .value)] → BV [] → GValue := fun x _ => x.1
def z72fn (N : Nat) (r_script_Own : GValue → Option (GValue)) : FuncId → Option Tmp → Option AF := fun f _ =>
  match f with
    | 55 => some (z13sg fun x _ => slices_Clone_string_string N x.1)
    | 80 => some (z86sg fun x _ => r_script_Own x.1)
    | 133 => some (z23sg fun x _ => slices_Clone_api_Case N x.1)
    | _ => none
theorem z72fn_ok (N : Nat) (r_script_Own : GValue → Option (GValue)) (h_script_Own : Sound Tryz.prog GW B0G 80 (z86sg fun x y => r_script_Own x.1)) : ∀ f q F, z72fn N r_script_Own f q = some F → Sound Tryz.prog GW B0G f F := by
  intro f q F h
  unfold z72fn at h
  split at h
  · cases h; exact z13sound N
  · cases h; exact h_script_Own
  · cases h; exact z23sound N
  · cases h
def z72h : Nat → Hint := fun i =>
  match i with
  | 0 => ⟨[], [1, 2, 14, 15], [1001, 1002, 100600, 100900], [1, 2], [1001, 1002, 100600, 100900], []⟩
  | 100001 => ⟨[1001], [], [], [], [], []⟩
  | 100005 => ⟨[1001, 100600, 100900], [], [], [], [], []⟩
  | _ => ⟨[], [], [], [], [], []⟩
abbrev z72E (N : Nat) (r_script_Own : GValue → Option (GValue)) : Env := mkE z72h (z72fn N r_script_Own) (fun _ => false) (fun _ => false)
abbrev z72L0_fs : List (Nat × Sl) := [(1, .box 1001 0), (2, .box 1002 0), (14, .v (.int .i64)), (15, .v (.int .i64))]
abbrev z72L0_bs : List (Nat × Sb) := [(1001, .cells [.v (.int .i64), .v .str, .v (.int .i64), .row 100600, .row 100900]), (1002, .cells [.v (.int .i64), .v .str, .v (.int .i64), .nilS, .nilS]), (100600, .row 9 .str true), (100900, .row 78 (.pr .str (.rc .value)) true)]
def z72L0_hd (c14 : Int) (c1001_0 : Int) (c1001_1 : Str) (c1001_2 : Int) (c1002_0 : Int) (c1002_1 : Str) (c1002_2 : Int) (t6 : List Str) (s15 : Int) (w100900 : List (Str × GValue)) : St := ⟨32, [(1, .box 1001 0), (2, .box 1002 0), (14, .v (.int .i64) c14), (15, .v (.int .i64) s15)], [(1001, .cells [.v (.int .i64) c1001_0, .v .str c1001_1, .v (.int .i64) c1001_2, .row 100600, .row 100900]), (1002, .cells [.v (.int .i64) c1002_0, .v .str c1002_1, .v (.int .i64) c1002_2, .nilS, .nilS]), (100600, .row 9 .str true t6), (100900, .row 78 (.pr .str (.rc .value)) true w100900)]⟩
def z72L0_tl0 (_c14 : Int) (c1001_0 : Int) (c1001_1 : Str) (c1001_2 : Int) (c1002_0 : Int) (c1002_1 : Str) (c1002_2 : Int) (t6 : List Str) (o0_w100900 : List (Str × GValue)) : St := ⟨32, [(1, .box 1001 0), (2, .box 1002 0)], [(1001, .cells [.v (.int .i64) c1001_0, .v .str c1001_1, .v (.int .i64) c1001_2, .row 100600, .row 100900]), (1002, .cells [.v (.int .i64) c1002_0, .v .str c1002_1, .v (.int .i64) c1002_2, .nilS, .nilS]), (100600, .row 9 .str true t6), (100900, .row 78 (.pr .str (.rc .value)) true o0_w100900)]⟩
def z72L0_G (N : Nat) (r_script_Own : GValue → Option (GValue)) (c14 : Int) (c1001_0 : Int) (c1001_1 : Str) (c1001_2 : Int) (c1002_0 : Int) (c1002_1 : Str) (c1002_2 : Int) (t6 : List Str) (s15 : Int) (w100900 : List (Str × GValue)) (k : Ex → St → Option GValue) : Option GValue :=
  z72L0 N r_script_Own c14 (fun o0_w100900 => k (.exit 0) (z72L0_tl0 c14 c1001_0 c1001_1 c1001_2 c1002_0 c1002_1 c1002_2 t6 o0_w100900)) N s15 w100900
abbrev z72L0_F (N : Nat) (r_script_Own : GValue → Option (GValue)) : FV z72L0_fs → HV z72L0_bs → (Ex → St → Option GValue) → Option GValue := fun x y k => z72L0_G N r_script_Own x.2.2.1 y.1.1 y.1.2.1 y.1.2.2.1 y.2.1.1 y.2.1.2.1 y.2.1.2.2.1 y.2.2.1 x.2.2.2.1 y.2.2.2.1 k
noncomputable def z72LP (N : Nat) (r_script_Own : GValue → Option (GValue)) : Nat → Code → St → (Ex → St → Option GValue) → Option GValue := fun i c =>
  match i with
  | 0 => (LPc 32 z72L0_fs z72L0_bs (z72L0_F N r_script_Own) (fun st k => iter (z72h 0) (exec (z72E N r_script_Own) N c 0) N st k))
  | i => fun st k => iter (z72h i) (exec (z72E N r_script_Own) N c i) N st k
theorem z72L0_step (N : Nat) (r_script_Own : GValue → Option (GValue)) (c14 : Int) (c1001_0 : Int) (c1001_1 : Str) (c1001_2 : Int) (c1002_0 : Int) (c1002_1 : Str) (c1002_2 : Int) (t6 : List Str) (KX : Nat → St → Option GValue) (I : St → Option GValue) (s15 : Int) (w100900 : List (Str × GValue)) :
    execL (z72LP N r_script_Own) (z72E N r_script_Own) (cAt (bodyOf Tryz.f80) [true, true, false, true, false, false]) 0 (z72L0_hd c14 c1001_0 c1001_1 c1001_2 c1002_0 c1002_1 c1002_2 t6 s15 w100900) (roundK (z72h 0) I KX (resD (z72E N r_script_Own) Tryz.f80 (z72sg fun x _ => script_Own_b N r_script_Own x.1) z72pk)) = z72L0T N r_script_Own c14 (fun o0_w100900 => KX 0 (z72L0_tl0 c14 c1001_0 c1001_1 c1001_2 c1002_0 c1002_1 c1002_2 t6 o0_w100900)) (fun s15 w100900 => I (z72L0_hd c14 c1001_0 c1001_1 c1001_2 c1002_0 c1002_1 c1002_2 t6 s15 w100900)) s15 w100900 := by kernel_rfl
theorem z72L0_ok (N : Nat) (r_script_Own : GValue → Option (GValue)) : ∀ x y k, (∀ st, k .ret st = (resD (z72E N r_script_Own) Tryz.f80 (z72sg fun x _ => script_Own_b N r_script_Own x.1) z72pk) st) → iter (z72h 0) (exec (z72E N r_script_Own) N (cAt (bodyOf Tryz.f80) [true, true, false, true, false, false]) 0) N ⟨32, unF z72L0_fs x, unH z72L0_bs y⟩ k = z72L0_F N r_script_Own x y k := fun x y k hk =>
  iter_link (S := (Int) × (List (Str × GValue)) × Unit) (z72h 0) _ (execL (z72LP N r_script_Own) (z72E N r_script_Own) (cAt (bodyOf Tryz.f80) [true, true, false, true, false, false]) 0) (resD (z72E N r_script_Own) Tryz.f80 (z72sg fun x _ => script_Own_b N r_script_Own x.1) z72pk) (fun st k hk => execL_eq _ _ N _ (cAt (bodyOf Tryz.f80) [true, true, false, true, false, false]) 0 (show LoopsOk (z72LP N r_script_Own) (z72E N r_script_Own) N (resD (z72E N r_script_Own) Tryz.f80 (z72sg fun x _ => script_Own_b N r_script_Own x.1) z72pk) [] from trivial) st k hk) (fun s => z72L0_hd x.2.2.1 y.1.1 y.1.2.1 y.1.2.2.1 y.2.1.1 y.2.1.2.1 y.2.1.2.2.1 y.2.2.1 s.1 s.2.1) k hk
    (fun self s => z72L0T N r_script_Own x.2.2.1 (fun o0_w100900 => k (.exit 0) (z72L0_tl0 x.2.2.1 y.1.1 y.1.2.1 y.1.2.2.1 y.2.1.1 y.2.1.2.1 y.2.1.2.2.1 y.2.2.1 o0_w100900)) (fun s15 w100900 => self (s15, w100900, ())) s.1 s.2.1) (fun n s => z72L0 N r_script_Own x.2.2.1 (fun o0_w100900 => k (.exit 0) (z72L0_tl0 x.2.2.1 y.1.1 y.1.2.1 y.1.2.2.1 y.2.1.1 y.2.1.2.1 y.2.1.2.2.1 y.2.2.1 o0_w100900)) n s.1 s.2.1) (fun _ => rfl) (fun _ _ => rfl)
    (fun I s => z72L0_step N r_script_Own x.2.2.1 y.1.1 y.1.2.1 y.1.2.2.1 y.2.1.1 y.2.1.2.1 y.2.1.2.2.1 y.2.2.1 (fun j => k (.exit j)) I s.1 s.2.1) N (x.2.2.2.1, y.2.2.2.1, ())
theorem z72lp0 (N : Nat) (r_script_Own : GValue → Option (GValue)) : ∀ st k, (∀ st, k .ret st = (resD (z72E N r_script_Own) Tryz.f80 (z72sg fun x _ => script_Own_b N r_script_Own x.1) z72pk) st) → z72LP N r_script_Own 0 (cAt (bodyOf Tryz.f80) [true, true, false, true, false, false]) st k = iter (Env.hint (z72E N r_script_Own) 0) (exec (z72E N r_script_Own) N (cAt (bodyOf Tryz.f80) [true, true, false, true, false, false]) 0) N st k := fun st k hk => LPc_eq 32 z72L0_fs z72L0_bs _ _ (resD (z72E N r_script_Own) Tryz.f80 (z72sg fun x _ => script_Own_b N r_script_Own x.1) z72pk) (z72L0_ok N r_script_Own) _ st k hk (rfl)
theorem z72core (N : Nat) (r_script_Own : GValue → Option (GValue)) (x : SV [.v (.rc .value)]) (y : BV []) : runL (z72E N r_script_Own) Tryz.f80 (z72sg fun x _ => script_Own_b N r_script_Own x.1) z72pk (z72LP N r_script_Own) x y = script_Own_b N r_script_Own x.1 := by kernel_rfl
theorem z72sound (N : Nat) (r_script_Own : GValue → Option (GValue)) (h_script_Own : Sound Tryz.prog GW B0G 80 (z86sg fun x y => r_script_Own x.1)) : Sound Tryz.prog GW B0G 80 (z72sg fun x _ => script_Own_b N r_script_Own x.1) :=
  runD_sound (mkE_ok z72h (z72fn N r_script_Own) _ _ (z72fn_ok N r_script_Own h_script_Own)) Tryz.func80 rfl Tryz.call80 (z72sg fun x _ => script_Own_b N r_script_Own x.1) z72pk (fun _ _ => rfl) N (fun x y _ h => ((runL_eq (z72E N r_script_Own) N Tryz.f80 (z72sg fun x _ => script_Own_b N r_script_Own x.1) z72pk (z72LP N r_script_Own) (show LoopsOk (z72LP N r_script_Own) (z72E N r_script_Own) N (resD (z72E N r_script_Own) Tryz.f80 (z72sg fun x _ => script_Own_b N r_script_Own x.1) z72pk) [(0, (cAt (bodyOf Tryz.f80) [true, true, false, true, false, false]))] from ⟨z72lp0 N r_script_Own, trivial⟩) x y).trans (z72core N r_script_Own x y)).trans h)
def script_Own (N : Nat) : Nat → GValue → Option (GValue)
  | 0 => fun _ => none
  | d + 1 => script_Own_b N (script_Own N d)
theorem z86sound (N : Nat) : ∀ d, Sound Tryz.prog GW B0G 80 (z86sg fun x y => script_Own N d x.1)
  | 0 => Sound.never Tryz.call80 (fun _ _ => rfl)
  | d + 1 => z72sound N (script_Own N d) (z86sound N d)
def config_conditionOf_1 (_N : Nat) (x0 : Str × List (Str × Str) × List (Str × Str)) (x1 : Str) : Option Bool :=
  some (x0.1 == x1)
abbrev z26sg (f : SV [.v (.pr .str (.pr (.sl (.pr .str .str)) (.sl (.pr .str .str)))), .v (.ptr .str)] → BV [] → Option (Bool)) : AF := { ps := [.v (.pr .str (.pr (.sl (.pr .str .str)) (.sl (.pr .str .str)))), .v (.ptr .str)], bs := [], rs := [.v .bool], cs := [], R := Bool, out := fun z => ((z, ()), ()), f := f }
abbrev z26pk : SV [.v .bool] → BV [] → Bool := fun x _ => x.1
def z26fn (_N : Nat) : FuncId → Option Tmp → Option AF := fun f _ =>
  match f with
    | _ => none
theorem z26fn_ok (N : Nat) : ∀ f q F, z26fn N f q = some F → Sound Tryz.prog GW B0G f F := by
  intro f q F h
  unfold z26fn at h
  split at h
  · cases h
def z26h : Nat → Hint := fun i =>
  match i with
  | _ => ⟨[], [], [], [], [], []⟩
abbrev z26E (N : Nat) : Env := mkE z26h (z26fn N) (fun _ => false) (fun _ => false)
noncomputable def z26LP (N : Nat) : Nat → Code → St → (Ex → St → Option Bool) → Option Bool := fun i c =>
  match i with
  | i => fun st k => iter (z26h i) (exec (z26E N) N c i) N st k
theorem z26core (N : Nat) (x : SV [.v (.pr .str (.pr (.sl (.pr .str .str)) (.sl (.pr .str .str)))), .v (.ptr .str)]) (y : BV []) : runL (z26E N) Tryz.f121 (z26sg fun x _ => config_conditionOf_1 N x.1 x.2.1) z26pk (z26LP N) x y = config_conditionOf_1 N x.1 x.2.1 := by kernel_rfl
theorem z26sound (N : Nat) : Sound Tryz.prog GW B0G 121 (z26sg fun x _ => config_conditionOf_1 N x.1 x.2.1) :=
  runD_sound (mkE_ok z26h (z26fn N) _ _ (z26fn_ok N)) Tryz.func121 rfl Tryz.call121 (z26sg fun x _ => config_conditionOf_1 N x.1 x.2.1) z26pk (fun _ _ => rfl) N (fun x y _ h => ((runL_eq (z26E N) N Tryz.f121 (z26sg fun x _ => config_conditionOf_1 N x.1 x.2.1) z26pk (z26LP N) (show LoopsOk (z26LP N) (z26E N) N (resD (z26E N) Tryz.f121 (z26sg fun x _ => config_conditionOf_1 N x.1 x.2.1) z26pk) [] from trivial) x y).trans (z26core N x y)).trans h)
end
end Go.Proofs.YtbekhaioddmliaaGreatDoor

