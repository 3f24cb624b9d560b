/- What functions of the program compute, as plain functions (printed). -/
import Derived.Test.YtbekhaioddmliaaDoorQCfF5
namespace Go.Proofs.YtbekhaioddmliaaDoor
open Go Go.RowKit
set_option maxRecDepth 100000
set_option linter.unusedVariables false
noncomputable section
def slices_Clone_string_string (_N : Nat) (x0 : List Str) : Option (List Str) :=
  br ((x0).isEmpty)
    (both
      (some ([] : List Str))
      (br (decide ((([] : List Str).length + x0.length) * (24 * Ty.sz .str) ≤ 140737488355328))
        (some (([] : List Str) ++ x0))
        none))
    (br (decide ((([] : List Str).length + x0.length) * (24 * Ty.sz .str) ≤ 140737488355328))
      (some (([] : List Str) ++ x0))
      none)
abbrev slices_Clone_string_string_sg (f : SV [.v (.sl .str)] → BV [] → Option (List Str)) : AF := { ps := [.v (.sl .str)], bs := [], rs := [.row 0], cs := [.row 9 .str true], R := List Str, out := fun z => (((), ()), (z, ())), f := f }
abbrev slices_Clone_string_string_pk : SV [.row 0] → BV [.row 9 .str true] → (List Str) := fun _ y => y.1
def slices_Clone_string_string_fn (_N : Nat) : FuncId → Option Tmp → Option AF := fun f _ =>
  match f with
    | _ => none
theorem slices_Clone_string_string_fn_ok (N : Nat) : ∀ f q F, slices_Clone_string_string_fn N f q = some F → Sound Tryd.prog GW B0G f F := by
  intro f q F h
  unfold slices_Clone_string_string_fn at h
  split at h
  · cases h
def slices_Clone_string_string_h : Nat → Hint := fun i =>
  match i with
  | _ => ⟨[], [], [], [], []⟩
abbrev slices_Clone_string_string_E (N : Nat) : Env := mkE slices_Clone_string_string_h (slices_Clone_string_string_fn N) (fun i => match i with | 2 => true | 5 => true | _ => false) (fun _ => false)
noncomputable def slices_Clone_string_string_LP (N : Nat) : Nat → Code → St → (Ex → St → Option (List Str)) → Option (List Str) := fun i c =>
  match i with
  | i => fun st k => iter (slices_Clone_string_string_h i) (exec (slices_Clone_string_string_E N) N c i) N st k
theorem slices_Clone_string_string_core (N : Nat) (x : SV [.v (.sl .str)]) (y : BV []) : runL (slices_Clone_string_string_E N) Tryd.f33 (slices_Clone_string_string_sg fun x _ => slices_Clone_string_string N x.1) slices_Clone_string_string_pk (slices_Clone_string_string_LP N) x y = slices_Clone_string_string N x.1 := by kernel_rfl
theorem slices_Clone_string_string_sound (N : Nat) : Sound Tryd.prog GW B0G 33 (slices_Clone_string_string_sg fun x _ => slices_Clone_string_string N x.1) :=
  runD_sound (mkE_ok slices_Clone_string_string_h (slices_Clone_string_string_fn N) _ _ (slices_Clone_string_string_fn_ok N)) Tryd.func33 rfl Tryd.call33 (slices_Clone_string_string_sg fun x _ => slices_Clone_string_string N x.1) slices_Clone_string_string_pk (fun _ _ => rfl) N (fun x y _ h => ((runL_eq (slices_Clone_string_string_E N) N Tryd.f33 (slices_Clone_string_string_sg fun x _ => slices_Clone_string_string N x.1) slices_Clone_string_string_pk (slices_Clone_string_string_LP N) (show LoopsOk (slices_Clone_string_string_LP N) (slices_Clone_string_string_E N) N (resD (slices_Clone_string_string_E N) Tryd.f33 (slices_Clone_string_string_sg fun x _ => slices_Clone_string_string N x.1) slices_Clone_string_string_pk) [] from trivial) x y).trans (slices_Clone_string_string_core N x y)).trans h)
def law3_ConfigToolsFewerKinds_L0T (_N : Nat) (c9 : Str) (c13 : Str) (c100 : List (Str × List (Str × Str))) (c101 : Int) (k0 : Option Bool) (self : Int → Option Bool) (s102 : Int) : Option Bool :=
  br (decide (s102 < c101))
    (bnd (geti c100 s102) fun t104 =>
    br (t104.1 == c13)
      (some true)
      (br (t104.1 == c9)
        (some false)
        (self (IntKind.i64.wrap (s102 + (1 : Int))))))
    (k0)
def law3_ConfigToolsFewerKinds_L0 (N : Nat) (c9 : Str) (c13 : Str) (c100 : List (Str × List (Str × Str))) (c101 : Int) (k0 : Option Bool) : Nat → Int → Option Bool
  | 0, _ => none
  | n + 1, s102 => law3_ConfigToolsFewerKinds_L0T N c9 c13 c100 c101 k0 (law3_ConfigToolsFewerKinds_L0 N c9 c13 c100 c101 k0 n) s102
def law3_ConfigToolsFewerKinds (N : Nat) (x0 : List (Str × List Str) × List (Str × List (Str × Str) × List (Str × Str)) × List (Str × List (Str × Str)) × List (Str × Str × List (Str × Str) × List (Str × Str)) × List (Str × List (Str × Str) × List Str)) (x1 : List Str) (x2 : Str × List (Str × Str)) (x3 : Int) : Option Bool :=
  bnd (config_Tools N x0.2.2.1 x0.2.2.2.1 x1 x2) fun t24 =>
  br (t24.2.2.1 != (0 : Int))
    (br (t24.2.2.1 == (0 : Int))
      (bnd (law3_awake N) fun t52 =>
      some t52)
      (br (t24.1 == ([] : Str))
        (br ((t24.2.2.2.length : Int) == (0 : Int))
          (bnd (law3_awake N) fun t52_1 =>
          some t52_1)
          (some false))
        (some false)))
    (br (!t24.2.1)
      (br (t24.2.2.1 == (0 : Int))
        (bnd (law3_awake N) fun t52_2 =>
        some t52_2)
        (br (t24.1 == ([] : Str))
          (br ((t24.2.2.2.length : Int) == (0 : Int))
            (bnd (law3_awake N) fun t52_3 =>
            some t52_3)
            (some false))
          (some false)))
      (br ((x1.length : Int) == (0 : Int))
        (br (t24.2.2.1 == (0 : Int))
          (bnd (law3_awake N) fun t52_4 =>
          some t52_4)
          (br (t24.1 == ([] : Str))
            (br ((t24.2.2.2.length : Int) == (0 : Int))
              (bnd (law3_awake N) fun t52_5 =>
              some t52_5)
              (some false))
            (some false)))
        (br ((x1.length : Int) == 0)
          none
          (br ((x1.length : Int) == 0)
            none
            (bnd (slices_Clone_string_string N x1) fun t70 =>
            bnd (slices_Delete_string_string (Int.tmod (IntKind.i64.wrap ((Int.tmod x3 (x1.length : Int)) + (x1.length : Int))) (x1.length : Int)) (IntKind.i64.wrap ((Int.tmod (IntKind.i64.wrap ((Int.tmod x3 (x1.length : Int)) + (x1.length : Int))) (x1.length : Int)) + (1 : Int))) t70) fun t74 =>
            bnd (config_Tools N x0.2.2.1 x0.2.2.2.1 t74 x2) fun t76 =>
            br (t76.2.2.1 != (0 : Int))
              (some false)
              (br (!t76.2.1)
                (some false)
                (br ((t76.2.2.2.length : Int) != (IntKind.i64.wrap ((t24.2.2.2.length : Int) - (1 : Int))))
                  (some false)
                  (bnd (law3_awake N) fun t96 =>
                  br (!t96)
                    (some false)
                    (law3_ConfigToolsFewerKinds_L0 N t24.1 t76.1 x0.2.2.1 (x0.2.2.1.length : Int) (some false) N (0 : Int))))))))))
abbrev law3_ConfigToolsFewerKinds_sg (f : SV [.v (.pr (.sl (.pr .str (.sl .str))) (.pr (.sl (.pr .str (.pr (.sl (.pr .str .str)) (.sl (.pr .str .str))))) (.pr (.sl (.pr .str (.sl (.pr .str .str)))) (.pr (.sl (.pr .str (.pr .str (.pr (.sl (.pr .str .str)) (.sl (.pr .str .str)))))) (.sl (.pr .str (.pr (.sl (.pr .str .str)) (.sl .str)))))))), .v (.sl .str), .v (.pr .str (.sl (.pr .str .str))), .v (.int .i64)] → BV [] → Option (Bool)) : AF := { ps := [.v (.pr (.sl (.pr .str (.sl .str))) (.pr (.sl (.pr .str (.pr (.sl (.pr .str .str)) (.sl (.pr .str .str))))) (.pr (.sl (.pr .str (.sl (.pr .str .str)))) (.pr (.sl (.pr .str (.pr .str (.pr (.sl (.pr .str .str)) (.sl (.pr .str .str)))))) (.sl (.pr .str (.pr (.sl (.pr .str .str)) (.sl .str)))))))), .v (.sl .str), .v (.pr .str (.sl (.pr .str .str))), .v (.int .i64)], bs := [], rs := [.v .bool], cs := [], R := Bool, out := fun z => ((z, ()), ()), f := f }
abbrev law3_ConfigToolsFewerKinds_pk : SV [.v .bool] → BV [] → Bool := fun x _ => x.1
def law3_ConfigToolsFewerKinds_fn (N : Nat) : FuncId → Option Tmp → Option AF := fun f _ =>
  match f with
    | 20 => some (law3_awake_sg fun _ _ => law3_awake N)
    | 27 => some (config_Tools_sg fun x _ => config_Tools N x.1 x.2.1 x.2.2.1 x.2.2.2.1)
    | 32 => some (slices_Delete_string_string_sg fun x y => slices_Delete_string_string x.2.1 x.2.2.1 y.1)
    | 33 => some (slices_Clone_string_string_sg fun x _ => slices_Clone_string_string N x.1)
    | _ => none
theorem law3_ConfigToolsFewerKinds_fn_ok (N : Nat) : ∀ f q F, law3_ConfigToolsFewerKinds_fn N f q = some F → Sound Tryd.prog GW B0G f F := by
  intro f q F h
  unfold law3_ConfigToolsFewerKinds_fn at h
  split at h
  · cases h; exact law3_awake_sound N
  · cases h; exact config_Tools_sound N
  · cases h; exact slices_Delete_string_string_sound
  · cases h; exact slices_Clone_string_string_sound N
  · cases h
def law3_ConfigToolsFewerKinds_h : Nat → Hint := fun i =>
  match i with
  | 0 => ⟨[], [9, 13, 100, 101, 102], [], [], []⟩
  | 100005 => ⟨[1004, 1006], [], [], [], []⟩
  | _ => ⟨[], [], [], [], []⟩
abbrev law3_ConfigToolsFewerKinds_E (N : Nat) : Env := mkE law3_ConfigToolsFewerKinds_h (law3_ConfigToolsFewerKinds_fn N) (fun _ => false) (fun _ => false)
abbrev law3_ConfigToolsFewerKinds_L0_fs : List (Nat × Sl) := [(9, .v .str), (13, .v .str), (100, .v (.sl (.pr .str (.sl (.pr .str .str))))), (101, .v (.int .i64)), (102, .v (.int .i64))]
abbrev law3_ConfigToolsFewerKinds_L0_bs : List (Nat × Sb) := []
def law3_ConfigToolsFewerKinds_L0_hd (c9 : Str) (c13 : Str) (c100 : List (Str × List (Str × Str))) (c101 : Int) (s102 : Int) : St := ⟨115, [(9, .v .str c9), (13, .v .str c13), (100, .v (.sl (.pr .str (.sl (.pr .str .str)))) c100), (101, .v (.int .i64) c101), (102, .v (.int .i64) s102)], []⟩
def law3_ConfigToolsFewerKinds_L0_tl0 (_c9 : Str) (_c13 : Str) (_c100 : List (Str × List (Str × Str))) (_c101 : Int) : St := ⟨115, [], []⟩
def law3_ConfigToolsFewerKinds_L0_G (N : Nat) (c9 : Str) (c13 : Str) (c100 : List (Str × List (Str × Str))) (c101 : Int) (s102 : Int) (k : Ex → St → Option Bool) : Option Bool :=
  law3_ConfigToolsFewerKinds_L0 N c9 c13 c100 c101 (k (.exit 0) (law3_ConfigToolsFewerKinds_L0_tl0 c9 c13 c100 c101)) N s102
abbrev law3_ConfigToolsFewerKinds_L0_F (N : Nat) : FV law3_ConfigToolsFewerKinds_L0_fs → HV law3_ConfigToolsFewerKinds_L0_bs → (Ex → St → Option Bool) → Option Bool := fun x _ k => law3_ConfigToolsFewerKinds_L0_G N x.1 x.2.1 x.2.2.1 x.2.2.2.1 x.2.2.2.2.1 k
noncomputable def law3_ConfigToolsFewerKinds_LP (N : Nat) : Nat → Code → St → (Ex → St → Option Bool) → Option Bool := fun i c =>
  match i with
  | 0 => (LPc 115 law3_ConfigToolsFewerKinds_L0_fs law3_ConfigToolsFewerKinds_L0_bs (law3_ConfigToolsFewerKinds_L0_F N) (fun st k => iter (law3_ConfigToolsFewerKinds_h 0) (exec (law3_ConfigToolsFewerKinds_E N) N c 0) N st k))
  | i => fun st k => iter (law3_ConfigToolsFewerKinds_h i) (exec (law3_ConfigToolsFewerKinds_E N) N c i) N st k
theorem law3_ConfigToolsFewerKinds_L0_step (N : Nat) (c9 : Str) (c13 : Str) (c100 : List (Str × List (Str × Str))) (c101 : Int) (KX : Nat → St → Option Bool) (I : St → Option Bool) (s102 : Int) :
    execL (law3_ConfigToolsFewerKinds_LP N) (law3_ConfigToolsFewerKinds_E N) (cAt (bodyOf Tryd.f6) [true, true, true, true, true, true, false, true, false, false]) 0 (law3_ConfigToolsFewerKinds_L0_hd c9 c13 c100 c101 s102) (roundK (law3_ConfigToolsFewerKinds_h 0) I KX (resD (law3_ConfigToolsFewerKinds_E N) Tryd.f6 (law3_ConfigToolsFewerKinds_sg fun x _ => law3_ConfigToolsFewerKinds N x.1 x.2.1 x.2.2.1 x.2.2.2.1) law3_ConfigToolsFewerKinds_pk)) = law3_ConfigToolsFewerKinds_L0T N c9 c13 c100 c101 (KX 0 (law3_ConfigToolsFewerKinds_L0_tl0 c9 c13 c100 c101)) (fun s102 => I (law3_ConfigToolsFewerKinds_L0_hd c9 c13 c100 c101 s102)) s102 := by kernel_rfl
theorem law3_ConfigToolsFewerKinds_L0_ok (N : Nat) : ∀ x y k, (∀ st, k .ret st = (resD (law3_ConfigToolsFewerKinds_E N) Tryd.f6 (law3_ConfigToolsFewerKinds_sg fun x _ => law3_ConfigToolsFewerKinds N x.1 x.2.1 x.2.2.1 x.2.2.2.1) law3_ConfigToolsFewerKinds_pk) st) → iter (law3_ConfigToolsFewerKinds_h 0) (exec (law3_ConfigToolsFewerKinds_E N) N (cAt (bodyOf Tryd.f6) [true, true, true, true, true, true, false, true, false, false]) 0) N ⟨115, unF law3_ConfigToolsFewerKinds_L0_fs x, unH law3_ConfigToolsFewerKinds_L0_bs y⟩ k = law3_ConfigToolsFewerKinds_L0_F N x y k := fun x _ k hk =>
  iter_link (S := (Int) × Unit) (law3_ConfigToolsFewerKinds_h 0) _ (execL (law3_ConfigToolsFewerKinds_LP N) (law3_ConfigToolsFewerKinds_E N) (cAt (bodyOf Tryd.f6) [true, true, true, true, true, true, false, true, false, false]) 0) (resD (law3_ConfigToolsFewerKinds_E N) Tryd.f6 (law3_ConfigToolsFewerKinds_sg fun x _ => law3_ConfigToolsFewerKinds N x.1 x.2.1 x.2.2.1 x.2.2.2.1) law3_ConfigToolsFewerKinds_pk) (fun st k hk => execL_eq _ _ N _ (cAt (bodyOf Tryd.f6) [true, true, true, true, true, true, false, true, false, false]) 0 (show LoopsOk (law3_ConfigToolsFewerKinds_LP N) (law3_ConfigToolsFewerKinds_E N) N (resD (law3_ConfigToolsFewerKinds_E N) Tryd.f6 (law3_ConfigToolsFewerKinds_sg fun x _ => law3_ConfigToolsFewerKinds N x.1 x.2.1 x.2.2.1 x.2.2.2.1) law3_ConfigToolsFewerKinds_pk) [] from trivial) st k hk) (fun s => law3_ConfigToolsFewerKinds_L0_hd x.1 x.2.1 x.2.2.1 x.2.2.2.1 s.1) k hk
    (fun self s => law3_ConfigToolsFewerKinds_L0T N x.1 x.2.1 x.2.2.1 x.2.2.2.1 (k (.exit 0) (law3_ConfigToolsFewerKinds_L0_tl0 x.1 x.2.1 x.2.2.1 x.2.2.2.1)) (fun s102 => self (s102, ())) s.1) (fun n s => law3_ConfigToolsFewerKinds_L0 N x.1 x.2.1 x.2.2.1 x.2.2.2.1 (k (.exit 0) (law3_ConfigToolsFewerKinds_L0_tl0 x.1 x.2.1 x.2.2.1 x.2.2.2.1)) n s.1) (fun _ => rfl) (fun _ _ => rfl)
    (fun I s => law3_ConfigToolsFewerKinds_L0_step N x.1 x.2.1 x.2.2.1 x.2.2.2.1 (fun j => k (.exit j)) I s.1) N (x.2.2.2.2.1, ())
theorem law3_ConfigToolsFewerKinds_lp0 (N : Nat) : ∀ st k, (∀ st, k .ret st = (resD (law3_ConfigToolsFewerKinds_E N) Tryd.f6 (law3_ConfigToolsFewerKinds_sg fun x _ => law3_ConfigToolsFewerKinds N x.1 x.2.1 x.2.2.1 x.2.2.2.1) law3_ConfigToolsFewerKinds_pk) st) → law3_ConfigToolsFewerKinds_LP N 0 (cAt (bodyOf Tryd.f6) [true, true, true, true, true, true, false, true, false, false]) st k = iter (Env.hint (law3_ConfigToolsFewerKinds_E N) 0) (exec (law3_ConfigToolsFewerKinds_E N) N (cAt (bodyOf Tryd.f6) [true, true, true, true, true, true, false, true, false, false]) 0) N st k := fun st k hk => LPc_eq 115 law3_ConfigToolsFewerKinds_L0_fs law3_ConfigToolsFewerKinds_L0_bs _ _ (resD (law3_ConfigToolsFewerKinds_E N) Tryd.f6 (law3_ConfigToolsFewerKinds_sg fun x _ => law3_ConfigToolsFewerKinds N x.1 x.2.1 x.2.2.1 x.2.2.2.1) law3_ConfigToolsFewerKinds_pk) (law3_ConfigToolsFewerKinds_L0_ok N) _ st k hk (rfl)
theorem law3_ConfigToolsFewerKinds_core (N : Nat) (x : SV [.v (.pr (.sl (.pr .str (.sl .str))) (.pr (.sl (.pr .str (.pr (.sl (.pr .str .str)) (.sl (.pr .str .str))))) (.pr (.sl (.pr .str (.sl (.pr .str .str)))) (.pr (.sl (.pr .str (.pr .str (.pr (.sl (.pr .str .str)) (.sl (.pr .str .str)))))) (.sl (.pr .str (.pr (.sl (.pr .str .str)) (.sl .str)))))))), .v (.sl .str), .v (.pr .str (.sl (.pr .str .str))), .v (.int .i64)]) (y : BV []) : runL (law3_ConfigToolsFewerKinds_E N) Tryd.f6 (law3_ConfigToolsFewerKinds_sg fun x _ => law3_ConfigToolsFewerKinds N x.1 x.2.1 x.2.2.1 x.2.2.2.1) law3_ConfigToolsFewerKinds_pk (law3_ConfigToolsFewerKinds_LP N) x y = law3_ConfigToolsFewerKinds N x.1 x.2.1 x.2.2.1 x.2.2.2.1 := by kernel_rfl
theorem law3_ConfigToolsFewerKinds_sound (N : Nat) : Sound Tryd.prog GW B0G 6 (law3_ConfigToolsFewerKinds_sg fun x _ => law3_ConfigToolsFewerKinds N x.1 x.2.1 x.2.2.1 x.2.2.2.1) :=
  runD_sound (mkE_ok law3_ConfigToolsFewerKinds_h (law3_ConfigToolsFewerKinds_fn N) _ _ (law3_ConfigToolsFewerKinds_fn_ok N)) Tryd.func6 rfl Tryd.call6 (law3_ConfigToolsFewerKinds_sg fun x _ => law3_ConfigToolsFewerKinds N x.1 x.2.1 x.2.2.1 x.2.2.2.1) law3_ConfigToolsFewerKinds_pk (fun _ _ => rfl) N (fun x y _ h => ((runL_eq (law3_ConfigToolsFewerKinds_E N) N Tryd.f6 (law3_ConfigToolsFewerKinds_sg fun x _ => law3_ConfigToolsFewerKinds N x.1 x.2.1 x.2.2.1 x.2.2.2.1) law3_ConfigToolsFewerKinds_pk (law3_ConfigToolsFewerKinds_LP N) (show LoopsOk (law3_ConfigToolsFewerKinds_LP N) (law3_ConfigToolsFewerKinds_E N) N (resD (law3_ConfigToolsFewerKinds_E N) Tryd.f6 (law3_ConfigToolsFewerKinds_sg fun x _ => law3_ConfigToolsFewerKinds N x.1 x.2.1 x.2.2.1 x.2.2.2.1) law3_ConfigToolsFewerKinds_pk) [(0, (cAt (bodyOf Tryd.f6) [true, true, true, true, true, true, false, true, false, false]))] from ⟨law3_ConfigToolsFewerKinds_lp0 N, trivial⟩) x y).trans (law3_ConfigToolsFewerKinds_core N x y)).trans h)
end
end Go.Proofs.YtbekhaioddmliaaDoor
