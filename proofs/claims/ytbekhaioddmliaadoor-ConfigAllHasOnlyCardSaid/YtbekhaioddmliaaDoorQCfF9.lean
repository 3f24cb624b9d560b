/- What functions of the program compute, as plain functions (printed). -/
import Derived.Test.YtbekhaioddmliaaDoorQCfF8
namespace Go.Proofs.YtbekhaioddmliaaDoor
open Go Go.RowKit
set_option maxRecDepth 100000
set_option linter.unusedVariables false
noncomputable section
def law3_ConfigAllHasOnly_L0T (N : Nat) (x0 : List (Str × List Str)) (x2 : List Str) (c9 : List (Str × Str)) (c44 : List (List (Str × Str))) (c45 : Int) (k0 : Int → Option Bool) (self : Int → Int → Option Bool) (s10 : Int) (s46 : Int) : Option Bool :=
  br (decide (s46 < c45))
    (bnd (geti c44 s46) fun t48 =>
    bnd (config_Only N x0 t48 x2) fun t54 =>
    br (t54.2 != (0 : Int))
      (some false)
      (bnd (slices_Equal_api_Pair N t48 t54.1) fun t62 =>
      br (!t62)
        (some false)
        (bnd (slices_Equal_api_Pair N t48 c9) fun t67 =>
        br (t67)
          (self (IntKind.i64.wrap (s10 + (1 : Int))) (IntKind.i64.wrap (s46 + (1 : Int))))
          (self s10 (IntKind.i64.wrap (s46 + (1 : Int)))))))
    (k0 s10)
def law3_ConfigAllHasOnly_L0 (N : Nat) (x0 : List (Str × List Str)) (x2 : List Str) (c9 : List (Str × Str)) (c44 : List (List (Str × Str))) (c45 : Int) (k0 : Int → Option Bool) : Nat → Int → Int → Option Bool
  | 0, _, _ => none
  | n + 1, s10, s46 => law3_ConfigAllHasOnly_L0T N x0 x2 c9 c44 c45 k0 (law3_ConfigAllHasOnly_L0 N x0 x2 c9 c44 c45 k0 n) s10 s46
def law3_ConfigAllHasOnly (N : Nat) (x0 : List (Str × List Str)) (x1 : List (Str × Str)) (x2 : List Str) : Option Bool :=
  bnd (config_All N x0 x2) fun t18 =>
  br (t18.2 != (0 : Int))
    (br ((t18.1.length : Int) == (0 : Int))
      (bnd (law3_awake N) fun t27 =>
      some t27)
      (some false))
    (bnd (config_Only N x0 x1 x2) fun t33 =>
    br (t33.2 != (0 : Int))
      (br ((t33.1.length : Int) == (0 : Int))
        (bnd (law3_awake N) fun t42 =>
        some t42)
        (some false))
      (law3_ConfigAllHasOnly_L0 N x0 x2 t33.1 t18.1 (t18.1.length : Int) (fun o0_10 =>
          br (o0_10 == (1 : Int))
            (bnd (law3_awake N) fun t74 =>
            some t74)
            (some false)) N (0 : Int) (0 : Int)))
abbrev law3_ConfigAllHasOnly_sg (f : SV [.v (.sl (.pr .str (.sl .str))), .v (.sl (.pr .str .str)), .v (.sl .str)] → BV [] → Option (Bool)) : AF := { ps := [.v (.sl (.pr .str (.sl .str))), .v (.sl (.pr .str .str)), .v (.sl .str)], bs := [], rs := [.v .bool], cs := [], R := Bool, out := fun z => ((z, ()), ()), f := f }
abbrev law3_ConfigAllHasOnly_pk : SV [.v .bool] → BV [] → Bool := fun x _ => x.1
def law3_ConfigAllHasOnly_fn (N : Nat) : FuncId → Option Tmp → Option AF := fun f _ =>
  match f with
    | 20 => some (law3_awake_sg fun _ _ => law3_awake N)
    | 37 => some (slices_Equal_api_Pair_sg fun x _ => slices_Equal_api_Pair N x.1 x.2.1)
    | 41 => some (config_Only_sg fun x _ => config_Only N x.1 x.2.1 x.2.2.1)
    | 43 => some (config_All_sg fun x _ => config_All N x.1 x.2.1)
    | _ => none
theorem law3_ConfigAllHasOnly_fn_ok (N : Nat) : ∀ f q F, law3_ConfigAllHasOnly_fn N f q = some F → Sound Tryd.prog GW B0G f F := by
  intro f q F h
  unfold law3_ConfigAllHasOnly_fn at h
  split at h
  · cases h; exact law3_awake_sound N
  · cases h; exact slices_Equal_api_Pair_sound N
  · cases h; exact config_Only_sound N
  · cases h; exact config_All_sound N
  · cases h
def law3_ConfigAllHasOnly_h : Nat → Hint := fun i =>
  match i with
  | 0 => ⟨[], [0, 2, 9, 10, 44, 45, 46], [], [10], []⟩
  | _ => ⟨[], [], [], [], []⟩
abbrev law3_ConfigAllHasOnly_E (N : Nat) : Env := mkE law3_ConfigAllHasOnly_h (law3_ConfigAllHasOnly_fn N) (fun _ => false) (fun _ => false)
abbrev law3_ConfigAllHasOnly_L0_fs : List (Nat × Sl) := [(0, .v (.sl (.pr .str (.sl .str)))), (2, .v (.sl .str)), (9, .v (.sl (.pr .str .str))), (10, .v (.int .i64)), (44, .v (.sl (.sl (.pr .str .str)))), (45, .v (.int .i64)), (46, .v (.int .i64))]
abbrev law3_ConfigAllHasOnly_L0_bs : List (Nat × Sb) := []
def law3_ConfigAllHasOnly_L0_hd (x0 : List (Str × List Str)) (x2 : List Str) (c9 : List (Str × Str)) (c44 : List (List (Str × Str))) (c45 : Int) (s10 : Int) (s46 : Int) : St := ⟨76, [(0, .v (.sl (.pr .str (.sl .str))) x0), (2, .v (.sl .str) x2), (9, .v (.sl (.pr .str .str)) c9), (10, .v (.int .i64) s10), (44, .v (.sl (.sl (.pr .str .str))) c44), (45, .v (.int .i64) c45), (46, .v (.int .i64) s46)], []⟩
def law3_ConfigAllHasOnly_L0_tl0 (_x0 : List (Str × List Str)) (_x2 : List Str) (_c9 : List (Str × Str)) (_c44 : List (List (Str × Str))) (_c45 : Int) (o0_10 : Int) : St := ⟨76, [(10, .v (.int .i64) o0_10)], []⟩
def law3_ConfigAllHasOnly_L0_G (N : Nat) (x0 : List (Str × List Str)) (x2 : List Str) (c9 : List (Str × Str)) (c44 : List (List (Str × Str))) (c45 : Int) (s10 : Int) (s46 : Int) (k : Ex → St → Option Bool) : Option Bool :=
  law3_ConfigAllHasOnly_L0 N x0 x2 c9 c44 c45 (fun o0_10 => k (.exit 0) (law3_ConfigAllHasOnly_L0_tl0 x0 x2 c9 c44 c45 o0_10)) N s10 s46
abbrev law3_ConfigAllHasOnly_L0_F (N : Nat) : FV law3_ConfigAllHasOnly_L0_fs → HV law3_ConfigAllHasOnly_L0_bs → (Ex → St → Option Bool) → Option Bool := fun x _ k => law3_ConfigAllHasOnly_L0_G N x.1 x.2.1 x.2.2.1 x.2.2.2.2.1 x.2.2.2.2.2.1 x.2.2.2.1 x.2.2.2.2.2.2.1 k
noncomputable def law3_ConfigAllHasOnly_LP (N : Nat) : Nat → Code → St → (Ex → St → Option Bool) → Option Bool := fun i c =>
  match i with
  | 0 => (LPc 76 law3_ConfigAllHasOnly_L0_fs law3_ConfigAllHasOnly_L0_bs (law3_ConfigAllHasOnly_L0_F N) (fun st k => iter (law3_ConfigAllHasOnly_h 0) (exec (law3_ConfigAllHasOnly_E N) N c 0) N st k))
  | i => fun st k => iter (law3_ConfigAllHasOnly_h i) (exec (law3_ConfigAllHasOnly_E N) N c i) N st k
theorem law3_ConfigAllHasOnly_L0_step (N : Nat) (x0 : List (Str × List Str)) (x2 : List Str) (c9 : List (Str × Str)) (c44 : List (List (Str × Str))) (c45 : Int) (KX : Nat → St → Option Bool) (I : St → Option Bool) (s10 : Int) (s46 : Int) :
    execL (law3_ConfigAllHasOnly_LP N) (law3_ConfigAllHasOnly_E N) (cAt (bodyOf Tryd.f11) [true, true, true, true, true, true, false, true, false, false]) 0 (law3_ConfigAllHasOnly_L0_hd x0 x2 c9 c44 c45 s10 s46) (roundK (law3_ConfigAllHasOnly_h 0) I KX (resD (law3_ConfigAllHasOnly_E N) Tryd.f11 (law3_ConfigAllHasOnly_sg fun x _ => law3_ConfigAllHasOnly N x.1 x.2.1 x.2.2.1) law3_ConfigAllHasOnly_pk)) = law3_ConfigAllHasOnly_L0T N x0 x2 c9 c44 c45 (fun o0_10 => KX 0 (law3_ConfigAllHasOnly_L0_tl0 x0 x2 c9 c44 c45 o0_10)) (fun s10 s46 => I (law3_ConfigAllHasOnly_L0_hd x0 x2 c9 c44 c45 s10 s46)) s10 s46 := by kernel_rfl
theorem law3_ConfigAllHasOnly_L0_ok (N : Nat) : ∀ x y k, (∀ st, k .ret st = (resD (law3_ConfigAllHasOnly_E N) Tryd.f11 (law3_ConfigAllHasOnly_sg fun x _ => law3_ConfigAllHasOnly N x.1 x.2.1 x.2.2.1) law3_ConfigAllHasOnly_pk) st) → iter (law3_ConfigAllHasOnly_h 0) (exec (law3_ConfigAllHasOnly_E N) N (cAt (bodyOf Tryd.f11) [true, true, true, true, true, true, false, true, false, false]) 0) N ⟨76, unF law3_ConfigAllHasOnly_L0_fs x, unH law3_ConfigAllHasOnly_L0_bs y⟩ k = law3_ConfigAllHasOnly_L0_F N x y k := fun x _ k hk =>
  iter_link (S := (Int) × (Int) × Unit) (law3_ConfigAllHasOnly_h 0) _ (execL (law3_ConfigAllHasOnly_LP N) (law3_ConfigAllHasOnly_E N) (cAt (bodyOf Tryd.f11) [true, true, true, true, true, true, false, true, false, false]) 0) (resD (law3_ConfigAllHasOnly_E N) Tryd.f11 (law3_ConfigAllHasOnly_sg fun x _ => law3_ConfigAllHasOnly N x.1 x.2.1 x.2.2.1) law3_ConfigAllHasOnly_pk) (fun st k hk => execL_eq _ _ N _ (cAt (bodyOf Tryd.f11) [true, true, true, true, true, true, false, true, false, false]) 0 (show LoopsOk (law3_ConfigAllHasOnly_LP N) (law3_ConfigAllHasOnly_E N) N (resD (law3_ConfigAllHasOnly_E N) Tryd.f11 (law3_ConfigAllHasOnly_sg fun x _ => law3_ConfigAllHasOnly N x.1 x.2.1 x.2.2.1) law3_ConfigAllHasOnly_pk) [] from trivial) st k hk) (fun s => law3_ConfigAllHasOnly_L0_hd x.1 x.2.1 x.2.2.1 x.2.2.2.2.1 x.2.2.2.2.2.1 s.1 s.2.1) k hk
    (fun self s => law3_ConfigAllHasOnly_L0T N x.1 x.2.1 x.2.2.1 x.2.2.2.2.1 x.2.2.2.2.2.1 (fun o0_10 => k (.exit 0) (law3_ConfigAllHasOnly_L0_tl0 x.1 x.2.1 x.2.2.1 x.2.2.2.2.1 x.2.2.2.2.2.1 o0_10)) (fun s10 s46 => self (s10, s46, ())) s.1 s.2.1) (fun n s => law3_ConfigAllHasOnly_L0 N x.1 x.2.1 x.2.2.1 x.2.2.2.2.1 x.2.2.2.2.2.1 (fun o0_10 => k (.exit 0) (law3_ConfigAllHasOnly_L0_tl0 x.1 x.2.1 x.2.2.1 x.2.2.2.2.1 x.2.2.2.2.2.1 o0_10)) n s.1 s.2.1) (fun _ => rfl) (fun _ _ => rfl)
    (fun I s => law3_ConfigAllHasOnly_L0_step N x.1 x.2.1 x.2.2.1 x.2.2.2.2.1 x.2.2.2.2.2.1 (fun j => k (.exit j)) I s.1 s.2.1) N (x.2.2.2.1, x.2.2.2.2.2.2.1, ())
theorem law3_ConfigAllHasOnly_lp0 (N : Nat) : ∀ st k, (∀ st, k .ret st = (resD (law3_ConfigAllHasOnly_E N) Tryd.f11 (law3_ConfigAllHasOnly_sg fun x _ => law3_ConfigAllHasOnly N x.1 x.2.1 x.2.2.1) law3_ConfigAllHasOnly_pk) st) → law3_ConfigAllHasOnly_LP N 0 (cAt (bodyOf Tryd.f11) [true, true, true, true, true, true, false, true, false, false]) st k = iter (Env.hint (law3_ConfigAllHasOnly_E N) 0) (exec (law3_ConfigAllHasOnly_E N) N (cAt (bodyOf Tryd.f11) [true, true, true, true, true, true, false, true, false, false]) 0) N st k := fun st k hk => LPc_eq 76 law3_ConfigAllHasOnly_L0_fs law3_ConfigAllHasOnly_L0_bs _ _ (resD (law3_ConfigAllHasOnly_E N) Tryd.f11 (law3_ConfigAllHasOnly_sg fun x _ => law3_ConfigAllHasOnly N x.1 x.2.1 x.2.2.1) law3_ConfigAllHasOnly_pk) (law3_ConfigAllHasOnly_L0_ok N) _ st k hk (rfl)
theorem law3_ConfigAllHasOnly_core (N : Nat) (x : SV [.v (.sl (.pr .str (.sl .str))), .v (.sl (.pr .str .str)), .v (.sl .str)]) (y : BV []) : runL (law3_ConfigAllHasOnly_E N) Tryd.f11 (law3_ConfigAllHasOnly_sg fun x _ => law3_ConfigAllHasOnly N x.1 x.2.1 x.2.2.1) law3_ConfigAllHasOnly_pk (law3_ConfigAllHasOnly_LP N) x y = law3_ConfigAllHasOnly N x.1 x.2.1 x.2.2.1 := by kernel_rfl
theorem law3_ConfigAllHasOnly_sound (N : Nat) : Sound Tryd.prog GW B0G 11 (law3_ConfigAllHasOnly_sg fun x _ => law3_ConfigAllHasOnly N x.1 x.2.1 x.2.2.1) :=
  runD_sound (mkE_ok law3_ConfigAllHasOnly_h (law3_ConfigAllHasOnly_fn N) _ _ (law3_ConfigAllHasOnly_fn_ok N)) Tryd.func11 rfl Tryd.call11 (law3_ConfigAllHasOnly_sg fun x _ => law3_ConfigAllHasOnly N x.1 x.2.1 x.2.2.1) law3_ConfigAllHasOnly_pk (fun _ _ => rfl) N (fun x y _ h => ((runL_eq (law3_ConfigAllHasOnly_E N) N Tryd.f11 (law3_ConfigAllHasOnly_sg fun x _ => law3_ConfigAllHasOnly N x.1 x.2.1 x.2.2.1) law3_ConfigAllHasOnly_pk (law3_ConfigAllHasOnly_LP N) (show LoopsOk (law3_ConfigAllHasOnly_LP N) (law3_ConfigAllHasOnly_E N) N (resD (law3_ConfigAllHasOnly_E N) Tryd.f11 (law3_ConfigAllHasOnly_sg fun x _ => law3_ConfigAllHasOnly N x.1 x.2.1 x.2.2.1) law3_ConfigAllHasOnly_pk) [(0, (cAt (bodyOf Tryd.f11) [true, true, true, true, true, true, false, true, false, false]))] from ⟨law3_ConfigAllHasOnly_lp0 N, trivial⟩) x y).trans (law3_ConfigAllHasOnly_core N x y)).trans h)
end
end Go.Proofs.YtbekhaioddmliaaDoor
