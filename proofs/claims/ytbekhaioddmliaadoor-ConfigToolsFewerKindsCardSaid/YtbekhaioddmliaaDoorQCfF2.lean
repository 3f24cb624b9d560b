/- What functions of the program compute, as plain functions (printed). -/
import Derived.Test.YtbekhaioddmliaaDoorQCfF1
namespace Go.Proofs.YtbekhaioddmliaaDoor
open Go Go.RowKit
set_option maxRecDepth 100000
set_option linter.unusedVariables false
noncomputable section
def config_ConfigText_L0T (_N : Nat) (x1 : List (Str × Str)) (c20 : Int) (k0 : (List Str) → Option (Str × Int)) (self : Int → (List Str) → Option (Str × Int)) (s21 : Int) (w1007 : List Str) : Option (Str × Int) :=
  br (decide (s21 < c20))
    (bnd (geti x1 s21) fun t23 =>
    br (decide (t23.1.length + ([61] : Str).length ≤ 9223372036854775807))
      (br (decide ((t23.1 ++ ([61] : Str)).length + t23.2.length ≤ 9223372036854775807))
        (br (decide ((w1007.length + [(t23.1 ++ ([61] : Str)) ++ t23.2].length) * (24 * Ty.sz .str) ≤ 140737488355328))
          (self (IntKind.i64.wrap (s21 + (1 : Int))) (w1007 ++ [(t23.1 ++ ([61] : Str)) ++ t23.2]))
          none)
        none)
      none)
    (k0 w1007)
def config_ConfigText_L0 (N : Nat) (x1 : List (Str × Str)) (c20 : Int) (k0 : (List Str) → Option (Str × Int)) : Nat → Int → (List Str) → Option (Str × Int)
  | 0, _, _ => none
  | n + 1, s21, w1007 => config_ConfigText_L0T N x1 c20 k0 (config_ConfigText_L0 N x1 c20 k0 n) s21 w1007
def config_ConfigText (N : Nat) (x0 : List (Str × List Str)) (x1 : List (Str × Str)) : Option (Str × Int) :=
  bnd (config_CheckConfig N x0 x1) fun t12 =>
  br (t12 != (0 : Int))
    (some (([] : Str), t12))
    (br ((x1.length : Int) == (0 : Int))
      (some (([45] : Str), (0 : Int)))
      (config_ConfigText_L0 N x1 (x1.length : Int) (fun o0_w1007 =>
          bnd (strings_Join o0_w1007 ([44] : Str)) fun t36 =>
          some (t36, (0 : Int))) N (0 : Int) ([] : List Str)))
abbrev config_ConfigText_sg (f : SV [.v (.sl (.pr .str (.sl .str))), .v (.sl (.pr .str .str))] → BV [] → Option (Str × Int)) : AF := { ps := [.v (.sl (.pr .str (.sl .str))), .v (.sl (.pr .str .str))], bs := [], rs := [.v .str, .v (.int .i64)], cs := [], R := Str × Int, out := fun z => ((z.1, z.2, ()), ()), f := f }
abbrev config_ConfigText_pk : SV [.v .str, .v (.int .i64)] → BV [] → (Str × Int) := fun x _ => (x.1, x.2.1)
def config_ConfigText_fn (N : Nat) : FuncId → Option Tmp → Option AF := fun f _ =>
  match f with
    | 18 => some (config_CheckConfig_sg fun x _ => config_CheckConfig N x.1 x.2.1)
    | 72 => some (strings_Join_sg fun x _ => strings_Join x.1 x.2.1)
    | _ => none
theorem config_ConfigText_fn_ok (N : Nat) : ∀ f q F, config_ConfigText_fn N f q = some F → Sound Tryd.prog GW B0G f F := by
  intro f q F h
  unfold config_ConfigText_fn at h
  split at h
  · cases h; exact config_CheckConfig_sound N
  · cases h; exact strings_Join_sound
  · cases h
def config_ConfigText_h : Nat → Hint := fun i =>
  match i with
  | 0 => ⟨[], [7, 19, 20, 21], [1007], [7], [1007]⟩
  | _ => ⟨[], [], [], [], []⟩
abbrev config_ConfigText_E (N : Nat) : Env := mkE config_ConfigText_h (config_ConfigText_fn N) (fun _ => false) (fun _ => false)
abbrev config_ConfigText_L0_fs : List (Nat × Sl) := [(7, .row 1007), (19, .v (.sl (.pr .str .str))), (20, .v (.int .i64)), (21, .v (.int .i64))]
abbrev config_ConfigText_L0_bs : List (Nat × Sb) := [(1007, .row 9 .str false)]
def config_ConfigText_L0_hd (x1 : List (Str × Str)) (c20 : Int) (s21 : Int) (w1007 : List Str) : St := ⟨37, [(7, .row 1007), (19, .v (.sl (.pr .str .str)) x1), (20, .v (.int .i64) c20), (21, .v (.int .i64) s21)], [(1007, .row 9 .str false w1007)]⟩
def config_ConfigText_L0_tl0 (_x1 : List (Str × Str)) (_c20 : Int) (o0_w1007 : List Str) : St := ⟨37, [(7, .row 1007)], [(1007, .row 9 .str false o0_w1007)]⟩
def config_ConfigText_L0_G (N : Nat) (x1 : List (Str × Str)) (c20 : Int) (s21 : Int) (w1007 : List Str) (k : Ex → St → Option (Str × Int)) : Option (Str × Int) :=
  config_ConfigText_L0 N x1 c20 (fun o0_w1007 => k (.exit 0) (config_ConfigText_L0_tl0 x1 c20 o0_w1007)) N s21 w1007
abbrev config_ConfigText_L0_F (N : Nat) : FV config_ConfigText_L0_fs → HV config_ConfigText_L0_bs → (Ex → St → Option (Str × Int)) → Option (Str × Int) := fun x y k => config_ConfigText_L0_G N x.2.1 x.2.2.1 x.2.2.2.1 y.1 k
noncomputable def config_ConfigText_LP (N : Nat) : Nat → Code → St → (Ex → St → Option (Str × Int)) → Option (Str × Int) := fun i c =>
  match i with
  | 0 => (LPc 37 config_ConfigText_L0_fs config_ConfigText_L0_bs (config_ConfigText_L0_F N) (fun st k => iter (config_ConfigText_h 0) (exec (config_ConfigText_E N) N c 0) N st k))
  | i => fun st k => iter (config_ConfigText_h i) (exec (config_ConfigText_E N) N c i) N st k
theorem config_ConfigText_L0_step (N : Nat) (x1 : List (Str × Str)) (c20 : Int) (KX : Nat → St → Option (Str × Int)) (I : St → Option (Str × Int)) (s21 : Int) (w1007 : List Str) :
    execL (config_ConfigText_LP N) (config_ConfigText_E N) (cAt (bodyOf Tryd.f34) [true, true, true, true, false, true, false, false]) 0 (config_ConfigText_L0_hd x1 c20 s21 w1007) (roundK (config_ConfigText_h 0) I KX (resD (config_ConfigText_E N) Tryd.f34 (config_ConfigText_sg fun x _ => config_ConfigText N x.1 x.2.1) config_ConfigText_pk)) = config_ConfigText_L0T N x1 c20 (fun o0_w1007 => KX 0 (config_ConfigText_L0_tl0 x1 c20 o0_w1007)) (fun s21 w1007 => I (config_ConfigText_L0_hd x1 c20 s21 w1007)) s21 w1007 := by kernel_rfl
theorem config_ConfigText_L0_ok (N : Nat) : ∀ x y k, (∀ st, k .ret st = (resD (config_ConfigText_E N) Tryd.f34 (config_ConfigText_sg fun x _ => config_ConfigText N x.1 x.2.1) config_ConfigText_pk) st) → iter (config_ConfigText_h 0) (exec (config_ConfigText_E N) N (cAt (bodyOf Tryd.f34) [true, true, true, true, false, true, false, false]) 0) N ⟨37, unF config_ConfigText_L0_fs x, unH config_ConfigText_L0_bs y⟩ k = config_ConfigText_L0_F N x y k := fun x y k hk =>
  iter_link (S := (Int) × (List Str) × Unit) (config_ConfigText_h 0) _ (execL (config_ConfigText_LP N) (config_ConfigText_E N) (cAt (bodyOf Tryd.f34) [true, true, true, true, false, true, false, false]) 0) (resD (config_ConfigText_E N) Tryd.f34 (config_ConfigText_sg fun x _ => config_ConfigText N x.1 x.2.1) config_ConfigText_pk) (fun st k hk => execL_eq _ _ N _ (cAt (bodyOf Tryd.f34) [true, true, true, true, false, true, false, false]) 0 (show LoopsOk (config_ConfigText_LP N) (config_ConfigText_E N) N (resD (config_ConfigText_E N) Tryd.f34 (config_ConfigText_sg fun x _ => config_ConfigText N x.1 x.2.1) config_ConfigText_pk) [] from trivial) st k hk) (fun s => config_ConfigText_L0_hd x.2.1 x.2.2.1 s.1 s.2.1) k hk
    (fun self s => config_ConfigText_L0T N x.2.1 x.2.2.1 (fun o0_w1007 => k (.exit 0) (config_ConfigText_L0_tl0 x.2.1 x.2.2.1 o0_w1007)) (fun s21 w1007 => self (s21, w1007, ())) s.1 s.2.1) (fun n s => config_ConfigText_L0 N x.2.1 x.2.2.1 (fun o0_w1007 => k (.exit 0) (config_ConfigText_L0_tl0 x.2.1 x.2.2.1 o0_w1007)) n s.1 s.2.1) (fun _ => rfl) (fun _ _ => rfl)
    (fun I s => config_ConfigText_L0_step N x.2.1 x.2.2.1 (fun j => k (.exit j)) I s.1 s.2.1) N (x.2.2.2.1, y.1, ())
theorem config_ConfigText_lp0 (N : Nat) : ∀ st k, (∀ st, k .ret st = (resD (config_ConfigText_E N) Tryd.f34 (config_ConfigText_sg fun x _ => config_ConfigText N x.1 x.2.1) config_ConfigText_pk) st) → config_ConfigText_LP N 0 (cAt (bodyOf Tryd.f34) [true, true, true, true, false, true, false, false]) st k = iter (Env.hint (config_ConfigText_E N) 0) (exec (config_ConfigText_E N) N (cAt (bodyOf Tryd.f34) [true, true, true, true, false, true, false, false]) 0) N st k := fun st k hk => LPc_eq 37 config_ConfigText_L0_fs config_ConfigText_L0_bs _ _ (resD (config_ConfigText_E N) Tryd.f34 (config_ConfigText_sg fun x _ => config_ConfigText N x.1 x.2.1) config_ConfigText_pk) (config_ConfigText_L0_ok N) _ st k hk (rfl)
theorem config_ConfigText_core (N : Nat) (x : SV [.v (.sl (.pr .str (.sl .str))), .v (.sl (.pr .str .str))]) (y : BV []) : runL (config_ConfigText_E N) Tryd.f34 (config_ConfigText_sg fun x _ => config_ConfigText N x.1 x.2.1) config_ConfigText_pk (config_ConfigText_LP N) x y = config_ConfigText N x.1 x.2.1 := by kernel_rfl
theorem config_ConfigText_sound (N : Nat) : Sound Tryd.prog GW B0G 34 (config_ConfigText_sg fun x _ => config_ConfigText N x.1 x.2.1) :=
  runD_sound (mkE_ok config_ConfigText_h (config_ConfigText_fn N) _ _ (config_ConfigText_fn_ok N)) Tryd.func34 rfl Tryd.call34 (config_ConfigText_sg fun x _ => config_ConfigText N x.1 x.2.1) config_ConfigText_pk (fun _ _ => rfl) N (fun x y _ h => ((runL_eq (config_ConfigText_E N) N Tryd.f34 (config_ConfigText_sg fun x _ => config_ConfigText N x.1 x.2.1) config_ConfigText_pk (config_ConfigText_LP N) (show LoopsOk (config_ConfigText_LP N) (config_ConfigText_E N) N (resD (config_ConfigText_E N) Tryd.f34 (config_ConfigText_sg fun x _ => config_ConfigText N x.1 x.2.1) config_ConfigText_pk) [(0, (cAt (bodyOf Tryd.f34) [true, true, true, true, false, true, false, false]))] from ⟨config_ConfigText_lp0 N, trivial⟩) x y).trans (config_ConfigText_core N x y)).trans h)
def law3_awake (N : Nat) : Option Bool :=
  bnd (config_ConfigText N [(([109] : Str), [([97] : Str), ([98] : Str)])] [(([109] : Str), ([98] : Str))]) fun t9 =>
  br (t9.2 == (0 : Int))
    (some (t9.1 == ([109, 61, 98] : Str)))
    (some false)
abbrev law3_awake_sg (f : SV [] → BV [] → Option (Bool)) : AF := { ps := [], bs := [], rs := [.v .bool], cs := [], R := Bool, out := fun z => ((z, ()), ()), f := f }
abbrev law3_awake_pk : SV [.v .bool] → BV [] → Bool := fun x _ => x.1
def law3_awake_fn (N : Nat) : FuncId → Option Tmp → Option AF := fun f _ =>
  match f with
    | 34 => some (config_ConfigText_sg fun x _ => config_ConfigText N x.1 x.2.1)
    | _ => none
theorem law3_awake_fn_ok (N : Nat) : ∀ f q F, law3_awake_fn N f q = some F → Sound Tryd.prog GW B0G f F := by
  intro f q F h
  unfold law3_awake_fn at h
  split at h
  · cases h; exact config_ConfigText_sound N
  · cases h
def law3_awake_h : Nat → Hint := fun i =>
  match i with
  | _ => ⟨[], [], [], [], []⟩
abbrev law3_awake_E (N : Nat) : Env := mkE law3_awake_h (law3_awake_fn N) (fun _ => false) (fun _ => false)
noncomputable def law3_awake_LP (N : Nat) : Nat → Code → St → (Ex → St → Option Bool) → Option Bool := fun i c =>
  match i with
  | i => fun st k => iter (law3_awake_h i) (exec (law3_awake_E N) N c i) N st k
theorem law3_awake_core (N : Nat) (x : SV []) (y : BV []) : runL (law3_awake_E N) Tryd.f20 (law3_awake_sg fun _ _ => law3_awake N) law3_awake_pk (law3_awake_LP N) x y = law3_awake N := by kernel_rfl
theorem law3_awake_sound (N : Nat) : Sound Tryd.prog GW B0G 20 (law3_awake_sg fun _ _ => law3_awake N) :=
  runD_sound (mkE_ok law3_awake_h (law3_awake_fn N) _ _ (law3_awake_fn_ok N)) Tryd.func20 rfl Tryd.call20 (law3_awake_sg fun _ _ => law3_awake N) law3_awake_pk (fun _ _ => rfl) N (fun x y _ h => ((runL_eq (law3_awake_E N) N Tryd.f20 (law3_awake_sg fun _ _ => law3_awake N) law3_awake_pk (law3_awake_LP N) (show LoopsOk (law3_awake_LP N) (law3_awake_E N) N (resD (law3_awake_E N) Tryd.f20 (law3_awake_sg fun _ _ => law3_awake N) law3_awake_pk) [] from trivial) x y).trans (law3_awake_core N x y)).trans h)
def config_CheckPairs_L0T (N : Nat) (x0 : List (Str × Str)) (c8 : List (Str × Str)) (c9 : Int) (k0 : Option Int) (self : Int → Option Int) (s10 : Int) : Option Int :=
  br (decide (s10 < c9))
    (bnd (geti c8 s10) fun t13 =>
    bnd (config_IsWord N t13.1) fun t18 =>
    br (!t18)
      (some (5 : Int))
      (bnd (config_IsWord N t13.2) fun t23 =>
      br (!t23)
        (some (1 : Int))
        (br (decide (s10 > (0 : Int)))
          (bnd (geti x0 (IntKind.i64.wrap (s10 - (1 : Int)))) fun t34 =>
          br (Op.bytesLess t13.1 t34.1 || t13.1 == t34.1)
            (some (8 : Int))
            (self (IntKind.i64.wrap (s10 + (1 : Int)))))
          (self (IntKind.i64.wrap (s10 + (1 : Int)))))))
    (k0)
def config_CheckPairs_L0 (N : Nat) (x0 : List (Str × Str)) (c8 : List (Str × Str)) (c9 : Int) (k0 : Option Int) : Nat → Int → Option Int
  | 0, _ => none
  | n + 1, s10 => config_CheckPairs_L0T N x0 c8 c9 k0 (config_CheckPairs_L0 N x0 c8 c9 k0 n) s10
def config_CheckPairs (N : Nat) (x0 : List (Str × Str)) : Option Int :=
  br (decide ((x0.length : Int) > (30 : Int)))
    (some (2 : Int))
    (config_CheckPairs_L0 N x0 x0 (x0.length : Int) (some (0 : Int)) N (0 : Int))
abbrev config_CheckPairs_sg (f : SV [.v (.sl (.pr .str .str))] → BV [] → Option (Int)) : AF := { ps := [.v (.sl (.pr .str .str))], bs := [], rs := [.v (.int .i64)], cs := [], R := Int, out := fun z => ((z, ()), ()), f := f }
abbrev config_CheckPairs_pk : SV [.v (.int .i64)] → BV [] → Int := fun x _ => x.1
def config_CheckPairs_fn (N : Nat) : FuncId → Option Tmp → Option AF := fun f _ =>
  match f with
    | 53 => some (config_IsWord_sg fun x _ => config_IsWord N x.1)
    | _ => none
theorem config_CheckPairs_fn_ok (N : Nat) : ∀ f q F, config_CheckPairs_fn N f q = some F → Sound Tryd.prog GW B0G f F := by
  intro f q F h
  unfold config_CheckPairs_fn at h
  split at h
  · cases h; exact config_IsWord_sound N
  · cases h
def config_CheckPairs_h : Nat → Hint := fun i =>
  match i with
  | 0 => ⟨[], [0, 8, 9, 10], [], [], []⟩
  | _ => ⟨[], [], [], [], []⟩
abbrev config_CheckPairs_E (N : Nat) : Env := mkE config_CheckPairs_h (config_CheckPairs_fn N) (fun _ => false) (fun _ => false)
abbrev config_CheckPairs_L0_fs : List (Nat × Sl) := [(0, .v (.sl (.pr .str .str))), (8, .v (.sl (.pr .str .str))), (9, .v (.int .i64)), (10, .v (.int .i64))]
abbrev config_CheckPairs_L0_bs : List (Nat × Sb) := []
def config_CheckPairs_L0_hd (x0 : List (Str × Str)) (c8 : List (Str × Str)) (c9 : Int) (s10 : Int) : St := ⟨40, [(0, .v (.sl (.pr .str .str)) x0), (8, .v (.sl (.pr .str .str)) c8), (9, .v (.int .i64) c9), (10, .v (.int .i64) s10)], []⟩
def config_CheckPairs_L0_tl0 (_x0 : List (Str × Str)) (_c8 : List (Str × Str)) (_c9 : Int) : St := ⟨40, [], []⟩
def config_CheckPairs_L0_G (N : Nat) (x0 : List (Str × Str)) (c8 : List (Str × Str)) (c9 : Int) (s10 : Int) (k : Ex → St → Option Int) : Option Int :=
  config_CheckPairs_L0 N x0 c8 c9 (k (.exit 0) (config_CheckPairs_L0_tl0 x0 c8 c9)) N s10
abbrev config_CheckPairs_L0_F (N : Nat) : FV config_CheckPairs_L0_fs → HV config_CheckPairs_L0_bs → (Ex → St → Option Int) → Option Int := fun x _ k => config_CheckPairs_L0_G N x.1 x.2.1 x.2.2.1 x.2.2.2.1 k
noncomputable def config_CheckPairs_LP (N : Nat) : Nat → Code → St → (Ex → St → Option Int) → Option Int := fun i c =>
  match i with
  | 0 => (LPc 40 config_CheckPairs_L0_fs config_CheckPairs_L0_bs (config_CheckPairs_L0_F N) (fun st k => iter (config_CheckPairs_h 0) (exec (config_CheckPairs_E N) N c 0) N st k))
  | i => fun st k => iter (config_CheckPairs_h i) (exec (config_CheckPairs_E N) N c i) N st k
theorem config_CheckPairs_L0_step (N : Nat) (x0 : List (Str × Str)) (c8 : List (Str × Str)) (c9 : Int) (KX : Nat → St → Option Int) (I : St → Option Int) (s10 : Int) :
    execL (config_CheckPairs_LP N) (config_CheckPairs_E N) (cAt (bodyOf Tryd.f59) [true, true, false, true, false, false]) 0 (config_CheckPairs_L0_hd x0 c8 c9 s10) (roundK (config_CheckPairs_h 0) I KX (resD (config_CheckPairs_E N) Tryd.f59 (config_CheckPairs_sg fun x _ => config_CheckPairs N x.1) config_CheckPairs_pk)) = config_CheckPairs_L0T N x0 c8 c9 (KX 0 (config_CheckPairs_L0_tl0 x0 c8 c9)) (fun s10 => I (config_CheckPairs_L0_hd x0 c8 c9 s10)) s10 := by kernel_rfl
theorem config_CheckPairs_L0_ok (N : Nat) : ∀ x y k, (∀ st, k .ret st = (resD (config_CheckPairs_E N) Tryd.f59 (config_CheckPairs_sg fun x _ => config_CheckPairs N x.1) config_CheckPairs_pk) st) → iter (config_CheckPairs_h 0) (exec (config_CheckPairs_E N) N (cAt (bodyOf Tryd.f59) [true, true, false, true, false, false]) 0) N ⟨40, unF config_CheckPairs_L0_fs x, unH config_CheckPairs_L0_bs y⟩ k = config_CheckPairs_L0_F N x y k := fun x _ k hk =>
  iter_link (S := (Int) × Unit) (config_CheckPairs_h 0) _ (execL (config_CheckPairs_LP N) (config_CheckPairs_E N) (cAt (bodyOf Tryd.f59) [true, true, false, true, false, false]) 0) (resD (config_CheckPairs_E N) Tryd.f59 (config_CheckPairs_sg fun x _ => config_CheckPairs N x.1) config_CheckPairs_pk) (fun st k hk => execL_eq _ _ N _ (cAt (bodyOf Tryd.f59) [true, true, false, true, false, false]) 0 (show LoopsOk (config_CheckPairs_LP N) (config_CheckPairs_E N) N (resD (config_CheckPairs_E N) Tryd.f59 (config_CheckPairs_sg fun x _ => config_CheckPairs N x.1) config_CheckPairs_pk) [] from trivial) st k hk) (fun s => config_CheckPairs_L0_hd x.1 x.2.1 x.2.2.1 s.1) k hk
    (fun self s => config_CheckPairs_L0T N x.1 x.2.1 x.2.2.1 (k (.exit 0) (config_CheckPairs_L0_tl0 x.1 x.2.1 x.2.2.1)) (fun s10 => self (s10, ())) s.1) (fun n s => config_CheckPairs_L0 N x.1 x.2.1 x.2.2.1 (k (.exit 0) (config_CheckPairs_L0_tl0 x.1 x.2.1 x.2.2.1)) n s.1) (fun _ => rfl) (fun _ _ => rfl)
    (fun I s => config_CheckPairs_L0_step N x.1 x.2.1 x.2.2.1 (fun j => k (.exit j)) I s.1) N (x.2.2.2.1, ())
theorem config_CheckPairs_lp0 (N : Nat) : ∀ st k, (∀ st, k .ret st = (resD (config_CheckPairs_E N) Tryd.f59 (config_CheckPairs_sg fun x _ => config_CheckPairs N x.1) config_CheckPairs_pk) st) → config_CheckPairs_LP N 0 (cAt (bodyOf Tryd.f59) [true, true, false, true, false, false]) st k = iter (Env.hint (config_CheckPairs_E N) 0) (exec (config_CheckPairs_E N) N (cAt (bodyOf Tryd.f59) [true, true, false, true, false, false]) 0) N st k := fun st k hk => LPc_eq 40 config_CheckPairs_L0_fs config_CheckPairs_L0_bs _ _ (resD (config_CheckPairs_E N) Tryd.f59 (config_CheckPairs_sg fun x _ => config_CheckPairs N x.1) config_CheckPairs_pk) (config_CheckPairs_L0_ok N) _ st k hk (rfl)
theorem config_CheckPairs_core (N : Nat) (x : SV [.v (.sl (.pr .str .str))]) (y : BV []) : runL (config_CheckPairs_E N) Tryd.f59 (config_CheckPairs_sg fun x _ => config_CheckPairs N x.1) config_CheckPairs_pk (config_CheckPairs_LP N) x y = config_CheckPairs N x.1 := by kernel_rfl
theorem config_CheckPairs_sound (N : Nat) : Sound Tryd.prog GW B0G 59 (config_CheckPairs_sg fun x _ => config_CheckPairs N x.1) :=
  runD_sound (mkE_ok config_CheckPairs_h (config_CheckPairs_fn N) _ _ (config_CheckPairs_fn_ok N)) Tryd.func59 rfl Tryd.call59 (config_CheckPairs_sg fun x _ => config_CheckPairs N x.1) config_CheckPairs_pk (fun _ _ => rfl) N (fun x y _ h => ((runL_eq (config_CheckPairs_E N) N Tryd.f59 (config_CheckPairs_sg fun x _ => config_CheckPairs N x.1) config_CheckPairs_pk (config_CheckPairs_LP N) (show LoopsOk (config_CheckPairs_LP N) (config_CheckPairs_E N) N (resD (config_CheckPairs_E N) Tryd.f59 (config_CheckPairs_sg fun x _ => config_CheckPairs N x.1) config_CheckPairs_pk) [(0, (cAt (bodyOf Tryd.f59) [true, true, false, true, false, false]))] from ⟨config_CheckPairs_lp0 N, trivial⟩) x y).trans (config_CheckPairs_core N x y)).trans h)
def config_CheckPlatforms_1 (_N : Nat) (x0 : Str × List (Str × Str)) (x1 : Str × List (Str × Str)) : Option Bool :=
  some (x0.1 == x1.1)
abbrev config_CheckPlatforms_1_sg (f : SV [.v (.pr .str (.sl (.pr .str .str))), .v (.ptr (.pr .str (.sl (.pr .str .str))))] → BV [] → Option (Bool)) : AF := { ps := [.v (.pr .str (.sl (.pr .str .str))), .v (.ptr (.pr .str (.sl (.pr .str .str))))], bs := [], rs := [.v .bool], cs := [], R := Bool, out := fun z => ((z, ()), ()), f := f }
abbrev config_CheckPlatforms_1_pk : SV [.v .bool] → BV [] → Bool := fun x _ => x.1
def config_CheckPlatforms_1_fn (_N : Nat) : FuncId → Option Tmp → Option AF := fun f _ =>
  match f with
    | _ => none
theorem config_CheckPlatforms_1_fn_ok (N : Nat) : ∀ f q F, config_CheckPlatforms_1_fn N f q = some F → Sound Tryd.prog GW B0G f F := by
  intro f q F h
  unfold config_CheckPlatforms_1_fn at h
  split at h
  · cases h
def config_CheckPlatforms_1_h : Nat → Hint := fun i =>
  match i with
  | _ => ⟨[], [], [], [], []⟩
abbrev config_CheckPlatforms_1_E (N : Nat) : Env := mkE config_CheckPlatforms_1_h (config_CheckPlatforms_1_fn N) (fun _ => false) (fun _ => false)
noncomputable def config_CheckPlatforms_1_LP (N : Nat) : Nat → Code → St → (Ex → St → Option Bool) → Option Bool := fun i c =>
  match i with
  | i => fun st k => iter (config_CheckPlatforms_1_h i) (exec (config_CheckPlatforms_1_E N) N c i) N st k
theorem config_CheckPlatforms_1_core (N : Nat) (x : SV [.v (.pr .str (.sl (.pr .str .str))), .v (.ptr (.pr .str (.sl (.pr .str .str))))]) (y : BV []) : runL (config_CheckPlatforms_1_E N) Tryd.f61 (config_CheckPlatforms_1_sg fun x _ => config_CheckPlatforms_1 N x.1 x.2.1) config_CheckPlatforms_1_pk (config_CheckPlatforms_1_LP N) x y = config_CheckPlatforms_1 N x.1 x.2.1 := by kernel_rfl
theorem config_CheckPlatforms_1_sound (N : Nat) : Sound Tryd.prog GW B0G 61 (config_CheckPlatforms_1_sg fun x _ => config_CheckPlatforms_1 N x.1 x.2.1) :=
  runD_sound (mkE_ok config_CheckPlatforms_1_h (config_CheckPlatforms_1_fn N) _ _ (config_CheckPlatforms_1_fn_ok N)) Tryd.func61 rfl Tryd.call61 (config_CheckPlatforms_1_sg fun x _ => config_CheckPlatforms_1 N x.1 x.2.1) config_CheckPlatforms_1_pk (fun _ _ => rfl) N (fun x y _ h => ((runL_eq (config_CheckPlatforms_1_E N) N Tryd.f61 (config_CheckPlatforms_1_sg fun x _ => config_CheckPlatforms_1 N x.1 x.2.1) config_CheckPlatforms_1_pk (config_CheckPlatforms_1_LP N) (show LoopsOk (config_CheckPlatforms_1_LP N) (config_CheckPlatforms_1_E N) N (resD (config_CheckPlatforms_1_E N) Tryd.f61 (config_CheckPlatforms_1_sg fun x _ => config_CheckPlatforms_1 N x.1 x.2.1) config_CheckPlatforms_1_pk) [] from trivial) x y).trans (config_CheckPlatforms_1_core N x y)).trans h)
end
end Go.Proofs.YtbekhaioddmliaaDoor
