/- What the checks of platforms and conditions compute, and Holds. No program in sight. -/
import Derived.Test.YtbekhaioddmliaaDoorQCfF6
import Derived.Test.YtbekhaioddmliaaDoorQLChecks
namespace Go.Proofs.YtbekhaioddmliaaDoor
set_option linter.unusedVariables false
set_option linter.unusedSimpArgs false
open Go Go.RowKit
variable {N : Nat}
/-- The name of a condition. -/
def condB (b : UInt8) : Bool := decide (b.toNat < 32 ∨ 126 < b.toNat)
def condS (s : Str) : Bool := decide (1 ≤ s.length) && decide (s.length ≤ 1000) && !(s == [100, 101, 102, 97, 117, 108, 116]) && !(s.any condB)
/-- CheckPairs. -/
def pairsCheckS (l : List (Str × Str)) : Int := if 30 < l.length then 2 else forT (fun i x r => if !isWordS x.1 then 5 else if !isWordS x.2 then 1 else prevS l i x.1 r) 0 l 0
theorem CheckPairs_eq (hN : big ≤ N) (l : List (Str × Str)) (hl : l.length ≤ maxLen) : config_CheckPairs N l = some (pairsCheckS l) := by
  unfold config_CheckPairs pairsCheckS
  rw [loop_for (f := config_CheckPairs_L0 N l l (l.length : Int) (some 0)) (fun _ _ => rfl) l hl (body := fun i x r => if !isWordS x.1 then 5 else if !isWordS x.2 then 1 else prevS l i x.1 r) (k := 0)
    (fun self i h r hr => by
      simp only [config_CheckPairs_L0T, geti_lt l h, wrap_succ hl h, hr, bnd_some, config_IsWord_eq]
      rw [lt_tt h, br_true, prev_eq hl h, br_ite, br_ite])
    (fun self => by simp only [config_CheckPairs_L0T, lt_ff, br_false]) hN,
    (decide_eq_decide.2 (by omega) : decide ((l.length : Int) > 30) = decide (30 < l.length)), br_ite]
  simp only [decide_eq_true_eq]
abbrev platformTy : Ty := .sl (.pr .str (.sl (.pr .str .str)))
/-- CheckPlatforms. -/
def platformsB (l : List (Str × List (Str × Str))) (i : Nat) (x : Str × List (Str × Str)) (r : Int) : Int :=
  if !isWordS x.1 then 5 else if decide (pairsCheckS x.2 ≠ 0) then pairsCheckS x.2 else if (l.take i).any (fun y => y.1 == x.1) then 7 else r
def platformsS (l : List (Str × List (Str × Str))) : Int := if 50 < l.length then 2 else forT (platformsB l) 0 l 0
theorem IndexFunc_platform (hN : big ≤ N) (xs : List (Str × List (Str × Str))) (hx : xs.length ≤ maxLen) (q : Str × List (Str × Str)) : slices_IndexFunc_api_Platform N xs (q, ()) = some (idxP (fun x => x.1 == q.1) xs) := by
  unfold slices_IndexFunc_api_Platform
  refine loop_for (fun _ _ => rfl) xs hx (fun self i h r hr => ?_) (fun self => ?_) hN
  · simp only [slices_IndexFunc_api_Platform_L0T, geti_lt xs h, wrap_succ hx h, hr, bnd_some, config_CheckPlatforms_1]
    rw [lt_tt h, br_true, br_ite]
  · simp only [slices_IndexFunc_api_Platform_L0T, lt_ff, br_false]
theorem CheckPlatforms_eq (hN : big ≤ N) (l : List (Str × List (Str × Str))) (hl : Fit platformTy l) : config_CheckPlatforms N l = some (platformsS l) := by
  unfold config_CheckPlatforms platformsS
  rw [loop_for (f := config_CheckPlatforms_L0 N l l (l.length : Int) (some 0)) (fun _ _ => rfl) l hl.1 (body := platformsB l) (k := 0)
    (fun self i h r hr => by
      have hx := hl.2 _ (List.getElem_mem h)
      have ht : (l.take i).length ≤ maxLen := by have := hl.1; rw [List.length_take]; omega
      simp only [config_CheckPlatforms_L0T, geti_lt l h, wrap_succ hl.1 h, hr, bnd_some, config_IsWord_eq, CheckPairs_eq hN _ hx.2.1, slc_take l (Nat.le_of_lt h), slices_ContainsFunc_api_Platform, IndexFunc_platform hN _ ht, idxP_nonneg]
      rw [lt_tt h, br_true, br_ite, ne_zero_dec, br_ite, br_ite]; rfl)
    (fun self => by simp only [config_CheckPlatforms_L0T, lt_ff, br_false]) hN,
    (decide_eq_decide.2 (by omega) : decide ((l.length : Int) > 50) = decide (50 < l.length)), br_ite]
  simp only [decide_eq_true_eq]
abbrev condTy : Ty := .pr .str (.pr (.sl (.pr .str .str)) (.sl (.pr .str .str)))
/-- CheckConditions. -/
def condB1 (l : List (Str × List Str)) (m : List (Str × List (Str × Str) × List (Str × Str))) (i : Nat) (x : Str × List (Str × Str) × List (Str × Str)) (r : Int) : Int :=
  if !condS x.1 then 3 else if decide (30 < x.2.1.length) then 2 else if decide (30 < x.2.2.length) then 2 else
    if decide (pairsS l x.2.1 false ≠ 0) then pairsS l x.2.1 false else if decide (pairsCheckS x.2.2 ≠ 0) then pairsCheckS x.2.2 else prevS m i x.1 r
def conditionsS (l : List (Str × List Str)) (m : List (Str × List (Str × Str) × List (Str × Str))) : Int :=
  if settingsS l ≠ 0 then settingsS l else if 100 < m.length then 2 else forT (condB1 l m) 0 m 0
/-- Whether pairs are among others. -/
def hasPair (b : List (Str × Str)) (x : Str × Str) : Bool := b.any fun y => eqb (.pr .str .str) x y
theorem Contains_pair (hN : big ≤ N) (xs : List (Str × Str)) (hx : xs.length ≤ maxLen) (x : Str × Str) : slices_Contains_api_Pair N xs x = some (hasPair xs x) := by
  unfold slices_Contains_api_Pair slices_Index_api_Pair
  have hL : slices_Index_api_Pair_L0 N xs (xs.length : Int) x.1 x.2 (some (-1)) N 0 = some (idxP (fun y => eqb (.pr .str .str) x y) xs) := by
    refine loop_for (fun _ _ => rfl) xs hx (fun self i h r hr => ?_) (fun self => ?_) hN
    · simp only [slices_Index_api_Pair_L0T, geti_lt xs h, wrap_succ hx h, hr, bnd_some]
      rw [lt_tt h, br_true, br_ite]
    · simp only [slices_Index_api_Pair_L0T, lt_ff, br_false]
  rw [hL, bnd_some, idxP_nonneg]; rfl
theorem forT_every {α : Type} (p : α → Bool) (k : Bool) : ∀ (xs : List α) (j : Nat), forT (fun _ x r => if (!p x) = true then false else r) k xs j = (xs.all p && k)
  | [], _ => by simp [forT]
  | x :: xs, j => by
    show (if (!p x) = true then false else forT _ _ xs (j + 1)) = _
    rw [forT_every p k xs (j + 1), List.all_cons]
    cases h : p x <;> simp
theorem Fit_eq (hN : big ≤ N) (a b : List (Str × Str)) (ha : a.length ≤ maxLen) (hb : b.length ≤ maxLen) : config_Fit N a b = some (a.all (hasPair b)) := by
  unfold config_Fit
  rw [show a.all (hasPair b) = (a.all (hasPair b) && true) by simp, ← forT_every _ _ _ 0]
  refine loop_for (fun _ _ => rfl) a ha (fun self i h r hr => ?_) (fun self => ?_) hN
  · simp only [config_Fit_L0T, geti_lt a h, wrap_succ ha h, hr, bnd_some, Contains_pair hN b hb]
    rw [lt_tt h, br_true, br_ite]
  · simp only [config_Fit_L0T, lt_ff, br_false]
/-- Pairs that are right name settings that there are. -/
theorem prevS_keep {α : Type} {l : List (Str × α)} {i : Nat} {n : Str} {r : Int} (h : prevS l i n r = 0) : r = 0 := by
  unfold prevS at h
  split at h
  · exact h
  · split at h
    · split at h
      · cases h
      · exact h
    · exact h
/-- Whether a condition holds. -/
def holdsS (l : List (Str × List Str)) (x : Str × List (Str × Str) × List (Str × Str)) (c : List (Str × Str)) (p : Str × List (Str × Str)) : Bool :=
  x.2.1.all (fun n => valueS l c n.1 == n.2) && x.2.2.all (hasPair p.2)
/-- Holds. -/
def HoldsS (l : List (Str × List Str)) (x : Str × List (Str × Str) × List (Str × Str)) (c : List (Str × Str)) (p : Str × List (Str × Str)) : Bool × Int :=
  if configS l c ≠ 0 then (false, configS l c) else if conditionsS l [x] ≠ 0 then (false, conditionsS l [x]) else if platformsS [p] ≠ 0 then (false, platformsS [p]) else (holdsS l x c p, 0)
theorem fit_one {t : Ty} {x : t.den} (h : Fit t x) : Fit (.sl t) [x] := ⟨by show 1 ≤ maxLen; decide, fun y hy => by rw [List.mem_singleton.1 hy]; exact h⟩
theorem br_ne {R : Type} (n : Int) (x y : Option R) : br (n != 0) x y = if n ≠ 0 then x else y := by
  rw [ne_zero_dec, br_eq_ite]; simp only [decide_eq_true_eq]
abbrev worldTy : Ty := .pr settingTy (.pr (.sl condTy) (.pr platformTy (.pr (.sl (.pr .str (.pr .str (.pr (.sl (.pr .str .str)) (.sl (.pr .str .str)))))) (.sl (.pr .str (.pr (.sl (.pr .str .str)) (.sl .str)))))))
end Go.Proofs.YtbekhaioddmliaaDoor
