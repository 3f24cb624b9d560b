/- What the checks of platforms and conditions compute, and Holds. No program in sight. -/
import Derived.Test.YtbekhaioddmliaaDoorCfF6
import Derived.Test.YtbekhaioddmliaaDoorLChecks
namespace Go.Proofs.YtbekhaioddmliaaDoor
set_option linter.unusedVariables false
set_option linter.unusedSimpArgs false
open Go Go.RowKit
variable {N : Nat}
theorem decode_low (s : ByteArray) (i : Nat) (h : (s.get! i).toNat < 128) : Utf8.decode s i = ((s.get! i).toNat, 1) := by
  unfold Utf8.decode; simp [h]
theorem decode_high (s : ByteArray) (i : Nat) (h : 128 ≤ (s.get! i).toNat) : 128 ≤ (Utf8.decode s i).1 := by
  unfold Utf8.decode
  have h0 : ¬ (s.get! i).toNat < 128 := by omega
  simp only [Nat.add_zero, Nat.reduceLT]
  rw [if_neg h0]
  repeat' split
  all_goals first | (simp only [Utf8.runeError]; omega) | (simp only [ge_iff_le, Bool.and_eq_true, decide_eq_true_eq] at *; omega) | decide
theorem idx_bad (s : Str) (q : Nat → Bool) (hq : ∀ n, q n = decide (n < 32 ∨ 126 < n)) : ∀ (f pos : Nat), s.length ≤ pos + f →
    decide (0 ≤ Lib.idxFuncFrom q true ⟨s.toArray⟩ f pos) = (s.drop pos).any (fun b => decide (b.toNat < 32 ∨ 126 < b.toNat))
  | 0, pos, h => by rw [List.drop_eq_nil_of_le (by omega)]; rfl
  | f + 1, pos, h => by
    unfold Lib.idxFuncFrom
    by_cases hp : pos < s.length
    · have hsz : pos < (⟨s.toArray⟩ : ByteArray).size := hp
      rw [if_pos hsz, List.drop_eq_getElem_cons hp, List.any_cons]
      have hg : (⟨s.toArray⟩ : ByteArray).get! pos = s[pos] := by
        show (s.toArray)[pos]! = _
        simp [hp]
      by_cases hb : s[pos].toNat < 128
      · rw [decode_low _ _ (by rw [hg]; exact hb), hg, hq]
        by_cases hc : s[pos].toNat < 32 ∨ 126 < s[pos].toNat
        · rw [decide_eq_true hc, if_pos rfl]; simp
        · rw [decide_eq_false hc, if_neg (by simp), Bool.false_or]
          exact idx_bad s q hq f (pos + 1) (by omega)
      · have := decode_high (⟨s.toArray⟩ : ByteArray) pos (by rw [hg]; omega)
        rw [hq, decide_eq_true (Or.inr (by omega)), if_pos rfl, decide_eq_true (show s[pos].toNat < 32 ∨ 126 < s[pos].toNat from Or.inr (by omega))]
        simp
    · have hsz : ¬ pos < (⟨s.toArray⟩ : ByteArray).size := hp
      rw [if_neg hsz, List.drop_eq_nil_of_le (by omega)]; rfl
/-- The name of a condition. -/
def condB (b : UInt8) : Bool := decide (b.toNat < 32 ∨ 126 < b.toNat)
def condS (s : Str) : Bool := decide (1 ≤ s.length) && decide (s.length ≤ 1000) && !(s == [100, 101, 102, 97, 117, 108, 116]) && !(s.any condB)
theorem ContainsFunc_eq (s : Str) : strings_ContainsFunc_config_CheckConditions_1 N s () = some (s.any condB) := by
  unfold strings_ContainsFunc_config_CheckConditions_1 Lib.idxFunc
  rw [idx_bad s _ (fun n => ?_) _ 0 (by rw [Nat.zero_add]; exact Nat.le_refl _)]
  · rfl
  · unfold config_CheckConditions_1
    rw [br_ite]
    show (if decide ((n : Int) < 32) = true then true else decide ((n : Int) > 126)) = _
    by_cases h1 : n < 32
    · rw [if_pos (decide_eq_true (by omega))]; exact (decide_eq_true (Or.inl h1)).symm
    · rw [if_neg (by simp; omega)]
      exact decide_eq_decide.2 (by omega)
theorem forT_guard {α β : Type} (p : α → Bool) (c k : β) : ∀ (xs : List α) (j : Nat), forT (fun _ x r => if p x = true then c else r) k xs j = if xs.any p = true then c else k
  | [], _ => by simp [forT]
  | x :: xs, j => by
    show (if p x = true then c else forT _ _ xs (j + 1)) = _
    rw [forT_guard p c k xs (j + 1), List.any_cons]
    cases h : p x <;> simp
theorem isCondition_eq (hN : big ≤ N) (s : Str) (hs : s.length ≤ maxLen) : ref3_isCondition N s = some (condS s) := by
  unfold ref3_isCondition
  have hk : (bnd (ref3_within N (s.length : Int) 1 1000) fun t22 => br t22 (some (!(s == ([100, 101, 102, 97, 117, 108, 116] : Str)))) (some false)) = some (decide (1 ≤ s.length) && decide (s.length ≤ 1000) && !(s == [100, 101, 102, 97, 117, 108, 116])) := by
    unfold ref3_within
    rw [(decide_eq_decide.2 (by omega) : decide ((1 : Int) ≤ (s.length : Int)) = decide (1 ≤ s.length)), (decide_eq_decide.2 (by omega) : decide ((s.length : Int) ≤ 1000) = decide (s.length ≤ 1000))]
    cases decide (1 ≤ s.length) <;> cases decide (s.length ≤ 1000) <;> simp
  have hL := loop_for (f := ref3_isCondition_L0 N s (s.length : Int) (bnd (ref3_within N (s.length : Int) 1 1000) fun t22 => br t22 (some (!(s == ([100, 101, 102, 97, 117, 108, 116] : Str)))) (some false))) (fun _ _ => rfl) s hs
    (body := fun _ b r => if condB b = true then false else r) (k := (decide (1 ≤ s.length) && decide (s.length ≤ 1000) && !(s == [100, 101, 102, 97, 117, 108, 116])))
    (fun self i h r hr => by
      simp only [ref3_isCondition_L0T, geti_lt s h, wrap_succ hs h, hr, bnd_some, v8_lt, v8_gt]
      rw [lt_tt h, br_true, br_ite, br_ite]
      unfold condB
      show some (if decide (s[i].toNat < 32) = true then false else if decide (126 < s[i].toNat) = true then false else r) = _
      by_cases h1 : s[i].toNat < 32 <;> by_cases h2 : 126 < s[i].toNat <;> simp [h1, h2])
    (fun self => by simp only [ref3_isCondition_L0T, lt_ff, br_false]; exact hk) hN
  rw [hL, forT_guard]
  unfold condS
  cases s.any condB <;> simp
/-- CheckPairs. -/
def pairsCheckS (l : List (Str × Str)) : Int := if 30 < l.length then 2 else forT (fun i x r => if !isWordS x.1 then 5 else if !isWordS x.2 then 1 else prevS l i x.1 r) 0 l 0
theorem CheckPairs_eq (hN : big ≤ N) (l : List (Str × Str)) (hl : l.length ≤ maxLen) : config_CheckPairs N l = some (pairsCheckS l) := by
  unfold config_CheckPairs pairsCheckS
  rw [loop_for (f := config_CheckPairs_L0 N l l (l.length : Int) (some 0)) (fun _ _ => rfl) l hl (body := fun i x r => if !isWordS x.1 then 5 else if !isWordS x.2 then 1 else prevS l i x.1 r) (k := 0)
    (fun self i h r hr => by
      simp only [config_CheckPairs_L0T, geti_lt l h, wrap_succ hl h, hr, bnd_some, config_IsWord_eq]
      rw [lt_tt h, br_true, prev_eq hl h, br_ite, br_ite])
    (fun self => by simp only [config_CheckPairs_L0T, lt_ff, br_false]) hN,
    (decide_eq_decide.2 (by omega) : decide ((l.length : Int) > 30) = decide (30 < l.length)), br_ite]
  simp only [decide_eq_true_eq]
theorem checkPairs_eq (hN : big ≤ N) (l : List (Str × Str)) (hl : Fit pairTy l) : ref3_checkPairs N l = some (pairsCheckS l) := by
  unfold ref3_checkPairs pairsCheckS
  rw [loop_for (f := ref3_checkPairs_L0 N l l (l.length : Int) (some 0)) (fun _ _ => rfl) l hl.1 (body := fun i x r => if !isWordS x.1 then 5 else if !isWordS x.2 then 1 else prevS l i x.1 r) (k := 0)
    (fun self i h r hr => by
      have hx := hl.2 _ (List.getElem_mem h)
      simp only [ref3_checkPairs_L0T, geti_lt l h, wrap_succ hl.1 h, hr, bnd_some, ref3_IsWord_eq hN _ hx.1, ref3_IsWord_eq hN _ hx.2]
      rw [lt_tt h, br_true, prev_eq hl.1 h, br_ite, br_ite])
    (fun self => by simp only [ref3_checkPairs_L0T, lt_ff, br_false]) hN,
    (decide_eq_decide.2 (by omega) : decide ((l.length : Int) > 30) = decide (30 < l.length)), br_ite]
  simp only [decide_eq_true_eq]
abbrev platformTy : Ty := .sl (.pr .str (.sl (.pr .str .str)))
/-- CheckPlatforms. -/
def platformsB (l : List (Str × List (Str × Str))) (i : Nat) (x : Str × List (Str × Str)) (r : Int) : Int :=
  if !isWordS x.1 then 5 else if decide (pairsCheckS x.2 ≠ 0) then pairsCheckS x.2 else if (l.take i).any (fun y => y.1 == x.1) then 7 else r
def platformsS (l : List (Str × List (Str × Str))) : Int := if 50 < l.length then 2 else forT (platformsB l) 0 l 0
theorem IndexFunc_platform (hN : big ≤ N) (xs : List (Str × List (Str × Str))) (hx : xs.length ≤ maxLen) (q : Str × List (Str × Str)) : slices_IndexFunc_api_Platform N xs (q, ()) = some (idxP (fun x => x.1 == q.1) xs) := by
  unfold slices_IndexFunc_api_Platform
  refine loop_for (fun _ _ => rfl) xs hx (fun self i h r hr => ?_) (fun self => ?_) hN
  · simp only [slices_IndexFunc_api_Platform_L0T, geti_lt xs h, wrap_succ hx h, hr, bnd_some, config_CheckPlatforms_1]
    rw [lt_tt h, br_true, br_ite]
  · simp only [slices_IndexFunc_api_Platform_L0T, lt_ff, br_false]
theorem CheckPlatforms_eq (hN : big ≤ N) (l : List (Str × List (Str × Str))) (hl : Fit platformTy l) : config_CheckPlatforms N l = some (platformsS l) := by
  unfold config_CheckPlatforms platformsS
  rw [loop_for (f := config_CheckPlatforms_L0 N l l (l.length : Int) (some 0)) (fun _ _ => rfl) l hl.1 (body := platformsB l) (k := 0)
    (fun self i h r hr => by
      have hx := hl.2 _ (List.getElem_mem h)
      have ht : (l.take i).length ≤ maxLen := by have := hl.1; rw [List.length_take]; omega
      simp only [config_CheckPlatforms_L0T, geti_lt l h, wrap_succ hl.1 h, hr, bnd_some, config_IsWord_eq, CheckPairs_eq hN _ hx.2.1, slc_take l (Nat.le_of_lt h), slices_ContainsFunc_api_Platform, IndexFunc_platform hN _ ht, idxP_nonneg]
      rw [lt_tt h, br_true, br_ite, ne_zero_dec, br_ite, br_ite]; rfl)
    (fun self => by simp only [config_CheckPlatforms_L0T, lt_ff, br_false]) hN,
    (decide_eq_decide.2 (by omega) : decide ((l.length : Int) > 50) = decide (50 < l.length)), br_ite]
  simp only [decide_eq_true_eq]
theorem ref_CheckPlatforms_eq (hN : big ≤ N) (l : List (Str × List (Str × Str))) (hl : Fit platformTy l) : ref3_CheckPlatforms N l = some (platformsS l) := by
  unfold ref3_CheckPlatforms platformsS
  rw [loop_for (f := ref3_CheckPlatforms_L0 N l l (l.length : Int) (some 0)) (fun _ _ => rfl) l hl.1 (body := platformsB l) (k := 0)
    (fun self i h r hr => by
      have hx := hl.2 _ (List.getElem_mem h)
      have ht : (l.take i).length ≤ maxLen := by have := hl.1; rw [List.length_take]; omega
      have hin : ref3_CheckPlatforms_L1 N (l.take i) ((l.take i).length : Int) l[i].1 (some r) N 0 = some (if (l.take i).any (fun y => y.1 == l[i].1) then 7 else r) := by
        rw [← forT_guard _ _ _ _ 0]
        refine loop_for (fun _ _ => rfl) _ ht (fun self j hj r' hr' => ?_) (fun self => ?_) hN
        · simp only [ref3_CheckPlatforms_L1T, geti_lt _ hj, wrap_succ ht hj, hr', bnd_some]
          rw [lt_tt hj, br_true, br_ite]
        · simp only [ref3_CheckPlatforms_L1T, lt_ff, br_false]
      simp only [ref3_CheckPlatforms_L0T, geti_lt l h, wrap_succ hl.1 h, hr, bnd_some, ref3_IsWord_eq hN _ hx.1, checkPairs_eq hN _ hx.2, slc_take l (Nat.le_of_lt h), hin]
      rw [lt_tt h, br_true, ne_zero_dec, br_ite, br_ite]; rfl)
    (fun self => by simp only [ref3_CheckPlatforms_L0T, lt_ff, br_false]) hN,
    (decide_eq_decide.2 (by omega) : decide ((l.length : Int) > 50) = decide (50 < l.length)), br_ite]
  simp only [decide_eq_true_eq]
theorem checkNeeds_eq (hN : big ≤ N) (l : List (Str × List Str)) (hl : Fit settingTy l) (c : List (Str × Str)) (hc : c.length ≤ maxLen) : ref3_checkNeeds N l c = some (pairsS l c false) := by
  unfold ref3_checkNeeds
  refine loop_for (fun _ _ => rfl) c hc (fun self i h' r hr => ?_) (fun self => ?_) hN
  · simp only [ref3_checkNeeds_L0T, geti_lt c h', wrap_succ hc h', hr, bnd_some, settingOf_eq hN l hl.1]
    rw [lt_tt h', br_true]
    unfold pairB
    cases hf : l.find? (fun s => s.1 == c[i].1) with
    | none => simp [findF, hf]
    | some s =>
      have hff : findF (fun s : Str × List Str => s.1 == c[i].1) (fun s => (s, true)) (([], []), false) l = (s, true) := by unfold findF; rw [hf]
      rw [hff]
      have hm := List.mem_of_find?_eq_some hf
      simp only [slices_Contains_eq hN _ (hl.2 _ hm).2.1, bnd_some, prev_eq hc h']
      simp only [br_ite]
      simp
  · simp only [ref3_checkNeeds_L0T, lt_ff, br_false]
abbrev condTy : Ty := .pr .str (.pr (.sl (.pr .str .str)) (.sl (.pr .str .str)))
/-- CheckConditions. -/
def condB1 (l : List (Str × List Str)) (m : List (Str × List (Str × Str) × List (Str × Str))) (i : Nat) (x : Str × List (Str × Str) × List (Str × Str)) (r : Int) : Int :=
  if !condS x.1 then 3 else if decide (30 < x.2.1.length) then 2 else if decide (30 < x.2.2.length) then 2 else
    if decide (pairsS l x.2.1 false ≠ 0) then pairsS l x.2.1 false else if decide (pairsCheckS x.2.2 ≠ 0) then pairsCheckS x.2.2 else prevS m i x.1 r
def conditionsS (l : List (Str × List Str)) (m : List (Str × List (Str × Str) × List (Str × Str))) : Int :=
  if settingsS l ≠ 0 then settingsS l else if 100 < m.length then 2 else forT (condB1 l m) 0 m 0
theorem CheckConditions_eq (hN : big ≤ N) (l : List (Str × List Str)) (hl : Fit settingTy l) (m : List (Str × List (Str × Str) × List (Str × Str))) (hm : Fit (.sl condTy) m) : config_CheckConditions N l m = some (conditionsS l m) := by
  unfold config_CheckConditions conditionsS
  rw [settings_eq hN l hl, bnd_some, ne_zero_dec]
  by_cases hz : settingsS l = 0
  · rw [decide_eq_false (by simpa using hz), br_false, if_neg (by simpa using hz),
      loop_for (f := config_CheckConditions_L0 N l m m (m.length : Int) (some 0)) (fun _ _ => rfl) m hm.1 (body := condB1 l m) (k := 0)
      (fun self i h r hr => by
        have hx := hm.2 _ (List.getElem_mem h)
        simp only [config_CheckConditions_L0T, geti_lt m h, wrap_succ hm.1 h, hr, bnd_some, ContainsFunc_eq, checkSet_eq hN l hl _ hx.2.1.1 (settings_some hz), CheckPairs_eq hN _ hx.2.2.1]
        rw [lt_tt h, br_true, prev_eq hm.1 h, ne_zero_dec, ne_zero_dec]
        unfold condB1 condS
        rw [(not_dec (by omega) : decide ((m[i].1.length : Int) < 1) = !decide (1 ≤ m[i].1.length)), (not_dec (by omega) : decide ((m[i].1.length : Int) > 1000) = !decide (m[i].1.length ≤ 1000)),
          (decide_eq_decide.2 (by omega) : decide ((m[i].2.1.length : Int) > 30) = decide (30 < m[i].2.1.length)), (decide_eq_decide.2 (by omega) : decide ((m[i].2.2.length : Int) > 30) = decide (30 < m[i].2.2.length))]
        simp only [br_ite]
        cases decide (1 ≤ m[i].1.length) <;> cases decide (m[i].1.length ≤ 1000) <;> cases (m[i].1 == [100, 101, 102, 97, 117, 108, 116]) <;> cases m[i].1.any condB <;> simp)
      (fun self => by simp only [config_CheckConditions_L0T, lt_ff, br_false]) hN,
      (decide_eq_decide.2 (by omega) : decide ((m.length : Int) > 100) = decide (100 < m.length)), br_ite]
    simp only [decide_eq_true_eq]
  · rw [decide_eq_true hz, br_true, if_pos hz]
theorem ref_CheckConditions_eq (hN : big ≤ N) (l : List (Str × List Str)) (hl : Fit settingTy l) (m : List (Str × List (Str × Str) × List (Str × Str))) (hm : Fit (.sl condTy) m) : ref3_CheckConditions N l m = some (conditionsS l m) := by
  unfold ref3_CheckConditions conditionsS
  rw [ref_settings_eq hN l hl, bnd_some, ne_zero_dec]
  by_cases hz : settingsS l = 0
  · rw [decide_eq_false (by simpa using hz), br_false, if_neg (by simpa using hz),
      loop_for (f := ref3_CheckConditions_L0 N l m m (m.length : Int) (some 0)) (fun _ _ => rfl) m hm.1 (body := condB1 l m) (k := 0)
      (fun self i h r hr => by
        have hx := hm.2 _ (List.getElem_mem h)
        simp only [ref3_CheckConditions_L0T, geti_lt m h, wrap_succ hm.1 h, hr, bnd_some, isCondition_eq hN _ hx.1, checkNeeds_eq hN l hl _ hx.2.1.1, checkPairs_eq hN _ hx.2.2]
        rw [lt_tt h, br_true, prev_eq hm.1 h, ne_zero_dec, ne_zero_dec]
        unfold condB1
        rw [(decide_eq_decide.2 (by omega) : decide ((m[i].2.1.length : Int) > 30) = decide (30 < m[i].2.1.length)), (decide_eq_decide.2 (by omega) : decide ((m[i].2.2.length : Int) > 30) = decide (30 < m[i].2.2.length))]
        simp only [br_ite])
      (fun self => by simp only [ref3_CheckConditions_L0T, lt_ff, br_false]) hN,
      (decide_eq_decide.2 (by omega) : decide ((m.length : Int) > 100) = decide (100 < m.length)), br_ite]
    simp only [decide_eq_true_eq]
  · rw [decide_eq_true hz, br_true, if_pos hz]
/-- Whether pairs are among others. -/
def hasPair (b : List (Str × Str)) (x : Str × Str) : Bool := b.any fun y => eqb (.pr .str .str) x y
theorem Contains_pair (hN : big ≤ N) (xs : List (Str × Str)) (hx : xs.length ≤ maxLen) (x : Str × Str) : slices_Contains_api_Pair N xs x = some (hasPair xs x) := by
  unfold slices_Contains_api_Pair slices_Index_api_Pair
  have hL : slices_Index_api_Pair_L0 N xs (xs.length : Int) x.1 x.2 (some (-1)) N 0 = some (idxP (fun y => eqb (.pr .str .str) x y) xs) := by
    refine loop_for (fun _ _ => rfl) xs hx (fun self i h r hr => ?_) (fun self => ?_) hN
    · simp only [slices_Index_api_Pair_L0T, geti_lt xs h, wrap_succ hx h, hr, bnd_some]
      rw [lt_tt h, br_true, br_ite]
    · simp only [slices_Index_api_Pair_L0T, lt_ff, br_false]
  rw [hL, bnd_some, idxP_nonneg]; rfl
theorem forT_every {α : Type} (p : α → Bool) (k : Bool) : ∀ (xs : List α) (j : Nat), forT (fun _ x r => if (!p x) = true then false else r) k xs j = (xs.all p && k)
  | [], _ => by simp [forT]
  | x :: xs, j => by
    show (if (!p x) = true then false else forT _ _ xs (j + 1)) = _
    rw [forT_every p k xs (j + 1), List.all_cons]
    cases h : p x <;> simp
theorem Fit_eq (hN : big ≤ N) (a b : List (Str × Str)) (ha : a.length ≤ maxLen) (hb : b.length ≤ maxLen) : config_Fit N a b = some (a.all (hasPair b)) := by
  unfold config_Fit
  rw [show a.all (hasPair b) = (a.all (hasPair b) && true) by simp, ← forT_every _ _ _ 0]
  refine loop_for (fun _ _ => rfl) a ha (fun self i h r hr => ?_) (fun self => ?_) hN
  · simp only [config_Fit_L0T, geti_lt a h, wrap_succ ha h, hr, bnd_some, Contains_pair hN b hb]
    rw [lt_tt h, br_true, br_ite]
  · simp only [config_Fit_L0T, lt_ff, br_false]
theorem fits_eq (hN : big ≤ N) (a : List (Str × Str)) (b : Str × List (Str × Str)) (ha : a.length ≤ maxLen) (hb : b.2.length ≤ maxLen) : ref3_fits N a b = some (a.all (hasPair b.2)) := by
  unfold ref3_fits
  rw [show a.all (hasPair b.2) = (a.all (hasPair b.2) && true) by simp, ← forT_every _ _ _ 0]
  refine loop_for (fun _ _ => rfl) a ha (fun self i h r hr => ?_) (fun self => ?_) hN
  · simp only [ref3_fits_L0T, geti_lt a h, wrap_succ ha h, hr, bnd_some, Contains_pair hN b.2 hb]
    rw [lt_tt h, br_true, br_ite]
  · simp only [ref3_fits_L0T, lt_ff, br_false]
/-- Pairs that are right name settings that there are. -/
theorem prevS_keep {α : Type} {l : List (Str × α)} {i : Nat} {n : Str} {r : Int} (h : prevS l i n r = 0) : r = 0 := by
  unfold prevS at h
  split at h
  · exact h
  · split at h
    · split at h
      · cases h
      · exact h
    · exact h
theorem pairs_found {l : List (Str × List Str)} {c : List (Str × Str)} {strict : Bool} (h : pairsS l c strict = 0) : ∀ p ∈ c, (l.find? (fun s => s.1 == p.1)).isSome = true := by
  refine forT_keep (p := fun p : Str × Str => (l.find? (fun s => s.1 == p.1)).isSome = true) (fun i x r hb => ?_) c 0 h
  unfold pairB at hb
  split at hb
  · cases hb
  · rename_i s hf
    split at hb
    · cases hb
    · split at hb
      · cases hb
      · exact ⟨by rw [hf]; rfl, prevS_keep hb⟩
theorem cond_found {l : List (Str × List Str)} {m : List (Str × List (Str × Str) × List (Str × Str))} (h : conditionsS l m = 0) : settingsS l = 0 ∧ ∀ x ∈ m, pairsS l x.2.1 false = 0 := by
  unfold conditionsS at h
  split at h
  · rename_i h'; exact absurd h h'
  · rename_i h'
    refine ⟨Classical.not_not.1 h', ?_⟩
    split at h
    · cases h
    · refine forT_keep (p := fun x : Str × List (Str × Str) × List (Str × Str) => pairsS l x.2.1 false = 0) (fun i x r hb => ?_) m 0 h
      unfold condB1 at hb
      split at hb
      · cases hb
      · split at hb
        · cases hb
        · split at hb
          · cases hb
          · split at hb
            · rename_i h1; exact absurd hb (by simpa using h1)
            · rename_i h1
              split at hb
              · rename_i h2; exact absurd hb (by simpa using h2)
              · exact ⟨by simpa using h1, prevS_keep hb⟩
/-- Whether a condition holds. -/
def holdsS (l : List (Str × List Str)) (x : Str × List (Str × Str) × List (Str × Str)) (c : List (Str × Str)) (p : Str × List (Str × Str)) : Bool :=
  x.2.1.all (fun n => valueS l c n.1 == n.2) && x.2.2.all (hasPair p.2)
theorem holds_eq (hN : big ≤ N) (l : List (Str × List Str)) (hl : Fit settingTy l) (x : Str × List (Str × Str) × List (Str × Str)) (hx : Fit condTy x) (c : List (Str × Str)) (hc : c.length ≤ maxLen) (p : Str × List (Str × Str)) (hp : p.2.length ≤ maxLen)
    (hs : settingsS l = 0) (hn : ∀ n ∈ x.2.1, (l.find? (fun s => s.1 == n.1)).isSome = true) : config_holds N l x c p = some (holdsS l x c p) := by
  unfold config_holds holdsS
  rw [← forT_every _ _ _ 0]
  refine loop_for (fun _ _ => rfl) x.2.1 hx.2.1.1 (fun self i h r hr => ?_) (fun self => ?_) hN
  · simp only [config_holds_L0T, geti_lt _ h, wrap_succ hx.2.1.1 h, hr, bnd_some, valueOf_eq hN l hl c hc (settings_some hs) _ (hn _ (List.getElem_mem h))]
    rw [lt_tt h, br_true, br_ite]
  · simp only [config_holds_L0T, lt_ff, br_false, Fit_eq hN _ _ hx.2.2.1 hp, bnd_some]
theorem ref_holds_eq (hN : big ≤ N) (l : List (Str × List Str)) (hl : Fit settingTy l) (x : Str × List (Str × Str) × List (Str × Str)) (hx : Fit condTy x) (c : List (Str × Str)) (hc : c.length ≤ maxLen) (p : Str × List (Str × Str)) (hp : p.2.length ≤ maxLen)
    (hs : settingsS l = 0) (hn : ∀ n ∈ x.2.1, (l.find? (fun s => s.1 == n.1)).isSome = true) : ref3_holds N l x c p = some (holdsS l x c p) := by
  unfold ref3_holds holdsS
  rw [← forT_every _ _ _ 0]
  refine loop_for (fun _ _ => rfl) x.2.1 hx.2.1.1 (fun self i h r hr => ?_) (fun self => ?_) hN
  · simp only [ref3_holds_L0T, geti_lt _ h, wrap_succ hx.2.1.1 h, hr, bnd_some, ref_valueOf_eq hN l hl c hc (settings_some hs) _ (hn _ (List.getElem_mem h))]
    rw [lt_tt h, br_true, br_ite]
  · simp only [ref3_holds_L0T, lt_ff, br_false, fits_eq hN _ _ hx.2.2.1 hp, bnd_some]
/-- Holds. -/
def HoldsS (l : List (Str × List Str)) (x : Str × List (Str × Str) × List (Str × Str)) (c : List (Str × Str)) (p : Str × List (Str × Str)) : Bool × Int :=
  if configS l c ≠ 0 then (false, configS l c) else if conditionsS l [x] ≠ 0 then (false, conditionsS l [x]) else if platformsS [p] ≠ 0 then (false, platformsS [p]) else (holdsS l x c p, 0)
theorem fit_one {t : Ty} {x : t.den} (h : Fit t x) : Fit (.sl t) [x] := ⟨by show 1 ≤ maxLen; decide, fun y hy => by rw [List.mem_singleton.1 hy]; exact h⟩
theorem br_ne {R : Type} (n : Int) (x y : Option R) : br (n != 0) x y = if n ≠ 0 then x else y := by
  rw [ne_zero_dec, br_eq_ite]; simp only [decide_eq_true_eq]
theorem Holds_eq (hN : big ≤ N) (l : List (Str × List Str)) (hl : Fit settingTy l) (x : Str × List (Str × Str) × List (Str × Str)) (hx : Fit condTy x) (c : List (Str × Str)) (hc : c.length ≤ maxLen) (p : Str × List (Str × Str)) (hp : Fit (.pr .str (.sl (.pr .str .str))) p) :
    config_Holds N l x c p = some (HoldsS l x c p) ∧ ref3_Holds N l x c p = some (HoldsS l x c p) := by
  unfold config_Holds ref3_Holds HoldsS
  simp only [checkConfig_eq hN l hl c hc, ref_checkConfig_eq hN l hl c hc, CheckConditions_eq hN l hl _ (fit_one hx), ref_CheckConditions_eq hN l hl _ (fit_one hx), CheckPlatforms_eq hN _ (fit_one hp), ref_CheckPlatforms_eq hN _ (fit_one hp), bnd_some, br_ne]
  by_cases h1 : configS l c = 0
  · by_cases h2 : conditionsS l [x] = 0
    · by_cases h3 : platformsS [p] = 0
      · have hf := cond_found h2
        have hn := pairs_found (hf.2 x (List.mem_singleton.2 rfl))
        rw [holds_eq hN l hl x hx c hc p hp.2.1 hf.1 hn, ref_holds_eq hN l hl x hx c hc p hp.2.1 hf.1 hn]
        simp [h1, h2, h3]
      · simp [h1, h2, h3]
    · simp [h1, h2]
  · simp [h1]
abbrev worldTy : Ty := .pr settingTy (.pr (.sl condTy) (.pr platformTy (.pr (.sl (.pr .str (.pr .str (.pr (.sl (.pr .str .str)) (.sl (.pr .str .str)))))) (.sl (.pr .str (.pr (.sl (.pr .str .str)) (.sl .str)))))))
theorem plain_ConfigHoldsMatchesSpec (x : worldTy.den) (m : condTy.den) (c : List (Str × Str)) (p : Str × List (Str × Str)) (hx : Fit worldTy x) (hm : Fit condTy m) (hc : Fit pairTy c) (hp : Fit (.pr .str (.sl (.pr .str .str))) p) : ∃ N, law3_ConfigHoldsMatchesSpec N x m c p = some true := by
  have hN : big ≤ big := Nat.le_refl _
  refine ⟨big, ?_⟩
  unfold law3_ConfigHoldsMatchesSpec
  have h := Holds_eq hN x.1 hx.1 m hm c hc.1 p hp
  simp only [h.1, h.2, CheckPlatforms_eq hN _ hx.2.2.1, ref_CheckPlatforms_eq hN _ hx.2.2.1, CheckConditions_eq hN _ hx.1 _ hx.2.1, ref_CheckConditions_eq hN _ hx.1 _ hx.2.1, bnd_some, beq_self_eq_true, br_true, awake_eq]
end Go.Proofs.YtbekhaioddmliaaDoor
