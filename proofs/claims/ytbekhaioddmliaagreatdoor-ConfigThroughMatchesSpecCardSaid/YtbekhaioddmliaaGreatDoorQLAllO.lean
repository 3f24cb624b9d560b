/- What the checks of settings and configurations compute. No program in sight. -/
import Derived.Test.YtbekhaioddmliaaGreatDoorQEnd
import Derived.Test.YtbekhaioddmliaaGreatDoorQSlc
import Derived.KernelRfl
import Derived.Test.YtbekhaioddmliaaGreatDoorQZeT
namespace Go.Proofs.YtbekhaioddmliaaGreatDoor
set_option linter.unusedVariables false
set_option linter.unusedSimpArgs false
open Go Go.RowKit
variable {N : Nat}
/-- A byte of a word. -/
def wordB (b : UInt8) : Bool := [97, 98, 99, 100, 101, 102, 103, 104, 105, 106, 107, 108, 109, 110, 111, 112, 113, 114, 115, 116, 117, 118, 119, 120, 121, 122, 48, 49, 50, 51, 52, 53, 54, 55, 56, 57, 95, 45].contains b
def isWordS (s : Str) : Bool := match s with
  | [] => false
  | b :: _ => decide (s.length ≤ 40) && decide (97 ≤ b.toNat) && decide (b.toNat ≤ 122) && s.all wordB
theorem dropWhile_nil {α : Type} {p : α → Bool} : ∀ {l : List α}, l.dropWhile p = [] ↔ l.all p = true
  | [] => by simp
  | x :: l => by
    cases h : p x with
    | true => rw [List.dropWhile_cons_of_pos h]; simp [dropWhile_nil, h]
    | false => rw [List.dropWhile_cons_of_neg (by simp [h])]; simp [h]
theorem all_reverse {α : Type} (p : α → Bool) (l : List α) : l.reverse.all p = l.all p := by simp
theorem all_dropWhile {α : Type} (p : α → Bool) : ∀ l : List α, (l.dropWhile p).all p = l.all p
  | [] => rfl
  | x :: l => by
    cases h : p x with
    | true => rw [List.dropWhile_cons_of_pos h]; simp [all_dropWhile p l, h]
    | false => rw [List.dropWhile_cons_of_neg (by simp [h])]
theorem trimS_nil (s cs : Str) : (Lib.trimS s cs == []) = s.all (cs.contains ·) := by
  have h : Lib.trimS s cs = [] ↔ s.all (cs.contains ·) = true := by
    unfold Lib.trimS Lib.trimLeftS Lib.trimRightS
    rw [dropWhile_nil, all_reverse, all_dropWhile, all_reverse]
  cases hb : s.all (cs.contains ·) with
  | true => rw [h.2 hb]; rfl
  | false =>
    cases ht : Lib.trimS s cs with
    | nil => rw [h.1 ht] at hb; cases hb
    | cons => rfl
theorem wordB_byte (b : UInt8) : wordB b = decide ((97 ≤ b.toNat ∧ b.toNat ≤ 122) ∨ (48 ≤ b.toNat ∧ b.toNat ≤ 57) ∨ b.toNat = 45 ∨ b.toNat = 95) := by
  have : ∀ n : Fin 256, wordB (UInt8.ofNat n.val) = decide ((97 ≤ n.val ∧ n.val ≤ 122) ∨ (48 ≤ n.val ∧ n.val ≤ 57) ∨ n.val = 45 ∨ n.val = 95) := by decide +kernel
  have h := this ⟨b.toNat, b.toNat_lt⟩
  simpa using h
theorem config_IsWord_eq (x : Str) : config_IsWord N x = some (isWordS x) := by
  cases x with
  | nil => simp [config_IsWord, isWordS]
  | cons b x =>
    unfold config_IsWord isWordS
    simp only [geti_zero, List.getElem?_cons_zero, bnd_some]
    rw [show decide (((b :: x).length : Int) < 1) = false from decide_eq_false (by simp; omega), br_false, v8_lt, v8_gt,
      not_dec (p := b.toNat < UInt8.toNat 97) (q := 97 ≤ b.toNat) (by show b.toNat < 97 ↔ _; omega), not_dec (p := UInt8.toNat 122 < b.toNat) (q := b.toNat ≤ 122) (by show 122 < b.toNat ↔ _; omega)]
    by_cases h40 : (b :: x).length ≤ 40
    · have e5 : ∀ cs : Str, cs.length < 1000000 → cs.all (fun c => decide (c.toNat < 128)) = true → strings_Trim (b :: x) cs = some (Lib.trimS (b :: x) cs) := fun cs h1 h2 => if_pos ⟨by omega, h1, h2⟩
      rw [decide_eq_false (show ¬ ((b :: x).length : Int) > 40 by omega), br_false, e5 _ (by decide) (by decide), bnd_some, trimS_nil, decide_eq_true h40]
      show br (!decide (97 ≤ b.toNat)) (some false) (br (!decide (b.toNat ≤ 122)) (some false) (some ((b :: x).all wordB))) = some (true && decide (97 ≤ b.toNat) && decide (b.toNat ≤ 122) && (b :: x).all wordB)
      generalize (b :: x).all wordB = q
      cases decide (97 ≤ b.toNat) <;> cases decide (b.toNat ≤ 122) <;> simp
    · rw [decide_eq_true (show ((b :: x).length : Int) > 40 by omega), br_true, decide_eq_false h40]; rfl
theorem forT_all {α : Type} (p : α → Bool) : ∀ (xs : List α) (j : Nat), forT (fun _ x r => if p x = true then r else false) true xs j = xs.all p
  | [], _ => rfl
  | x :: xs, j => by
    show (if p x = true then forT _ _ xs (j + 1) else false) = _
    rw [forT_all p xs (j + 1)]; cases h : p x <;> simp [h]
theorem ref3_IsWord_eq (hN : big ≤ N) (x : Str) (hx : x.length ≤ maxLen) : ref3_IsWord N x = some (isWordS x) := by
  unfold ref3_IsWord ref3_within
  cases x with
  | nil => simp [isWordS]
  | cons b x =>
    simp only [geti_zero, List.getElem?_cons_zero, bnd_some]
    rw [decide_eq_true (show (1 : Int) ≤ ((b :: x).length : Int) by simp; omega), br_true, bnd_some, v8_lt, v8_gt,
      not_dec (p := b.toNat < UInt8.toNat 97) (q := 97 ≤ b.toNat) (by show b.toNat < 97 ↔ _; omega), not_dec (p := UInt8.toNat 122 < b.toNat) (q := b.toNat ≤ 122) (by show 122 < b.toNat ↔ _; omega),
      decide_eq_decide.2 (show ((b :: x).length : Int) ≤ 40 ↔ (b :: x).length ≤ 40 by omega)]
    have hL : ref3_IsWord_L0 N (b :: x) ((b :: x).length : Int) (some true) N 0 = some ((b :: x).all wordB) := by
      rw [← forT_all wordB _ 0]
      refine loop_for (fun _ _ => rfl) (b :: x) hx (fun self i h r hr => ?_) (fun self => ?_) hN
      · simp only [ref3_IsWord_L0T, geti_lt _ h, wrap_succ hx h, hr]
        rw [wordB_byte, decide_eq_true (show (i : Int) < ((b :: x).length : Int) by omega), br_true, bnd_some]
        generalize (b :: x)[i] = c
        simp only [v8_lt, v8_gt, v8_bne, br_eq_ite]
        have hn := c.toNat_lt
        generalize c.toNat = n at hn ⊢
        rw [show UInt8.toNat 97 = 97 from rfl, show UInt8.toNat 48 = 48 from rfl, show UInt8.toNat 45 = 45 from rfl, show UInt8.toNat 95 = 95 from rfl, show UInt8.toNat 57 = 57 from rfl, show UInt8.toNat 122 = 122 from rfl]
        simp only [decide_eq_true_eq, Bool.not_eq_true', decide_eq_false_iff_not]
        by_cases hw : (97 ≤ n ∧ n ≤ 122) ∨ (48 ≤ n ∧ n ≤ 57) ∨ n = 45 ∨ n = 95
        · rw [if_pos hw]
          repeat' split
          all_goals first | rfl | omega
        · rw [if_neg hw]
          repeat' split
          all_goals first | rfl | omega
      · simp [ref3_IsWord_L0T]
    rw [hL]
    show _ = some (decide ((b :: x).length ≤ 40) && decide (97 ≤ b.toNat) && decide (b.toNat ≤ 122) && (b :: x).all wordB)
    generalize (b :: x).all wordB = q
    cases decide ((b :: x).length ≤ 40) <;> cases decide (97 ≤ b.toNat) <;> cases decide (b.toNat ≤ 122) <;> simp
theorem slices_Index_eq (hN : big ≤ N) (xs : List Str) (hx : xs.length ≤ maxLen) (x : Str) : slices_Index_string_string N xs x = some (idxP (x == ·) xs) := by
  unfold slices_Index_string_string
  refine loop_for (fun _ _ => rfl) xs hx (fun self i h r hr => ?_) (fun self => ?_) hN
  · simp only [slices_Index_string_string_L0T, geti_lt xs h, wrap_succ hx h, hr, bnd_some]
    rw [lt_tt h, br_true, br_ite]
  · simp [slices_Index_string_string_L0T]
theorem slices_Contains_eq (hN : big ≤ N) (xs : List Str) (hx : xs.length ≤ maxLen) (x : Str) : slices_Contains_string_string N xs x = some (xs.any (x == ·)) := by
  unfold slices_Contains_string_string
  rw [slices_Index_eq hN xs hx, bnd_some, idxP_nonneg]
theorem find_1_eq (x : Str × List Str) (n : Str) : config_find_1 N x n = some (x.1 == n) := rfl
theorem IndexFunc_eq (hN : big ≤ N) (xs : List (Str × List Str)) (hx : xs.length ≤ maxLen) (n : Str) : slices_IndexFunc_api_Setting N xs (n, ()) = some (idxP (fun x => x.1 == n) xs) := by
  unfold slices_IndexFunc_api_Setting
  refine loop_for (fun _ _ => rfl) xs hx (fun self i h r hr => ?_) (fun self => ?_) hN
  · simp only [slices_IndexFunc_api_Setting_L0T, geti_lt xs h, wrap_succ hx h, hr, bnd_some, find_1_eq]
    rw [lt_tt h, br_true, br_ite]
  · simp only [slices_IndexFunc_api_Setting_L0T, lt_ff, br_false]
theorem find_eq (hN : big ≤ N) (xs : List (Str × List Str)) (hx : xs.length ≤ maxLen) (n : Str) : config_find N xs n = some (idxP (fun x => x.1 == n) xs) := by
  unfold config_find
  rw [IndexFunc_eq hN xs hx, bnd_some]
/-- The text before an element of a list of pairs. -/
def prevS {α : Type} (l : List (Str × α)) (i : Nat) (n : Str) (r : Int) : Int := if i = 0 then r else match l[i - 1]? with | some y => if (Op.bytesLess n y.1 || n == y.1) then 8 else r | none => r
theorem prev_eq {α : Type} {l : List (Str × α)} (hx : l.length ≤ maxLen) {i : Nat} (h : i < l.length) {n : Str} {r : Int} :
    (br (decide ((i : Int) > 0)) (bnd (geti l (IntKind.i64.wrap ((i : Int) - 1))) fun y => br (Op.bytesLess n y.1 || n == y.1) (some 8) (some r)) (some r)) = some (prevS l i n r) := by
  unfold maxLen at hx
  unfold prevS
  cases i with
  | zero => simp
  | succ j =>
    rw [wrap_pred (by omega), show ((j + 1 : Nat) : Int) - 1 = (j : Int) by omega, geti_lt l (by omega), bnd_some, br_ite, decide_eq_true (show ((j + 1 : Nat) : Int) > 0 by omega), br_true, if_neg (Nat.succ_ne_zero j)]
    rw [show j + 1 - 1 = j from rfl, List.getElem?_eq_getElem (by omega)]
/-- What settings are checked for. -/
def valuesS (rest : Int) (l : List Str) : Int := forT (fun i w r => if !isWordS w then 5 else if (l.take i).any (w == ·) then 7 else r) rest l 0
def settingsB (l : List (Str × List Str)) (i : Nat) (x : Str × List Str) (r : Int) : Int :=
  if !isWordS x.1 then 5 else if x.2.length = 0 then 9 else if 20 < x.2.length then 2 else
    valuesS (prevS l i x.1 r) x.2
def settingsS (l : List (Str × List Str)) : Int := if 30 < l.length then 2 else forT (settingsB l) 0 l 0
theorem values_eq (hN : big ≤ N) (l : List Str) (hl : l.length ≤ maxLen) {k : Option Int} {r : Int} (hk : k = some r) :
    config_CheckSettings_L1 N l (l.length : Int) l k N 0 = some (valuesS r l) := by
  refine loop_for (fun _ _ => rfl) l hl (fun self i h r' hr => ?_) (fun self => ?_) hN
  · have ht : (l.take i).length ≤ maxLen := by rw [List.length_take]; omega
    simp only [config_CheckSettings_L1T, geti_lt l h, wrap_succ hl h, hr, bnd_some, config_IsWord_eq, slc_take l (Nat.le_of_lt h), slices_Contains_eq hN _ ht]
    rw [lt_tt h, br_true, br_ite, br_ite]
  · simp only [config_CheckSettings_L1T, lt_ff, br_false, hk]
theorem settings_eq (hN : big ≤ N) (l : List (Str × List Str)) (hl : Fit (.sl (.pr .str (.sl .str))) l) : config_CheckSettings N l = some (settingsS l) := by
  unfold config_CheckSettings settingsS
  have hx : l.length ≤ maxLen := hl.1
  have hL : config_CheckSettings_L0 N l l (l.length : Int) (some 0) N 0 = some (forT (settingsB l) 0 l 0) := by
    refine loop_for (fun _ _ => rfl) l hx (fun self i h r hr => ?_) (fun self => ?_) hN
    · have hv : l[i].2.length ≤ maxLen := (hl.2 _ (List.getElem_mem h)).2.1
      simp only [config_CheckSettings_L0T, geti_lt l h, wrap_succ hx h, hr, bnd_some, config_IsWord_eq]
      rw [lt_tt h, br_true]
      rw [values_eq hN _ hv (prev_eq hx h)]
      unfold settingsB
      rw [show ((l[i].2.length : Int) == 0) = decide (l[i].2.length = 0) by show decide _ = decide _; exact decide_eq_decide.2 (by omega), (decide_eq_decide.2 (by omega) : decide ((l[i].2.length : Int) > 20) = decide (20 < l[i].2.length))]
      simp only [br_ite, decide_eq_true_eq]
    · simp only [config_CheckSettings_L0T, lt_ff, br_false]
  rw [hL, (decide_eq_decide.2 (by omega) : decide ((l.length : Int) > 30) = decide (30 < l.length)), br_ite]
  simp only [decide_eq_true_eq]
theorem ref_values_eq (hN : big ≤ N) (l : List Str) (hl : Fit (.sl .str) l) {k : Option Int} {r : Int} (hk : k = some r) :
    ref3_CheckSettings_L1 N l (l.length : Int) l k N 0 = some (valuesS r l) := by
  refine loop_for (fun _ _ => rfl) l hl.1 (fun self i h r' hr => ?_) (fun self => ?_) hN
  · have ht : (l.take i).length ≤ maxLen := by have := hl.1; rw [List.length_take]; omega
    simp only [ref3_CheckSettings_L1T, geti_lt l h, wrap_succ hl.1 h, hr, bnd_some, ref3_IsWord_eq hN _ (hl.2 _ (List.getElem_mem h)), slc_take l (Nat.le_of_lt h), slices_Contains_eq hN _ ht]
    rw [lt_tt h, br_true, br_ite, br_ite]
  · simp only [ref3_CheckSettings_L1T, lt_ff, br_false, hk]
theorem ref_settings_eq (hN : big ≤ N) (l : List (Str × List Str)) (hl : Fit (.sl (.pr .str (.sl .str))) l) : ref3_CheckSettings N l = some (settingsS l) := by
  unfold ref3_CheckSettings settingsS
  have hx : l.length ≤ maxLen := hl.1
  have hL : ref3_CheckSettings_L0 N l l (l.length : Int) (some 0) N 0 = some (forT (settingsB l) 0 l 0) := by
    refine loop_for (fun _ _ => rfl) l hx (fun self i h r hr => ?_) (fun self => ?_) hN
    · have hv := hl.2 _ (List.getElem_mem h)
      simp only [ref3_CheckSettings_L0T, geti_lt l h, wrap_succ hx h, hr, bnd_some, ref3_IsWord_eq hN _ hv.1]
      rw [lt_tt h, br_true, ref_values_eq hN _ hv.2 (prev_eq hx h)]
      unfold settingsB
      rw [show ((l[i].2.length : Int) == 0) = decide (l[i].2.length = 0) by show decide _ = decide _; exact decide_eq_decide.2 (by omega), (decide_eq_decide.2 (by omega) : decide ((l[i].2.length : Int) > 20) = decide (20 < l[i].2.length))]
      simp only [br_ite, decide_eq_true_eq]
    · simp only [ref3_CheckSettings_L0T, lt_ff, br_false]
  rw [hL, (decide_eq_decide.2 (by omega) : decide ((l.length : Int) > 30) = decide (30 < l.length)), br_ite]
  simp only [decide_eq_true_eq]
/-- Where settings are right, each has a value. -/
theorem forT_keep {α : Type} {p : α → Prop} {body : Nat → α → Int → Int} (h : ∀ i x r, body i x r = 0 → p x ∧ r = 0) : ∀ (xs : List α) (j : Nat), forT body 0 xs j = 0 → ∀ x ∈ xs, p x
  | [], _, _, _, hx => by cases hx
  | y :: ys, j, h0, x, hx => by
    obtain ⟨h1, h2⟩ := h j y _ h0
    rcases List.mem_cons.1 hx with rfl | hx
    · exact h1
    · exact forT_keep h ys (j + 1) h2 x hx
theorem values_keep {r : Int} (l : List Str) (j : Nat) (l0 : List Str) : forT (fun i w r => if !isWordS w then 5 else if (l0.take i).any (w == ·) then 7 else r) r l j = 0 → r = 0 := by
  induction l generalizing j with
  | nil => exact id
  | cons w l ih =>
    intro h
    simp only [forT] at h
    split at h
    · cases h
    · split at h
      · cases h
      · exact ih _ h
theorem settings_some {l : List (Str × List Str)} (h : settingsS l = 0) : ∀ s ∈ l, s.2 ≠ [] := by
  unfold settingsS at h
  split at h
  · cases h
  · refine forT_keep (p := fun s => s.2 ≠ []) (fun i x r hb => ?_) l 0 h
    unfold settingsB at hb
    split at hb
    · cases hb
    · split at hb
      · cases hb
      · split at hb
        · cases hb
        · rename_i h1 h2 h3
          refine ⟨fun e => h2 (by rw [e]; rfl), ?_⟩
          have := values_keep _ _ _ hb
          unfold prevS at this
          split at this
          · exact this
          · split at this
            · split at this
              · cases this
              · exact this
            · exact this
/-- What a configuration is checked for; 'strict': no default may be written. -/
def pairB (l : List (Str × List Str)) (c : List (Str × Str)) (strict : Bool) (i : Nat) (x : Str × Str) (r : Int) : Int :=
  match l.find? (fun s => s.1 == x.1) with
  | none => 5
  | some s => if !(s.2.any (x.2 == ·)) then 1 else if strict && s.2.head? == some x.2 then 3 else prevS c i x.1 r
def pairsS (l : List (Str × List Str)) (c : List (Str × Str)) (strict : Bool) : Int := forT (pairB l c strict) 0 c 0
theorem checkSet_eq (hN : big ≤ N) (l : List (Str × List Str)) (hl : Fit (.sl (.pr .str (.sl .str))) l) (c : List (Str × Str)) (hc : c.length ≤ maxLen) (hs : ∀ s ∈ l, s.2 ≠ []) (strict : Bool) : config_checkSet N l c strict = some (pairsS l c strict) := by
  unfold config_checkSet
  refine loop_for (fun _ _ => rfl) c hc (fun self i h r hr => ?_) (fun self => ?_) hN
  · simp only [config_checkSet_L0T, geti_lt c h, wrap_succ hc h, hr, bnd_some, find_eq hN l hl.1]
    rw [lt_tt h, br_true]
    unfold pairB
    rcases idxP_cases (fun s : Str × List Str => s.1 == c[i].1) l with ⟨h1, h2⟩ | ⟨j, s, h1, h2, h3, h4⟩
    · rw [h2, h1]; simp
    · have hm := List.mem_of_getElem? h2
      rw [h4, h1, decide_eq_false (show ¬ ((j : Int) < 0) by omega), br_false, geti_nat, h2, bnd_some, slices_Contains_eq hN _ (hl.2 _ hm).2.1, bnd_some, prev_eq hc h]
      obtain ⟨a, t, ht⟩ : ∃ a t, s.2 = a :: t := by
        cases hq : s.2 with
        | nil => exact absurd hq (hs s hm)
        | cons a t => exact ⟨a, t, rfl⟩
      simp only [bnd_some, ht, geti_zero, List.getElem?_cons_zero, br_ite, List.head?_cons]
      have e : (some a == some c[i].2) = (c[i].2 == a) := by
        show (a == c[i].2) = _
        exact Bool.eq_iff_iff.2 ⟨fun h => by simpa using (eq_of_beq h).symm, fun h => by simpa using (eq_of_beq h).symm⟩
      rw [e]
      cases strict <;> simp
  · simp only [config_checkSet_L0T, lt_ff, br_false]
abbrev settingTy : Ty := .sl (.pr .str (.sl .str))
abbrev pairTy : Ty := .sl (.pr .str .str)
/-- CheckConfig. -/
def configS (l : List (Str × List Str)) (c : List (Str × Str)) : Int := if settingsS l ≠ 0 then settingsS l else pairsS l c true
theorem ne_zero_dec (n : Int) : (n != 0) = decide (n ≠ 0) := by
  show (!decide (n = 0)) = decide (n ≠ 0)
  cases h : decide (n = 0) with
  | true => exact (decide_eq_false (fun h' => h' (of_decide_eq_true h))).symm
  | false => exact (decide_eq_true (of_decide_eq_false h)).symm
theorem checkConfig_eq (hN : big ≤ N) (l : List (Str × List Str)) (hl : Fit settingTy l) (c : List (Str × Str)) (hc : c.length ≤ maxLen) : config_CheckConfig N l c = some (configS l c) := by
  unfold config_CheckConfig configS
  rw [settings_eq hN l hl, bnd_some, ne_zero_dec]
  by_cases h : settingsS l = 0
  · rw [decide_eq_false (by simpa using h), br_false, if_neg (by simpa using h), checkSet_eq hN l hl c hc (settings_some h), bnd_some]
  · rw [decide_eq_true h, br_true, if_pos h]
/-- The first element of which something is true, or another thing. -/
def findF {α β : Type} (p : α → Bool) (f : α → β) (d : β) (xs : List α) : β := match xs.find? p with | some x => f x | none => d
theorem forT_find {α β : Type} (p : α → Bool) (f : α → β) (d : β) : ∀ (xs : List α) (j : Nat), forT (fun _ x r => if p x = true then f x else r) d xs j = findF p f d xs
  | [], _ => rfl
  | x :: xs, j => by
    show (if p x = true then f x else forT _ _ xs (j + 1)) = _
    rw [forT_find p f d xs (j + 1)]
    unfold findF
    rw [List.find?_cons]
    cases h : p x <;> simp
theorem settingOf_eq (hN : big ≤ N) (l : List (Str × List Str)) (hx : l.length ≤ maxLen) (n : Str) : ref3_settingOf N l n = some (findF (fun s => s.1 == n) (fun s => (s, true)) (([], []), false) l) := by
  unfold ref3_settingOf
  rw [← forT_find (fun s : Str × List Str => s.1 == n) (fun s => (s, true)) _ l 0]
  refine loop_for (fun _ _ => rfl) l hx (fun self i h r hr => ?_) (fun self => ?_) hN
  · simp only [ref3_settingOf_L0T, geti_lt l h, wrap_succ hx h, hr, bnd_some]
    rw [lt_tt h, br_true, br_ite]
  · simp only [ref3_settingOf_L0T, lt_ff, br_false]
theorem ref_checkConfig_eq (hN : big ≤ N) (l : List (Str × List Str)) (hl : Fit settingTy l) (c : List (Str × Str)) (hc : c.length ≤ maxLen) : ref3_CheckConfig N l c = some (configS l c) := by
  unfold ref3_CheckConfig configS
  rw [ref_settings_eq hN l hl, bnd_some, ne_zero_dec]
  by_cases h : settingsS l = 0
  · rw [decide_eq_false (by simpa using h), br_false, if_neg (by simpa using h)]
    refine loop_for (fun _ _ => rfl) c hc (fun self i h' r hr => ?_) (fun self => ?_) hN
    · simp only [ref3_CheckConfig_L0T, geti_lt c h', wrap_succ hc h', hr, bnd_some, settingOf_eq hN l hl.1]
      rw [lt_tt h', br_true]
      unfold pairB
      cases hf : l.find? (fun s => s.1 == c[i].1) with
      | none => simp [findF, hf]
      | some s =>
        have hff : findF (fun s : Str × List Str => s.1 == c[i].1) (fun s => (s, true)) (([], []), false) l = (s, true) := by unfold findF; rw [hf]
        rw [hff]
        have hm := List.mem_of_find?_eq_some hf
        obtain ⟨a, t, ht⟩ : ∃ a t, s.2 = a :: t := by
          cases hq : s.2 with
          | nil => exact absurd hq (settings_some h s hm)
          | cons a t => exact ⟨a, t, rfl⟩
        simp only [slices_Contains_eq hN _ (hl.2 _ hm).2.1, bnd_some, prev_eq hc h']
        simp only [ht, geti_zero, List.getElem?_cons_zero, bnd_some, br_ite, List.head?_cons]
        have e : (some a == some c[i].2) = (a == c[i].2) := rfl
        rw [e]
        simp
    · simp only [ref3_CheckConfig_L0T, lt_ff, br_false]
  · rw [decide_eq_true h, br_true, if_pos h]
/-- The value that a configuration has for a name. -/
def valueS (l : List (Str × List Str)) (c : List (Str × Str)) (n : Str) : Str := findF (fun p => p.1 == n) (fun p => p.2) (findF (fun s => s.1 == n) (fun s => s.2.headD []) [] l) c
theorem pairOf_eq (hN : big ≤ N) (c : List (Str × Str)) (hx : c.length ≤ maxLen) (n : Str) : config_pairOf N c n = some (findF (fun s => s.1 == n) (fun s => (s.2, true)) ([], false) c) := by
  unfold config_pairOf
  rw [← forT_find (fun s : Str × Str => s.1 == n) (fun s => (s.2, true)) _ c 0]
  refine loop_for (fun _ _ => rfl) c hx (fun self i h r hr => ?_) (fun self => ?_) hN
  · simp only [config_pairOf_L0T, geti_lt c h, wrap_succ hx h, hr, bnd_some]
    rw [lt_tt h, br_true, br_ite]
  · simp only [config_pairOf_L0T, lt_ff, br_false]
theorem ref_valueOf_eq (hN : big ≤ N) (l : List (Str × List Str)) (hl : Fit settingTy l) (c : List (Str × Str)) (hc : c.length ≤ maxLen) (hs : ∀ s ∈ l, s.2 ≠ []) (n : Str) (hn : (l.find? (fun s => s.1 == n)).isSome = true) : ref3_valueOf N l c n = some (valueS l c n) := by
  unfold ref3_valueOf valueS
  rw [← forT_find (fun s : Str × Str => s.1 == n) (fun s => s.2) _ c 0]
  refine loop_for (fun _ _ => rfl) c hc (fun self i h r hr => ?_) (fun self => ?_) hN
  · simp only [ref3_valueOf_L0T, geti_lt c h, wrap_succ hc h, hr, bnd_some]
    rw [lt_tt h, br_true, br_ite]
  · simp only [ref3_valueOf_L0T, lt_ff, br_false, settingOf_eq hN l hl.1, bnd_some]
    cases hf : l.find? (fun s => s.1 == n) with
    | none => rw [hf] at hn; cases hn
    | some s =>
      obtain ⟨a, t, ht⟩ : ∃ a t, s.2 = a :: t := by
        cases hq : s.2 with
        | nil => exact absurd hq (hs s (List.mem_of_find?_eq_some hf))
        | cons a t => exact ⟨a, t, rfl⟩
      simp [findF, hf, ht, geti_zero]
theorem awake_eq : law3_awake big = some true := by kernel_rfl
end Go.Proofs.YtbekhaioddmliaaGreatDoor


/- What the checks of platforms and conditions compute, and Holds. No program in sight. -/
namespace Go.Proofs.YtbekhaioddmliaaGreatDoor
set_option linter.unusedVariables false
set_option linter.unusedSimpArgs false
open Go Go.RowKit
variable {N : Nat}
theorem forT_guard {α β : Type} (p : α → Bool) (c k : β) : ∀ (xs : List α) (j : Nat), forT (fun _ x r => if p x = true then c else r) k xs j = if xs.any p = true then c else k
  | [], _ => by simp [forT]
  | x :: xs, j => by
    show (if p x = true then c else forT _ _ xs (j + 1)) = _
    rw [forT_guard p c k xs (j + 1), List.any_cons]
    cases h : p x <;> simp
abbrev platformTy : Ty := .sl (.pr .str (.sl (.pr .str .str)))
theorem checkNeeds_eq (hN : big ≤ N) (l : List (Str × List Str)) (hl : Fit settingTy l) (c : List (Str × Str)) (hc : c.length ≤ maxLen) : ref3_checkNeeds N l c = some (pairsS l c false) := by
  unfold ref3_checkNeeds
  refine loop_for (fun _ _ => rfl) c hc (fun self i h' r hr => ?_) (fun self => ?_) hN
  · simp only [ref3_checkNeeds_L0T, geti_lt c h', wrap_succ hc h', hr, bnd_some, settingOf_eq hN l hl.1]
    rw [lt_tt h', br_true]
    unfold pairB
    cases hf : l.find? (fun s => s.1 == c[i].1) with
    | none => simp [findF, hf]
    | some s =>
      have hff : findF (fun s : Str × List Str => s.1 == c[i].1) (fun s => (s, true)) (([], []), false) l = (s, true) := by unfold findF; rw [hf]
      rw [hff]
      have hm := List.mem_of_find?_eq_some hf
      simp only [slices_Contains_eq hN _ (hl.2 _ hm).2.1, bnd_some, prev_eq hc h']
      simp only [br_ite]
      simp
  · simp only [ref3_checkNeeds_L0T, lt_ff, br_false]
abbrev condTy : Ty := .pr .str (.pr (.sl (.pr .str .str)) (.sl (.pr .str .str)))
theorem fit_one {t : Ty} {x : t.den} (h : Fit t x) : Fit (.sl t) [x] := ⟨by show 1 ≤ maxLen; decide, fun y hy => by rw [List.mem_singleton.1 hy]; exact h⟩
theorem br_ne {R : Type} (n : Int) (x y : Option R) : br (n != 0) x y = if n ≠ 0 then x else y := by
  rw [ne_zero_dec, br_eq_ite]; simp only [decide_eq_true_eq]
abbrev worldTy : Ty := .pr settingTy (.pr (.sl condTy) (.pr platformTy (.pr (.sl (.pr .str (.pr .str (.pr (.sl (.pr .str .str)) (.sl (.pr .str .str)))))) (.sl (.pr .str (.pr (.sl (.pr .str .str)) (.sl .str)))))))
end Go.Proofs.YtbekhaioddmliaaGreatDoor


/- Facts on right settings and configurations. No program in sight. -/
namespace Go.Proofs.YtbekhaioddmliaaGreatDoor
set_option linter.unusedVariables false
set_option linter.unusedSimpArgs false
open Go Go.RowKit
theorem less_eq : ∀ (x y : List UInt8), Op.bytesLess x y = decide (x < y)
  | [], [] => by simp [Op.bytesLess]
  | _ :: _, [] => by simp [Op.bytesLess]
  | [], _ :: _ => by simp [Op.bytesLess]
  | a :: x, b :: y => by
    rw [Op.bytesLess, less_eq x y]
    simp only [List.cons_lt_cons_iff]
    by_cases h1 : a < b <;> by_cases h2 : a = b <;> by_cases h3 : x < y <;> simp [h1, h2, h3]
theorem lt_tri (a b : Str) : a < b ∨ a = b ∨ b < a := by
  rcases Classical.em (a < b) with h | h
  · exact .inl h
  · rcases List.le_iff_lt_or_eq.1 (List.not_lt.1 h) with h | h
    · exact .inr (.inr h)
    · exact .inr (.inl h.symm)
theorem le_not (n y : Str) : (Op.bytesLess n y || n == y) = !decide (y < n) := by
  rw [less_eq]
  rcases lt_tri n y with h | h | h
  · rw [decide_eq_true h, decide_eq_false (List.lt_asymm h)]; rfl
  · subst h
    rw [decide_eq_false (List.lt_irrefl n), beq_self_eq_true]; rfl
  · rw [decide_eq_false (List.lt_asymm h), decide_eq_true h]
    have : n ≠ y := fun e => List.lt_irrefl n (by rw [e] at h ⊢; exact h)
    simp [this]
/-- Names in order. -/
def Asc {α : Type} (l : List (Str × α)) : Prop := l.Pairwise fun a b => a.1 < b.1
theorem prevS_zero {α : Type} {l : List (Str × α)} {i : Nat} {n : Str} {r : Int} : prevS l i n r = 0 ↔ (∀ y, i ≠ 0 → l[i - 1]? = some y → y.1 < n) ∧ r = 0 := by
  unfold prevS
  by_cases h : i = 0
  · simp [h]
  · rw [if_neg h]
    cases hy : l[i - 1]? with
    | none => simp
    | some y =>
      simp only [le_not]
      by_cases hd : y.1 < n
      · simp [hd]
      · simp [hd, h]
theorem forT_zero {α : Type} {q : Nat → α → Prop} {body : Nat → α → Int → Int} (h : ∀ i x r, body i x r = 0 ↔ q i x ∧ r = 0) : ∀ (xs : List α) (j : Nat), forT body 0 xs j = 0 ↔ ∀ i (hi : i < xs.length), q (j + i) xs[i]
  | [], _ => by simp [forT]
  | x :: xs, j => by
    show body j x (forT body 0 xs (j + 1)) = 0 ↔ _
    rw [h, forT_zero h xs (j + 1)]
    constructor
    · rintro ⟨h0, h1⟩ i hi
      cases i with
      | zero => exact h0
      | succ i => have := h1 i (by simpa using hi); simpa [Nat.add_assoc, Nat.add_comm 1] using this
    · intro h'
      refine ⟨h' 0 (by simp), fun i hi => ?_⟩
      have := h' (i + 1) (by simpa using hi)
      simpa [Nat.add_assoc, Nat.add_comm 1] using this
theorem asc_iff {α : Type} (l : List (Str × α)) : (∀ i (hi : i < l.length), ∀ y, i ≠ 0 → l[i - 1]? = some y → y.1 < l[i].1) ↔ Asc l := by
  constructor
  · intro h
    have step : ∀ i (hi : i + 1 < l.length), l[i].1 < l[i + 1].1 := fun i hi => h (i + 1) hi _ (by omega) (by rw [show i + 1 - 1 = i from rfl, List.getElem?_eq_getElem (by omega)])
    refine List.pairwise_iff_getElem.2 fun i j hi hj hij => ?_
    have : ∀ d (hd : i + 1 + d < l.length), l[i].1 < l[i + 1 + d].1 := by
      intro d
      induction d with
      | zero => intro hd; exact step i hd
      | succ d ih => intro hd; exact List.lt_trans (ih (by omega)) (step (i + 1 + d) hd)
    have := this (j - (i + 1)) (by omega)
    have e : i + 1 + (j - (i + 1)) = j := by omega
    simpa only [e] using this
  · intro h i hi y h0 hy
    obtain ⟨hl, rfl⟩ := List.getElem?_eq_some_iff.1 hy
    exact List.pairwise_iff_getElem.1 h (i - 1) i hl hi (by omega)
theorem Asc.find {α : Type} {l : List (Str × α)} (h : Asc l) {s : Str × α} (hs : s ∈ l) : l.find? (fun x => x.1 == s.1) = some s := by
  induction l with
  | nil => cases hs
  | cons x l ih =>
    have hx := List.pairwise_cons.1 h
    rcases List.mem_cons.1 hs with rfl | hs
    · simp
    · have : x.1 < s.1 := hx.1 s hs
      have hne : x.1 ≠ s.1 := fun e => by rw [e] at this; exact List.lt_irrefl _ this
      rw [List.find?_cons_of_neg (by simpa using hne)]
      exact ih hx.2 hs
theorem find_mem {α : Type} {l : List (Str × α)} {n : Str} {s : Str × α} (h : l.find? (fun x => x.1 == n) = some s) : s ∈ l ∧ s.1 = n :=
  ⟨List.mem_of_find?_eq_some h, by simpa using List.find?_some h⟩
theorem Asc.inj {α : Type} {l : List (Str × α)} (h : Asc l) {s t : Str × α} (hs : s ∈ l) (ht : t ∈ l) (e : s.1 = t.1) : s = t := by
  have h1 := h.find hs
  rw [e, h.find ht] at h1
  exact (Option.some.inj h1).symm
theorem Asc.ext {α : Type} : ∀ {a b : List (Str × α)}, Asc a → Asc b → (∀ p, p ∈ a ↔ p ∈ b) → a = b
  | [], [], _, _, _ => rfl
  | [], y :: b, _, _, h => by have := (h y).2 (by simp); cases this
  | x :: a, [], _, _, h => by have := (h x).1 (by simp); cases this
  | x :: a, y :: b, ha, hb, h => by
    have ha' := List.pairwise_cons.1 ha
    have hb' := List.pairwise_cons.1 hb
    have hxy : x = y := by
      rcases List.mem_cons.1 ((h x).1 (by simp)) with e | h1
      · exact e
      · rcases List.mem_cons.1 ((h y).2 (by simp)) with e | h2
        · exact e.symm
        · exact absurd (ha'.1 y h2) (List.lt_asymm (hb'.1 x h1))
    subst hxy
    refine congrArg _ (Asc.ext ha'.2 hb'.2 fun p => ⟨fun hp => ?_, fun hp => ?_⟩)
    · rcases List.mem_cons.1 ((h p).1 (List.mem_cons_of_mem _ hp)) with rfl | h1
      · exact absurd (ha'.1 p hp) (List.lt_irrefl _)
      · exact h1
    · rcases List.mem_cons.1 ((h p).2 (List.mem_cons_of_mem _ hp)) with rfl | h1
      · exact absurd (hb'.1 p hp) (List.lt_irrefl _)
      · exact h1
theorem Asc.nodup {α : Type} {l : List (Str × α)} (h : Asc l) : (l.map (·.1)).Nodup := by
  rw [List.Nodup, List.pairwise_map]
  exact h.imp fun {a b} hab e => by
    have e : a.1 = b.1 := e
    rw [e] at hab; exact List.lt_irrefl _ hab
theorem Asc.len {α β : Type} {c : List (Str × α)} {l : List (Str × β)} (h : Asc c) (hm : ∀ p ∈ c, ∃ s ∈ l, s.1 = p.1) : c.length ≤ l.length := by
  have := h.nodup.length_le_of_subset (l₂ := l.map (·.1)) (fun n hn => by
    obtain ⟨p, hp, rfl⟩ := List.mem_map.1 hn
    obtain ⟨s, hs, e⟩ := hm p hp
    exact List.mem_map.2 ⟨s, hs, e⟩)
  simpa using this
/-- Right settings. -/
structure SetOk (l : List (Str × List Str)) : Prop where
  len : l.length ≤ 30
  asc : Asc l
  name : ∀ s ∈ l, isWordS s.1 = true
  some : ∀ s ∈ l, s.2 ≠ []
  few : ∀ s ∈ l, s.2.length ≤ 20
  word : ∀ s ∈ l, ∀ v ∈ s.2, isWordS v = true
  once : ∀ s ∈ l, s.2.Nodup
theorem values_zero (r : Int) (l : List Str) : valuesS r l = 0 ↔ ((∀ v ∈ l, isWordS v = true) ∧ l.Nodup) ∧ r = 0 := by
  have gen : ∀ (xs pre : List Str), forT (fun i w r => if !isWordS w then 5 else if ((pre ++ xs).take i).any (w == ·) then 7 else r) r xs pre.length = 0 ↔ ((∀ v ∈ xs, isWordS v = true ∧ v ∉ pre) ∧ xs.Nodup) ∧ r = 0 := by
    intro xs
    induction xs with
    | nil => intro pre; simp [forT]
    | cons x xs ih =>
      intro pre
      simp only [forT]
      have h2 := ih (pre ++ [x])
      rw [List.append_assoc, List.length_append] at h2
      simp only [List.singleton_append, List.length_singleton] at h2
      have ht : ((pre ++ x :: xs).take pre.length) = pre := by simp
      rw [ht]
      cases hw : isWordS x with
      | false => simp [hw]
      | true =>
        simp only [Bool.not_true, Bool.false_eq_true, if_false]
        by_cases hp : x ∈ pre
        · have : pre.any (x == ·) = true := List.any_eq_true.2 ⟨x, hp, by simp⟩
          rw [if_pos this]
          simp [hp]
        · have : ¬ pre.any (x == ·) = true := fun h => by
            obtain ⟨y, hy, e⟩ := List.any_eq_true.1 h
            exact hp (by rw [eq_of_beq e]; exact hy)
          rw [if_neg this, h2]
          simp only [List.mem_cons, List.nodup_cons, List.mem_append, List.not_mem_nil, or_false, forall_eq_or_imp, hw, hp, not_false_eq_true, and_true, true_and, not_or]
          constructor
          · rintro ⟨⟨h3, h4⟩, h5⟩
            exact ⟨⟨fun v hv => ⟨(h3 v hv).1, (h3 v hv).2.1⟩, fun hx => (h3 x hx).2.2 rfl, h4⟩, h5⟩
          · rintro ⟨⟨h3, h4, h5⟩, h6⟩
            exact ⟨⟨fun v hv => ⟨(h3 v hv).1, (h3 v hv).2, fun e => h4 (e ▸ hv)⟩, h5⟩, h6⟩
  have := gen l []
  unfold valuesS
  simpa using this
theorem settings_iff (l : List (Str × List Str)) : settingsS l = 0 ↔ SetOk l := by
  unfold settingsS
  by_cases h30 : 30 < l.length
  · rw [if_pos h30]
    exact ⟨fun h => (by cases h), fun h => absurd h.len (by omega)⟩
  · rw [if_neg h30]
    rw [forT_zero (q := fun i x => (isWordS x.1 = true ∧ x.2 ≠ [] ∧ x.2.length ≤ 20 ∧ (∀ v ∈ x.2, isWordS v = true) ∧ x.2.Nodup) ∧ ∀ y, i ≠ 0 → l[i - 1]? = some y → y.1 < x.1) (fun i x r => ?_) l 0]
    · constructor
      · intro h
        have hm : ∀ s ∈ l, (isWordS s.1 = true ∧ s.2 ≠ [] ∧ s.2.length ≤ 20 ∧ (∀ v ∈ s.2, isWordS v = true) ∧ s.2.Nodup) := fun s hs => by
          obtain ⟨i, hi, rfl⟩ := List.getElem_of_mem hs
          exact (h i hi).1
        exact ⟨by omega, (asc_iff l).1 fun i hi y h0 hy => (h i hi).2 y (by omega) (by simpa using hy), fun s hs => (hm s hs).1, fun s hs => (hm s hs).2.1, fun s hs => (hm s hs).2.2.1, fun s hs => (hm s hs).2.2.2.1, fun s hs => (hm s hs).2.2.2.2⟩
      · intro h i hi
        have hm := List.getElem_mem hi
        exact ⟨⟨h.name _ hm, h.some _ hm, h.few _ hm, h.word _ hm, h.once _ hm⟩, fun y h0 hy => (asc_iff l).2 h.asc i hi y (by omega) (by simpa using hy)⟩
    · unfold settingsB
      cases hw : isWordS x.1 with
      | false => simp
      | true =>
        simp only [Bool.not_true, Bool.false_eq_true, if_false]
        by_cases h0 : x.2.length = 0
        · rw [if_pos h0]
          exact ⟨fun h => (by cases h), fun h => absurd (List.length_eq_zero_iff.1 h0) h.1.1.2.1⟩
        · rw [if_neg h0]
          by_cases h20 : 20 < x.2.length
          · rw [if_pos h20]
            exact ⟨fun h => (by cases h), fun h => absurd h.1.1.2.2.1 (by omega)⟩
          · rw [if_neg h20, values_zero, prevS_zero]
            have hne : x.2 ≠ [] := fun e => h0 (by rw [e]; rfl)
            constructor
            · rintro ⟨⟨h1, h2⟩, h3, h4⟩
              exact ⟨⟨⟨trivial, hne, by omega, h1, h2⟩, h3⟩, h4⟩
            · rintro ⟨⟨⟨_, _, _, h1, h2⟩, h3⟩, h4⟩
              exact ⟨⟨h1, h2⟩, h3, h4⟩
/-- A pair that says a value of a setting; 'strict': not the default. -/
def PairOk (l : List (Str × List Str)) (strict : Bool) (p : Str × Str) : Prop := ∃ s, l.find? (fun s => s.1 == p.1) = some s ∧ p.2 ∈ s.2 ∧ (strict = true → s.2.head? ≠ some p.2)
theorem any_mem (x : Str) (l : List Str) : l.any (x == ·) = decide (x ∈ l) := by
  by_cases h : x ∈ l
  · rw [decide_eq_true h]; exact List.any_eq_true.2 ⟨x, h, by simp⟩
  · rw [decide_eq_false h, List.any_eq_false]
    intro y hy e
    exact h (by rw [eq_of_beq e]; exact hy)
theorem pairs_iff (l : List (Str × List Str)) (c : List (Str × Str)) (strict : Bool) : pairsS l c strict = 0 ↔ (∀ p ∈ c, PairOk l strict p) ∧ Asc c := by
  unfold pairsS
  rw [forT_zero (q := fun i x => PairOk l strict x ∧ ∀ y, i ≠ 0 → c[i - 1]? = some y → y.1 < x.1) (fun i x r => ?_) c 0]
  · constructor
    · intro h
      refine ⟨fun s hs => ?_, (asc_iff c).1 fun i hi y h0 hy => (h i hi).2 y (by omega) (by simpa using hy)⟩
      obtain ⟨i, hi, rfl⟩ := List.getElem_of_mem hs
      exact (h i hi).1
    · rintro ⟨h1, h2⟩ i hi
      exact ⟨h1 _ (List.getElem_mem hi), fun y h0 hy => (asc_iff c).2 h2 i hi y (by omega) (by simpa using hy)⟩
  · unfold pairB PairOk
    cases hf : l.find? (fun s => s.1 == x.1) with
    | none => simp
    | some s =>
      simp only [any_mem]
      by_cases hm : x.2 ∈ s.2
      · simp only [hm, decide_true, Bool.not_true, Bool.false_eq_true, if_false]
        by_cases hs : (strict && s.2.head? == some x.2) = true
        · rw [if_pos hs]
          simp only [Bool.and_eq_true] at hs
          refine ⟨fun h => (by cases h), fun h => ?_⟩
          obtain ⟨⟨⟨t, ht, _, h1⟩, _⟩, _⟩ := h
          injection ht with ht
          subst ht
          exact absurd (eq_of_beq hs.2) (h1 hs.1)
        · rw [if_neg hs, prevS_zero]
          have h1 : strict = true → s.2.head? ≠ some x.2 := fun h e => hs (by rw [h, e]; simp)
          exact ⟨fun h => ⟨⟨⟨s, rfl, hm, h1⟩, h.1⟩, h.2⟩, fun h => ⟨h.1.2, h.2⟩⟩
      · simp only [hm, decide_false, Bool.not_false, if_true]
        refine ⟨fun h => (by cases h), fun h => ?_⟩
        obtain ⟨⟨⟨t, ht, h1, _⟩, _⟩, _⟩ := h
        injection ht with ht
        subst ht
        exact absurd h1 hm
/-- A right configuration of right settings. -/
structure CfgOk (l : List (Str × List Str)) (c : List (Str × Str)) : Prop where
  set : SetOk l
  pair : ∀ p ∈ c, PairOk l true p
  asc : Asc c
theorem config_iff (l : List (Str × List Str)) (c : List (Str × Str)) : configS l c = 0 ↔ CfgOk l c := by
  unfold configS
  by_cases h : settingsS l = 0
  · rw [if_neg (by simpa using h), pairs_iff]
    exact ⟨fun h' => ⟨(settings_iff l).1 h, h'.1, h'.2⟩, fun h' => ⟨h'.pair, h'.asc⟩⟩
  · rw [if_pos h]
    exact ⟨fun h' => absurd h' h, fun h' => absurd ((settings_iff l).2 h'.set) h⟩
theorem PairOk.mem {l : List (Str × List Str)} {strict : Bool} {p : Str × Str} (h : PairOk l strict p) : ∃ s ∈ l, s.1 = p.1 ∧ p.2 ∈ s.2 := by
  obtain ⟨s, h1, h2, _⟩ := h
  exact ⟨s, (find_mem h1).1, (find_mem h1).2, h2⟩
theorem CfgOk.len {l : List (Str × List Str)} {c : List (Str × Str)} (h : CfgOk l c) : c.length ≤ 30 :=
  Nat.le_trans (h.asc.len fun p hp => by obtain ⟨s, h1, h2, _⟩ := (h.pair p hp).mem; exact ⟨s, h1, h2⟩) h.set.len
end Go.Proofs.YtbekhaioddmliaaGreatDoor


/- Splitting, cutting and joining at one byte. No program in sight. -/
namespace Go.Proofs.YtbekhaioddmliaaGreatDoor
set_option linter.unusedVariables false
set_option linter.unusedSimpArgs false
open Go Go.RowKit
end Go.Proofs.YtbekhaioddmliaaGreatDoor


/- What CheckTools and Tools compute. No program in sight. -/
namespace Go.Proofs.YtbekhaioddmliaaGreatDoor
set_option linter.unusedVariables false
set_option linter.unusedSimpArgs false
open Go Go.RowKit
variable {N : Nat}
theorem Equal_self (hN : big ≤ N) (l : List Str) (hl : l.length ≤ maxLen) : slices_Equal_string_string N l l = some true := by
  unfold slices_Equal_string_string
  have hL : slices_Equal_string_string_L0 N l l (l.length : Int) (some true) N 0 = some true := by
    have hc : forT (fun (_ : Nat) (_ : Str) (r : Bool) => r) true l 0 = true := by
      have : ∀ (xs : List Str) (j : Nat), forT (fun (_ : Nat) (_ : Str) (r : Bool) => r) true xs j = true := by
        intro xs; induction xs with
        | nil => intro j; rfl
        | cons x xs ih => intro j; exact ih (j + 1)
      exact this l 0
    rw [← hc]
    refine loop_for (fun _ _ => rfl) l hl (fun self i h r hr => ?_) (fun self => ?_) hN
    · simp only [slices_Equal_string_string_L0T, geti_lt l h, wrap_succ hl h, hr, bnd_some]
      rw [lt_tt h]; simp
    · simp only [slices_Equal_string_string_L0T, lt_ff, br_false]; rw [hc]
  rw [hL]; simp
end Go.Proofs.YtbekhaioddmliaaGreatDoor


/- What ConfigText writes, and that it is read again. No program in sight. -/
namespace Go.Proofs.YtbekhaioddmliaaGreatDoor
set_option linter.unusedVariables false
set_option linter.unusedSimpArgs false
open Go Go.RowKit
variable {N : Nat}
theorem Equal_pair_self (hN : big ≤ N) (l : List (Str × Str)) (hl : l.length ≤ maxLen) : slices_Equal_api_Pair N l l = some true := by
  unfold slices_Equal_api_Pair
  have hL : slices_Equal_api_Pair_L0 N l l (l.length : Int) (some true) N 0 = some true := by
    refine loop_st (f := fun n i (_ : Unit) => slices_Equal_api_Pair_L0 N l l (l.length : Int) (some true) n i) (T := fun self i _ => slices_Equal_api_Pair_L0T N l l (l.length : Int) (some true) (fun i => self i ()) i) (fun _ _ _ => rfl) hl (fun _ => ()) (fun self i h hr => ?_) (fun self => ?_) hN
    · simp only [slices_Equal_api_Pair_L0T, geti_lt l h, wrap_succ hl h, bnd_some]
      rw [lt_tt h, br_true]
      have : eqb (.pr .str .str) l[i] l[i] = true := by
        show (l[i].1 == l[i].1 && l[i].2 == l[i].2) = true
        simp
      rw [this, Bool.not_true, br_false]
      exact hr
    · simp only [slices_Equal_api_Pair_L0T, lt_ff, br_false]
  rw [hL]; simp
end Go.Proofs.YtbekhaioddmliaaGreatDoor


/- What With computes. No program in sight. -/
namespace Go.Proofs.YtbekhaioddmliaaGreatDoor
set_option linter.unusedVariables false
set_option linter.unusedSimpArgs false
open Go Go.RowKit
variable {N : Nat}
abbrev Sets : Type := List (Str × List Str)
abbrev Cfg : Type := List (Str × Str)
theorem Clone_pair (c : Cfg) (h : c.length ≤ 1000000) : slices_Clone_api_Pair N c = some c := by
  unfold slices_Clone_api_Pair
  exact clone_eq (24 * Ty.sz (.pr .str .str)) c (by show c.length * 48 ≤ _; omega)
theorem IndexFunc_pair (hN : big ≤ N) (xs : Cfg) (hx : xs.length ≤ maxLen) (n : Str) : slices_IndexFunc_api_Pair N xs (n, ()) = some (idxP (fun x => x.1 == n) xs) := by
  unfold slices_IndexFunc_api_Pair
  refine loop_for (fun _ _ => rfl) xs hx (fun self i h r hr => ?_) (fun self => ?_) hN
  · simp only [slices_IndexFunc_api_Pair_L0T, geti_lt xs h, wrap_succ hx h, hr, bnd_some, config_with_1]
    rw [lt_tt h, br_true, br_ite]
  · simp only [slices_IndexFunc_api_Pair_L0T, lt_ff, br_false]
theorem DeleteFunc_pair (hN : big ≤ N) (c : Cfg) (hc : c.length ≤ maxLen) (n : Str) : slices_DeleteFunc_api_Pair N (n, ()) c = some (c.filter fun p => !(p.1 == n)) := by
  unfold slices_DeleteFunc_api_Pair
  rw [IndexFunc_pair hN c hc n, bnd_some]
  exact deleteFunc_eq hN hc (fun p : Str × Str => p.1 == n) (P := fun t => config_with_1 N t n) (fun _ _ => rfl) (zero (.pr .str .str)) (f := fun m a b w => slices_DeleteFunc_api_Pair_L0 N (n, ()) _ m a b w) (fun _ _ _ _ => rfl)
theorem Asc.filter {α : Type} {c : List (Str × α)} (h : Asc c) (q : Str × α → Bool) : Asc (c.filter q) := h.sublist List.filter_sublist
theorem Asc.lt_get {α : Type} {c : List (Str × α)} (h : Asc c) {a b : Nat} (ha : a < c.length) (hb : b < c.length) (hab : a < b) : c[a].1 < c[b].1 := List.pairwise_iff_getElem.1 h a b ha hb hab
theorem Binary_pair (hN : big ≤ N) (c : Cfg) (hc : c.length ≤ 1000000) (h : Asc c) (n : Str) : ∃ b, slices_BinarySearchFunc_api_Pair_string N c n () = some ((lowN (fun p : Str × Str => decide (p.1 < n)) c : Int), b) := by
  unfold slices_BinarySearchFunc_api_Pair_string
  have hC : ∀ t : Str × Str, config_with_2 N t n = some (Lib.compareBytes t.1 n) := fun t => by
    unfold config_with_2
    rw [show strings_Compare t.1 n = some (Lib.compareBytes t.1 n) from rfl, bnd_some]
  have := bin_loop (R := Int × Bool) hc (fun p : Str × Str => decide (p.1 < n)) (C := fun t => config_with_2 N t n) (fun t _ => ⟨_, hC t, cmp_lt _ _⟩)
    (fun a b ha hb hab hl => by
      rcases Nat.eq_or_lt_of_le hab with e | e
      · subst e; exact hl
      · exact decide_eq_true (List.lt_trans (h.lt_get ha hb e) (of_decide_eq_true hl)))
    (k0 := fun o0_9 =>
      br (decide (o0_9 < (c.length : Int)))
        (bnd (geti c o0_9) fun t43 =>
        bnd (config_with_2 N t43 n) fun t46 =>
        some (o0_9, t46 == (0 : Int)))
        (some (o0_9, false))) (f := fun m a b => slices_BinarySearchFunc_api_Pair_string_L0 N c n _ m a b) (fun _ _ _ => rfl) c.length N 0 c.length (by omega) (by unfold big at hN; omega) (Nat.zero_le _) (Nat.le_refl _) (fun k _ hk => absurd hk (Nat.not_lt_zero k)) (fun k hk hk2 => by omega)
  have e : ((0 : Nat) : Int) = 0 := rfl
  rw [e] at this
  rw [this]
  rcases Nat.lt_or_ge (lowN (fun p : Str × Str => decide (p.1 < n)) c) c.length with hlt | hge
  · exact ⟨_, by rw [br_pos (by omega), geti_lt c hlt, bnd_some, hC, bnd_some]⟩
  · exact ⟨_, by rw [br_neg (by omega)]⟩
theorem lowN_lt {α : Type} (lt : α → Bool) (xs : List α) : ∀ x ∈ xs.take (lowN lt xs), lt x = true := by
  have e : xs.take (lowN lt xs) = xs.takeWhile lt := by
    induction xs with
    | nil => rfl
    | cons x xs ih =>
      unfold lowN at ih ⊢
      cases h : lt x with
      | true => rw [List.takeWhile_cons_of_pos h, List.length_cons, List.take_succ_cons, ih]
      | false => rw [List.takeWhile_cons_of_neg (by simp [h])]; rfl
  rw [e]
  intro x hx
  exact List.all_eq_true.1 List.all_takeWhile x hx
theorem lowN_ge {c : Cfg} (h : Asc c) (n : Str) : ∀ x ∈ c.drop (lowN (fun p : Str × Str => decide (p.1 < n)) c), ¬ x.1 < n := by
  induction c with
  | nil => intro x hx; simp at hx
  | cons y c ih =>
    have hy := List.pairwise_cons.1 h
    intro x hx
    unfold lowN at hx ih
    by_cases hl : y.1 < n
    · rw [List.takeWhile_cons_of_pos (by simpa using hl), List.length_cons, List.drop_succ_cons] at hx
      exact ih hy.2 x hx
    · rw [List.takeWhile_cons_of_neg (by simpa using hl)] at hx
      rcases List.mem_cons.1 hx with rfl | hx
      · exact hl
      · intro hxn
        exact hl (List.lt_trans (hy.1 x hx) hxn)
/-- The configuration in which a setting has a value: taken out, and put in again. -/
def withI (c : Cfg) (s : Str × List Str) (v : Str) : Cfg :=
  let out := c.filter fun p => !(p.1 == s.1)
  if v == s.2.headD [] then out else out.take (lowN (fun p : Str × Str => decide (p.1 < s.1)) out) ++ [(s.1, v)] ++ out.drop (lowN (fun p : Str × Str => decide (p.1 < s.1)) out)
theorem mem_filter_ne {c : Cfg} {n : Str} {p : Str × Str} : p ∈ c.filter (fun p => !(p.1 == n)) ↔ p ∈ c ∧ p.1 ≠ n := by
  rw [List.mem_filter]
  simp
theorem mem_withI {c : Cfg} {s : Str × List Str} {v : Str} {p : Str × Str} : p ∈ withI c s v ↔ (p ∈ c ∧ p.1 ≠ s.1) ∨ (p = (s.1, v) ∧ v ≠ s.2.headD []) := by
  unfold withI
  by_cases h : (v == s.2.headD []) = true
  · simp only [h, if_true]
    rw [mem_filter_ne]
    have : v = s.2.headD [] := eq_of_beq h
    simp [this]
  · have hne : v ≠ s.2.headD [] := fun e => h (by rw [e]; simp)
    simp only [h]
    generalize lowN _ _ = k
    have e : ∀ q : Str × Str, q ∈ (c.filter fun p => !(p.1 == s.1)).take k ∨ q ∈ (c.filter fun p => !(p.1 == s.1)).drop k ↔ q ∈ c.filter fun p => !(p.1 == s.1) := fun q => by
      rw [← List.mem_append, List.take_append_drop]
    rw [if_neg (by simp), List.mem_append, List.mem_append, List.mem_singleton, ← mem_filter_ne, ← e]
    constructor
    · rintro ((h1 | h1) | h1)
      · exact .inl (.inl h1)
      · exact .inr ⟨h1, hne⟩
      · exact .inl (.inr h1)
    · rintro ((h1 | h1) | ⟨h1, _⟩)
      · exact .inl (.inl h1)
      · exact .inr h1
      · exact .inl (.inr h1)
theorem asc_withI {c : Cfg} (h : Asc c) (s : Str × List Str) (v : Str) : Asc (withI c s v) := by
  unfold withI
  have ho := h.filter fun p => !(p.1 == s.1)
  by_cases hv : (v == s.2.headD []) = true
  · simp only [hv, if_true]; exact ho
  · simp only [hv]
    rw [if_neg (by simp)]
    have hlow := lowN_lt (fun p : Str × Str => decide (p.1 < s.1)) (c.filter fun p => !(p.1 == s.1))
    have hge := lowN_ge ho s.1
    generalize lowN _ _ = k at hlow hge
    have hpw : Asc ((c.filter fun p => !(p.1 == s.1)).take k ++ (c.filter fun p => !(p.1 == s.1)).drop k) := by rw [List.take_append_drop]; exact ho
    have hpw := List.pairwise_append.1 hpw
    refine List.pairwise_append.2 ⟨List.pairwise_append.2 ⟨hpw.1, List.pairwise_singleton _ _, fun a ha b hb => ?_⟩, hpw.2.1, fun a ha b hb => ?_⟩
    · rw [List.mem_singleton.1 hb]; exact of_decide_eq_true (hlow a ha)
    · have hbn : b.1 ≠ s.1 := (mem_filter_ne.1 (List.mem_of_mem_drop hb)).2
      have hsb : s.1 < b.1 := by
        rcases lt_tri s.1 b.1 with h1 | h1 | h1
        · exact h1
        · exact absurd h1.symm hbn
        · exact absurd h1 (hge b hb)
      rcases List.mem_append.1 ha with ha | ha
      · exact hpw.2.2 a ha b hb
      · rw [List.mem_singleton.1 ha]; exact hsb
theorem with_eq (hN : big ≤ N) (l : Sets) (hl : Fit settingTy l) (c : Cfg) (ok : CfgOk l c) (s : Str × List Str) (hs : l.find? (fun x => x.1 == s.1) = some s) (v : Str) : config_with N l c s.1 v = some (withI c s v) := by
  have hc : c.length ≤ 30 := ok.len
  have hm := (find_mem hs).1
  unfold config_with withI
  rw [Clone_pair c (by omega), bnd_some, DeleteFunc_pair hN c (Nat.le_trans hc (by decide)), bnd_some, find_eq hN l hl.1]
  obtain ⟨i, x, h1, h2, h3, h4⟩ : ∃ (i : Nat) (x : Str × List Str), l.find? (fun x => x.1 == s.1) = some x ∧ l[i]? = some x ∧ (x.1 == s.1) = true ∧ idxP (fun x : Str × List Str => x.1 == s.1) l = (i : Int) := by
    rcases idxP_cases (fun x : Str × List Str => x.1 == s.1) l with ⟨h1, _⟩ | ⟨i, x, h1, h2, h3, h4⟩
    · rw [hs] at h1; cases h1
    · exact ⟨i, x, h1, h2, h3, h4⟩
  obtain rfl : s = x := Option.some.inj (hs.symm.trans h1)
  obtain ⟨a, t, hat⟩ : ∃ a t, s.2 = a :: t := by
    cases hq : s.2 with
    | nil => exact absurd hq (ok.set.some s hm)
    | cons a t => exact ⟨a, t, rfl⟩
  rw [h4, bnd_some, geti_nat, h2, bnd_some, hat, geti_zero, List.getElem?_cons_zero, bnd_some, br_eq_ite]
  simp only [List.headD_cons]
  have hle := List.length_filter_le (fun p : Str × Str => !(p.1 == s.1)) c
  by_cases hv : v = a
  · subst hv
    simp only [beq_self_eq_true, if_true]
  · obtain ⟨b, hb⟩ := Binary_pair hN (c.filter fun p => !(p.1 == s.1)) (by omega) (ok.asc.filter _) s.1
    have hlow := lowN_le (fun p : Str × Str => decide (p.1 < s.1)) (c.filter fun p => !(p.1 == s.1))
    simp only [beq_iff_eq, hv, if_false]
    rw [hb, bnd_some]
    unfold slices_Insert_pair
    rw [if_pos ⟨by omega, by omega, rfl, by show (_ + 1) * 48 ≤ _; omega⟩, bnd_some, Int.toNat_natCast]
/-- The same, made anew of the settings. -/
def wU (l : Sets) (c : Cfg) (n v : Str) (s : Str × List Str) : Str := if s.1 == n then v else valueS l c s.1
def wE (l : Sets) (c : Cfg) (n v : Str) (s : Str × List Str) : Option (Str × Str) := if wU l c n v s == s.2.headD [] then none else some (s.1, wU l c n v s)
def withS (l : Sets) (c : Cfg) (n v : Str) : Cfg := l.filterMap (wE l c n v)
theorem wE_some {l : Sets} {c : Cfg} {n v : Str} {s : Str × List Str} {p : Str × Str} (h : wE l c n v s = some p) : p = (s.1, wU l c n v s) ∧ wU l c n v s ≠ s.2.headD [] := by
  unfold wE at h
  split at h
  · cases h
  · rename_i hv
    exact ⟨(Option.some.inj h).symm, fun e => hv (by rw [e]; simp)⟩
theorem wE_of {l : Sets} {c : Cfg} {n v : Str} {s : Str × List Str} (h : wU l c n v s ≠ s.2.headD []) : wE l c n v s = some (s.1, wU l c n v s) := by
  unfold wE
  rw [if_neg (fun e => h (eq_of_beq e))]
theorem wU_eq {l : Sets} {c : Cfg} {n v : Str} {s : Str × List Str} (h : s.1 = n) : wU l c n v s = v := by unfold wU; simp [h]
theorem wU_ne {l : Sets} {c : Cfg} {n v : Str} {s : Str × List Str} (h : s.1 ≠ n) : wU l c n v s = valueS l c s.1 := by unfold wU; simp [h]
theorem val_in {l : Sets} {c : Cfg} (h : Asc c) {p : Str × Str} (hp : p ∈ c) : valueS l c p.1 = p.2 := by
  unfold valueS findF
  rw [h.find hp]
theorem val_out {l : Sets} (hl : SetOk l) {c : Cfg} {s : Str × List Str} (hs : s ∈ l) (h : ∀ p ∈ c, p.1 ≠ s.1) : valueS l c s.1 = s.2.headD [] := by
  unfold valueS findF
  have : c.find? (fun p => p.1 == s.1) = none := List.find?_eq_none.2 fun p hp => by simpa using h p hp
  rw [this, hl.asc.find hs]
theorem PairOk.strict {l : Sets} {p : Str × Str} (h : PairOk l true p) (hl : SetOk l) : ∃ s ∈ l, s.1 = p.1 ∧ p.2 ∈ s.2 ∧ p.2 ≠ s.2.headD [] := by
  obtain ⟨s, h1, h2, h3⟩ := h
  obtain ⟨hm, hn⟩ := find_mem h1
  refine ⟨s, hm, hn, h2, fun e => h3 rfl ?_⟩
  rw [e]
  cases hq : s.2 with
  | nil => exact absurd hq (hl.some s hm)
  | cons a t => rfl
theorem mem_withS {l : Sets} {c : Cfg} (ok : CfgOk l c) {s : Str × List Str} (hs : s ∈ l) {v : Str} {p : Str × Str} : p ∈ withS l c s.1 v ↔ (p ∈ c ∧ p.1 ≠ s.1) ∨ (p = (s.1, v) ∧ v ≠ s.2.headD []) := by
  unfold withS
  rw [List.mem_filterMap]
  constructor
  · rintro ⟨t, ht, he⟩
    obtain ⟨rfl, hv⟩ := wE_some he
    by_cases hn : t.1 = s.1
    · have hts : t = s := ok.set.asc.inj ht hs hn
      subst hts
      rw [wU_eq rfl] at hv ⊢
      exact .inr ⟨rfl, hv⟩
    · rw [wU_ne hn] at hv ⊢
      left
      rcases Classical.em (∃ q ∈ c, q.1 = t.1) with ⟨q, hq, hqt⟩ | hno
      · have := val_in (l := l) ok.asc hq
        rw [hqt] at this
        rw [this]
        exact ⟨by rw [← hqt]; exact hq, hn⟩
      · exact absurd (val_out ok.set ht (fun q hq e => hno ⟨q, hq, e⟩)) hv
  · rintro (⟨hp, hn⟩ | ⟨rfl, hv⟩)
    · obtain ⟨t, ht, htn, _, hne⟩ := (ok.pair p hp).strict ok.set
      have hval : valueS l c t.1 = p.2 := by rw [htn]; exact val_in ok.asc hp
      have hu : wU l c s.1 v t = p.2 := by rw [wU_ne (by rw [htn]; exact hn), hval]
      exact ⟨t, ht, by rw [wE_of (by rw [hu]; exact hne), hu, htn]⟩
    · exact ⟨s, hs, by rw [wE_of (by rw [wU_eq rfl]; exact hv), wU_eq rfl]⟩
theorem asc_withS {l : Sets} (hl : SetOk l) (c : Cfg) (n v : Str) : Asc (withS l c n v) := by
  unfold withS
  refine List.Pairwise.filterMap _ (fun a a' haa b hb b' hb' => ?_) hl.asc
  rw [(wE_some hb).1, (wE_some hb').1]; exact haa
theorem withI_eq {l : Sets} {c : Cfg} (ok : CfgOk l c) {s : Str × List Str} (hs : s ∈ l) (v : Str) : withI c s v = withS l c s.1 v :=
  Asc.ext (asc_withI ok.asc s v) (asc_withS ok.set c s.1 v) fun p => by rw [mem_withI, mem_withS ok hs]
theorem ref_with_eq (hN : big ≤ N) (l : Sets) (hl : Fit settingTy l) (c : Cfg) (ok : CfgOk l c) (n v : Str) : ref3_with N l c n v = some (withS l c n v) := by
  have hc : c.length ≤ maxLen := Nat.le_trans ok.len (by decide)
  unfold ref3_with
  have := loop_st (f := fun m i (w : Cfg) => ref3_with_L0 N l c n v l (l.length : Int) (fun w => some w) m i w) (T := fun self i w => ref3_with_L0T N l c n v l (l.length : Int) (fun w => some w) self i w) (fun _ _ _ => rfl) (m := l.length) hl.1 (fun i => (l.take i).filterMap (wE l c n v)) (r := some (withS l c n v)) (fun self i h hr => ?_) (fun self => ?_) hN
  · exact this
  · have hm := List.getElem_mem h
    obtain ⟨a, t, hat⟩ : ∃ a t, l[i].2 = a :: t := by
      cases hq : l[i].2 with
      | nil => exact absurd hq (ok.set.some _ hm)
      | cons a t => exact ⟨a, t, rfl⟩
    have hfind : (l.find? (fun s => s.1 == l[i].1)).isSome = true := by rw [ok.set.asc.find hm]; rfl
    have hlen : ((l.take i).filterMap (wE l c n v)).length ≤ 30 :=
      Nat.le_trans (List.length_filterMap_le _ _) (by rw [List.length_take]; have := ok.set.len; omega)
    have hsucc : (l.take (i + 1)).filterMap (wE l c n v) = (l.take i).filterMap (wE l c n v) ++ (wE l c n v l[i]).toList := by
      rw [List.take_succ_eq_append_getElem h, List.filterMap_append]
      congr 1
    rw [hsucc] at hr
    generalize (l.take i).filterMap (wE l c n v) = w at hlen hr ⊢
    simp only [ref3_with_L0T, geti_lt l h, wrap_succ hl.1 h, bnd_some, ref_valueOf_eq hN l hl c hc ok.set.some _ hfind, hat, geti_zero, List.getElem?_cons_zero]
    rw [lt_tt h, br_true]
    have hsz : ∀ q : Str × Str, ((w.length + [q].length) * (24 * Ty.sz (.pr .str .str)) ≤ 140737488355328) := fun q => by
      show (_ + 1) * 48 ≤ _; omega
    have hWE : wE l c n v l[i] = if wU l c n v l[i] = a then none else some (l[i].1, wU l c n v l[i]) := by
      unfold wE
      rw [hat, List.headD_cons]
      by_cases h0 : wU l c n v l[i] = a <;> simp [h0]
    rw [hWE] at hr
    by_cases hn : l[i].1 = n
    · rw [wU_eq hn] at hr
      simp only [hn, beq_self_eq_true, br_true]
      by_cases hv : v = a
      · simp only [hv, if_true, Option.toList_none, List.append_nil] at hr
        simp only [hv, beq_self_eq_true, Bool.not_true, br_false]
        exact hr
      · simp only [hv, if_false, Option.toList_some] at hr
        have hvb : (v == a) = false := by simpa using hv
        rw [hvb, Bool.not_false, br_true, br_pos (hsz _)]
        rw [hn] at hr
        exact hr
    · rw [wU_ne hn] at hr
      have hnb : (l[i].1 == n) = false := by simpa using hn
      rw [hnb, br_false]
      by_cases hv : valueS l c l[i].1 = a
      · simp only [hv, if_true, Option.toList_none, List.append_nil] at hr
        simp only [hv, beq_self_eq_true, Bool.not_true, br_false]
        exact hr
      · simp only [hv, if_false, Option.toList_some] at hr
        have hvb : (valueS l c l[i].1 == a) = false := by simpa using hv
        rw [hvb, Bool.not_false, br_true, br_pos (hsz _)]
        exact hr
  · simp only [ref3_with_L0T, lt_ff, br_false, List.take_length]; rfl
theorem with_ok {l : Sets} {c : Cfg} (ok : CfgOk l c) {s : Str × List Str} (hs : s ∈ l) {v : Str} (hv : v ∈ s.2) : CfgOk l (withS l c s.1 v) := by
  refine ⟨ok.set, fun p hp => ?_, asc_withS ok.set c s.1 v⟩
  rcases (mem_withS ok hs).1 hp with ⟨h1, _⟩ | ⟨rfl, h2⟩
  · exact ok.pair p h1
  · refine ⟨s, ok.set.asc.find hs, hv, fun _ e => h2 ?_⟩
    cases hq : s.2 with
    | nil => exact absurd hq (ok.set.some s hs)
    | cons a t => rw [hq] at e; exact (Option.some.inj e).symm
end Go.Proofs.YtbekhaioddmliaaGreatDoor


/- What Only and All compute. No program in sight. -/
namespace Go.Proofs.YtbekhaioddmliaaGreatDoor
set_option linter.unusedVariables false
set_option linter.unusedSimpArgs false
open Go Go.RowKit
variable {N : Nat}
/-- The name ahead. -/
def prevN (l : List Str) (i : Nat) (n : Str) (r : Int) : Int := if i = 0 then r else match l[i - 1]? with | some y => if (Op.bytesLess n y || n == y) then 8 else r | none => r
theorem prevN_eq {l : List Str} (hx : l.length ≤ maxLen) {i : Nat} (h : i < l.length) {n : Str} {r : Int} :
    (br (decide ((i : Int) > 0)) (bnd (geti l (IntKind.i64.wrap ((i : Int) - 1))) fun y => br (Op.bytesLess n y || n == y) (some 8) (some r)) (some r)) = some (prevN l i n r) := by
  unfold maxLen at hx
  unfold prevN
  cases i with
  | zero => simp
  | succ j =>
    rw [wrap_pred (by omega), show ((j + 1 : Nat) : Int) - 1 = (j : Int) by omega, geti_lt l (by omega), bnd_some, br_ite, decide_eq_true (show ((j + 1 : Nat) : Int) > 0 by omega), br_true, if_neg (Nat.succ_ne_zero j)]
    rw [show j + 1 - 1 = j from rfl, List.getElem?_eq_getElem (by omega)]
theorem prevN_zero {l : List Str} {i : Nat} {n : Str} {r : Int} : prevN l i n r = 0 ↔ (∀ y, i ≠ 0 → l[i - 1]? = some y → y < n) ∧ r = 0 := by
  unfold prevN
  by_cases h : i = 0
  · simp [h]
  · rw [if_neg h]
    cases hy : l[i - 1]? with
    | none => simp
    | some y =>
      simp only [le_not]
      by_cases hd : y < n
      · simp [hd]
      · simp [hd, h]
def nameB (l : Sets) (ns : List Str) (i : Nat) (x : Str) (r : Int) : Int := match l.find? (fun s => s.1 == x) with | none => 5 | some _ => prevN ns i x r
def namesS (l : Sets) (ns : List Str) : Int := forT (nameB l ns) 0 ns 0
theorem checkNames_eq (hN : big ≤ N) (l : Sets) (hl : Fit settingTy l) (ns : List Str) (hn : ns.length ≤ maxLen) : config_checkNames N l ns = some (namesS l ns) := by
  unfold config_checkNames
  refine loop_for (fun _ _ => rfl) ns hn (fun self i h r hr => ?_) (fun self => ?_) hN
  · simp only [config_checkNames_L0T, geti_lt ns h, wrap_succ hn h, hr, bnd_some, find_eq hN l hl.1]
    rw [lt_tt h, br_true]
    unfold nameB
    rcases idxP_cases (fun s : Str × List Str => s.1 == ns[i]) l with ⟨h1, h2⟩ | ⟨j, s, h1, h2, h3, h4⟩
    · rw [h2, h1]; simp
    · rw [h4, h1, br_neg (by omega)]
      exact prevN_eq hn h
  · simp only [config_checkNames_L0T, lt_ff, br_false]
theorem ref_checkNames_eq (hN : big ≤ N) (l : Sets) (hl : Fit settingTy l) (ns : List Str) (hn : ns.length ≤ maxLen) : ref3_checkNames N l ns = some (namesS l ns) := by
  unfold ref3_checkNames
  refine loop_for (fun _ _ => rfl) ns hn (fun self i h r hr => ?_) (fun self => ?_) hN
  · simp only [ref3_checkNames_L0T, geti_lt ns h, wrap_succ hn h, hr, bnd_some, settingOf_eq hN l hl.1]
    rw [lt_tt h, br_true]
    unfold nameB findF
    cases hf : l.find? (fun s => s.1 == ns[i]) with
    | none => simp
    | some s =>
      simp only [Bool.not_true, br_false]
      exact prevN_eq hn h
  · simp only [ref3_checkNames_L0T, lt_ff, br_false]
/-- Right names of settings. -/
def NamesOk (l : Sets) (ns : List Str) : Prop := (∀ n ∈ ns, ∃ s ∈ l, s.1 = n ∧ l.find? (fun x => x.1 == n) = some s) ∧ ns.Pairwise (· < ·)
theorem pw_iff (l : List Str) : (∀ i (hi : i < l.length), ∀ y, i ≠ 0 → l[i - 1]? = some y → y < l[i]) ↔ l.Pairwise (· < ·) := by
  have h := asc_iff (l.map fun x => (x, ()))
  have e : Asc (l.map fun x => (x, ())) ↔ l.Pairwise (· < ·) := by unfold Asc; rw [List.pairwise_map]
  rw [← e, ← h]
  constructor
  · intro h i hi y h0 hy
    rw [List.length_map] at hi
    rw [List.getElem?_map] at hy
    cases hq : l[i - 1]? with
    | none => rw [hq] at hy; cases hy
    | some z =>
      rw [hq] at hy
      obtain rfl := Option.some.inj hy
      have := h i hi z h0 hq
      simpa using this
  · intro h i hi y h0 hy
    have := h i (by simpa using hi) (y, ()) h0 (by rw [List.getElem?_map, hy]; rfl)
    simpa using this
theorem names_iff (l : Sets) (ns : List Str) : namesS l ns = 0 ↔ NamesOk l ns := by
  unfold namesS
  rw [forT_zero (q := fun i x => (∃ s ∈ l, s.1 = x ∧ l.find? (fun y => y.1 == x) = some s) ∧ ∀ y, i ≠ 0 → ns[i - 1]? = some y → y < x) (fun i x r => ?_) ns 0]
  · constructor
    · intro h
      refine ⟨fun n hn => ?_, (pw_iff ns).1 fun i hi y h0 hy => (h i hi).2 y (by omega) (by simpa using hy)⟩
      obtain ⟨i, hi, rfl⟩ := List.getElem_of_mem hn
      exact (h i hi).1
    · rintro ⟨h1, h2⟩ i hi
      exact ⟨h1 _ (List.getElem_mem hi), fun y h0 hy => (pw_iff ns).2 h2 i hi y (by omega) (by simpa using hy)⟩
  · unfold nameB
    cases hf : l.find? (fun s => s.1 == x) with
    | none =>
      refine ⟨fun h => (by cases h), fun h => ?_⟩
      obtain ⟨⟨⟨s, _, _, hs⟩, _⟩, _⟩ := h
      cases hs
    | some s =>
      rw [prevN_zero]
      exact ⟨fun h => ⟨⟨⟨s, (find_mem hf).1, (find_mem hf).2, rfl⟩, h.1⟩, h.2⟩, fun h => ⟨h.1.2, h.2⟩⟩
theorem pw_nodup {l : List Str} (h : l.Pairwise (· < ·)) : l.Nodup := h.imp fun {a b} hab e => by rw [e] at hab; exact List.lt_irrefl _ hab
theorem names_len {l : Sets} {ns : List Str} (h : NamesOk l ns) : ns.length ≤ l.length := by
  have := (pw_nodup h.2).length_le_of_subset (l₂ := l.map (·.1)) (fun n hn => by
    obtain ⟨s, hs, e, _⟩ := h.1 n hn
    exact List.mem_map.2 ⟨s, hs, e⟩)
  simpa using this
/-- All values of one setting. -/
def stepA (l : Sets) (n : Str) (vs : List Str) (acc : List Cfg) : List Cfg := acc.flatMap fun x => vs.map fun v => withS l x n v
theorem stepA_len (l : Sets) (n : Str) (vs : List Str) (acc : List Cfg) : (stepA l n vs acc).length = acc.length * vs.length := by
  unfold stepA
  induction acc with
  | nil => simp
  | cons x acc ih => rw [List.flatMap_cons, List.length_append, List.length_map, ih, List.length_cons, Nat.succ_mul]; omega
def valsOf (l : Sets) (n : Str) : List Str := match l.find? (fun s => s.1 == n) with | some s => s.2 | none => []
def allS (l : Sets) : List Str → List Cfg → List Cfg × Bool
  | [], acc => (acc, true)
  | n :: ns, acc => if 1000 < acc.length * (valsOf l n).length then ([], false) else allS l ns (stepA l n (valsOf l n) acc)
/-- A loop over two lists, one in the other: what it gathers. -/
theorem gather {N : Nat} (hN : big ≤ N) {R : Type} (l : Sets) (n : Str) (vs : List Str) (hv : vs.length ≤ 20) (acc : List Cfg) (ha : acc.length ≤ 1000) {W : Cfg → Str → Option Cfg} (hW : ∀ x ∈ acc, ∀ v ∈ vs, W x v = some (withS l x n v)) {k2 : List Cfg → Option R}
    {f2 : Cfg → (List Cfg → Option R) → Nat → Int → List Cfg → Option R} (hf2 : ∀ x k m i w, f2 x k (m + 1) i w = br (decide (i < (vs.length : Int))) (bnd (geti vs i) fun t41 => bnd (W x t41) fun t48 => br (decide ((w.length + [t48].length) * (24 * Ty.sz (.sl (.pr .str .str))) ≤ 140737488355328)) (f2 x k m (IntKind.i64.wrap (i + (1 : Int))) (w ++ [t48])) none) (k w))
    {f1 : Nat → Int → List Cfg → Option R} (hf1 : ∀ m i w, f1 (m + 1) i w = br (decide (i < (acc.length : Int))) (bnd (geti acc i) fun t29 => f2 t29 (fun o => f1 m (IntKind.i64.wrap (i + (1 : Int))) o) N 0 w) (k2 w)) :
    f1 N 0 [] = k2 (stepA l n vs acc) := by
  have hx : acc.length ≤ maxLen := Nat.le_trans ha (by decide)
  have hxv : vs.length ≤ maxLen := Nat.le_trans hv (by decide)
  refine loop_st (f := f1) (T := fun self i w => br (decide (i < (acc.length : Int))) (bnd (geti acc i) fun t29 => f2 t29 (fun o => self (IntKind.i64.wrap (i + (1 : Int))) o) N 0 w) (k2 w)) (fun m i w => hf1 m i w) hx (fun i => stepA l n vs (acc.take i)) (fun self i hi hr => ?_) (fun self => ?_) hN
  · have hlen := stepA_len l n vs (acc.take i)
    rw [List.length_take] at hlen
    have hb : (stepA l n vs (acc.take i)).length ≤ 20000 := by
      rw [hlen]
      exact Nat.le_trans (Nat.mul_le_mul (show min i acc.length ≤ 1000 by omega) hv) (by decide)
    have hs : stepA l n vs (acc.take (i + 1)) = stepA l n vs (acc.take i) ++ vs.map fun v => withS l acc[i] n v := by
      unfold stepA
      rw [List.take_succ_eq_append_getElem hi, List.flatMap_append]; simp
    rw [hs] at hr
    generalize stepA l n vs (acc.take i) = w at hb hr ⊢
    simp only [geti_lt acc hi, wrap_succ hx hi, bnd_some]
    rw [lt_tt hi, br_true]
    have := loop_st (f := f2 acc[i] (fun o => self ((i + 1 : Nat) : Int) o)) (T := fun self2 i2 w => br (decide (i2 < (vs.length : Int))) (bnd (geti vs i2) fun t41 => bnd (W acc[i] t41) fun t48 => br (decide ((w.length + [t48].length) * (24 * Ty.sz (.sl (.pr .str .str))) ≤ 140737488355328)) (self2 (IntKind.i64.wrap (i2 + (1 : Int))) (w ++ [t48])) none) (self ((i + 1 : Nat) : Int) w)) (fun m i2 w => hf2 _ _ m i2 w) hxv (fun j => w ++ (vs.take j).map fun v => withS l acc[i] n v) (r := k2 (stepA l n vs acc)) (fun self2 j hj hr2 => ?_) (fun self2 => ?_) hN
    · simpa using this
    · have hs2 : w ++ (vs.take (j + 1)).map (fun v => withS l acc[i] n v) = (w ++ (vs.take j).map fun v => withS l acc[i] n v) ++ [withS l acc[i] n vs[j]] := by
        rw [List.take_succ_eq_append_getElem hj, List.map_append]; simp
      rw [hs2] at hr2
      simp only [geti_lt vs hj, wrap_succ hxv hj, bnd_some, hW _ (List.getElem_mem hi) _ (List.getElem_mem hj)]
      rw [lt_tt hj, br_true, br_pos]
      · exact hr2
      · rw [List.length_append, List.length_map, List.length_take, List.length_singleton]; show (_ + 1) * 24 ≤ _; omega
    · simp only [lt_ff, br_false, List.take_length]
      exact hr
  · simp only [lt_ff, br_false, List.take_length]
theorem vals_ok {l : Sets} (hl : SetOk l) {s : Str × List Str} (hs : s ∈ l) : valsOf l s.1 = s.2 := by
  unfold valsOf; rw [hl.asc.find hs]
theorem step_ok {l : Sets} (hl : SetOk l) {s : Str × List Str} (hs : s ∈ l) {acc : List Cfg} (ha : ∀ x ∈ acc, CfgOk l x) : ∀ x ∈ stepA l s.1 s.2 acc, CfgOk l x := fun x hx => by
  obtain ⟨y, hy, hx⟩ := List.mem_flatMap.1 hx
  obtain ⟨v, hv, rfl⟩ := List.mem_map.1 hx
  exact with_ok (ha y hy) hs hv
theorem spread_from (hN : big ≤ N) (l : Sets) (hl : Fit settingTy l) (hS : SetOk l) (ns : List Str) (hn : NamesOk l ns) : ∀ (m n i : Nat) (acc : List Cfg), i + m = ns.length → m < n → acc.length ≤ 1000 → (∀ x ∈ acc, CfgOk l x) →
    config_spread_L0 N l ns (ns.length : Int) (fun o => some (o, true)) n acc (i : Int) = some (allS l (ns.drop i) acc)
  | 0, n, i, acc, hi, hm, ha, hok => by
    obtain ⟨n, rfl⟩ : ∃ q, n = q + 1 := ⟨n - 1, by omega⟩
    have : i = ns.length := by omega
    subst this
    show config_spread_L0T _ _ _ _ _ _ _ _ = _
    unfold config_spread_L0T
    rw [lt_ff, br_false, List.drop_length]; rfl
  | m + 1, n, i, acc, hi, hm, ha, hok => by
    obtain ⟨n, rfl⟩ : ∃ q, n = q + 1 := ⟨n - 1, by omega⟩
    have hlt : i < ns.length := by omega
    have hns : ns.length ≤ 30 := Nat.le_trans (names_len hn) hS.len
    obtain ⟨s, hs, hsn, hf⟩ := hn.1 _ (List.getElem_mem hlt)
    have hvs : valsOf l ns[i] = s.2 := by rw [← hsn]; exact vals_ok hS hs
    have hstep : allS l (ns.drop i) acc = if 1000 < acc.length * s.2.length then ([], false) else allS l (ns.drop (i + 1)) (stepA l ns[i] s.2 acc) := by
      rw [List.drop_eq_getElem_cons hlt]
      show (if 1000 < acc.length * (valsOf l ns[i]).length then _ else _) = _
      rw [hvs]
    rw [hstep]
    show config_spread_L0T _ _ _ _ _ _ _ _ = _
    unfold config_spread_L0T
    rw [lt_tt hlt, br_true, geti_lt ns hlt, bnd_some]
    obtain ⟨j, x, hj1, hj2, hj3, hj4⟩ : ∃ (j : Nat) (x : Str × List Str), l.find? (fun x => x.1 == ns[i]) = some x ∧ l[j]? = some x ∧ (x.1 == ns[i]) = true ∧ idxP (fun x : Str × List Str => x.1 == ns[i]) l = (j : Int) := by
      rcases idxP_cases (fun x : Str × List Str => x.1 == ns[i]) l with ⟨h1, _⟩ | ⟨j, x, h1, h2, h3, h4⟩
      · rw [hf] at h1; cases h1
      · exact ⟨j, x, h1, h2, h3, h4⟩
    obtain rfl : s = x := Option.some.inj (hf.symm.trans hj1)
    have G : ∀ k2 : List Cfg → Option (List Cfg × Bool), config_spread_L1 N l ns[i] acc (acc.length : Int) k2 N 0 [] = k2 (stepA l ns[i] s.2 acc) := fun k2 => gather hN l ns[i] s.2 (hS.few s hs) acc ha (W := fun x v => config_with N l x ns[i] v) (fun x hx v hv => by
        have := with_eq hN l hl x (hok x hx) s (by rw [hsn]; exact hf) v
        rw [hsn] at this
        show config_with N l x ns[i] v = _
        rw [this, withI_eq (hok x hx) hs, hsn])
      (f2 := fun x k m i2 w => config_spread_L2 N l ns[i] x s.2 (s.2.length : Int) k m i2 w) (fun _ _ _ _ _ => rfl) (f1 := fun m i2 w => config_spread_L1 N l ns[i] acc (acc.length : Int) k2 m i2 w)
      (fun m i2 w => by
        show config_spread_L1T _ _ _ _ _ _ _ _ _ = _
        unfold config_spread_L1T
        simp only [find_eq hN l hl.1, hj4, bnd_some, geti_nat, hj2])
    rw [G]
    have hlen := stepA_len l ns[i] s.2 acc
    by_cases hbig : 1000 < acc.length * s.2.length
    · have hb : ((stepA l ns[i] s.2 acc).length : Int) > 1000 := by rw [hlen]; omega
      rw [br_pos hb, if_pos hbig]
    · have hb : ¬ ((stepA l ns[i] s.2 acc).length : Int) > 1000 := by rw [hlen]; omega
      rw [br_neg hb, if_neg hbig, wrap_succ (by unfold maxLen; omega) hlt]
      refine spread_from hN l hl hS ns hn m n (i + 1) _ (by omega) (by omega) (by rw [hlen]; omega) ?_
      rw [← hsn]; exact step_ok hS hs hok
theorem all_from (hN : big ≤ N) (l : Sets) (hl : Fit settingTy l) (hS : SetOk l) (ns : List Str) (hn : NamesOk l ns) : ∀ (m n i : Nat) (acc : List Cfg), i + m = ns.length → m < n → acc.length ≤ 1000 → (∀ x ∈ acc, CfgOk l x) →
    ref3_all_L0 N l ns (ns.length : Int) (fun o => some (o, true)) n acc (i : Int) = some (allS l (ns.drop i) acc)
  | 0, n, i, acc, hi, hm, ha, hok => by
    obtain ⟨n, rfl⟩ : ∃ q, n = q + 1 := ⟨n - 1, by omega⟩
    have : i = ns.length := by omega
    subst this
    show ref3_all_L0T _ _ _ _ _ _ _ _ = _
    unfold ref3_all_L0T
    rw [lt_ff, br_false, List.drop_length]; rfl
  | m + 1, n, i, acc, hi, hm, ha, hok => by
    obtain ⟨n, rfl⟩ : ∃ q, n = q + 1 := ⟨n - 1, by omega⟩
    have hlt : i < ns.length := by omega
    have hns : ns.length ≤ 30 := Nat.le_trans (names_len hn) hS.len
    obtain ⟨s, hs, hsn, hf⟩ := hn.1 _ (List.getElem_mem hlt)
    have hvs : valsOf l ns[i] = s.2 := by rw [← hsn]; exact vals_ok hS hs
    have hstep : allS l (ns.drop i) acc = if 1000 < acc.length * s.2.length then ([], false) else allS l (ns.drop (i + 1)) (stepA l ns[i] s.2 acc) := by
      rw [List.drop_eq_getElem_cons hlt]
      show (if 1000 < acc.length * (valsOf l ns[i]).length then _ else _) = _
      rw [hvs]
    rw [hstep]
    show ref3_all_L0T _ _ _ _ _ _ _ _ = _
    unfold ref3_all_L0T
    rw [lt_tt hlt, br_true, geti_lt ns hlt, bnd_some, settingOf_eq hN l hl.1, bnd_some]
    unfold findF
    rw [hf]
    simp only
    have hv20 := hS.few s hs
    have hprod : acc.length * s.2.length ≤ 20000 := Nat.le_trans (Nat.mul_le_mul ha hv20) (by decide)
    have hw : IntKind.i64.wrap ((acc.length : Int) * (s.2.length : Int)) = ((acc.length * s.2.length : Nat) : Int) := by
      rw [Int.natCast_mul]
      have : (acc.length : Int) * (s.2.length : Int) = ((acc.length * s.2.length : Nat) : Int) := (Int.natCast_mul _ _).symm
      rw [wrap_id (by omega) (by omega)]
    rw [hw]
    have hlen := stepA_len l ns[i] s.2 acc
    have G : ∀ k2 : List Cfg → Option (List Cfg × Bool), ref3_all_L1 N l ns[i] acc (acc.length : Int) s.2 k2 N 0 [] = k2 (stepA l ns[i] s.2 acc) := fun k2 => gather hN l ns[i] s.2 hv20 acc ha (W := fun x v => ref3_with N l x ns[i] v) (fun x hx v hv => ref_with_eq hN l hl x (hok x hx) ns[i] v)
        (f2 := fun x k m i2 w => ref3_all_L2 N l ns[i] x s.2 (s.2.length : Int) k m i2 w) (fun _ _ _ _ _ => rfl) (f1 := fun m i2 w => ref3_all_L1 N l ns[i] acc (acc.length : Int) s.2 k2 m i2 w) (fun _ _ _ => rfl)
    by_cases hbig : 1000 < acc.length * s.2.length
    · have hb : ((acc.length * s.2.length : Nat) : Int) > 1000 := by omega
      rw [br_pos hb, if_pos hbig]
    · have hb : ¬ ((acc.length * s.2.length : Nat) : Int) > 1000 := by omega
      rw [br_neg hb, if_neg hbig, G, wrap_succ (by unfold maxLen; omega) hlt]
      refine all_from hN l hl hS ns hn m n (i + 1) _ (by omega) (by omega) (by rw [hlen]; omega) ?_
      rw [← hsn]; exact step_ok hS hs hok
end Go.Proofs.YtbekhaioddmliaaGreatDoor


/- What All computes; the law AllMatches. No program in sight. -/
namespace Go.Proofs.YtbekhaioddmliaaGreatDoor
set_option linter.unusedVariables false
set_option linter.unusedSimpArgs false
open Go Go.RowKit
variable {N : Nat}
theorem SamePairs_self (hN : big ≤ N) (xs : List Cfg) (hx : xs.length ≤ maxLen) (hc : ∀ c ∈ xs, c.length ≤ maxLen) : ref3_SamePairs N xs xs = some true := by
  unfold ref3_SamePairs
  have hL : ref3_SamePairs_L0 N xs xs (xs.length : Int) (some true) N 0 = some true := by
    refine loop_st (f := fun n i (_ : Unit) => ref3_SamePairs_L0 N xs xs (xs.length : Int) (some true) n i) (T := fun self i _ => ref3_SamePairs_L0T N xs xs (xs.length : Int) (some true) (fun i => self i ()) i) (fun _ _ _ => rfl) hx (fun _ => ()) (fun self i h hr => ?_) (fun self => ?_) hN
    · simp only [ref3_SamePairs_L0T, geti_lt xs h, wrap_succ hx h, bnd_some, Equal_pair_self hN _ (hc _ (List.getElem_mem h)), Bool.not_true, br_false]
      rw [lt_tt h, br_true]
      exact hr
    · simp only [ref3_SamePairs_L0T, lt_ff, br_false]
  rw [hL]; simp
theorem allS_len (l : Sets) : ∀ (ns : List Str) (acc : List Cfg), acc.length ≤ 1000 → (allS l ns acc).1.length ≤ 1000
  | [], acc, h => h
  | n :: ns, acc, h => by
    show (if 1000 < acc.length * (valsOf l n).length then _ else _ : List Cfg × Bool).1.length ≤ 1000
    by_cases hb : 1000 < acc.length * (valsOf l n).length
    · rw [if_pos hb]; exact Nat.zero_le _
    · rw [if_neg hb]; exact allS_len l ns _ (by rw [stepA_len]; omega)
theorem allS_ok {l : Sets} (hl : SetOk l) : ∀ (ns : List Str) (acc : List Cfg), (∀ n ∈ ns, ∃ s ∈ l, s.1 = n) → (∀ x ∈ acc, CfgOk l x) → ∀ x ∈ (allS l ns acc).1, CfgOk l x
  | [], acc, _, h => h
  | n :: ns, acc, hn, h => by
    show ∀ x ∈ (if 1000 < acc.length * (valsOf l n).length then _ else _ : List Cfg × Bool).1, CfgOk l x
    by_cases hb : 1000 < acc.length * (valsOf l n).length
    · rw [if_pos hb]; intro x hx; cases hx
    · rw [if_neg hb]
      refine allS_ok hl ns _ (fun m hm => hn m (List.mem_cons_of_mem _ hm)) ?_
      obtain ⟨s, hs, rfl⟩ := hn n (by simp)
      rw [vals_ok hl hs]
      exact step_ok hl hs h
end Go.Proofs.YtbekhaioddmliaaGreatDoor


/- The law AllHasOnly. No program in sight. -/
namespace Go.Proofs.YtbekhaioddmliaaGreatDoor
set_option linter.unusedVariables false
set_option linter.unusedSimpArgs false
open Go Go.RowKit
variable {N : Nat}
end Go.Proofs.YtbekhaioddmliaaGreatDoor

