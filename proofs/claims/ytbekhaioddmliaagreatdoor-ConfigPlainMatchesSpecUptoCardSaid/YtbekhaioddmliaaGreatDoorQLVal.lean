/- What the checks of settings and configurations compute. No program in sight. -/
import Derived.Test.YtbekhaioddmliaaGreatDoorQEnd
import Derived.Test.YtbekhaioddmliaaGreatDoorQSlc
import Derived.KernelRfl
namespace Go.Proofs.YtbekhaioddmliaaGreatDoor
set_option linter.unusedVariables false
set_option linter.unusedSimpArgs false
open Go Go.RowKit
variable {N : Nat}
def wordB (b : UInt8) : Bool := [97, 98, 99, 100, 101, 102, 103, 104, 105, 106, 107, 108, 109, 110, 111, 112, 113, 114, 115, 116, 117, 118, 119, 120, 121, 122, 48, 49, 50, 51, 52, 53, 54, 55, 56, 57, 95, 45].contains b
def isWordS (s : Str) : Bool := match s with
 | [] => false
 | b :: _ => decide (s.length ≤ 40) && decide (97 ≤ b.toNat) && decide (b.toNat ≤ 122) && s.all wordB
theorem dropWhile_nil {α : Type} {p : α → Bool} : ∀ {l : List α}, l.dropWhile p = [] ↔ l.all p = true
 | [] => by simp
 | x :: l => by
   cases h : p x with
   | true => rw [List.dropWhile_cons_of_pos h]; simp [dropWhile_nil, h]
   | false => rw [List.dropWhile_cons_of_neg (by simp [h])]; simp [h]
theorem all_reverse {α : Type} (p : α → Bool) (l : List α) : l.reverse.all p = l.all p := by simp
theorem all_dropWhile {α : Type} (p : α → Bool) : ∀ l : List α, (l.dropWhile p).all p = l.all p
 | [] => rfl
 | x :: l => by
   cases h : p x with
   | true => rw [List.dropWhile_cons_of_pos h]; simp [all_dropWhile p l, h]
   | false => rw [List.dropWhile_cons_of_neg (by simp [h])]
theorem trimS_nil (s cs : Str) : (Lib.trimS s cs == []) = s.all (cs.contains ·) := by
 have h : Lib.trimS s cs = [] ↔ s.all (cs.contains ·) = true := by
   unfold Lib.trimS Lib.trimLeftS Lib.trimRightS
   rw [dropWhile_nil, all_reverse, all_dropWhile, all_reverse]
 cases hb : s.all (cs.contains ·) with
 | true => rw [h.2 hb]; rfl
 | false =>
   cases ht : Lib.trimS s cs with
   | nil => rw [h.1 ht] at hb; cases hb
   | cons => rfl
theorem wordB_byte (b : UInt8) : wordB b = decide ((97 ≤ b.toNat ∧ b.toNat ≤ 122) ∨ (48 ≤ b.toNat ∧ b.toNat ≤ 57) ∨ b.toNat = 45 ∨ b.toNat = 95) := by
 have : ∀ n : Fin 256, wordB (UInt8.ofNat n.val) = decide ((97 ≤ n.val ∧ n.val ≤ 122) ∨ (48 ≤ n.val ∧ n.val ≤ 57) ∨ n.val = 45 ∨ n.val = 95) := by decide +kernel
 have h := this ⟨b.toNat, b.toNat_lt⟩
 simpa using h
theorem config_IsWord_eq (x : Str) : config_IsWord N x = some (isWordS x) := by
 cases x with
 | nil => simp [config_IsWord, isWordS]
 | cons b x =>
   unfold config_IsWord isWordS
   simp only [geti_zero, List.getElem?_cons_zero, bnd_some]
   rw [show decide (((b :: x).length : Int) < 1) = false from decide_eq_false (by simp; omega), br_false, v8_lt, v8_gt,
     not_dec (p := b.toNat < UInt8.toNat 97) (q := 97 ≤ b.toNat) (by show b.toNat < 97 ↔ _; omega), not_dec (p := UInt8.toNat 122 < b.toNat) (q := b.toNat ≤ 122) (by show 122 < b.toNat ↔ _; omega)]
   by_cases h40 : (b :: x).length ≤ 40
   · have e5 : ∀ cs : Str, cs.length < 1000000 → cs.all (fun c => decide (c.toNat < 128)) = true → strings_Trim (b :: x) cs = some (Lib.trimS (b :: x) cs) := fun cs h1 h2 => if_pos ⟨by omega, h1, h2⟩
     rw [decide_eq_false (show ¬ ((b :: x).length : Int) > 40 by omega), br_false, e5 _ (by decide) (by decide), bnd_some, trimS_nil, decide_eq_true h40]
     show br (!decide (97 ≤ b.toNat)) (some false) (br (!decide (b.toNat ≤ 122)) (some false) (some ((b :: x).all wordB))) = some (true && decide (97 ≤ b.toNat) && decide (b.toNat ≤ 122) && (b :: x).all wordB)
     generalize (b :: x).all wordB = q
     cases decide (97 ≤ b.toNat) <;> cases decide (b.toNat ≤ 122) <;> simp
   · rw [decide_eq_true (show ((b :: x).length : Int) > 40 by omega), br_true, decide_eq_false h40]; rfl
theorem forT_all {α : Type} (p : α → Bool) : ∀ (xs : List α) (j : Nat), forT (fun _ x r => if p x = true then r else false) true xs j = xs.all p
 | [], _ => rfl
 | x :: xs, j => by
   show (if p x = true then forT _ _ xs (j + 1) else false) = _
   rw [forT_all p xs (j + 1)]; cases h : p x <;> simp [h]
theorem ref3_IsWord_eq (hN : big ≤ N) (x : Str) (hx : x.length ≤ maxLen) : ref3_IsWord N x = some (isWordS x) := by
 unfold ref3_IsWord ref3_within
 cases x with
 | nil => simp [isWordS]
 | cons b x =>
   simp only [geti_zero, List.getElem?_cons_zero, bnd_some]
   rw [decide_eq_true (show (1 : Int) ≤ ((b :: x).length : Int) by simp; omega), br_true, bnd_some, v8_lt, v8_gt,
     not_dec (p := b.toNat < UInt8.toNat 97) (q := 97 ≤ b.toNat) (by show b.toNat < 97 ↔ _; omega), not_dec (p := UInt8.toNat 122 < b.toNat) (q := b.toNat ≤ 122) (by show 122 < b.toNat ↔ _; omega),
     decide_eq_decide.2 (show ((b :: x).length : Int) ≤ 40 ↔ (b :: x).length ≤ 40 by omega)]
   have hL : z106L0 N (b :: x) ((b :: x).length : Int) (some true) N 0 = some ((b :: x).all wordB) := by
     rw [← forT_all wordB _ 0]
     refine loop_for (fun _ _ => rfl) (b :: x) hx (fun self i h r hr => ?_) (fun self => ?_) hN
     · simp only [z106L0T, geti_lt _ h, wrap_succ hx h, hr]
       rw [wordB_byte, decide_eq_true (show (i : Int) < ((b :: x).length : Int) by omega), br_true, bnd_some]
       generalize (b :: x)[i] = c
       simp only [v8_lt, v8_gt, v8_bne, br_eq_ite]
       have hn := c.toNat_lt
       generalize c.toNat = n at hn ⊢
       rw [show UInt8.toNat 97 = 97 from rfl, show UInt8.toNat 48 = 48 from rfl, show UInt8.toNat 45 = 45 from rfl, show UInt8.toNat 95 = 95 from rfl, show UInt8.toNat 57 = 57 from rfl, show UInt8.toNat 122 = 122 from rfl]
       simp only [decide_eq_true_eq, Bool.not_eq_true', decide_eq_false_iff_not]
       by_cases hw : (97 ≤ n ∧ n ≤ 122) ∨ (48 ≤ n ∧ n ≤ 57) ∨ n = 45 ∨ n = 95
       · rw [if_pos hw]
         repeat' split
         all_goals first | rfl | omega
       · rw [if_neg hw]
         repeat' split
         all_goals first | rfl | omega
     · simp [z106L0T]
   rw [hL]
   show _ = some (decide ((b :: x).length ≤ 40) && decide (97 ≤ b.toNat) && decide (b.toNat ≤ 122) && (b :: x).all wordB)
   generalize (b :: x).all wordB = q
   cases decide ((b :: x).length ≤ 40) <;> cases decide (97 ≤ b.toNat) <;> cases decide (b.toNat ≤ 122) <;> simp
theorem slices_Index_eq (hN : big ≤ N) (xs : List Str) (hx : xs.length ≤ maxLen) (x : Str) : slices_Index_string_string N xs x = some (idxP (x == ·) xs) := by
 unfold slices_Index_string_string
 refine loop_for (fun _ _ => rfl) xs hx (fun self i h r hr => ?_) (fun self => ?_) hN
 · simp only [z17L0T, geti_lt xs h, wrap_succ hx h, hr, bnd_some]
   rw [lt_tt h, br_true, br_ite]
 · simp [z17L0T]
theorem slices_Contains_eq (hN : big ≤ N) (xs : List Str) (hx : xs.length ≤ maxLen) (x : Str) : slices_Contains_string_string N xs x = some (xs.any (x == ·)) := by
 unfold slices_Contains_string_string
 rw [slices_Index_eq hN xs hx, bnd_some, idxP_nonneg]
theorem find_1_eq (x : Str × List Str) (n : Str) : config_find_1 N x n = some (x.1 == n) := rfl
theorem IndexFunc_eq (hN : big ≤ N) (xs : List (Str × List Str)) (hx : xs.length ≤ maxLen) (n : Str) : slices_IndexFunc_api_Setting N xs (n, ()) = some (idxP (fun x => x.1 == n) xs) := by
 unfold slices_IndexFunc_api_Setting
 refine loop_for (fun _ _ => rfl) xs hx (fun self i h r hr => ?_) (fun self => ?_) hN
 · simp only [z12L0T, geti_lt xs h, wrap_succ hx h, hr, bnd_some, find_1_eq]
   rw [lt_tt h, br_true, br_ite]
 · simp only [z12L0T, lt_ff, br_false]
theorem find_eq (hN : big ≤ N) (xs : List (Str × List Str)) (hx : xs.length ≤ maxLen) (n : Str) : config_find N xs n = some (idxP (fun x => x.1 == n) xs) := by
 unfold config_find
 rw [IndexFunc_eq hN xs hx, bnd_some]
def prevS {α : Type} (l : List (Str × α)) (i : Nat) (n : Str) (r : Int) : Int := if i = 0 then r else match l[i - 1]? with | some y => if (Op.bytesLess n y.1 || n == y.1) then 8 else r | none => r
theorem prev_eq {α : Type} {l : List (Str × α)} (hx : l.length ≤ maxLen) {i : Nat} (h : i < l.length) {n : Str} {r : Int} :
   (br (decide ((i : Int) > 0)) (bnd (geti l (IntKind.i64.wrap ((i : Int) - 1))) fun y => br (Op.bytesLess n y.1 || n == y.1) (some 8) (some r)) (some r)) = some (prevS l i n r) := by
 unfold maxLen at hx
 unfold prevS
 cases i with
 | zero => simp
 | succ j =>
   rw [wrap_pred (by omega), show ((j + 1 : Nat) : Int) - 1 = (j : Int) by omega, geti_lt l (by omega), bnd_some, br_ite, decide_eq_true (show ((j + 1 : Nat) : Int) > 0 by omega), br_true, if_neg (Nat.succ_ne_zero j)]
   rw [show j + 1 - 1 = j from rfl, List.getElem?_eq_getElem (by omega)]
def valuesS (rest : Int) (l : List Str) : Int := forT (fun i w r => if !isWordS w then 5 else if (l.take i).any (w == ·) then 7 else r) rest l 0
def settingsB (l : List (Str × List Str)) (i : Nat) (x : Str × List Str) (r : Int) : Int :=
 if !isWordS x.1 then 5 else if x.2.length = 0 then 9 else if 20 < x.2.length then 2 else
   valuesS (prevS l i x.1 r) x.2
def settingsS (l : List (Str × List Str)) : Int := if 30 < l.length then 2 else forT (settingsB l) 0 l 0
theorem values_eq (hN : big ≤ N) (l : List Str) (hl : l.length ≤ maxLen) {k : Option Int} {r : Int} (hk : k = some r) :
   z30L1 N l (l.length : Int) l k N 0 = some (valuesS r l) := by
 refine loop_for (fun _ _ => rfl) l hl (fun self i h r' hr => ?_) (fun self => ?_) hN
 · have ht : (l.take i).length ≤ maxLen := by rw [List.length_take]; omega
   simp only [z30L1T, geti_lt l h, wrap_succ hl h, hr, bnd_some, config_IsWord_eq, slc_take l (Nat.le_of_lt h), slices_Contains_eq hN _ ht]
   rw [lt_tt h, br_true, br_ite, br_ite]
 · simp only [z30L1T, lt_ff, br_false, hk]
theorem settings_eq (hN : big ≤ N) (l : List (Str × List Str)) (hl : Fit (.sl (.pr .str (.sl .str))) l) : config_CheckSettings N l = some (settingsS l) := by
 unfold config_CheckSettings settingsS
 have hx : l.length ≤ maxLen := hl.1
 have hL : z30L0 N l l (l.length : Int) (some 0) N 0 = some (forT (settingsB l) 0 l 0) := by
   refine loop_for (fun _ _ => rfl) l hx (fun self i h r hr => ?_) (fun self => ?_) hN
   · have hv : l[i].2.length ≤ maxLen := (hl.2 _ (List.getElem_mem h)).2.1
     simp only [z30L0T, geti_lt l h, wrap_succ hx h, hr, bnd_some, config_IsWord_eq]
     rw [lt_tt h, br_true]
     rw [values_eq hN _ hv (prev_eq hx h)]
     unfold settingsB
     rw [show ((l[i].2.length : Int) == 0) = decide (l[i].2.length = 0) by show decide _ = decide _; exact decide_eq_decide.2 (by omega), (decide_eq_decide.2 (by omega) : decide ((l[i].2.length : Int) > 20) = decide (20 < l[i].2.length))]
     simp only [br_ite, decide_eq_true_eq]
   · simp only [z30L0T, lt_ff, br_false]
 rw [hL, (decide_eq_decide.2 (by omega) : decide ((l.length : Int) > 30) = decide (30 < l.length)), br_ite]
 simp only [decide_eq_true_eq]
theorem ref_values_eq (hN : big ≤ N) (l : List Str) (hl : Fit (.sl .str) l) {k : Option Int} {r : Int} (hk : k = some r) :
   z43L1 N l (l.length : Int) l k N 0 = some (valuesS r l) := by
 refine loop_for (fun _ _ => rfl) l hl.1 (fun self i h r' hr => ?_) (fun self => ?_) hN
 · have ht : (l.take i).length ≤ maxLen := by have := hl.1; rw [List.length_take]; omega
   simp only [z43L1T, geti_lt l h, wrap_succ hl.1 h, hr, bnd_some, ref3_IsWord_eq hN _ (hl.2 _ (List.getElem_mem h)), slc_take l (Nat.le_of_lt h), slices_Contains_eq hN _ ht]
   rw [lt_tt h, br_true, br_ite, br_ite]
 · simp only [z43L1T, lt_ff, br_false, hk]
theorem ref_settings_eq (hN : big ≤ N) (l : List (Str × List Str)) (hl : Fit (.sl (.pr .str (.sl .str))) l) : ref3_CheckSettings N l = some (settingsS l) := by
 unfold ref3_CheckSettings settingsS
 have hx : l.length ≤ maxLen := hl.1
 have hL : z43L0 N l l (l.length : Int) (some 0) N 0 = some (forT (settingsB l) 0 l 0) := by
   refine loop_for (fun _ _ => rfl) l hx (fun self i h r hr => ?_) (fun self => ?_) hN
   · have hv := hl.2 _ (List.getElem_mem h)
     simp only [z43L0T, geti_lt l h, wrap_succ hx h, hr, bnd_some, ref3_IsWord_eq hN _ hv.1]
     rw [lt_tt h, br_true, ref_values_eq hN _ hv.2 (prev_eq hx h)]
     unfold settingsB
     rw [show ((l[i].2.length : Int) == 0) = decide (l[i].2.length = 0) by show decide _ = decide _; exact decide_eq_decide.2 (by omega), (decide_eq_decide.2 (by omega) : decide ((l[i].2.length : Int) > 20) = decide (20 < l[i].2.length))]
     simp only [br_ite, decide_eq_true_eq]
   · simp only [z43L0T, lt_ff, br_false]
 rw [hL, (decide_eq_decide.2 (by omega) : decide ((l.length : Int) > 30) = decide (30 < l.length)), br_ite]
 simp only [decide_eq_true_eq]
theorem forT_keep {α : Type} {p : α → Prop} {body : Nat → α → Int → Int} (h : ∀ i x r, body i x r = 0 → p x ∧ r = 0) : ∀ (xs : List α) (j : Nat), forT body 0 xs j = 0 → ∀ x ∈ xs, p x
 | [], _, _, _, hx => by cases hx
 | y :: ys, j, h0, x, hx => by
   obtain ⟨h1, h2⟩ := h j y _ h0
   rcases List.mem_cons.1 hx with rfl | hx
   · exact h1
   · exact forT_keep h ys (j + 1) h2 x hx
theorem values_keep {r : Int} (l : List Str) (j : Nat) (l0 : List Str) : forT (fun i w r => if !isWordS w then 5 else if (l0.take i).any (w == ·) then 7 else r) r l j = 0 → r = 0 := by
 induction l generalizing j with
 | nil => exact id
 | cons w l ih =>
   intro h
   simp only [forT] at h
   split at h
   · cases h
   · split at h
     · cases h
     · exact ih _ h
theorem settings_some {l : List (Str × List Str)} (h : settingsS l = 0) : ∀ s ∈ l, s.2 ≠ [] := by
 unfold settingsS at h
 split at h
 · cases h
 · refine forT_keep (p := fun s => s.2 ≠ []) (fun i x r hb => ?_) l 0 h
   unfold settingsB at hb
   split at hb
   · cases hb
   · split at hb
     · cases hb
     · split at hb
       · cases hb
       · rename_i h1 h2 h3
         refine ⟨fun e => h2 (by rw [e]; rfl), ?_⟩
         have := values_keep _ _ _ hb
         unfold prevS at this
         split at this
         · exact this
         · split at this
           · split at this
             · cases this
             · exact this
           · exact this
def pairB (l : List (Str × List Str)) (c : List (Str × Str)) (strict : Bool) (i : Nat) (x : Str × Str) (r : Int) : Int :=
 match l.find? (fun s => s.1 == x.1) with
 | none => 5
 | some s => if !(s.2.any (x.2 == ·)) then 1 else if strict && s.2.head? == some x.2 then 3 else prevS c i x.1 r
def pairsS (l : List (Str × List Str)) (c : List (Str × Str)) (strict : Bool) : Int := forT (pairB l c strict) 0 c 0
theorem checkSet_eq (hN : big ≤ N) (l : List (Str × List Str)) (hl : Fit (.sl (.pr .str (.sl .str))) l) (c : List (Str × Str)) (hc : c.length ≤ maxLen) (hs : ∀ s ∈ l, s.2 ≠ []) (strict : Bool) : config_checkSet N l c strict = some (pairsS l c strict) := by
 unfold config_checkSet
 refine loop_for (fun _ _ => rfl) c hc (fun self i h r hr => ?_) (fun self => ?_) hN
 · simp only [z61L0T, geti_lt c h, wrap_succ hc h, hr, bnd_some, find_eq hN l hl.1]
   rw [lt_tt h, br_true]
   unfold pairB
   rcases idxP_cases (fun s : Str × List Str => s.1 == c[i].1) l with ⟨h1, h2⟩ | ⟨j, s, h1, h2, h3, h4⟩
   · rw [h2, h1]; simp
   · have hm := List.mem_of_getElem? h2
     rw [h4, h1, decide_eq_false (show ¬ ((j : Int) < 0) by omega), br_false, geti_nat, h2, bnd_some, slices_Contains_eq hN _ (hl.2 _ hm).2.1, bnd_some, prev_eq hc h]
     obtain ⟨a, t, ht⟩ : ∃ a t, s.2 = a :: t := by
       cases hq : s.2 with
       | nil => exact absurd hq (hs s hm)
       | cons a t => exact ⟨a, t, rfl⟩
     simp only [bnd_some, ht, geti_zero, List.getElem?_cons_zero, br_ite, List.head?_cons]
     have e : (some a == some c[i].2) = (c[i].2 == a) := by
       show (a == c[i].2) = _
       exact Bool.eq_iff_iff.2 ⟨fun h => by simpa using (eq_of_beq h).symm, fun h => by simpa using (eq_of_beq h).symm⟩
     rw [e]
     cases strict <;> simp
 · simp only [z61L0T, lt_ff, br_false]
abbrev settingTy : Ty := .sl (.pr .str (.sl .str))
abbrev pairTy : Ty := .sl (.pr .str .str)
def configS (l : List (Str × List Str)) (c : List (Str × Str)) : Int := if settingsS l ≠ 0 then settingsS l else pairsS l c true
theorem ne_zero_dec (n : Int) : (n != 0) = decide (n ≠ 0) := by
 show (!decide (n = 0)) = decide (n ≠ 0)
 cases h : decide (n = 0) with
 | true => exact (decide_eq_false (fun h' => h' (of_decide_eq_true h))).symm
 | false => exact (decide_eq_true (of_decide_eq_false h)).symm
theorem checkConfig_eq (hN : big ≤ N) (l : List (Str × List Str)) (hl : Fit settingTy l) (c : List (Str × Str)) (hc : c.length ≤ maxLen) : config_CheckConfig N l c = some (configS l c) := by
 unfold config_CheckConfig configS
 rw [settings_eq hN l hl, bnd_some, ne_zero_dec]
 by_cases h : settingsS l = 0
 · rw [decide_eq_false (by simpa using h), br_false, if_neg (by simpa using h), checkSet_eq hN l hl c hc (settings_some h), bnd_some]
 · rw [decide_eq_true h, br_true, if_pos h]
def findF {α β : Type} (p : α → Bool) (f : α → β) (d : β) (xs : List α) : β := match xs.find? p with | some x => f x | none => d
theorem forT_find {α β : Type} (p : α → Bool) (f : α → β) (d : β) : ∀ (xs : List α) (j : Nat), forT (fun _ x r => if p x = true then f x else r) d xs j = findF p f d xs
 | [], _ => rfl
 | x :: xs, j => by
   show (if p x = true then f x else forT _ _ xs (j + 1)) = _
   rw [forT_find p f d xs (j + 1)]
   unfold findF
   rw [List.find?_cons]
   cases h : p x <;> simp
theorem settingOf_eq (hN : big ≤ N) (l : List (Str × List Str)) (hx : l.length ≤ maxLen) (n : Str) : ref3_settingOf N l n = some (findF (fun s => s.1 == n) (fun s => (s, true)) (([], []), false) l) := by
 unfold ref3_settingOf
 rw [← forT_find (fun s : Str × List Str => s.1 == n) (fun s => (s, true)) _ l 0]
 refine loop_for (fun _ _ => rfl) l hx (fun self i h r hr => ?_) (fun self => ?_) hN
 · simp only [z75L0T, geti_lt l h, wrap_succ hx h, hr, bnd_some]
   rw [lt_tt h, br_true, br_ite]
 · simp only [z75L0T, lt_ff, br_false]
theorem ref_checkConfig_eq (hN : big ≤ N) (l : List (Str × List Str)) (hl : Fit settingTy l) (c : List (Str × Str)) (hc : c.length ≤ maxLen) : ref3_CheckConfig N l c = some (configS l c) := by
 unfold ref3_CheckConfig configS
 rw [ref_settings_eq hN l hl, bnd_some, ne_zero_dec]
 by_cases h : settingsS l = 0
 · rw [decide_eq_false (by simpa using h), br_false, if_neg (by simpa using h)]
   refine loop_for (fun _ _ => rfl) c hc (fun self i h' r hr => ?_) (fun self => ?_) hN
   · simp only [z56L0T, geti_lt c h', wrap_succ hc h', hr, bnd_some, settingOf_eq hN l hl.1]
     rw [lt_tt h', br_true]
     unfold pairB
     cases hf : l.find? (fun s => s.1 == c[i].1) with
     | none => simp [findF, hf]
     | some s =>
       have hff : findF (fun s : Str × List Str => s.1 == c[i].1) (fun s => (s, true)) (([], []), false) l = (s, true) := by unfold findF; rw [hf]
       rw [hff]
       have hm := List.mem_of_find?_eq_some hf
       obtain ⟨a, t, ht⟩ : ∃ a t, s.2 = a :: t := by
         cases hq : s.2 with
         | nil => exact absurd hq (settings_some h s hm)
         | cons a t => exact ⟨a, t, rfl⟩
       simp only [slices_Contains_eq hN _ (hl.2 _ hm).2.1, bnd_some, prev_eq hc h']
       simp only [ht, geti_zero, List.getElem?_cons_zero, bnd_some, br_ite, List.head?_cons]
       have e : (some a == some c[i].2) = (a == c[i].2) := rfl
       rw [e]
       simp
   · simp only [z56L0T, lt_ff, br_false]
 · rw [decide_eq_true h, br_true, if_pos h]
def valueS (l : List (Str × List Str)) (c : List (Str × Str)) (n : Str) : Str := findF (fun p => p.1 == n) (fun p => p.2) (findF (fun s => s.1 == n) (fun s => s.2.headD []) [] l) c
theorem pairOf_eq (hN : big ≤ N) (c : List (Str × Str)) (hx : c.length ≤ maxLen) (n : Str) : config_pairOf N c n = some (findF (fun s => s.1 == n) (fun s => (s.2, true)) ([], false) c) := by
 unfold config_pairOf
 rw [← forT_find (fun s : Str × Str => s.1 == n) (fun s => (s.2, true)) _ c 0]
 refine loop_for (fun _ _ => rfl) c hx (fun self i h r hr => ?_) (fun self => ?_) hN
 · simp only [z83L0T, geti_lt c h, wrap_succ hx h, hr, bnd_some]
   rw [lt_tt h, br_true, br_ite]
 · simp only [z83L0T, lt_ff, br_false]
theorem valueOf_eq (hN : big ≤ N) (l : List (Str × List Str)) (hl : Fit settingTy l) (c : List (Str × Str)) (hc : c.length ≤ maxLen) (hs : ∀ s ∈ l, s.2 ≠ []) (n : Str) (hn : (l.find? (fun s => s.1 == n)).isSome = true) : config_valueOf N l c n = some (valueS l c n) := by
 unfold config_valueOf valueS
 rw [pairOf_eq hN c hc, bnd_some]
 unfold findF
 cases hf : c.find? (fun s => s.1 == n) with
 | some p => simp
 | none =>
   rw [br_false, find_eq hN l hl.1, bnd_some]
   rcases idxP_cases (fun s : Str × List Str => s.1 == n) l with ⟨h1, h2⟩ | ⟨j, s, h1, h2, h3, h4⟩
   · rw [h1] at hn; cases hn
   · obtain ⟨a, t, ht⟩ : ∃ a t, s.2 = a :: t := by
       cases hq : s.2 with
       | nil => exact absurd hq (hs s (List.mem_of_getElem? h2))
       | cons a t => exact ⟨a, t, rfl⟩
     rw [h4, geti_nat, h2, bnd_some, h1]
     simp [ht, geti_zero]
theorem ref_valueOf_eq (hN : big ≤ N) (l : List (Str × List Str)) (hl : Fit settingTy l) (c : List (Str × Str)) (hc : c.length ≤ maxLen) (hs : ∀ s ∈ l, s.2 ≠ []) (n : Str) (hn : (l.find? (fun s => s.1 == n)).isSome = true) : ref3_valueOf N l c n = some (valueS l c n) := by
 unfold ref3_valueOf valueS
 rw [← forT_find (fun s : Str × Str => s.1 == n) (fun s => s.2) _ c 0]
 refine loop_for (fun _ _ => rfl) c hc (fun self i h r hr => ?_) (fun self => ?_) hN
 · simp only [z91L0T, geti_lt c h, wrap_succ hc h, hr, bnd_some]
   rw [lt_tt h, br_true, br_ite]
 · simp only [z91L0T, lt_ff, br_false, settingOf_eq hN l hl.1, bnd_some]
   cases hf : l.find? (fun s => s.1 == n) with
   | none => rw [hf] at hn; cases hn
   | some s =>
     obtain ⟨a, t, ht⟩ : ∃ a t, s.2 = a :: t := by
       cases hq : s.2 with
       | nil => exact absurd hq (hs s (List.mem_of_find?_eq_some hf))
       | cons a t => exact ⟨a, t, rfl⟩
     simp [findF, hf, ht, geti_zero]
theorem awake_eq : law3_awake big = some true := by kernel_rfl
end Go.Proofs.YtbekhaioddmliaaGreatDoor


/- What the checks of platforms and conditions compute, and Holds. No program in sight. -/
namespace Go.Proofs.YtbekhaioddmliaaGreatDoor
set_option linter.unusedVariables false
set_option linter.unusedSimpArgs false
open Go Go.RowKit
variable {N : Nat}
theorem decode_low (s : ByteArray) (i : Nat) (h : (s.get! i).toNat < 128) : Utf8.decode s i = ((s.get! i).toNat, 1) := by
 unfold Utf8.decode; simp [h]
theorem decode_high (s : ByteArray) (i : Nat) (h : 128 ≤ (s.get! i).toNat) : 128 ≤ (Utf8.decode s i).1 := by
 unfold Utf8.decode
 have h0 : ¬ (s.get! i).toNat < 128 := by omega
 simp only [Nat.add_zero, Nat.reduceLT]
 rw [if_neg h0]
 repeat' split
 all_goals first | (simp only [Utf8.runeError]; omega) | (simp only [ge_iff_le, Bool.and_eq_true, decide_eq_true_eq] at *; omega) | decide
theorem idx_bad (s : Str) (q : Nat → Bool) (hq : ∀ n, q n = decide (n < 32 ∨ 126 < n)) : ∀ (f pos : Nat), s.length ≤ pos + f →
   decide (0 ≤ Lib.idxFuncFrom q true ⟨s.toArray⟩ f pos) = (s.drop pos).any (fun b => decide (b.toNat < 32 ∨ 126 < b.toNat))
 | 0, pos, h => by rw [List.drop_eq_nil_of_le (by omega)]; rfl
 | f + 1, pos, h => by
   unfold Lib.idxFuncFrom
   by_cases hp : pos < s.length
   · have hsz : pos < (⟨s.toArray⟩ : ByteArray).size := hp
     rw [if_pos hsz, List.drop_eq_getElem_cons hp, List.any_cons]
     have hg : (⟨s.toArray⟩ : ByteArray).get! pos = s[pos] := by
       show (s.toArray)[pos]! = _
       simp [hp]
     by_cases hb : s[pos].toNat < 128
     · rw [decode_low _ _ (by rw [hg]; exact hb), hg, hq]
       by_cases hc : s[pos].toNat < 32 ∨ 126 < s[pos].toNat
       · rw [decide_eq_true hc, if_pos rfl]; simp
       · rw [decide_eq_false hc, if_neg (by simp), Bool.false_or]
         exact idx_bad s q hq f (pos + 1) (by omega)
     · have := decode_high (⟨s.toArray⟩ : ByteArray) pos (by rw [hg]; omega)
       rw [hq, decide_eq_true (Or.inr (by omega)), if_pos rfl, decide_eq_true (show s[pos].toNat < 32 ∨ 126 < s[pos].toNat from Or.inr (by omega))]
       simp
   · have hsz : ¬ pos < (⟨s.toArray⟩ : ByteArray).size := hp
     rw [if_neg hsz, List.drop_eq_nil_of_le (by omega)]; rfl
def condB (b : UInt8) : Bool := decide (b.toNat < 32 ∨ 126 < b.toNat)
def condS (s : Str) : Bool := decide (1 ≤ s.length) && decide (s.length ≤ 1000) && !(s == [100, 101, 102, 97, 117, 108, 116]) && !(s.any condB)
theorem ContainsFunc_eq (s : Str) : strings_ContainsFunc_config_CheckConditions_1 N s () = some (s.any condB) := by
 unfold strings_ContainsFunc_config_CheckConditions_1 Lib.idxFunc
 rw [idx_bad s _ (fun n => ?_) _ 0 (by rw [Nat.zero_add]; exact Nat.le_refl _)]
 · rfl
 · unfold config_CheckConditions_1
   rw [br_ite]
   show (if decide ((n : Int) < 32) = true then true else decide ((n : Int) > 126)) = _
   by_cases h1 : n < 32
   · rw [if_pos (decide_eq_true (by omega))]; exact (decide_eq_true (Or.inl h1)).symm
   · rw [if_neg (by simp; omega)]
     exact decide_eq_decide.2 (by omega)
theorem forT_guard {α β : Type} (p : α → Bool) (c k : β) : ∀ (xs : List α) (j : Nat), forT (fun _ x r => if p x = true then c else r) k xs j = if xs.any p = true then c else k
 | [], _ => by simp [forT]
 | x :: xs, j => by
   show (if p x = true then c else forT _ _ xs (j + 1)) = _
   rw [forT_guard p c k xs (j + 1), List.any_cons]
   cases h : p x <;> simp
theorem isCondition_eq (hN : big ≤ N) (s : Str) (hs : s.length ≤ maxLen) : ref3_isCondition N s = some (condS s) := by
 unfold ref3_isCondition
 have hk : (bnd (ref3_within N (s.length : Int) 1 1000) fun t22 => br t22 (some (!(s == ([100, 101, 102, 97, 117, 108, 116] : Str)))) (some false)) = some (decide (1 ≤ s.length) && decide (s.length ≤ 1000) && !(s == [100, 101, 102, 97, 117, 108, 116])) := by
   unfold ref3_within
   rw [(decide_eq_decide.2 (by omega) : decide ((1 : Int) ≤ (s.length : Int)) = decide (1 ≤ s.length)), (decide_eq_decide.2 (by omega) : decide ((s.length : Int) ≤ 1000) = decide (s.length ≤ 1000))]
   cases decide (1 ≤ s.length) <;> cases decide (s.length ≤ 1000) <;> simp
 have hL := loop_for (f := z58L0 N s (s.length : Int) (bnd (ref3_within N (s.length : Int) 1 1000) fun t22 => br t22 (some (!(s == ([100, 101, 102, 97, 117, 108, 116] : Str)))) (some false))) (fun _ _ => rfl) s hs
   (body := fun _ b r => if condB b = true then false else r) (k := (decide (1 ≤ s.length) && decide (s.length ≤ 1000) && !(s == [100, 101, 102, 97, 117, 108, 116])))
   (fun self i h r hr => by
     simp only [z58L0T, geti_lt s h, wrap_succ hs h, hr, bnd_some, v8_lt, v8_gt]
     rw [lt_tt h, br_true, br_ite, br_ite]
     unfold condB
     show some (if decide (s[i].toNat < 32) = true then false else if decide (126 < s[i].toNat) = true then false else r) = _
     by_cases h1 : s[i].toNat < 32 <;> by_cases h2 : 126 < s[i].toNat <;> simp [h1, h2])
   (fun self => by simp only [z58L0T, lt_ff, br_false]; exact hk) hN
 rw [hL, forT_guard]
 unfold condS
 cases s.any condB <;> simp
def pairsCheckS (l : List (Str × Str)) : Int := if 30 < l.length then 2 else forT (fun i x r => if !isWordS x.1 then 5 else if !isWordS x.2 then 1 else prevS l i x.1 r) 0 l 0
theorem CheckPairs_eq (hN : big ≤ N) (l : List (Str × Str)) (hl : l.length ≤ maxLen) : config_CheckPairs N l = some (pairsCheckS l) := by
 unfold config_CheckPairs pairsCheckS
 rw [loop_for (f := z46L0 N l l (l.length : Int) (some 0)) (fun _ _ => rfl) l hl (body := fun i x r => if !isWordS x.1 then 5 else if !isWordS x.2 then 1 else prevS l i x.1 r) (k := 0)
   (fun self i h r hr => by
     simp only [z46L0T, geti_lt l h, wrap_succ hl h, hr, bnd_some, config_IsWord_eq]
     rw [lt_tt h, br_true, prev_eq hl h, br_ite, br_ite])
   (fun self => by simp only [z46L0T, lt_ff, br_false]) hN,
   (decide_eq_decide.2 (by omega) : decide ((l.length : Int) > 30) = decide (30 < l.length)), br_ite]
 simp only [decide_eq_true_eq]
theorem checkPairs_eq (hN : big ≤ N) (l : List (Str × Str)) (hl : Fit pairTy l) : ref3_checkPairs N l = some (pairsCheckS l) := by
 unfold ref3_checkPairs pairsCheckS
 rw [loop_for (f := z68L0 N l l (l.length : Int) (some 0)) (fun _ _ => rfl) l hl.1 (body := fun i x r => if !isWordS x.1 then 5 else if !isWordS x.2 then 1 else prevS l i x.1 r) (k := 0)
   (fun self i h r hr => by
     have hx := hl.2 _ (List.getElem_mem h)
     simp only [z68L0T, geti_lt l h, wrap_succ hl.1 h, hr, bnd_some, ref3_IsWord_eq hN _ hx.1, ref3_IsWord_eq hN _ hx.2]
     rw [lt_tt h, br_true, prev_eq hl.1 h, br_ite, br_ite])
   (fun self => by simp only [z68L0T, lt_ff, br_false]) hN,
   (decide_eq_decide.2 (by omega) : decide ((l.length : Int) > 30) = decide (30 < l.length)), br_ite]
 simp only [decide_eq_true_eq]
abbrev platformTy : Ty := .sl (.pr .str (.sl (.pr .str .str)))
def platformsB (l : List (Str × List (Str × Str))) (i : Nat) (x : Str × List (Str × Str)) (r : Int) : Int :=
 if !isWordS x.1 then 5 else if decide (pairsCheckS x.2 ≠ 0) then pairsCheckS x.2 else if (l.take i).any (fun y => y.1 == x.1) then 7 else r
def platformsS (l : List (Str × List (Str × Str))) : Int := if 50 < l.length then 2 else forT (platformsB l) 0 l 0
theorem IndexFunc_platform (hN : big ≤ N) (xs : List (Str × List (Str × Str))) (hx : xs.length ≤ maxLen) (q : Str × List (Str × Str)) : slices_IndexFunc_api_Platform N xs (q, ()) = some (idxP (fun x => x.1 == q.1) xs) := by
 unfold slices_IndexFunc_api_Platform
 refine loop_for (fun _ _ => rfl) xs hx (fun self i h r hr => ?_) (fun self => ?_) hN
 · simp only [z8L0T, geti_lt xs h, wrap_succ hx h, hr, bnd_some, config_CheckPlatforms_1]
   rw [lt_tt h, br_true, br_ite]
 · simp only [z8L0T, lt_ff, br_false]
theorem CheckPlatforms_eq (hN : big ≤ N) (l : List (Str × List (Str × Str))) (hl : Fit platformTy l) : config_CheckPlatforms N l = some (platformsS l) := by
 unfold config_CheckPlatforms platformsS
 rw [loop_for (f := z27L0 N l l (l.length : Int) (some 0)) (fun _ _ => rfl) l hl.1 (body := platformsB l) (k := 0)
   (fun self i h r hr => by
     have hx := hl.2 _ (List.getElem_mem h)
     have ht : (l.take i).length ≤ maxLen := by have := hl.1; rw [List.length_take]; omega
     simp only [z27L0T, geti_lt l h, wrap_succ hl.1 h, hr, bnd_some, config_IsWord_eq, CheckPairs_eq hN _ hx.2.1, slc_take l (Nat.le_of_lt h), slices_ContainsFunc_api_Platform, IndexFunc_platform hN _ ht, idxP_nonneg]
     rw [lt_tt h, br_true, br_ite, ne_zero_dec, br_ite, br_ite]; rfl)
   (fun self => by simp only [z27L0T, lt_ff, br_false]) hN,
   (decide_eq_decide.2 (by omega) : decide ((l.length : Int) > 50) = decide (50 < l.length)), br_ite]
 simp only [decide_eq_true_eq]
theorem ref_CheckPlatforms_eq (hN : big ≤ N) (l : List (Str × List (Str × Str))) (hl : Fit platformTy l) : ref3_CheckPlatforms N l = some (platformsS l) := by
 unfold ref3_CheckPlatforms platformsS
 rw [loop_for (f := z35L0 N l l (l.length : Int) (some 0)) (fun _ _ => rfl) l hl.1 (body := platformsB l) (k := 0)
   (fun self i h r hr => by
     have hx := hl.2 _ (List.getElem_mem h)
     have ht : (l.take i).length ≤ maxLen := by have := hl.1; rw [List.length_take]; omega
     have hin : z35L1 N (l.take i) ((l.take i).length : Int) l[i].1 (some r) N 0 = some (if (l.take i).any (fun y => y.1 == l[i].1) then 7 else r) := by
       rw [← forT_guard _ _ _ _ 0]
       refine loop_for (fun _ _ => rfl) _ ht (fun self j hj r' hr' => ?_) (fun self => ?_) hN
       · simp only [z35L1T, geti_lt _ hj, wrap_succ ht hj, hr', bnd_some]
         rw [lt_tt hj, br_true, br_ite]
       · simp only [z35L1T, lt_ff, br_false]
     simp only [z35L0T, geti_lt l h, wrap_succ hl.1 h, hr, bnd_some, ref3_IsWord_eq hN _ hx.1, checkPairs_eq hN _ hx.2, slc_take l (Nat.le_of_lt h), hin]
     rw [lt_tt h, br_true, ne_zero_dec, br_ite, br_ite]; rfl)
   (fun self => by simp only [z35L0T, lt_ff, br_false]) hN,
   (decide_eq_decide.2 (by omega) : decide ((l.length : Int) > 50) = decide (50 < l.length)), br_ite]
 simp only [decide_eq_true_eq]
theorem checkNeeds_eq (hN : big ≤ N) (l : List (Str × List Str)) (hl : Fit settingTy l) (c : List (Str × Str)) (hc : c.length ≤ maxLen) : ref3_checkNeeds N l c = some (pairsS l c false) := by
 unfold ref3_checkNeeds
 refine loop_for (fun _ _ => rfl) c hc (fun self i h' r hr => ?_) (fun self => ?_) hN
 · simp only [z67L0T, geti_lt c h', wrap_succ hc h', hr, bnd_some, settingOf_eq hN l hl.1]
   rw [lt_tt h', br_true]
   unfold pairB
   cases hf : l.find? (fun s => s.1 == c[i].1) with
   | none => simp [findF, hf]
   | some s =>
     have hff : findF (fun s : Str × List Str => s.1 == c[i].1) (fun s => (s, true)) (([], []), false) l = (s, true) := by unfold findF; rw [hf]
     rw [hff]
     have hm := List.mem_of_find?_eq_some hf
     simp only [slices_Contains_eq hN _ (hl.2 _ hm).2.1, bnd_some, prev_eq hc h']
     simp only [br_ite]
     simp
 · simp only [z67L0T, lt_ff, br_false]
abbrev condTy : Ty := .pr .str (.pr (.sl (.pr .str .str)) (.sl (.pr .str .str)))
def condB1 (l : List (Str × List Str)) (m : List (Str × List (Str × Str) × List (Str × Str))) (i : Nat) (x : Str × List (Str × Str) × List (Str × Str)) (r : Int) : Int :=
 if !condS x.1 then 3 else if decide (30 < x.2.1.length) then 2 else if decide (30 < x.2.2.length) then 2 else
   if decide (pairsS l x.2.1 false ≠ 0) then pairsS l x.2.1 false else if decide (pairsCheckS x.2.2 ≠ 0) then pairsCheckS x.2.2 else prevS m i x.1 r
def conditionsS (l : List (Str × List Str)) (m : List (Str × List (Str × Str) × List (Str × Str))) : Int :=
 if settingsS l ≠ 0 then settingsS l else if 100 < m.length then 2 else forT (condB1 l m) 0 m 0
theorem CheckConditions_eq (hN : big ≤ N) (l : List (Str × List Str)) (hl : Fit settingTy l) (m : List (Str × List (Str × Str) × List (Str × Str))) (hm : Fit (.sl condTy) m) : config_CheckConditions N l m = some (conditionsS l m) := by
 unfold config_CheckConditions conditionsS
 rw [settings_eq hN l hl, bnd_some, ne_zero_dec]
 by_cases hz : settingsS l = 0
 · rw [decide_eq_false (by simpa using hz), br_false, if_neg (by simpa using hz),
     loop_for (f := z25L0 N l m m (m.length : Int) (some 0)) (fun _ _ => rfl) m hm.1 (body := condB1 l m) (k := 0)
     (fun self i h r hr => by
       have hx := hm.2 _ (List.getElem_mem h)
       simp only [z25L0T, geti_lt m h, wrap_succ hm.1 h, hr, bnd_some, ContainsFunc_eq, checkSet_eq hN l hl _ hx.2.1.1 (settings_some hz), CheckPairs_eq hN _ hx.2.2.1]
       rw [lt_tt h, br_true, prev_eq hm.1 h, ne_zero_dec, ne_zero_dec]
       unfold condB1 condS
       rw [(not_dec (by omega) : decide ((m[i].1.length : Int) < 1) = !decide (1 ≤ m[i].1.length)), (not_dec (by omega) : decide ((m[i].1.length : Int) > 1000) = !decide (m[i].1.length ≤ 1000)),
         (decide_eq_decide.2 (by omega) : decide ((m[i].2.1.length : Int) > 30) = decide (30 < m[i].2.1.length)), (decide_eq_decide.2 (by omega) : decide ((m[i].2.2.length : Int) > 30) = decide (30 < m[i].2.2.length))]
       simp only [br_ite]
       cases decide (1 ≤ m[i].1.length) <;> cases decide (m[i].1.length ≤ 1000) <;> cases (m[i].1 == [100, 101, 102, 97, 117, 108, 116]) <;> cases m[i].1.any condB <;> simp)
     (fun self => by simp only [z25L0T, lt_ff, br_false]) hN,
     (decide_eq_decide.2 (by omega) : decide ((m.length : Int) > 100) = decide (100 < m.length)), br_ite]
   simp only [decide_eq_true_eq]
 · rw [decide_eq_true hz, br_true, if_pos hz]
theorem ref_CheckConditions_eq (hN : big ≤ N) (l : List (Str × List Str)) (hl : Fit settingTy l) (m : List (Str × List (Str × Str) × List (Str × Str))) (hm : Fit (.sl condTy) m) : ref3_CheckConditions N l m = some (conditionsS l m) := by
 unfold ref3_CheckConditions conditionsS
 rw [ref_settings_eq hN l hl, bnd_some, ne_zero_dec]
 by_cases hz : settingsS l = 0
 · rw [decide_eq_false (by simpa using hz), br_false, if_neg (by simpa using hz),
     loop_for (f := z32L0 N l m m (m.length : Int) (some 0)) (fun _ _ => rfl) m hm.1 (body := condB1 l m) (k := 0)
     (fun self i h r hr => by
       have hx := hm.2 _ (List.getElem_mem h)
       simp only [z32L0T, geti_lt m h, wrap_succ hm.1 h, hr, bnd_some, isCondition_eq hN _ hx.1, checkNeeds_eq hN l hl _ hx.2.1.1, checkPairs_eq hN _ hx.2.2]
       rw [lt_tt h, br_true, prev_eq hm.1 h, ne_zero_dec, ne_zero_dec]
       unfold condB1
       rw [(decide_eq_decide.2 (by omega) : decide ((m[i].2.1.length : Int) > 30) = decide (30 < m[i].2.1.length)), (decide_eq_decide.2 (by omega) : decide ((m[i].2.2.length : Int) > 30) = decide (30 < m[i].2.2.length))]
       simp only [br_ite])
     (fun self => by simp only [z32L0T, lt_ff, br_false]) hN,
     (decide_eq_decide.2 (by omega) : decide ((m.length : Int) > 100) = decide (100 < m.length)), br_ite]
   simp only [decide_eq_true_eq]
 · rw [decide_eq_true hz, br_true, if_pos hz]
def hasPair (b : List (Str × Str)) (x : Str × Str) : Bool := b.any fun y => eqb (.pr .str .str) x y
theorem Contains_pair (hN : big ≤ N) (xs : List (Str × Str)) (hx : xs.length ≤ maxLen) (x : Str × Str) : slices_Contains_api_Pair N xs x = some (hasPair xs x) := by
 unfold slices_Contains_api_Pair slices_Index_api_Pair
 have hL : z29L0 N xs (xs.length : Int) x.1 x.2 (some (-1)) N 0 = some (idxP (fun y => eqb (.pr .str .str) x y) xs) := by
   refine loop_for (fun _ _ => rfl) xs hx (fun self i h r hr => ?_) (fun self => ?_) hN
   · simp only [z29L0T, geti_lt xs h, wrap_succ hx h, hr, bnd_some]
     rw [lt_tt h, br_true, br_ite]
   · simp only [z29L0T, lt_ff, br_false]
 rw [hL, bnd_some, idxP_nonneg]; rfl
theorem forT_every {α : Type} (p : α → Bool) (k : Bool) : ∀ (xs : List α) (j : Nat), forT (fun _ x r => if (!p x) = true then false else r) k xs j = (xs.all p && k)
 | [], _ => by simp [forT]
 | x :: xs, j => by
   show (if (!p x) = true then false else forT _ _ xs (j + 1)) = _
   rw [forT_every p k xs (j + 1), List.all_cons]
   cases h : p x <;> simp
theorem Fit_eq (hN : big ≤ N) (a b : List (Str × Str)) (ha : a.length ≤ maxLen) (hb : b.length ≤ maxLen) : config_Fit N a b = some (a.all (hasPair b)) := by
 unfold config_Fit
 rw [show a.all (hasPair b) = (a.all (hasPair b) && true) by simp, ← forT_every _ _ _ 0]
 refine loop_for (fun _ _ => rfl) a ha (fun self i h r hr => ?_) (fun self => ?_) hN
 · simp only [z110L0T, geti_lt a h, wrap_succ ha h, hr, bnd_some, Contains_pair hN b hb]
   rw [lt_tt h, br_true, br_ite]
 · simp only [z110L0T, lt_ff, br_false]
theorem fits_eq (hN : big ≤ N) (a : List (Str × Str)) (b : Str × List (Str × Str)) (ha : a.length ≤ maxLen) (hb : b.2.length ≤ maxLen) : ref3_fits N a b = some (a.all (hasPair b.2)) := by
 unfold ref3_fits
 rw [show a.all (hasPair b.2) = (a.all (hasPair b.2) && true) by simp, ← forT_every _ _ _ 0]
 refine loop_for (fun _ _ => rfl) a ha (fun self i h r hr => ?_) (fun self => ?_) hN
 · simp only [z116L0T, geti_lt a h, wrap_succ ha h, hr, bnd_some, Contains_pair hN b.2 hb]
   rw [lt_tt h, br_true, br_ite]
 · simp only [z116L0T, lt_ff, br_false]
theorem prevS_keep {α : Type} {l : List (Str × α)} {i : Nat} {n : Str} {r : Int} (h : prevS l i n r = 0) : r = 0 := by
 unfold prevS at h
 split at h
 · exact h
 · split at h
   · split at h
     · cases h
     · exact h
   · exact h
theorem pairs_found {l : List (Str × List Str)} {c : List (Str × Str)} {strict : Bool} (h : pairsS l c strict = 0) : ∀ p ∈ c, (l.find? (fun s => s.1 == p.1)).isSome = true := by
 refine forT_keep (p := fun p : Str × Str => (l.find? (fun s => s.1 == p.1)).isSome = true) (fun i x r hb => ?_) c 0 h
 unfold pairB at hb
 split at hb
 · cases hb
 · rename_i s hf
   split at hb
   · cases hb
   · split at hb
     · cases hb
     · exact ⟨by rw [hf]; rfl, prevS_keep hb⟩
theorem cond_found {l : List (Str × List Str)} {m : List (Str × List (Str × Str) × List (Str × Str))} (h : conditionsS l m = 0) : settingsS l = 0 ∧ ∀ x ∈ m, pairsS l x.2.1 false = 0 := by
 unfold conditionsS at h
 split at h
 · rename_i h'; exact absurd h h'
 · rename_i h'
   refine ⟨Classical.not_not.1 h', ?_⟩
   split at h
   · cases h
   · refine forT_keep (p := fun x : Str × List (Str × Str) × List (Str × Str) => pairsS l x.2.1 false = 0) (fun i x r hb => ?_) m 0 h
     unfold condB1 at hb
     split at hb
     · cases hb
     · split at hb
       · cases hb
       · split at hb
         · cases hb
         · split at hb
           · rename_i h1; exact absurd hb (by simpa using h1)
           · rename_i h1
             split at hb
             · rename_i h2; exact absurd hb (by simpa using h2)
             · exact ⟨by simpa using h1, prevS_keep hb⟩
def holdsS (l : List (Str × List Str)) (x : Str × List (Str × Str) × List (Str × Str)) (c : List (Str × Str)) (p : Str × List (Str × Str)) : Bool :=
 x.2.1.all (fun n => valueS l c n.1 == n.2) && x.2.2.all (hasPair p.2)
theorem holds_eq (hN : big ≤ N) (l : List (Str × List Str)) (hl : Fit settingTy l) (x : Str × List (Str × Str) × List (Str × Str)) (hx : Fit condTy x) (c : List (Str × Str)) (hc : c.length ≤ maxLen) (p : Str × List (Str × Str)) (hp : p.2.length ≤ maxLen)
   (hs : settingsS l = 0) (hn : ∀ n ∈ x.2.1, (l.find? (fun s => s.1 == n.1)).isSome = true) : config_holds N l x c p = some (holdsS l x c p) := by
 unfold config_holds holdsS
 rw [← forT_every _ _ _ 0]
 refine loop_for (fun _ _ => rfl) x.2.1 hx.2.1.1 (fun self i h r hr => ?_) (fun self => ?_) hN
 · simp only [z88L0T, geti_lt _ h, wrap_succ hx.2.1.1 h, hr, bnd_some, valueOf_eq hN l hl c hc (settings_some hs) _ (hn _ (List.getElem_mem h))]
   rw [lt_tt h, br_true, br_ite]
 · simp only [z88L0T, lt_ff, br_false, Fit_eq hN _ _ hx.2.2.1 hp, bnd_some]
theorem ref_holds_eq (hN : big ≤ N) (l : List (Str × List Str)) (hl : Fit settingTy l) (x : Str × List (Str × Str) × List (Str × Str)) (hx : Fit condTy x) (c : List (Str × Str)) (hc : c.length ≤ maxLen) (p : Str × List (Str × Str)) (hp : p.2.length ≤ maxLen)
   (hs : settingsS l = 0) (hn : ∀ n ∈ x.2.1, (l.find? (fun s => s.1 == n.1)).isSome = true) : ref3_holds N l x c p = some (holdsS l x c p) := by
 unfold ref3_holds holdsS
 rw [← forT_every _ _ _ 0]
 refine loop_for (fun _ _ => rfl) x.2.1 hx.2.1.1 (fun self i h r hr => ?_) (fun self => ?_) hN
 · simp only [z113L0T, geti_lt _ h, wrap_succ hx.2.1.1 h, hr, bnd_some, ref_valueOf_eq hN l hl c hc (settings_some hs) _ (hn _ (List.getElem_mem h))]
   rw [lt_tt h, br_true, br_ite]
 · simp only [z113L0T, lt_ff, br_false, fits_eq hN _ _ hx.2.2.1 hp, bnd_some]
theorem fit_one {t : Ty} {x : t.den} (h : Fit t x) : Fit (.sl t) [x] := ⟨by show 1 ≤ maxLen; decide, fun y hy => by rw [List.mem_singleton.1 hy]; exact h⟩
theorem br_ne {R : Type} (n : Int) (x y : Option R) : br (n != 0) x y = if n ≠ 0 then x else y := by
 rw [ne_zero_dec, br_eq_ite]; simp only [decide_eq_true_eq]
abbrev worldTy : Ty := .pr settingTy (.pr (.sl condTy) (.pr platformTy (.pr (.sl (.pr .str (.pr .str (.pr (.sl (.pr .str .str)) (.sl (.pr .str .str)))))) (.sl (.pr .str (.pr (.sl (.pr .str .str)) (.sl .str)))))))
end Go.Proofs.YtbekhaioddmliaaGreatDoor


/- What CheckTools and Tools compute. No program in sight. -/
namespace Go.Proofs.YtbekhaioddmliaaGreatDoor
set_option linter.unusedVariables false
set_option linter.unusedSimpArgs false
open Go Go.RowKit
variable {N : Nat}
theorem Equal_self (hN : big ≤ N) (l : List Str) (hl : l.length ≤ maxLen) : slices_Equal_string_string N l l = some true := by
 unfold slices_Equal_string_string
 have hL : z16L0 N l l (l.length : Int) (some true) N 0 = some true := by
   have hc : forT (fun (_ : Nat) (_ : Str) (r : Bool) => r) true l 0 = true := by
     have : ∀ (xs : List Str) (j : Nat), forT (fun (_ : Nat) (_ : Str) (r : Bool) => r) true xs j = true := by
       intro xs; induction xs with
       | nil => intro j; rfl
       | cons x xs ih => intro j; exact ih (j + 1)
     exact this l 0
   rw [← hc]
   refine loop_for (fun _ _ => rfl) l hl (fun self i h r hr => ?_) (fun self => ?_) hN
   · simp only [z16L0T, geti_lt l h, wrap_succ hl h, hr, bnd_some]
     rw [lt_tt h]; simp
   · simp only [z16L0T, lt_ff, br_false]; rw [hc]
 rw [hL]; simp
end Go.Proofs.YtbekhaioddmliaaGreatDoor


/- Facts on right settings and configurations. No program in sight. -/
namespace Go.Proofs.YtbekhaioddmliaaGreatDoor
set_option linter.unusedVariables false
set_option linter.unusedSimpArgs false
open Go Go.RowKit
theorem less_eq : ∀ (x y : List UInt8), Op.bytesLess x y = decide (x < y)
 | [], [] => by simp [Op.bytesLess]
 | _ :: _, [] => by simp [Op.bytesLess]
 | [], _ :: _ => by simp [Op.bytesLess]
 | a :: x, b :: y => by
   rw [Op.bytesLess, less_eq x y]
   simp only [List.cons_lt_cons_iff]
   by_cases h1 : a < b <;> by_cases h2 : a = b <;> by_cases h3 : x < y <;> simp [h1, h2, h3]
theorem lt_tri (a b : Str) : a < b ∨ a = b ∨ b < a := by
 rcases Classical.em (a < b) with h | h
 · exact .inl h
 · rcases List.le_iff_lt_or_eq.1 (List.not_lt.1 h) with h | h
   · exact .inr (.inr h)
   · exact .inr (.inl h.symm)
theorem le_not (n y : Str) : (Op.bytesLess n y || n == y) = !decide (y < n) := by
 rw [less_eq]
 rcases lt_tri n y with h | h | h
 · rw [decide_eq_true h, decide_eq_false (List.lt_asymm h)]; rfl
 · subst h
   rw [decide_eq_false (List.lt_irrefl n), beq_self_eq_true]; rfl
 · rw [decide_eq_false (List.lt_asymm h), decide_eq_true h]
   have : n ≠ y := fun e => List.lt_irrefl n (by rw [e] at h ⊢; exact h)
   simp [this]
def Asc {α : Type} (l : List (Str × α)) : Prop := l.Pairwise fun a b => a.1 < b.1
theorem prevS_zero {α : Type} {l : List (Str × α)} {i : Nat} {n : Str} {r : Int} : prevS l i n r = 0 ↔ (∀ y, i ≠ 0 → l[i - 1]? = some y → y.1 < n) ∧ r = 0 := by
 unfold prevS
 by_cases h : i = 0
 · simp [h]
 · rw [if_neg h]
   cases hy : l[i - 1]? with
   | none => simp
   | some y =>
     simp only [le_not]
     by_cases hd : y.1 < n
     · simp [hd]
     · simp [hd, h]
theorem forT_zero {α : Type} {q : Nat → α → Prop} {body : Nat → α → Int → Int} (h : ∀ i x r, body i x r = 0 ↔ q i x ∧ r = 0) : ∀ (xs : List α) (j : Nat), forT body 0 xs j = 0 ↔ ∀ i (hi : i < xs.length), q (j + i) xs[i]
 | [], _ => by simp [forT]
 | x :: xs, j => by
   show body j x (forT body 0 xs (j + 1)) = 0 ↔ _
   rw [h, forT_zero h xs (j + 1)]
   constructor
   · rintro ⟨h0, h1⟩ i hi
     cases i with
     | zero => exact h0
     | succ i => have := h1 i (by simpa using hi); simpa [Nat.add_assoc, Nat.add_comm 1] using this
   · intro h'
     refine ⟨h' 0 (by simp), fun i hi => ?_⟩
     have := h' (i + 1) (by simpa using hi)
     simpa [Nat.add_assoc, Nat.add_comm 1] using this
theorem asc_iff {α : Type} (l : List (Str × α)) : (∀ i (hi : i < l.length), ∀ y, i ≠ 0 → l[i - 1]? = some y → y.1 < l[i].1) ↔ Asc l := by
 constructor
 · intro h
   have step : ∀ i (hi : i + 1 < l.length), l[i].1 < l[i + 1].1 := fun i hi => h (i + 1) hi _ (by omega) (by rw [show i + 1 - 1 = i from rfl, List.getElem?_eq_getElem (by omega)])
   refine List.pairwise_iff_getElem.2 fun i j hi hj hij => ?_
   have : ∀ d (hd : i + 1 + d < l.length), l[i].1 < l[i + 1 + d].1 := by
     intro d
     induction d with
     | zero => intro hd; exact step i hd
     | succ d ih => intro hd; exact List.lt_trans (ih (by omega)) (step (i + 1 + d) hd)
   have := this (j - (i + 1)) (by omega)
   have e : i + 1 + (j - (i + 1)) = j := by omega
   simpa only [e] using this
 · intro h i hi y h0 hy
   obtain ⟨hl, rfl⟩ := List.getElem?_eq_some_iff.1 hy
   exact List.pairwise_iff_getElem.1 h (i - 1) i hl hi (by omega)
theorem Asc.find {α : Type} {l : List (Str × α)} (h : Asc l) {s : Str × α} (hs : s ∈ l) : l.find? (fun x => x.1 == s.1) = some s := by
 induction l with
 | nil => cases hs
 | cons x l ih =>
   have hx := List.pairwise_cons.1 h
   rcases List.mem_cons.1 hs with rfl | hs
   · simp
   · have : x.1 < s.1 := hx.1 s hs
     have hne : x.1 ≠ s.1 := fun e => by rw [e] at this; exact List.lt_irrefl _ this
     rw [List.find?_cons_of_neg (by simpa using hne)]
     exact ih hx.2 hs
theorem find_mem {α : Type} {l : List (Str × α)} {n : Str} {s : Str × α} (h : l.find? (fun x => x.1 == n) = some s) : s ∈ l ∧ s.1 = n :=
 ⟨List.mem_of_find?_eq_some h, by simpa using List.find?_some h⟩
theorem Asc.inj {α : Type} {l : List (Str × α)} (h : Asc l) {s t : Str × α} (hs : s ∈ l) (ht : t ∈ l) (e : s.1 = t.1) : s = t := by
 have h1 := h.find hs
 rw [e, h.find ht] at h1
 exact (Option.some.inj h1).symm
theorem Asc.ext {α : Type} : ∀ {a b : List (Str × α)}, Asc a → Asc b → (∀ p, p ∈ a ↔ p ∈ b) → a = b
 | [], [], _, _, _ => rfl
 | [], y :: b, _, _, h => by have := (h y).2 (by simp); cases this
 | x :: a, [], _, _, h => by have := (h x).1 (by simp); cases this
 | x :: a, y :: b, ha, hb, h => by
   have ha' := List.pairwise_cons.1 ha
   have hb' := List.pairwise_cons.1 hb
   have hxy : x = y := by
     rcases List.mem_cons.1 ((h x).1 (by simp)) with e | h1
     · exact e
     · rcases List.mem_cons.1 ((h y).2 (by simp)) with e | h2
       · exact e.symm
       · exact absurd (ha'.1 y h2) (List.lt_asymm (hb'.1 x h1))
   subst hxy
   refine congrArg _ (Asc.ext ha'.2 hb'.2 fun p => ⟨fun hp => ?_, fun hp => ?_⟩)
   · rcases List.mem_cons.1 ((h p).1 (List.mem_cons_of_mem _ hp)) with rfl | h1
     · exact absurd (ha'.1 p hp) (List.lt_irrefl _)
     · exact h1
   · rcases List.mem_cons.1 ((h p).2 (List.mem_cons_of_mem _ hp)) with rfl | h1
     · exact absurd (hb'.1 p hp) (List.lt_irrefl _)
     · exact h1
theorem Asc.nodup {α : Type} {l : List (Str × α)} (h : Asc l) : (l.map (·.1)).Nodup := by
 rw [List.Nodup, List.pairwise_map]
 exact h.imp fun {a b} hab e => by
   have e : a.1 = b.1 := e
   rw [e] at hab; exact List.lt_irrefl _ hab
theorem Asc.len {α β : Type} {c : List (Str × α)} {l : List (Str × β)} (h : Asc c) (hm : ∀ p ∈ c, ∃ s ∈ l, s.1 = p.1) : c.length ≤ l.length := by
 have := h.nodup.length_le_of_subset (l₂ := l.map (·.1)) (fun n hn => by
   obtain ⟨p, hp, rfl⟩ := List.mem_map.1 hn
   obtain ⟨s, hs, e⟩ := hm p hp
   exact List.mem_map.2 ⟨s, hs, e⟩)
 simpa using this
structure SetOk (l : List (Str × List Str)) : Prop where
 len : l.length ≤ 30
 asc : Asc l
 name : ∀ s ∈ l, isWordS s.1 = true
 some : ∀ s ∈ l, s.2 ≠ []
 few : ∀ s ∈ l, s.2.length ≤ 20
 word : ∀ s ∈ l, ∀ v ∈ s.2, isWordS v = true
 once : ∀ s ∈ l, s.2.Nodup
def PairOk (l : List (Str × List Str)) (strict : Bool) (p : Str × Str) : Prop := ∃ s, l.find? (fun s => s.1 == p.1) = some s ∧ p.2 ∈ s.2 ∧ (strict = true → s.2.head? ≠ some p.2)
structure CfgOk (l : List (Str × List Str)) (c : List (Str × Str)) : Prop where
 set : SetOk l
 pair : ∀ p ∈ c, PairOk l true p
 asc : Asc c
theorem PairOk.mem {l : List (Str × List Str)} {strict : Bool} {p : Str × Str} (h : PairOk l strict p) : ∃ s ∈ l, s.1 = p.1 ∧ p.2 ∈ s.2 := by
 obtain ⟨s, h1, h2, _⟩ := h
 exact ⟨s, (find_mem h1).1, (find_mem h1).2, h2⟩
theorem CfgOk.len {l : List (Str × List Str)} {c : List (Str × Str)} (h : CfgOk l c) : c.length ≤ 30 :=
 Nat.le_trans (h.asc.len fun p hp => by obtain ⟨s, h1, h2, _⟩ := (h.pair p hp).mem; exact ⟨s, h1, h2⟩) h.set.len
end Go.Proofs.YtbekhaioddmliaaGreatDoor


/- Values: when they are right, when they are the same, their copies. No program in sight. -/
namespace Go.Proofs.YtbekhaioddmliaaGreatDoor
set_option linter.unusedVariables false
set_option linter.unusedSimpArgs false
open Go Go.RowKit
variable {N : Nat}
theorem GValue.eta (v : GValue) : GValue.mk v.kind v.text v.number v.list v.cases = v := by cases v; rfl
abbrev Case : Type := Str × GValue
abbrev caseTy : Ty := .pr .str (.rc .value)
def textB (b : UInt8) : Bool := b == 10 || (!decide (b < 32) && !decide (b > 126))
theorem isText_eq (hN : big ≤ N) (s : Str) (hs : s.length ≤ maxLen) : script_isText N s = some (s.all textB) := by
 unfold script_isText
 rw [show s.all textB = (s.all textB && true) by simp, ← forT_every textB true s 0]
 refine loop_for (fun _ _ => rfl) s hs (fun self i h r hr => ?_) (fun self => ?_) hN
 · simp only [z85L0T, geti_lt s h, wrap_succ hs h, hr, bnd_some]
   rw [lt_tt h, br_true]
   unfold textB
   cases h1 : (s[i] == (10 : UInt8)) <;> cases h2 : decide (s[i] < (32 : UInt8)) <;> cases h3 : decide (s[i] > (126 : UInt8)) <;> simp [h1, bne]
 · simp only [z85L0T, lt_ff, br_false]
def textE (s : Str) : Int := if decide ((s.length : Int) > 1000) then 2 else if s.all textB then 0 else 3
theorem checkText_eq (hN : big ≤ N) (s : Str) (hs : s.length ≤ maxLen) : script_checkText N s = some (textE s) := by
 unfold script_checkText textE
 rw [isText_eq hN s hs, bnd_some]
 cases decide ((s.length : Int) > 1000) <;> cases s.all textB <;> simp
theorem idx_any {α : Type} (p : α → Bool) (xs : List α) : decide (idxP p xs ≥ (0 : Int)) = xs.any p := idxP_nonneg p xs
theorem Contains_long (hN : big ≤ N) (l : List Str) (hl : l.length ≤ maxLen) : slices_ContainsFunc_string_string N l () = some (l.any fun s => decide ((s.length : Int) > 1000)) := by
 unfold slices_ContainsFunc_string_string
 have : slices_IndexFunc_string_string N l () = some (idxP (fun s => decide ((s.length : Int) > 1000)) l) := by
   unfold slices_IndexFunc_string_string
   refine loop_for (fun _ _ => rfl) l hl (fun self i h r hr => ?_) (fun self => ?_) hN
   · simp only [z6L0T, geti_lt l h, wrap_succ hl h, hr, bnd_some, script_CheckValue_1]
     rw [lt_tt h, br_true, br_ite]
   · simp only [z6L0T, lt_ff, br_false]
 rw [this, bnd_some, idx_any]
theorem Contains_odd (hN : big ≤ N) (l : List Str) (hl : Fit (.sl .str) l) : slices_ContainsFunc_string_string_2 N l () = some (l.any fun s => !s.all textB) := by
 unfold slices_ContainsFunc_string_string_2
 have : slices_IndexFunc_string_string_2 N l () = some (idxP (fun s => !s.all textB) l) := by
   unfold slices_IndexFunc_string_string_2
   refine loop_for (fun _ _ => rfl) l hl.1 (fun self i h r hr => ?_) (fun self => ?_) hN
   · simp only [z4L0T, geti_lt l h, wrap_succ hl.1 h, hr, bnd_some, script_CheckValue_2, isText_eq hN _ (hl.2 _ (List.getElem_mem h))]
     rw [lt_tt h, br_true, br_ite]
   · simp only [z4L0T, lt_ff, br_false]
 rw [this, bnd_some, idx_any]
def tailV (cc : Int) (v : GValue) : Int :=
 if decide ((v.text.length : Int) > 1000) then 2 else if decide ((v.list.length : Int) > 1000) then 2 else if v.list.any (fun s => decide ((s.length : Int) > 1000)) then 2 else if decide ((v.cases.length : Int) > 50) then 2 else
   if !v.text.all textB then 3 else if v.list.any (fun s => !s.all textB) then 3 else if decide (v.number < 0) then 1 else if decide (v.number > 999999999) then 1 else if v.kind == 4 then cc else 0
def formV (v : GValue) : Bool := (!(v.text == []) && v.kind != 1) || (v.number != 0 && v.kind != 2) || (decide ((v.list.length : Int) > 0) && v.kind != 3) || (decide ((v.cases.length : Int) > 0) && v.kind != 4)
def valS (cc : Int) (v : GValue) : Int :=
 if decide (v.kind < 1) then 4 else if decide (v.kind > 4) then 4 else if formV v then 3 else tailV cc v
theorem valFit {v : GValue} (h : Fit (.rc .value) v) : (Lit.int .i64 v.kind).wf = true ∧ v.text.length ≤ maxLen ∧ (Lit.int .i64 v.number).wf = true ∧ Fit (.sl .str) v.list ∧ Fit (.sl caseTy) v.cases := FitR.elim h
theorem CheckValue_eq (hN : big ≤ N) {r : List Case → Option Int} {cc : Int} (v : GValue) (hv : Fit (.rc .value) v) (hr : v.kind = 4 → r v.cases = some cc) : script_CheckValue N r v = some (valS cc v) := by
 obtain ⟨_, ht, _, hl, hc⟩ := valFit hv
 have hT : (br (decide ((v.text.length : Int) > (1000 : Int))) (some (2 : Int)) (br (decide ((v.list.length : Int) > (1000 : Int))) (some (2 : Int)) (bnd (slices_ContainsFunc_string_string N v.list ()) fun t61 => br (t61) (some (2 : Int)) (br (decide ((v.cases.length : Int) > (50 : Int))) (some (2 : Int)) (bnd (script_isText N v.text) fun t72 => br (!t72) (some (3 : Int)) (bnd (slices_ContainsFunc_string_string_2 N v.list ()) fun t77 => br (t77) (some (3 : Int)) (br (decide (v.number < (0 : Int))) (some (1 : Int)) (br (decide (v.number > (999999999 : Int))) (some (1 : Int)) (br (v.kind == (4 : Int)) (bnd (r v.cases) fun t94 => some t94) (some (0 : Int)))))))))))= some (tailV cc v) := by
   simp only [Contains_long hN _ hl.1, Contains_odd hN _ hl, isText_eq hN _ ht, bnd_some]
   have hk : (br (v.kind == (4 : Int)) (bnd (r v.cases) fun t94 => some t94) (some (0 : Int))) = some (if v.kind == 4 then cc else 0) := by
     by_cases h4 : v.kind = 4
     · rw [hr h4]; simp [h4]
     · rw [show (v.kind == (4 : Int)) = false from beq_false_of_ne h4]; simp
   rw [hk]
   simp only [br_ite]
   rfl
 unfold script_CheckValue
 simp only [hT]
 unfold valS formV
 generalize tailV cc v = t
 generalize decide (v.kind < 1) = b1
 generalize decide (v.kind > 4) = b2
 generalize (v.text == ([] : Str)) = b3
 generalize (v.kind != (1 : Int)) = b4
 generalize (v.number != (0 : Int)) = b5
 generalize (v.kind != (2 : Int)) = b6
 generalize decide ((v.list.length : Int) > 0) = b7
 generalize (v.kind != (3 : Int)) = b8
 generalize decide ((v.cases.length : Int) > 0) = b9
 generalize (v.kind != (4 : Int)) = b10
 cases b1
 · cases b2
   · cases b3 <;> cases b5 <;> cases b7 <;> cases b9 <;> simp only [br_true, br_false, Bool.not_true, Bool.not_false] <;> cases b4 <;> cases b6 <;> cases b8 <;> cases b10 <;> simp
   · simp
 · simp
def caseB (l : List Case) (i : Nat) (c : Case) (r : Int) : Int :=
 if textE c.1 ≠ 0 then textE c.1 else if (l.take i).any (fun d => d.1 == c.1) then 7 else if c.2.kind == 4 then 4 else if valS 0 c.2 ≠ 0 then valS 0 c.2 else
   if c.2.kind != (match l[0]? with | some d => d.2.kind | none => 0) then 6 else r
def casesS (l : List Case) : Int := if l.length = 0 then 9 else forT (caseB l) 0 l 0
def valueE (v : GValue) : Int := valS (casesS v.cases) v
theorem IndexFunc_case (hN : big ≤ N) (xs : List Case) (hx : xs.length ≤ maxLen) (q : Case) : slices_IndexFunc_api_Case N xs (q, ()) = some (idxP (fun x => x.1 == q.1) xs) := by
 unfold slices_IndexFunc_api_Case
 refine loop_for (fun _ _ => rfl) xs hx (fun self i h r hr => ?_) (fun self => ?_) hN
 · simp only [z20L0T, geti_lt xs h, wrap_succ hx h, hr, bnd_some, script_checkCases_1]
   rw [lt_tt h, br_true, br_ite]
 · simp only [z20L0T, lt_ff, br_false]
theorem checkCases_eq (hN : big ≤ N) (r : List Case → Option Int) (l : List Case) (hl : Fit (.sl caseTy) l) : script_checkCases_b N r l = some (casesS l) := by
 unfold script_checkCases_b casesS
 by_cases h0 : l.length = 0
 · simp [h0]
 · rw [if_neg h0, show ((l.length : Int) == (0 : Int)) = false from beq_false_of_ne (by omega), br_false]
   refine loop_for (fun _ _ => rfl) l hl.1 (fun self i h r' hr => ?_) (fun self => ?_) hN
   · have hx := hl.2 _ (List.getElem_mem h)
     have ht : (l.take i).length ≤ maxLen := by have := hl.1; rw [List.length_take]; omega
     have h00 : 0 < l.length := by omega
     simp only [z39L0T, geti_lt l h, wrap_succ hl.1 h, hr, bnd_some, checkText_eq hN _ hx.1, slc_take l (Nat.le_of_lt h), slices_ContainsFunc_api_Case, IndexFunc_case hN _ ht, idxP_nonneg, GValue.eta, geti_zero, List.getElem?_eq_getElem h00]
     rw [lt_tt h, br_true]
     unfold caseB
     rw [List.getElem?_eq_getElem h00]
     by_cases h4 : l[i].2.kind = 4
     · simp only [h4, beq_self_eq_true, br_true, br_ite, br_ne, if_true]
       by_cases h1 : textE l[i].1 = 0 <;> simp [h1]
     · rw [CheckValue_eq hN (cc := 0) _ hx.2 (fun h => absurd h h4), bnd_some]
       have e4 : (l[i].2.kind == (4 : Int)) = false := beq_false_of_ne h4
       simp only [e4, br_false, br_ite, br_ne, Bool.false_eq_true, if_false]
       by_cases h1 : textE l[i].1 = 0 <;> by_cases h2 : valS 0 l[i].2 = 0 <;> simp [h1, h2]
       all_goals (try (split <;> (try split) <;> simp_all))
   · simp only [z39L0T, lt_ff, br_false]
theorem CheckValue_all (hN : big ≤ N) (v : GValue) (hv : Fit (.rc .value) v) : script_CheckValue N (script_checkCases N N) v = some (valueE v) := by
 obtain ⟨_, _, _, _, hc⟩ := valFit hv
 refine CheckValue_eq hN v hv fun _ => ?_
 obtain ⟨d, rfl⟩ : ∃ d, N = d + 1 := ⟨N - 1, by unfold big at hN; omega⟩
 exact checkCases_eq hN _ _ hc
structure PlainV (v : GValue) : Prop where
 kind : v.kind ≠ 4
 cases : v.cases = []
 list : v.list.length ≤ 1000
theorem plain_of {v : GValue} {cc : Int} (h : valS cc v = 0) (h4 : v.kind ≠ 4) : PlainV v := by
 unfold valS at h
 split at h
 · cases h
 · split at h
   · cases h
   · split at h
     · cases h
     · rename_i hf
       unfold formV at hf
       unfold tailV at h
       refine ⟨h4, ?_, ?_⟩
       · simp only [Bool.or_eq_true, Bool.and_eq_true, not_or, not_and, bne_iff_ne, ne_eq] at hf
         have := hf.2
         have h5 : ¬ ((v.cases.length : Int) > 0) := fun h6 => this (decide_eq_true h6) h4
         exact List.eq_nil_of_length_eq_zero (by omega)
       · split at h
         · cases h
         · split at h
           · cases h
           · rename_i h6
             have : ¬ ((v.list.length : Int) > 1000) := fun h7 => h6 (decide_eq_true h7)
             omega
structure CasesOk (l : List Case) : Prop where
 some : l ≠ []
 plain : ∀ c ∈ l, PlainV c.2
 right : ∀ c ∈ l, valS 0 c.2 = 0
 once : ∀ i (hi : i < l.length) (j : Nat) (hj : j < i), l[j].1 ≠ l[i].1
theorem cases_ok {l : List Case} (h : casesS l = 0) : CasesOk l := by
 unfold casesS at h
 split at h
 · cases h
 · rename_i h0
   have := (forT_zero (q := fun i c => textE c.1 = 0 ∧ (l.take i).any (fun d => d.1 == c.1) = false ∧ c.2.kind ≠ 4 ∧ valS 0 c.2 = 0 ∧ c.2.kind = (match l[0]? with | some d => d.2.kind | none => 0)) (body := caseB l) (fun i c r => by
     unfold caseB
     by_cases h1 : textE c.1 = 0 <;> by_cases h2 : (l.take i).any (fun d => d.1 == c.1) = true <;> by_cases h3 : c.2.kind = 4 <;> by_cases h4 : valS 0 c.2 = 0 <;> simp [h1, h2, h3, h4]
     all_goals (first | (split <;> (first | (split <;> simp_all) | simp_all)) | skip)) l 0).1 h
   refine ⟨fun e => h0 (by rw [e]; rfl), fun c hc => ?_, fun c hc => ?_, fun i hi j hj he => ?_⟩
   · obtain ⟨i, hi, rfl⟩ := List.mem_iff_getElem.1 hc
     have := this i hi
     exact plain_of this.2.2.2.1 this.2.2.1
   · obtain ⟨i, hi, rfl⟩ := List.mem_iff_getElem.1 hc
     exact (this i hi).2.2.2.1
   · have := (this i hi).2.1
     rw [Nat.zero_add, List.any_eq_false] at this
     have hm : l[j] ∈ l.take i := List.mem_take_iff_getElem.2 ⟨j, by omega, rfl⟩
     have := this _ hm
     simp [he] at this
theorem value_ok {v : GValue} (h : valueE v = 0) : (v.kind ≠ 4 ∧ PlainV v) ∨ (v.kind = 4 ∧ CasesOk v.cases ∧ v.cases.length ≤ 50) := by
 by_cases h4 : v.kind = 4
 · refine .inr ⟨h4, ?_⟩
   unfold valueE valS at h
   split at h
   · cases h
   · split at h
     · cases h
     · split at h
       · cases h
       · unfold tailV at h
         split at h
         · cases h
         · split at h
           · cases h
           · split at h
             · cases h
             · split at h
               · cases h
               · rename_i h5
                 have h5' : ¬ ((v.cases.length : Int) > 50) := fun h7 => h5 (decide_eq_true h7)
                 split at h
                 · cases h
                 · split at h
                   · cases h
                   · split at h
                     · cases h
                     · split at h
                       · cases h
                       · rw [h4] at h
                         exact ⟨cases_ok h, by omega⟩
 · exact .inl ⟨h4, plain_of h h4⟩
theorem Equal_str_from (a b : List Str) (ha : a.length ≤ maxLen) (he : a.length = b.length) : ∀ (m n i : Nat), i + m = a.length → m < n → z16L0 N a b (a.length : Int) (some true) n (i : Int) = some (decide (a.drop i = b.drop i))
 | 0, n, i, hi, hn => by
   obtain ⟨n, rfl⟩ : ∃ j, n = j + 1 := ⟨n - 1, by omega⟩
   have : i = a.length := by omega
   subst this
   show z16L0T _ _ _ _ _ _ _ = _
   simp only [z16L0T, lt_ff, br_false, List.drop_length]
   rw [he, List.drop_length]; simp
 | m + 1, n, i, hi, hn => by
   obtain ⟨n, rfl⟩ : ∃ j, n = j + 1 := ⟨n - 1, by omega⟩
   have h : i < a.length := by omega
   have hb : i < b.length := by omega
   have ih := Equal_str_from a b ha he m n (i + 1) (by omega) (by omega)
   show z16L0T _ _ _ _ _ _ _ = _
   simp only [z16L0T, geti_lt a h, geti_lt b hb, wrap_succ ha h, ih, bnd_some]
   rw [lt_tt h, br_true, List.drop_eq_getElem_cons h, List.drop_eq_getElem_cons hb]
   by_cases hq : a[i] = b[i]
   · rw [show (a[i] == b[i]) = true from beq_iff_eq.2 hq]
     simp only [List.cons.injEq, hq, true_and, Bool.not_true, br_false]
   · rw [show (a[i] == b[i]) = false from beq_false_of_ne hq]
     simp only [List.cons.injEq, hq, false_and, Bool.not_false, br_true, decide_false]
theorem Equal_str (hN : big ≤ N) (a b : List Str) (ha : a.length ≤ maxLen) (hb : b.length ≤ maxLen) : slices_Equal_string_string N a b = some (decide (a = b)) := by
 unfold slices_Equal_string_string
 by_cases he : a.length = b.length
 · have := Equal_str_from (N := N) a b ha he a.length N 0 (by omega) (by unfold maxLen at ha; unfold big at hN; omega)
   rw [show ((0 : Nat) : Int) = 0 from rfl, List.drop_zero, List.drop_zero] at this
   rw [this]; simp [he]
 · have hne : a ≠ b := fun e => he (by rw [e])
   simp only [decide_eq_false hne]
   have : ((a.length : Int) != (b.length : Int)) = true := by simp; omega
   simp [this]
def sameP (a b : GValue) : Bool := a.kind == b.kind && (a.text == b.text && (a.number == b.number && (decide (a.list = b.list) && b.cases.isEmpty)))
theorem sameP_self {a : GValue} (h : a.cases = []) : sameP a a = true := by simp [sameP, h]
theorem SameValue_eq (hN : big ≤ N) (d : Nat) (a b : GValue) (ha : a.cases = []) (hla : a.list.length ≤ maxLen) (hlb : b.list.length ≤ maxLen) : ref2_SameValue N (d + 1) a b = some (sameP a b) := by
 show ref2_SameValue_b N _ a b = _
 unfold ref2_SameValue_b sameP
 rw [Equal_str hN _ _ hla hlb, bnd_some, ha]
 have hL : ∀ r c k, z55L0 N r ((([] : List Case).length : Nat) : Int) [] c k N 0 = k := fun r c k => by
   obtain ⟨n, rfl⟩ : ∃ n, N = n + 1 := ⟨N - 1, by unfold big at hN; omega⟩
   show z55L0T _ _ _ _ _ _ _ _ = _
   simp [z55L0T]
 rw [hL]
 have hk : (a.kind != b.kind) = !(a.kind == b.kind) := rfl
 have hn : (a.number != b.number) = !(a.number == b.number) := rfl
 have hcs : (((([] : List Case).length : Nat) : Int) != (b.cases.length : Int)) = !b.cases.isEmpty := by
   cases hb : b.cases with
   | nil => rfl
   | cons => simp; omega
 rw [hk, hn, hcs]
 cases a.kind == b.kind <;> cases a.text == b.text <;> cases a.number == b.number <;> cases decide (a.list = b.list) <;> cases b.cases.isEmpty <;> simp
theorem Clone_case (l : List Case) (h : l.length ≤ 1000) : slices_Clone_api_Case N l = some l := by
 unfold slices_Clone_api_Case
 have e : decide ((([] : List Case).length + l.length) * (24 * Ty.sz (.pr .str (.rc .value))) ≤ 140737488355328) = true := decide_eq_true (by show (0 + l.length) * (24 * 6) ≤ _; omega)
 rw [e, br_true]
 cases l with
 | nil => simp
 | cons a l => simp
theorem Clone_strs (l : List Str) (h : l.length ≤ 1000000) : slices_Clone_string_string N l = some l := by
 unfold slices_Clone_string_string
 have e : decide ((([] : List Str).length + l.length) * (24 * Ty.sz .str) ≤ 140737488355328) = true := decide_eq_true (by show (0 + l.length) * (24 * 1) ≤ _; omega)
 rw [e, br_true]
 cases l with
 | nil => simp
 | cons a l => simp
theorem Own_eq (hN : big ≤ N) (d : Nat) (v : GValue) (h : v.cases = []) (hl : v.list.length ≤ 1000000) : script_Own N (d + 1) v = some v := by
 show script_Own_b N _ v = _
 unfold script_Own_b
 rw [Clone_strs _ hl, bnd_some, h, Clone_case [] (by simp), bnd_some]
 obtain ⟨n, rfl⟩ : ∃ n, N = n + 1 := ⟨N - 1, by unfold big at hN; omega⟩
 show z93L0T _ _ _ _ _ _ _ = _
 simp only [z93L0T]
 rw [show decide ((0 : Int) < (([] : List Case).length : Int)) = false by simp, br_false, ← h, GValue.eta]
end Go.Proofs.YtbekhaioddmliaaGreatDoor

