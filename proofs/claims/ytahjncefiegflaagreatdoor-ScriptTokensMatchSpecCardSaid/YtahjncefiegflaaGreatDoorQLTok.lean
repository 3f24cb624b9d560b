/- Texts into tokens, in the program and in its reference (law 47), in plain Lean. -/
import Derived.Test.YtahjncefiegflaaGreatDoorQEndU
import Derived.Test.YtahjncefiegflaaGreatDoorQFor2
namespace Go.Proofs.YtahjncefiegflaaGreatDoor
set_option linter.unusedVariables false
set_option linter.unusedSimpArgs false
open Go Go.RowKit
theorem wrapN {n : Int} {m : Nat} (h : n = (m : Int)) (hm : m ≤ 1000000) : IntKind.i64.wrap n = (m : Int) := by
  rw [h, wrap_id (by omega) (by omega)]
theorem v8_nb {a b : UInt8} (h : a ≠ b) : (a == b) = false := by
  rw [v8_beq]
  exact decide_eq_false fun e => h (UInt8.toNat_inj.1 e)
theorem slc_nn {α : Type} (xs : List α) {i j : Nat} (h1 : i ≤ j) (h2 : j ≤ xs.length) : slc xs (i : Int) (j : Int) = some ((xs.take j).drop i) := by
  unfold slc
  rw [if_pos ⟨by omega, by omega, by omega⟩]
  rfl
theorem slc_end {α : Type} (xs : List α) {i : Nat} (h1 : i ≤ xs.length) : slc xs (i : Int) (xs.length : Int) = some (xs.drop i) := by
  rw [slc_nn xs h1 (Nat.le_refl _), List.take_length]
theorem idx_cons (b c : UInt8) (s : Str) : Lib.indexByte (b :: s) c = if b = c then 0 else if Lib.indexByte s c = -1 then -1 else Lib.indexByte s c + 1 := by
  rw [Lib.indexByte]
  by_cases h : b = c <;> simp [h]
theorem idx_lt (c : UInt8) : ∀ l : Str, Lib.indexByte l c < (l.length : Int)
  | [] => by simp [Lib.indexByte]
  | b :: l => by
    have := idx_lt c l
    rw [idx_cons]
    split
    · simp
    · split
      · simp; omega
      · simp; omega
theorem blank_idx (c : UInt8) : decide (Lib.indexByte [32, 9, 10, 13] c ≥ 0) = ((c == 32) || ((c == 9) || ((c == 10) || (c == 13)))) := by
  simp only [idx_cons, Lib.indexByte]
  by_cases h1 : c = 32
  · subst h1; decide
  by_cases h2 : c = 9
  · subst h2; decide
  by_cases h3 : c = 10
  · subst h3; decide
  by_cases h4 : c = 13
  · subst h4; decide
  simp [h1, h2, h3, h4, Ne.symm h1, Ne.symm h2, Ne.symm h3, Ne.symm h4]
abbrev Tok : Type := Int × Str × Int × Int
theorem skip_both {N : Nat} (s : Str) (hs : s.length ≤ 50000) (w : List Tok) : ∀ (d i n m : Nat), i + d = s.length → d < n → d < m →
    ∃ j : Nat, i ≤ j ∧ j ≤ s.length ∧ script_lexer_blanks_2_L0 N s w (fun o => some (s, (o, w))) n (i : Int) = some (s, ((j : Int), w)) ∧ ref2_skip_L0 N s (fun o => some o) m (i : Int) = some (j : Int) := by
  intro d
  induction d using Nat.strongRecOn with
  | _ d ih =>
    intro i n m hd hn hm
    obtain ⟨n, rfl⟩ : ∃ q, n = q + 1 := ⟨n - 1, by omega⟩
    obtain ⟨m, rfl⟩ : ∃ q, m = q + 1 := ⟨m - 1, by omega⟩
    show ∃ j : Nat, _ ∧ _ ∧ script_lexer_blanks_2_L0T N s w _ (script_lexer_blanks_2_L0 N s w _ n) (i : Int) = _ ∧ ref2_skip_L0T N s _ (ref2_skip_L0 N s _ m) (i : Int) = _
    unfold script_lexer_blanks_2_L0T ref2_skip_L0T
    by_cases hi : i < s.length
    · rw [lt_tt hi, br_true, br_true, geti_lt s hi]
      simp only [bnd_some]
      have next : ∃ j : Nat, i ≤ j ∧ j ≤ s.length ∧ script_lexer_blanks_2_L0 N s w (fun o => some (s, (o, w))) n (IntKind.i64.wrap ((i : Int) + 1)) = some (s, ((j : Int), w)) ∧ ref2_skip_L0 N s (fun o => some o) m (IntKind.i64.wrap ((i : Int) + 1)) = some (j : Int) := by
        rw [wrapN (m := i + 1) (by omega) (by omega)]
        obtain ⟨j, h1, h2, h3, h4⟩ := ih (d - 1) (by omega) (i + 1) n m (by omega) (by omega) (by omega)
        exact ⟨j, by omega, h2, h3, h4⟩
      unfold strings_IndexByte
      simp only [bnd_some, blank_idx]
      by_cases h32 : s[i] = 32
      · simpa [h32] using next
      by_cases h9 : s[i] = 9
      · simpa [h9] using next
      by_cases h10 : s[i] = 10
      · simpa [h10] using next
      by_cases h13 : s[i] = 13
      · simpa [h13] using next
      by_cases h35 : s[i] = 35
      · simp only [h35, slc_end s (Nat.le_of_lt hi), bnd_some]
        have e : Lib.indexByte (s.drop i) 10 = Lib.indexByte (s.drop i) 10 := rfl
        have hlt := idx_lt 10 (s.drop i)
        rw [List.length_drop] at hlt
        by_cases hneg : Lib.indexByte (s.drop i) 10 < 0
        · refine ⟨s.length, by omega, Nat.le_refl _, ?_, ?_⟩
          · simp only [show ((35 : UInt8) == 32) = false by decide, show ((35 : UInt8) == 9) = false by decide, show ((35 : UInt8) == 10) = false by decide, show ((35 : UInt8) == 13) = false by decide, show ((35 : UInt8) == 35) = true by decide, br_true, br_false]
            rw [decide_eq_true hneg, br_true, wrapN (n := (s.length : Int) - (i : Int)) (m := s.length - i) (by omega) (by omega), wrapN (m := s.length) (by omega) (by omega)]
            obtain ⟨n, rfl⟩ : ∃ q, n = q + 1 := ⟨n - 1, by omega⟩
            show script_lexer_blanks_2_L0T N s w _ _ _ = _
            unfold script_lexer_blanks_2_L0T
            rw [lt_ff, br_false]
          · simp only [show ((35 : UInt8) == 35) = true by decide, br_true]
            rw [decide_eq_true hneg, br_true]
        · have hpos : Lib.indexByte (s.drop i) 10 ≠ 0 := by
            rw [List.drop_eq_getElem_cons hi, idx_cons, if_neg h10]
            split
            · omega
            · have := Lib.indexByte_ge (s.drop (i + 1)) 10; omega
          obtain ⟨q, hq⟩ : ∃ q : Nat, Lib.indexByte (s.drop i) 10 = (q : Int) := ⟨(Lib.indexByte (s.drop i) 10).toNat, by omega⟩
          obtain ⟨j, h1, h2, h3, h4⟩ := ih (d - q) (by omega) (i + q) n m (by omega) (by omega) (by omega)
          refine ⟨j, by omega, h2, ?_, ?_⟩
          · simp only [show ((35 : UInt8) == 32) = false by decide, show ((35 : UInt8) == 9) = false by decide, show ((35 : UInt8) == 10) = false by decide, show ((35 : UInt8) == 13) = false by decide, show ((35 : UInt8) == 35) = true by decide, br_true, br_false]
            rw [decide_eq_false hneg, br_false, hq, wrapN (m := i + q) (by omega) (by omega), h3]
          · simp only [show ((35 : UInt8) == 35) = true by decide, br_true]
            rw [decide_eq_false hneg, br_false, hq, wrapN (m := i + q) (by omega) (by omega), h4]
      · refine ⟨i, Nat.le_refl _, by omega, ?_, ?_⟩
        · simp only [v8_nb h32, v8_nb h9, v8_nb h10, v8_nb h13, v8_nb h35, br_false]
        · simp only [v8_nb h32, v8_nb h9, v8_nb h10, v8_nb h13, v8_nb h35, br_false, Bool.or_false]
    · obtain rfl : i = s.length := by omega
      rw [lt_ff, br_false, br_false]
      exact ⟨s.length, Nat.le_refl _, Nat.le_refl _, rfl, rfl⟩
/-- A loop that goes on while a byte is of a kind. -/
theorem tw_loop {R : Type} (p : UInt8 → Bool) (s : Str) (hs : s.length ≤ 50000) {k : Int → Option R} {f : Nat → Int → Option R}
    (hstep : ∀ n (i : Nat) (hi : i < s.length), f (n + 1) (i : Int) = if p s[i] = true then f n (IntKind.i64.wrap ((i : Int) + 1)) else k (i : Int)) (hend : ∀ n, f (n + 1) (s.length : Int) = k (s.length : Int)) :
    ∀ (d i n : Nat), i + d = s.length → d < n → f n (i : Int) = k ((i + ((s.drop i).takeWhile p).length : Nat) : Int) := by
  intro d
  induction d with
  | zero =>
    intro i n hd hn
    obtain ⟨n, rfl⟩ : ∃ q, n = q + 1 := ⟨n - 1, by omega⟩
    obtain rfl : i = s.length := by omega
    rw [hend, List.drop_length]; rfl
  | succ d ih =>
    intro i n hd hn
    obtain ⟨n, rfl⟩ : ∃ q, n = q + 1 := ⟨n - 1, by omega⟩
    have hi : i < s.length := by omega
    rw [hstep n i hi, List.drop_eq_getElem_cons hi, List.takeWhile_cons]
    split
    · rw [wrapN (m := i + 1) (by omega) (by omega), ih (i + 1) n (by omega) (by omega)]
      congr 1
      simp only [List.length_cons]
      omega
    · simp
def nameB (c : UInt8) : Bool := (decide (c ≥ 97) && decide (c ≤ 122)) || ((decide (c ≥ 48) && decide (c ≤ 57)) || (c == 95))
def digB (c : UInt8) : Bool := decide (c ≥ 48) && decide (c ≤ 57)
theorem isSmall_eq (N : Nat) (c : UInt8) : script_isSmall N c = some (decide (c ≥ 97) && decide (c ≤ 122)) := by
  unfold script_isSmall
  cases decide (c ≥ 97) <;> simp
theorem isDigit_eq (N : Nat) (c : UInt8) : script_isDigit N c = some (digB c) := by
  unfold script_isDigit digB
  cases decide (c ≥ 48) <;> simp
theorem isDigitR_eq (N : Nat) (c : UInt8) : ref2_isDigit N c = some (digB c) := by
  unfold ref2_isDigit digB
  cases decide (c ≥ 48) <;> simp
theorem one1_eq (N : Nat) (c : UInt8) : script_lexer_one_1 N c = some (nameB c) := by
  unfold script_lexer_one_1
  rw [isSmall_eq, bnd_some, isDigit_eq, bnd_some]
  unfold nameB digB
  cases (decide (c ≥ 97) && decide (c ≤ 122)) <;> cases (decide (c ≥ 48) && decide (c ≤ 57)) <;> simp
theorem isNameByte_eq (N : Nat) (c : UInt8) : ref2_isNameByte N c = some (nameB c) := by
  unfold ref2_isNameByte nameB
  cases decide (c ≥ 97) <;> cases decide (c ≤ 122) <;> cases decide (c ≥ 48) <;> cases decide (c ≤ 57) <;> simp
theorem tw_le (p : UInt8 → Bool) (s : Str) {i : Nat} (hi : i ≤ s.length) : i + ((s.drop i).takeWhile p).length ≤ s.length := by
  have := (List.takeWhile_sublist (l := s.drop i) p).length_le
  rw [List.length_drop] at this
  omega
theorem tw_all (p : UInt8 → Bool) : ∀ (l : Str), ∀ b ∈ l.takeWhile p, p b = true
  | [], b, h => by cases h
  | a :: l, b, h => by
    rw [List.takeWhile_cons] at h
    split at h
    · rename_i hp
      rcases List.mem_cons.1 h with rfl | h
      · exact hp
      · exact tw_all p l b h
    · cases h
theorem tw_slice (p : UInt8 → Bool) (s : Str) {i : Nat} (hi : i ≤ s.length) : (s.take (i + ((s.drop i).takeWhile p).length)).drop i = (s.drop i).takeWhile p := by
  rw [List.drop_take, Nat.add_sub_cancel_left]
  have h : ∀ l : Str, l.take (l.takeWhile p).length = l.takeWhile p := by
    intro l
    induction l with
    | nil => rfl
    | cons a l ih =>
      rw [List.takeWhile_cons]
      split
      · rw [List.length_cons, List.take_succ_cons, ih]
      · rfl
  exact h _
theorem some3L {N : Nat} (hN : 60000 ≤ N) (s : Str) (hs : s.length ≤ 50000) {k : Int → Option (Str × Str × Int × List Tok)} {i : Nat} (hi : i ≤ s.length) :
    script_lexer_some_3_L0 N s k N (i : Int) = k ((i + ((s.drop i).takeWhile nameB).length : Nat) : Int) := by
  refine tw_loop nameB s hs (f := script_lexer_some_3_L0 N s k) (fun n j hj => ?_) (fun n => ?_) (s.length - i) i N (by omega) (by omega)
  · show script_lexer_some_3_L0T _ _ _ _ _ = _
    unfold script_lexer_some_3_L0T
    rw [lt_tt hj, br_true, geti_lt s hj, bnd_some, one1_eq, bnd_some, br_eq_ite]
  · show script_lexer_some_3_L0T _ _ _ _ _ = _
    unfold script_lexer_some_3_L0T
    rw [lt_ff, br_false]
theorem some3_eq {N : Nat} (hN : 60000 ≤ N) (s : Str) (hs : s.length ≤ 50000) (w : List Tok) {i : Nat} (hi : i ≤ s.length) :
    script_lexer_some_3 N () s (i : Int) w = some ((s.drop i).takeWhile nameB, (s, (((i + ((s.drop i).takeWhile nameB).length : Nat) : Int), w))) := by
  unfold script_lexer_some_3
  rw [some3L hN s hs hi, slc_nn s (Nat.le_add_right _ _) (tw_le nameB s hi), bnd_some, tw_slice nameB s hi]
theorem some4L {N : Nat} (hN : 60000 ≤ N) (s : Str) (hs : s.length ≤ 50000) {k : Int → Option (Str × Str × Int × List Tok)} {i : Nat} (hi : i ≤ s.length) :
    script_lexer_some_4_L0 N s k N (i : Int) = k ((i + ((s.drop i).takeWhile digB).length : Nat) : Int) := by
  refine tw_loop digB s hs (f := script_lexer_some_4_L0 N s k) (fun n j hj => ?_) (fun n => ?_) (s.length - i) i N (by omega) (by omega)
  · show script_lexer_some_4_L0T _ _ _ _ _ = _
    unfold script_lexer_some_4_L0T
    rw [lt_tt hj, br_true, geti_lt s hj, bnd_some, isDigit_eq, bnd_some, br_eq_ite]
  · show script_lexer_some_4_L0T _ _ _ _ _ = _
    unfold script_lexer_some_4_L0T
    rw [lt_ff, br_false]
theorem some4_eq {N : Nat} (hN : 60000 ≤ N) (s : Str) (hs : s.length ≤ 50000) (w : List Tok) {i : Nat} (hi : i ≤ s.length) :
    script_lexer_some_4 N () s (i : Int) w = some ((s.drop i).takeWhile digB, (s, (((i + ((s.drop i).takeWhile digB).length : Nat) : Int), w))) := by
  unfold script_lexer_some_4
  rw [some4L hN s hs hi, slc_nn s (Nat.le_add_right _ _) (tw_le digB s hi), bnd_some, tw_slice digB s hi]
theorem tok0_eq {N : Nat} (hN : 60000 ≤ N) (s : Str) (hs : s.length ≤ 50000) {k : Int → Option (Tok × Int × Int)} {i : Nat} (hi : i ≤ s.length) :
    ref2_token_L0 N s k N (i : Int) = k ((i + ((s.drop i).takeWhile nameB).length : Nat) : Int) := by
  refine tw_loop nameB s hs (f := ref2_token_L0 N s k) (fun n j hj => ?_) (fun n => ?_) (s.length - i) i N (by omega) (by omega)
  · show ref2_token_L0T _ _ _ _ _ = _
    unfold ref2_token_L0T
    rw [lt_tt hj, br_true, geti_lt s hj, bnd_some, isNameByte_eq, bnd_some, br_eq_ite]
  · show ref2_token_L0T _ _ _ _ _ = _
    unfold ref2_token_L0T
    rw [lt_ff, br_false]
theorem tok1_eq {N : Nat} (hN : 60000 ≤ N) (s : Str) (hs : s.length ≤ 50000) {k : Int → Option (Tok × Int × Int)} {i : Nat} (hi : i ≤ s.length) :
    ref2_token_L1 N s k N (i : Int) = k ((i + ((s.drop i).takeWhile digB).length : Nat) : Int) := by
  refine tw_loop digB s hs (f := ref2_token_L1 N s k) (fun n j hj => ?_) (fun n => ?_) (s.length - i) i N (by omega) (by omega)
  · show ref2_token_L1T _ _ _ _ _ = _
    unfold ref2_token_L1T
    rw [lt_tt hj, br_true, geti_lt s hj, bnd_some, isDigitR_eq, bnd_some, br_eq_ite]
  · show ref2_token_L1T _ _ _ _ _ = _
    unfold ref2_token_L1T
    rw [lt_ff, br_false]
/-- The number that digits show. -/
def numD (acc : Nat) (l : Str) : Nat := l.foldl (fun a b => a * 10 + (b.toNat - 48)) acc
theorem dec_num : ∀ (l : Str) (acc : Nat), (∀ b ∈ l, digB b = true) → Lib.decFrom acc l = some (numD acc l)
  | [], acc, _ => rfl
  | b :: l, acc, h => by
    have hb := h b (by simp)
    unfold digB at hb
    simp only [Bool.and_eq_true, decide_eq_true_eq, ge_iff_le, UInt8.le_iff_toNat_le] at hb
    have h1 : (48 : UInt8).toNat = 48 := rfl
    have h2 : (57 : UInt8).toNat = 57 := rfl
    rw [Lib.decFrom, Lib.digitVal, if_pos (by omega)]
    exact dec_num l _ fun c hc => h c (by simp [hc])
theorem num_loop {N : Nat} {k : Int → Option (Int × Str × Int × Int × Str × Int × Int × List Tok)} (c : Str) (hc : c.length ≤ 9) (hd : ∀ b ∈ c, digB b = true) : ∀ (d i n acc : Nat), i + d = c.length → d < n → acc < 10 ^ i →
    script_lexer_number_2_L0 N c (c.length : Int) k n (i : Int) (acc : Int) = k (numD acc (c.drop i) : Int) := by
  intro d
  induction d with
  | zero =>
    intro i n acc h hn ha
    obtain ⟨n, rfl⟩ : ∃ q, n = q + 1 := ⟨n - 1, by omega⟩
    obtain rfl : i = c.length := by omega
    show script_lexer_number_2_L0T _ _ _ _ _ _ _ = _
    unfold script_lexer_number_2_L0T
    rw [lt_ff, br_false, List.drop_length]; rfl
  | succ d ih =>
    intro i n acc h hn ha
    obtain ⟨n, rfl⟩ : ∃ q, n = q + 1 := ⟨n - 1, by omega⟩
    have hi : i < c.length := by omega
    have hb := hd c[i] (List.getElem_mem hi)
    unfold digB at hb
    simp only [Bool.and_eq_true, decide_eq_true_eq, ge_iff_le, UInt8.le_iff_toNat_le] at hb
    have h1 : (48 : UInt8).toNat = 48 := rfl
    have h2 : (57 : UInt8).toNat = 57 := rfl
    have hp : 10 ^ i ≤ 10 ^ 8 := Nat.pow_le_pow_right (by omega) (by omega)
    have hp9 : (10 : Nat) ^ 8 = 100000000 := by decide
    have hsub : (c[i] - 48).toNat = c[i].toNat - 48 := by
      rw [UInt8.toNat_sub_of_le _ _ (by rw [UInt8.le_iff_toNat_le]; omega)]; rfl
    show script_lexer_number_2_L0T _ _ _ _ _ _ _ = _
    unfold script_lexer_number_2_L0T
    rw [lt_tt hi, br_true, geti_lt c hi, bnd_some]
    rw [wrapN (n := (i : Int) + 1) (m := i + 1) (by omega) (by omega), hsub, wrap_id (n := ((c[i].toNat - 48 : Nat) : Int)) (by omega) (by omega), wrap_id (n := (10 : Int) * (acc : Int)) (by omega) (by omega), wrap_id (by omega) (by omega)]
    rw [show (10 : Int) * (acc : Int) + ((c[i].toNat - 48 : Nat) : Int) = ((acc * 10 + (c[i].toNat - 48) : Nat) : Int) by omega]
    rw [ih (i + 1) n _ (by omega) (by omega) (by rw [Nat.pow_succ]; omega), List.drop_eq_getElem_cons hi]
    rfl
/-- What a text is, behind its first byte: its bytes and where it ends; or none. -/
theorem text_both {N : Nat} (s : Str) (hs : s.length ≤ 50000) (w : List Tok) (at0 : Int) : ∀ (d i n m : Nat) (acc : Str), i + d = s.length → d < n → d < m → acc.length ≤ i →
    (∃ (txt : Str) (j : Nat), i < j ∧ j ≤ s.length ∧ script_lexer_text_2_L0 N s w (fun o => some (([] : Str), (false, (s, (o, w))))) n (i : Int) acc = some (txt, (true, (s, ((j : Int), w)))) ∧ ref2_textToken_L0 N s 2 0 at0 (fun t => some ((2, (t, (0, at0))), (0, 10))) m (i : Int) acc = some ((2, (txt, (0, at0))), ((j : Int), 0))) ∨
    ((∃ txt p, script_lexer_text_2_L0 N s w (fun o => some (([] : Str), (false, (s, (o, w))))) n (i : Int) acc = some (txt, (false, (s, (p, w))))) ∧ ∃ t e, ref2_textToken_L0 N s 2 0 at0 (fun t => some ((2, (t, (0, at0))), (0, 10))) m (i : Int) acc = some (t, (e, 10))) := by
  intro d
  induction d using Nat.strongRecOn with
  | _ d ih =>
    intro i n m acc hd hn hm ha
    obtain ⟨n, rfl⟩ : ∃ q, n = q + 1 := ⟨n - 1, by omega⟩
    obtain ⟨m, rfl⟩ : ∃ q, m = q + 1 := ⟨m - 1, by omega⟩
    show (∃ (txt : Str) (j : Nat), _ ∧ _ ∧ script_lexer_text_2_L0T N s w _ (script_lexer_text_2_L0 N s w _ n) (i : Int) acc = _ ∧ ref2_textToken_L0T N s 2 0 at0 _ (ref2_textToken_L0 N s 2 0 at0 _ m) (i : Int) acc = _) ∨ ((∃ txt p, script_lexer_text_2_L0T N s w _ (script_lexer_text_2_L0 N s w _ n) (i : Int) acc = _) ∧ ∃ t e, ref2_textToken_L0T N s 2 0 at0 _ (ref2_textToken_L0 N s 2 0 at0 _ m) (i : Int) acc = _)
    unfold script_lexer_text_2_L0T ref2_textToken_L0T
    by_cases hi : i < s.length
    · simp only [lt_tt hi, br_true, geti_lt s hi, bnd_some, wrapN (n := (i : Int) + 1) (m := i + 1) (by omega) (by omega)]
      by_cases h34 : s[i] = 34
      · left
        refine ⟨acc, i + 1, by omega, by omega, ?_, ?_⟩ <;> simp [h34]
      simp only [v8_nb h34, br_false]
      by_cases h92 : s[i] = 92
      · simp only [h92, show decide ((92 : UInt8) < 32) = false by decide, show decide ((92 : UInt8) > 126) = false by decide, show ((92 : UInt8) == 92) = true by decide, show ((92 : UInt8) != 92) = false by decide, br_true, br_false]
        by_cases hi1 : i + 1 < s.length
        · have hne : (((i + 1 : Nat) : Int) == (s.length : Int)) = false := by
            rw [beq_eq_false_iff_ne]; omega
          simp only [hne, br_false, lt_tt hi1, br_true, geti_lt s hi1, bnd_some, wrapN (n := ((i + 1 : Nat) : Int) + 1) (m := i + 2) (by omega) (by omega)]
          have hsl : slc s ((i + 1 : Nat) : Int) ((i + 2 : Nat) : Int) = some [s[i + 1]] := by
            rw [slc_nn s (by omega) (by omega), List.drop_take, show i + 2 - (i + 1) = 1 by omega, List.drop_eq_getElem_cons hi1]; rfl
          have hb : ∀ c : UInt8, decide ((acc.length + [c].length) * (24 * Ty.sz .u8) ≤ 140737488355328) = true := fun c => decide_eq_true (by simp [Ty.sz]; omega)
          have hb2 : ∀ c : UInt8, decide (acc.length + [c].length ≤ 9223372036854775807) = true := fun c => decide_eq_true (by simp; omega)
          have next : ∀ c : UInt8, _ := fun c => ih (d - 2) (by omega) (i + 2) n m (acc ++ [c]) (by omega) (by omega) (by omega) (by simp; omega)
          simp only [hsl, bnd_some, hb, hb2, br_true]
          by_cases g34 : s[i + 1] = 34
          · have nx := next 34
            simp only [g34, show ((34 : UInt8) == 34) = true by decide, br_true]
            rcases nx with ⟨txt, j, h1, h2, h3, h4⟩ | h
            · exact .inl ⟨txt, j, by omega, h2, h3, h4⟩
            · exact .inr h
          simp only [v8_nb g34, br_false]
          by_cases g92 : s[i + 1] = 92
          · have nx := next 92
            simp only [g92, show ((92 : UInt8) == 92) = true by decide, br_true]
            rcases nx with ⟨txt, j, h1, h2, h3, h4⟩ | h
            · exact .inl ⟨txt, j, by omega, h2, h3, h4⟩
            · exact .inr h
          simp only [v8_nb g92, br_false]
          by_cases g110 : s[i + 1] = 110
          · have nx := next 10
            simp only [g110, show ((110 : UInt8) == 110) = true by decide, br_true]
            rcases nx with ⟨txt, j, h1, h2, h3, h4⟩ | h
            · exact .inl ⟨txt, j, by omega, h2, h3, h4⟩
            · exact .inr h
          simp only [v8_nb g110, br_false]
          exact .inr ⟨⟨_, _, rfl⟩, _, _, rfl⟩
        · have he : i + 1 = s.length := by omega
          simp only [he, beq_self_eq_true, br_true, lt_ff, br_false]
          exact .inr ⟨⟨_, _, rfl⟩, _, _, rfl⟩
      have hne92 : (s[i] != 92) = true := by rw [bne, v8_nb h92]; rfl
      simp only [v8_nb h92, hne92, br_false, br_true]
      by_cases hlo : s[i] < 32
      · simp only [decide_eq_true hlo, br_true]
        exact .inr ⟨⟨_, _, rfl⟩, _, _, rfl⟩
      by_cases hhi : s[i] > 126
      · simp only [decide_eq_false hlo, decide_eq_true hhi, br_true, br_false]
        exact .inr ⟨⟨_, _, rfl⟩, _, _, rfl⟩
      simp only [decide_eq_false hlo, decide_eq_false hhi, br_false]
      have hsl : slc s (i : Int) ((i + 1 : Nat) : Int) = some [s[i]] := by
        rw [slc_nn s (by omega) (by omega), List.drop_take, show i + 1 - i = 1 by omega, List.drop_eq_getElem_cons hi]; rfl
      rw [hsl, bnd_some, decide_eq_true (show (acc.length + [s[i]].length) * (24 * Ty.sz .u8) ≤ 140737488355328 by simp [Ty.sz]; omega), decide_eq_true (show acc.length + [s[i]].length ≤ 9223372036854775807 by simp; omega), br_true, br_true]
      rcases ih (d - 1) (by omega) (i + 1) n m (acc ++ [s[i]]) (by omega) (by omega) (by omega) (by simp; omega) with ⟨txt, j, h1, h2, h3, h4⟩ | h
      · exact .inl ⟨txt, j, by omega, h2, h3, h4⟩
      · exact .inr h
    · obtain rfl : i = s.length := by omega
      simp only [lt_ff, br_false]
      exact .inr ⟨⟨_, _, rfl⟩, _, _, rfl⟩
theorem atoi_num {c : Str} (hc : c.length ≤ 9) (h0 : c ≠ []) (hd : ∀ b ∈ c, digB b = true) : strconv_Atoi c = some (numD 0 c : Int) := by
  unfold strconv_Atoi
  rw [if_pos (by omega)]
  obtain ⟨b, r, rfl⟩ := List.exists_cons_of_ne_nil h0
  have hb := hd b (by simp)
  unfold digB at hb
  simp only [Bool.and_eq_true, decide_eq_true_eq, ge_iff_le, UInt8.le_iff_toNat_le] at hb
  have h1 : (48 : UInt8).toNat = 48 := rfl
  have n45 : (b == 45) = false := v8_nb fun e => by subst e; revert hb; decide
  have n43 : (b == 43) = false := v8_nb fun e => by subst e; revert hb; decide
  unfold Lib.atoi
  simp only [n45, n43, Bool.false_eq_true, if_false]
  rw [Lib.decNat, List.isEmpty_cons]
  simp only [Bool.false_eq_true, if_false]
  rw [dec_num _ 0 hd]
  rfl
theorem prefix_eq (N : Nat) (l : Str) : strings_HasPrefix N l [61, 61] = some (l.take 2 == [61, 61]) := by
  unfold strings_HasPrefix stringslite_HasPrefix
  match l with
  | [] => simp
  | [a] =>
    simp
  | a :: b :: r =>
    rw [decide_eq_true (show (((a :: b :: r : Str).length : Nat) : Int) ≥ ((([61, 61] : Str).length : Nat) : Int) by simp; omega), br_true]
    rw [show (0 : Int) = ((0 : Nat) : Int) from rfl, slc_nn _ (by simp) (by simp), bnd_some, bnd_some]
    rfl
/-- A token: what it is and where it ends; or a fault. -/
theorem tok_both {N : Nat} (hN : 60000 ≤ N) (s : Str) (hs : s.length ≤ 50000) (w : List Tok) {i : Nat} (hi : i < s.length) :
    (∃ (t : Tok) (j : Nat), i < j ∧ j ≤ s.length ∧ script_lexer_one_2 N s (i : Int) w = some (t, (0, (s, ((j : Int), w)))) ∧ ref2_token N s (i : Int) = some (t, ((j : Int), 0))) ∨
    (∃ (t : Tok) (e : Int) (q : Str × Int × List Tok) (t' : Tok) (x : Int), e ≠ 0 ∧ t.2.2.2 = (i : Int) ∧ script_lexer_one_2 N s (i : Int) w = some (t, (e, q)) ∧ ref2_token N s (i : Int) = some (t', (x, e))) := by
  unfold script_lexer_one_2 ref2_token
  simp only [geti_lt s hi, bnd_some, isSmall_eq, isDigit_eq, isDigitR_eq]
  by_cases hsm : (decide (s[i] ≥ 97) && decide (s[i] ≤ 122)) = true
  · have hsm' := hsm
    simp only [Bool.and_eq_true] at hsm
    simp only [hsm.1, hsm.2, Bool.and_self, br_true, some3_eq hN s hs w (Nat.le_of_lt hi), bnd_some, tok0_eq hN s hs (Nat.le_of_lt hi)]
    have hle := tw_le nameB s (Nat.le_of_lt hi)
    have hpos : 0 < ((s.drop i).takeWhile nameB).length := by
      rw [List.drop_eq_getElem_cons hi, List.takeWhile_cons, if_pos (by unfold nameB; rw [hsm']; rfl)]
      simp
    rw [slc_nn s (Nat.le_add_right _ _) hle, bnd_some, tw_slice nameB s (Nat.le_of_lt hi), wrapN (n := ((i + ((s.drop i).takeWhile nameB).length : Nat) : Int) - (i : Int)) (m := ((s.drop i).takeWhile nameB).length) (by omega) (by omega)]
    by_cases hg : ((((s.drop i).takeWhile nameB).length : Nat) : Int) > 40
    · simp only [decide_eq_true hg, br_true]
      exact .inr ⟨_, 2, _, _, _, by decide, rfl, rfl, rfl⟩
    · simp only [decide_eq_false hg, br_false]
      exact .inl ⟨_, i + ((s.drop i).takeWhile nameB).length, by omega, hle, rfl, rfl⟩
  have hsm' : (decide (s[i] ≥ 97) && decide (s[i] ≤ 122)) = false := by simpa using hsm
  have hcomm : ∀ (X Y : Option (Tok × Int × Int)), br (decide (s[i] ≥ 97)) (br (decide (s[i] ≤ 122)) X Y) Y = Y := by
    intro X Y
    rcases Bool.and_eq_false_iff.1 hsm' with h | h <;> rw [h]
    · rw [br_false]
    · cases decide (s[i] ≥ 97) <;> simp
  simp only [hsm', br_false, hcomm]
  by_cases hdg : digB s[i] = true
  · simp only [hdg, br_true]
    unfold script_lexer_number_2
    rw [some4_eq hN s hs w (Nat.le_of_lt hi), tok1_eq hN s hs (Nat.le_of_lt hi)]
    simp only [bnd_some]
    have hle := tw_le digB s (Nat.le_of_lt hi)
    rw [slc_nn s (Nat.le_add_right _ _) hle, bnd_some, tw_slice digB s (Nat.le_of_lt hi), wrapN (n := ((i + ((s.drop i).takeWhile digB).length : Nat) : Int) - (i : Int)) (m := ((s.drop i).takeWhile digB).length) (by omega) (by omega)]
    have hc0 : (s.drop i).takeWhile digB = s[i] :: (s.drop (i + 1)).takeWhile digB := by
      rw [List.drop_eq_getElem_cons hi, List.takeWhile_cons, if_pos hdg]
    have hall : ∀ b ∈ (s.drop i).takeWhile digB, digB b = true := tw_all digB _
    generalize hc : (s.drop i).takeWhile digB = c at *
    have hpos : 0 < c.length := by rw [hc0]; simp
    have g0 : geti c 0 = some s[i] := by rw [hc0]; rfl
    simp only [g0, bnd_some]
    by_cases h9 : (c.length : Int) > 9
    · rw [decide_eq_true h9, decide_eq_true (show (c.length : Int) > 1 by omega)]
      simp only [br_true]
      by_cases h48 : s[i] = 48
      · simp only [h48, show ((48 : UInt8) == 48) = true by decide, br_true, bnd_some]
        exact .inr ⟨_, 10, _, _, _, by decide, rfl, rfl, rfl⟩
      · simp only [v8_nb h48, br_false, bnd_some]
        exact .inr ⟨_, 2, _, _, _, by decide, rfl, rfl, rfl⟩
    · rw [decide_eq_false h9]
      simp only [br_false, atoi_num (by omega) (by intro e; rw [e] at hpos; simp at hpos) hall, bnd_some]
      have hl := fun k => num_loop (N := N) (k := k) c (by omega) hall c.length 0 N 0 (by omega) (by omega) (by simp)
      simp only [List.drop_zero, show ((0 : Nat) : Int) = 0 from rfl] at hl
      simp only [hl]
      by_cases h1 : (c.length : Int) > 1
      · simp only [decide_eq_true h1, br_true]
        by_cases h48 : s[i] = 48
        · simp only [h48, show ((48 : UInt8) == 48) = true by decide, br_true, bnd_some]
          exact .inr ⟨_, 10, _, _, _, by decide, rfl, rfl, rfl⟩
        · simp only [v8_nb h48, br_false, bnd_some]
          exact .inl ⟨_, i + c.length, by omega, hle, rfl, rfl⟩
      · simp only [decide_eq_false h1, br_false, bnd_some]
        refine .inl ⟨_, i + c.length, by omega, hle, rfl, ?_⟩
        cases (s[i] == 48) <;> simp
  have hdg' : digB s[i] = false := by simpa using hdg
  simp only [hdg', br_false]
  by_cases h34 : s[i] = 34
  · simp only [h34, show ((34 : UInt8) == 34) = true by decide, br_true]
    unfold script_lexer_text_2 ref2_textToken
    rw [wrapN (n := (i : Int) + 1) (m := i + 1) (by omega) (by omega)]
    rcases text_both (N := N) s hs w (i : Int) (s.length - (i + 1)) (i + 1) N N [] (by omega) (by omega) (by omega) (by simp) with ⟨txt, j, h1, h2, h3, h4⟩ | ⟨⟨txt, p, h3⟩, t, e, h4⟩
    · simp only [h3, h4, bnd_some, Bool.not_true, br_false]
      exact .inl ⟨_, j, by omega, h2, rfl, rfl⟩
    · simp only [h3, h4, bnd_some, Bool.not_false, br_true]
      exact .inr ⟨_, 10, _, _, _, by decide, rfl, rfl, rfl⟩
  simp only [v8_nb h34, br_false]
  unfold strings_IndexByte
  simp only [bnd_some]
  by_cases hsg : Lib.indexByte [61, 43, 40, 41, 91, 93, 123, 125, 44, 58, 59] s[i] ≥ 0
  · simp only [decide_eq_true hsg, br_true, slc_end s (Nat.le_of_lt hi), bnd_some, prefix_eq, wrapN (n := (i : Int) + 1) (m := i + 1) (by omega) (by omega)]
    rw [slc_nn s (i := i) (j := i + 1) (by omega) (by omega)]
    simp only [bnd_some]
    by_cases hi1 : i + 1 < s.length
    · have ht2 : (s.drop i).take 2 = [s[i], s[i + 1]] := by
        rw [List.drop_eq_getElem_cons hi, List.drop_eq_getElem_cons hi1]; rfl
      rw [ht2, lt_tt hi1, br_true, geti_lt s hi1, bnd_some]
      simp only [wrapN (n := (i : Int) + 2) (m := i + 2) (by omega) (by omega), wrapN (n := ((i + 1 : Nat) : Int) + 1) (m := i + 2) (by omega) (by omega)]
      rw [slc_nn s (i := i) (j := i + 2) (by omega) (by omega)]
      simp only [bnd_some]
      by_cases h61 : s[i] = 61
      · by_cases g61 : s[i + 1] = 61
        · simp only [h61, g61, show ((61 : UInt8) == 61) = true by decide, show (([61, 61] : Str) == [61, 61]) = true by decide, br_true]
          exact .inl ⟨_, i + 2, by omega, by omega, rfl, rfl⟩
        · have : (([61, s[i + 1]] : Str) == ([61, 61] : Str)) = false := by
            rw [beq_eq_false_iff_ne]; intro e; exact g61 (by simpa using (List.cons.inj (List.cons.inj e).2).1)
          simp only [this, h61, v8_nb g61, show ((61 : UInt8) == 61) = true by decide, br_true, br_false]
          exact .inl ⟨_, i + 1, by omega, by omega, rfl, rfl⟩
      · have : ([s[i], s[i + 1]] == ([61, 61] : Str)) = false := by
          rw [beq_eq_false_iff_ne]; intro e; exact h61 (List.cons.inj e).1
        simp only [this, v8_nb h61, br_false]
        exact .inl ⟨_, i + 1, by omega, by omega, rfl, rfl⟩
    · have he : i + 1 = s.length := by omega
      have ht2 : (s.drop i).take 2 = [s[i]] := by
        rw [List.drop_eq_getElem_cons hi, he, List.drop_length]; rfl
      rw [ht2, show (([s[i]] : Str) == [61, 61]) = false by rw [beq_eq_false_iff_ne]; intro e; simp at e]
      rw [decide_eq_false (show ¬ ((i + 1 : Nat) : Int) < (s.length : Int) by omega)]
      simp only [br_false]
      refine .inl ⟨_, i + 1, by omega, by omega, rfl, ?_⟩
      cases (s[i] == 61) <;> simp
  · simp only [decide_eq_false hsg, br_false]
    exact .inr ⟨_, 10, _, _, _, by decide, rfl, rfl, rfl⟩
/-- The whole: out of any place, with any tokens so far. -/
theorem toks_both {N : Nat} (hN : 60000 ≤ N) (s : Str) (hs : s.length ≤ 50000) : ∀ (d i n m j : Nat) (out : List Tok), i + d = s.length → d < n → d < m → out.length ≤ 50000 → i ≤ j → j ≤ s.length →
    (∀ w : List Tok, script_lexer_blanks_2 N s (i : Int) w = some (s, ((j : Int), w))) →
    ∃ (x : List Tok) (a f : Int), x.length ≤ 50000 ∧ script_Tokens_L0 N s n s (i : Int) out = some (x, (a, f)) ∧ ref2_Tokens_L0 N s (fun o => some (0, (0, o))) m (j : Int) out = some (a, (f, x)) := by
  intro d
  induction d using Nat.strongRecOn with
  | _ d ih =>
    intro i n m j out hd hn hm ho hij hj hb
    obtain ⟨n, rfl⟩ : ∃ q, n = q + 1 := ⟨n - 1, by omega⟩
    obtain ⟨m, rfl⟩ : ∃ q, m = q + 1 := ⟨m - 1, by omega⟩
    show ∃ (x : List Tok) (a f : Int), _ ∧ script_Tokens_L0T N s (script_Tokens_L0 N s n) s (i : Int) out = _ ∧ ref2_Tokens_L0T N s _ (ref2_Tokens_L0 N s _ m) (j : Int) out = _
    unfold script_Tokens_L0T ref2_Tokens_L0T
    simp only [hb, bnd_some, times_eq]
    by_cases hjl : j < s.length
    · have hne : ((j : Int) == (s.length : Int)) = false := by rw [beq_eq_false_iff_ne]; omega
      simp only [hne, br_false, lt_tt hjl, br_true]
      by_cases hfull : (out.length : Int) = 50000
      · have h1 : ((out.length : Int) == 50000) = true := by rw [hfull]; rfl
        rcases tok_both hN s hs out hjl with ⟨t, q, _, _, _, h4⟩ | ⟨t, e, q, t', x, _, _, _, h4⟩
        · rw [h4, h1]
          simp only [bnd_some, br_true, decide_eq_true (show (out.length : Int) ≥ 50000 by omega)]
          exact ⟨_, _, _, by simp, rfl, rfl⟩
        · rw [h4, h1]
          simp only [bnd_some, br_true, decide_eq_true (show (out.length : Int) ≥ 50000 by omega)]
          exact ⟨_, _, _, by simp, rfl, rfl⟩
      · have h1 : ((out.length : Int) == 50000) = false := by rw [beq_eq_false_iff_ne]; exact hfull
        have h2 : decide ((out.length : Int) ≥ 50000) = false := decide_eq_false (by omega)
        simp only [h1, h2, br_false]
        rcases tok_both hN s hs out hjl with ⟨t, q, g1, g2, g3, g4⟩ | ⟨t, e, q, t', x, g1, g2, g3, g4⟩
        · rw [g3, g4]
          simp only [bnd_some, show ((0 : Int) != 0) = false by decide, br_false]
          have hmem : decide ((out.length + [t].length) * (24 * Ty.sz (.pr (.int .i64) (.pr .str (.pr (.int .i64) (.int .i64))))) ≤ 140737488355328) = true := decide_eq_true (by simp [Ty.sz]; omega)
          simp only [hmem, br_true]
          obtain ⟨j', k1, k2, k3, k4⟩ := skip_both (N := N) s hs [] (s.length - q) q N N (by omega) (by omega) (by omega)
          have hb' : ∀ w : List Tok, script_lexer_blanks_2 N s (q : Int) w = some (s, ((j' : Int), w)) := fun w => by
            obtain ⟨j2, _, _, k3', k4'⟩ := skip_both (N := N) s hs w (s.length - q) q N N (by omega) (by omega) (by omega)
            have : (j2 : Int) = (j' : Int) := Option.some.inj (k4'.symm.trans k4)
            rw [this] at k3'
            exact k3'
          have hsk : ref2_skip N s (q : Int) = some (j' : Int) := k4
          rw [hsk, bnd_some]
          exact ih (s.length - q) (by omega) q n m j' (out ++ [t]) (by omega) (by omega) (by omega) (by simp; omega) (by omega) k2 hb'
        · rw [g3, g4]
          have h0 : (e != 0) = true := by simpa using g1
          simp only [bnd_some, h0, br_true, g2]
          exact ⟨_, _, _, by simp, rfl, rfl⟩
    · obtain rfl : j = s.length := by omega
      simp only [beq_self_eq_true, br_true, lt_ff, br_false]
      exact ⟨_, _, _, ho, rfl, rfl⟩
theorem tokens_both {N : Nat} (hN : 60000 ≤ N) (s : Str) : ∃ (x : List Tok) (a f : Int), x.length ≤ 50000 ∧ script_Tokens N s = some (x, (a, f)) ∧ ref2_Tokens N s = some (a, (f, x)) := by
  unfold script_Tokens ref2_Tokens
  by_cases hs : (s.length : Int) > 50000
  · simp only [decide_eq_true hs, br_true]
    exact ⟨_, _, _, by simp, rfl, rfl⟩
  · simp only [decide_eq_false hs, br_false]
    have hs' : s.length ≤ 50000 := by omega
    obtain ⟨j, k1, k2, k3, k4⟩ := skip_both (N := N) s hs' [] s.length 0 N N (by omega) (by omega) (by omega)
    have hb : ∀ w : List Tok, script_lexer_blanks_2 N s ((0 : Nat) : Int) w = some (s, ((j : Int), w)) := fun w => by
      obtain ⟨j2, _, _, k3', k4'⟩ := skip_both (N := N) s hs' w s.length 0 N N (by omega) (by omega) (by omega)
      have : (j2 : Int) = (j : Int) := Option.some.inj (k4'.symm.trans k4)
      rw [this] at k3'
      exact k3'
    have hsk : ref2_skip N s 0 = some (j : Int) := k4
    rw [hsk, bnd_some]
    exact toks_both hN s hs' s.length 0 N N j [] (by omega) (by omega) (by omega) (by simp) (by omega) k2 hb
theorem eqb_tok (t : Tok) : eqb (.pr (.int .i64) (.pr .str (.pr (.int .i64) (.int .i64)))) t t = true := by
  simp [eqb]
theorem Equal_tok {N : Nat} (hN : 60000 ≤ N) (x : List Tok) (hx : x.length ≤ 50000) : slices_Equal_api_Token N x x = some true := by
  unfold slices_Equal_api_Token
  have gen : ∀ (d i n : Nat), i + d = x.length → d < n → slices_Equal_api_Token_L0 N x x (x.length : Int) (some true) n (i : Int) = some true := by
    intro d
    induction d with
    | zero =>
      intro i n h hn
      obtain ⟨n, rfl⟩ : ∃ q, n = q + 1 := ⟨n - 1, by omega⟩
      obtain rfl : i = x.length := by omega
      show slices_Equal_api_Token_L0T _ _ _ _ _ _ _ = _
      unfold slices_Equal_api_Token_L0T
      rw [lt_ff, br_false]
    | succ d ih =>
      intro i n h hn
      obtain ⟨n, rfl⟩ : ∃ q, n = q + 1 := ⟨n - 1, by omega⟩
      have hi : i < x.length := by omega
      show slices_Equal_api_Token_L0T _ _ _ _ _ _ _ = _
      unfold slices_Equal_api_Token_L0T
      rw [lt_tt hi, br_true, geti_lt x hi, bnd_some, bnd_some, eqb_tok, Bool.not_true, br_false, wrapN (n := (i : Int) + 1) (m := i + 1) (by omega) (by omega)]
      exact ih (i + 1) n (by omega) (by omega)
  rw [show ((x.length : Int) != (x.length : Int)) = false by simp, br_false]
  exact gen x.length 0 N (by omega) (by omega)
theorem plain_ScriptTokensMatchSpec (s : Str) (_ : Fit .str s) : ∃ N, law2_ScriptTokensMatchSpec N s = some true := by
  refine ⟨60000, ?_⟩
  obtain ⟨x, a, f, hx, h1, h2⟩ := tokens_both (N := 60000) (Nat.le_refl _) s
  unfold law2_ScriptTokensMatchSpec
  rw [h1, h2]
  simp only [bnd_some, beq_self_eq_true, br_true, Equal_tok (N := 60000) (Nat.le_refl _) x hx, law2_awake]
end Go.Proofs.YtahjncefiegflaaGreatDoor

