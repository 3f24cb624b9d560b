/- Values of chapter 2: when they are right, when they are the same, their sums, in the program and in the reference. No program in sight. -/
import Derived.Test.YtahjncefiegflaaGreatDoorQEndU
import Derived.Test.YtahjncefiegflaaGreatDoorQFor2
namespace Go.Proofs.YtahjncefiegflaaGreatDoor
set_option linter.unusedVariables false
set_option linter.unusedSimpArgs false
open Go Go.RowKit
variable {N : Nat}
theorem forT_every {α : Type} (p : α → Bool) (k : Bool) : ∀ (xs : List α) (j : Nat), forT (fun _ x r => if (!p x) = true then false else r) k xs j = (xs.all p && k)
  | [], _ => by simp [forT]
  | x :: xs, j => by
    show (if (!p x) = true then false else forT _ _ xs (j + 1)) = _
    rw [forT_every p k xs (j + 1), List.all_cons]
    cases h : p x <;> simp
theorem br_ne {R : Type} (n : Int) (x y : Option R) : br (n != 0) x y = if n ≠ 0 then x else y := by
  by_cases h : n = 0
  · subst h; simp
  · rw [show (n != 0) = true by simp [h], br_true, if_pos h]
theorem forT_zero {α : Type} {q : Nat → α → Prop} {body : Nat → α → Int → Int} (h : ∀ i x r, body i x r = 0 ↔ q i x ∧ r = 0) : ∀ (xs : List α) (j : Nat), forT body 0 xs j = 0 ↔ ∀ i (hi : i < xs.length), q (j + i) xs[i]
  | [], _ => by simp [forT]
  | x :: xs, j => by
    show body j x (forT body 0 xs (j + 1)) = 0 ↔ _
    rw [h, forT_zero h xs (j + 1)]
    constructor
    · rintro ⟨h0, h1⟩ i hi
      cases i with
      | zero => exact h0
      | succ i => have := h1 i (by simpa using hi); simpa [Nat.add_assoc, Nat.add_comm 1] using this
    · intro h'
      refine ⟨h' 0 (by simp), fun i hi => ?_⟩
      have := h' (i + 1) (by simpa using hi)
      simpa [Nat.add_assoc, Nat.add_comm 1] using this
def zeroV : GValue := .mk 0 [] 0 [] []
theorem GValue.eta (v : GValue) : GValue.mk v.kind v.text v.number v.list v.cases = v := by cases v; rfl
abbrev Case : Type := Str × GValue
abbrev caseTy : Ty := .pr .str (.rc .value)
/-- A byte of a text. -/
def textB (b : UInt8) : Bool := b == 10 || (!decide (b < 32) && !decide (b > 126))
theorem isText_eq (hN : big ≤ N) (s : Str) (hs : s.length ≤ maxLen) : script_isText N s = some (s.all textB) := by
  unfold script_isText
  rw [show s.all textB = (s.all textB && true) by simp, ← forT_every textB true s 0]
  refine loop_for (fun _ _ => rfl) s hs (fun self i h r hr => ?_) (fun self => ?_) hN
  · simp only [script_isText_L0T, geti_lt s h, wrap_succ hs h, hr, bnd_some]
    rw [lt_tt h, br_true]
    unfold textB
    cases h1 : (s[i] == (10 : UInt8)) <;> cases h2 : decide (s[i] < (32 : UInt8)) <;> cases h3 : decide (s[i] > (126 : UInt8)) <;> simp [h1, bne]
  · simp only [script_isText_L0T, lt_ff, br_false]
def textE (s : Str) : Int := if decide ((s.length : Int) > 1000) then 2 else if s.all textB then 0 else 3
theorem checkText_eq (hN : big ≤ N) (s : Str) (hs : s.length ≤ maxLen) : script_checkText N s = some (textE s) := by
  unfold script_checkText textE
  rw [isText_eq hN s hs, bnd_some]
  cases decide ((s.length : Int) > 1000) <;> cases s.all textB <;> simp
theorem idx_any {α : Type} (p : α → Bool) (xs : List α) : decide (idxP p xs ≥ (0 : Int)) = xs.any p := idxP_nonneg p xs
theorem Contains_long (hN : big ≤ N) (l : List Str) (hl : l.length ≤ maxLen) : slices_ContainsFunc_string_string N l () = some (l.any fun s => decide ((s.length : Int) > 1000)) := by
  unfold slices_ContainsFunc_string_string
  have : slices_IndexFunc_string_string N l () = some (idxP (fun s => decide ((s.length : Int) > 1000)) l) := by
    unfold slices_IndexFunc_string_string
    refine loop_for (fun _ _ => rfl) l hl (fun self i h r hr => ?_) (fun self => ?_) hN
    · simp only [slices_IndexFunc_string_string_L0T, geti_lt l h, wrap_succ hl h, hr, bnd_some, script_CheckValue_1]
      rw [lt_tt h, br_true, br_ite]
    · simp only [slices_IndexFunc_string_string_L0T, lt_ff, br_false]
  rw [this, bnd_some, idx_any]
theorem Contains_odd (hN : big ≤ N) (l : List Str) (hl : Fit (.sl .str) l) : slices_ContainsFunc_string_string_2 N l () = some (l.any fun s => !s.all textB) := by
  unfold slices_ContainsFunc_string_string_2
  have : slices_IndexFunc_string_string_2 N l () = some (idxP (fun s => !s.all textB) l) := by
    unfold slices_IndexFunc_string_string_2
    refine loop_for (fun _ _ => rfl) l hl.1 (fun self i h r hr => ?_) (fun self => ?_) hN
    · simp only [slices_IndexFunc_string_string_2_L0T, geti_lt l h, wrap_succ hl.1 h, hr, bnd_some, script_CheckValue_2, isText_eq hN _ (hl.2 _ (List.getElem_mem h))]
      rw [lt_tt h, br_true, br_ite]
    · simp only [slices_IndexFunc_string_string_2_L0T, lt_ff, br_false]
  rw [this, bnd_some, idx_any]
/-- The error of a value; cc: that of its cases. -/
def tailV (cc : Int) (v : GValue) : Int :=
  if decide ((v.text.length : Int) > 1000) then 2 else if decide ((v.list.length : Int) > 1000) then 2 else if v.list.any (fun s => decide ((s.length : Int) > 1000)) then 2 else if decide ((v.cases.length : Int) > 50) then 2 else
    if !v.text.all textB then 3 else if v.list.any (fun s => !s.all textB) then 3 else if decide (v.number < 0) then 1 else if decide (v.number > 999999999) then 1 else if v.kind == 4 then cc else 0
def formV (v : GValue) : Bool := (!(v.text == []) && v.kind != 1) || (v.number != 0 && v.kind != 2) || (decide ((v.list.length : Int) > 0) && v.kind != 3) || (decide ((v.cases.length : Int) > 0) && v.kind != 4)
def valS (cc : Int) (v : GValue) : Int :=
  if decide (v.kind < 1) then 4 else if decide (v.kind > 4) then 4 else if formV v then 3 else tailV cc v
theorem valFit {v : GValue} (h : Fit (.rc .value) v) : (Lit.int .i64 v.kind).wf = true ∧ v.text.length ≤ maxLen ∧ (Lit.int .i64 v.number).wf = true ∧ Fit (.sl .str) v.list ∧ Fit (.sl caseTy) v.cases := FitR.elim h
theorem CheckValue_eq (hN : big ≤ N) {r : List Case → Option Int} {cc : Int} (v : GValue) (hv : Fit (.rc .value) v) (hr : v.kind = 4 → r v.cases = some cc) : script_CheckValue N r v = some (valS cc v) := by
  obtain ⟨_, ht, _, hl, hc⟩ := valFit hv
  have hT : (br (decide ((v.text.length : Int) > (1000 : Int))) (some (2 : Int)) (br (decide ((v.list.length : Int) > (1000 : Int))) (some (2 : Int)) (bnd (slices_ContainsFunc_string_string N v.list ()) fun t61 => br (t61) (some (2 : Int)) (br (decide ((v.cases.length : Int) > (50 : Int))) (some (2 : Int)) (bnd (script_isText N v.text) fun t72 => br (!t72) (some (3 : Int)) (bnd (slices_ContainsFunc_string_string_2 N v.list ()) fun t77 => br (t77) (some (3 : Int)) (br (decide (v.number < (0 : Int))) (some (1 : Int)) (br (decide (v.number > (999999999 : Int))) (some (1 : Int)) (br (v.kind == (4 : Int)) (bnd (r v.cases) fun t94 => some t94) (some (0 : Int)))))))))))= some (tailV cc v) := by
    simp only [Contains_long hN _ hl.1, Contains_odd hN _ hl, isText_eq hN _ ht, bnd_some]
    have hk : (br (v.kind == (4 : Int)) (bnd (r v.cases) fun t94 => some t94) (some (0 : Int))) = some (if v.kind == 4 then cc else 0) := by
      by_cases h4 : v.kind = 4
      · rw [hr h4]; simp [h4]
      · rw [show (v.kind == (4 : Int)) = false from beq_false_of_ne h4]; simp
    rw [hk]
    simp only [br_ite]
    rfl
  unfold script_CheckValue
  simp only [hT]
  unfold valS formV
  generalize tailV cc v = t
  generalize decide (v.kind < 1) = b1
  generalize decide (v.kind > 4) = b2
  generalize (v.text == ([] : Str)) = b3
  generalize (v.kind != (1 : Int)) = b4
  generalize (v.number != (0 : Int)) = b5
  generalize (v.kind != (2 : Int)) = b6
  generalize decide ((v.list.length : Int) > 0) = b7
  generalize (v.kind != (3 : Int)) = b8
  generalize decide ((v.cases.length : Int) > 0) = b9
  generalize (v.kind != (4 : Int)) = b10
  cases b1
  · cases b2
    · cases b3 <;> cases b5 <;> cases b7 <;> cases b9 <;> simp only [br_true, br_false, Bool.not_true, Bool.not_false] <;> cases b4 <;> cases b6 <;> cases b8 <;> cases b10 <;> simp
    · simp
  · simp
/-- The error of the cases of a choice. -/
def caseB (l : List Case) (i : Nat) (c : Case) (r : Int) : Int :=
  if textE c.1 ≠ 0 then textE c.1 else if (l.take i).any (fun d => d.1 == c.1) then 7 else if c.2.kind == 4 then 4 else if valS 0 c.2 ≠ 0 then valS 0 c.2 else
    if c.2.kind != (match l[0]? with | some d => d.2.kind | none => 0) then 6 else r
def casesS (l : List Case) : Int := if l.length = 0 then 9 else forT (caseB l) 0 l 0
def valueE (v : GValue) : Int := valS (casesS v.cases) v
theorem IndexFunc_case (hN : big ≤ N) (xs : List Case) (hx : xs.length ≤ maxLen) (q : Case) : slices_IndexFunc_api_Case N xs (q, ()) = some (idxP (fun x => x.1 == q.1) xs) := by
  unfold slices_IndexFunc_api_Case
  refine loop_for (fun _ _ => rfl) xs hx (fun self i h r hr => ?_) (fun self => ?_) hN
  · simp only [slices_IndexFunc_api_Case_L0T, geti_lt xs h, wrap_succ hx h, hr, bnd_some, script_checkCases_1]
    rw [lt_tt h, br_true, br_ite]
  · simp only [slices_IndexFunc_api_Case_L0T, lt_ff, br_false]
theorem checkCases_eq (hN : big ≤ N) (r : List Case → Option Int) (l : List Case) (hl : Fit (.sl caseTy) l) : script_checkCases_b N r l = some (casesS l) := by
  unfold script_checkCases_b casesS
  by_cases h0 : l.length = 0
  · simp [h0]
  · rw [if_neg h0, show ((l.length : Int) == (0 : Int)) = false from beq_false_of_ne (by omega), br_false]
    refine loop_for (fun _ _ => rfl) l hl.1 (fun self i h r' hr => ?_) (fun self => ?_) hN
    · have hx := hl.2 _ (List.getElem_mem h)
      have ht : (l.take i).length ≤ maxLen := by have := hl.1; rw [List.length_take]; omega
      have h00 : 0 < l.length := by omega
      simp only [script_checkCases_b_L0T, geti_lt l h, wrap_succ hl.1 h, hr, bnd_some, checkText_eq hN _ hx.1, slc_take l (Nat.le_of_lt h), slices_ContainsFunc_api_Case, IndexFunc_case hN _ ht, idxP_nonneg, GValue.eta, geti_zero, List.getElem?_eq_getElem h00]
      rw [lt_tt h, br_true]
      unfold caseB
      rw [List.getElem?_eq_getElem h00]
      by_cases h4 : l[i].2.kind = 4
      · simp only [h4, beq_self_eq_true, br_true, br_ite, br_ne, if_true]
        by_cases h1 : textE l[i].1 = 0 <;> simp [h1]
      · rw [CheckValue_eq hN (cc := 0) _ hx.2 (fun h => absurd h h4), bnd_some]
        have e4 : (l[i].2.kind == (4 : Int)) = false := beq_false_of_ne h4
        simp only [e4, br_false, br_ite, br_ne, Bool.false_eq_true, if_false]
        by_cases h1 : textE l[i].1 = 0 <;> by_cases h2 : valS 0 l[i].2 = 0 <;> simp [h1, h2]
        all_goals (try (split <;> (try split) <;> simp_all))
    · simp only [script_checkCases_b_L0T, lt_ff, br_false]
theorem CheckValue_all (hN : big ≤ N) (v : GValue) (hv : Fit (.rc .value) v) : script_CheckValue N (script_checkCases N N) v = some (valueE v) := by
  obtain ⟨_, _, _, _, hc⟩ := valFit hv
  refine CheckValue_eq hN v hv fun _ => ?_
  obtain ⟨d, rfl⟩ : ∃ d, N = d + 1 := ⟨N - 1, by unfold big at hN; omega⟩
  exact checkCases_eq hN _ _ hc
/-- A value that is no choice. -/
structure PlainV (v : GValue) : Prop where
  kind : v.kind ≠ 4
  cases : v.cases = []
  list : v.list.length ≤ 1000
theorem plain_of {v : GValue} {cc : Int} (h : valS cc v = 0) (h4 : v.kind ≠ 4) : PlainV v := by
  unfold valS at h
  split at h
  · cases h
  · split at h
    · cases h
    · split at h
      · cases h
      · rename_i hf
        unfold formV at hf
        unfold tailV at h
        refine ⟨h4, ?_, ?_⟩
        · simp only [Bool.or_eq_true, Bool.and_eq_true, not_or, not_and, bne_iff_ne, ne_eq] at hf
          have := hf.2
          have h5 : ¬ ((v.cases.length : Int) > 0) := fun h6 => this (decide_eq_true h6) h4
          exact List.eq_nil_of_length_eq_zero (by omega)
        · split at h
          · cases h
          · split at h
            · cases h
            · rename_i h6
              have : ¬ ((v.list.length : Int) > 1000) := fun h7 => h6 (decide_eq_true h7)
              omega
structure CasesOk (l : List Case) : Prop where
  some : l ≠ []
  plain : ∀ c ∈ l, PlainV c.2
  right : ∀ c ∈ l, valS 0 c.2 = 0
  once : ∀ i (hi : i < l.length) (j : Nat) (hj : j < i), l[j].1 ≠ l[i].1
theorem cases_ok {l : List Case} (h : casesS l = 0) : CasesOk l := by
  unfold casesS at h
  split at h
  · cases h
  · rename_i h0
    have := (forT_zero (q := fun i c => textE c.1 = 0 ∧ (l.take i).any (fun d => d.1 == c.1) = false ∧ c.2.kind ≠ 4 ∧ valS 0 c.2 = 0 ∧ c.2.kind = (match l[0]? with | some d => d.2.kind | none => 0)) (body := caseB l) (fun i c r => by
      unfold caseB
      by_cases h1 : textE c.1 = 0 <;> by_cases h2 : (l.take i).any (fun d => d.1 == c.1) = true <;> by_cases h3 : c.2.kind = 4 <;> by_cases h4 : valS 0 c.2 = 0 <;> simp [h1, h2, h3, h4]
      all_goals (first | (split <;> (first | (split <;> simp_all) | simp_all)) | skip)) l 0).1 h
    refine ⟨fun e => h0 (by rw [e]; rfl), fun c hc => ?_, fun c hc => ?_, fun i hi j hj he => ?_⟩
    · obtain ⟨i, hi, rfl⟩ := List.mem_iff_getElem.1 hc
      have := this i hi
      exact plain_of this.2.2.2.1 this.2.2.1
    · obtain ⟨i, hi, rfl⟩ := List.mem_iff_getElem.1 hc
      exact (this i hi).2.2.2.1
    · have := (this i hi).2.1
      rw [Nat.zero_add, List.any_eq_false] at this
      have hm : l[j] ∈ l.take i := List.mem_take_iff_getElem.2 ⟨j, by omega, rfl⟩
      have := this _ hm
      simp [he] at this
theorem value_ok {v : GValue} (h : valueE v = 0) : (v.kind ≠ 4 ∧ PlainV v) ∨ (v.kind = 4 ∧ CasesOk v.cases ∧ v.cases.length ≤ 50) := by
  by_cases h4 : v.kind = 4
  · refine .inr ⟨h4, ?_⟩
    unfold valueE valS at h
    split at h
    · cases h
    · split at h
      · cases h
      · split at h
        · cases h
        · unfold tailV at h
          split at h
          · cases h
          · split at h
            · cases h
            · split at h
              · cases h
              · split at h
                · cases h
                · rename_i h5
                  have h5' : ¬ ((v.cases.length : Int) > 50) := fun h7 => h5 (decide_eq_true h7)
                  split at h
                  · cases h
                  · split at h
                    · cases h
                    · split at h
                      · cases h
                      · split at h
                        · cases h
                        · rw [h4] at h
                          exact ⟨cases_ok h, by omega⟩
  · exact .inl ⟨h4, plain_of h h4⟩
/-- slices.Equal of strings. -/
theorem Equal_str_from (a b : List Str) (ha : a.length ≤ maxLen) (he : a.length = b.length) : ∀ (m n i : Nat), i + m = a.length → m < n → slices_Equal_string_string_L0 N a b (a.length : Int) (some true) n (i : Int) = some (decide (a.drop i = b.drop i))
  | 0, n, i, hi, hn => by
    obtain ⟨n, rfl⟩ : ∃ j, n = j + 1 := ⟨n - 1, by omega⟩
    have : i = a.length := by omega
    subst this
    show slices_Equal_string_string_L0T _ _ _ _ _ _ _ = _
    simp only [slices_Equal_string_string_L0T, lt_ff, br_false, List.drop_length]
    rw [he, List.drop_length]; simp
  | m + 1, n, i, hi, hn => by
    obtain ⟨n, rfl⟩ : ∃ j, n = j + 1 := ⟨n - 1, by omega⟩
    have h : i < a.length := by omega
    have hb : i < b.length := by omega
    have ih := Equal_str_from a b ha he m n (i + 1) (by omega) (by omega)
    show slices_Equal_string_string_L0T _ _ _ _ _ _ _ = _
    simp only [slices_Equal_string_string_L0T, geti_lt a h, geti_lt b hb, wrap_succ ha h, ih, bnd_some]
    rw [lt_tt h, br_true, List.drop_eq_getElem_cons h, List.drop_eq_getElem_cons hb]
    by_cases hq : a[i] = b[i]
    · rw [show (a[i] == b[i]) = true from beq_iff_eq.2 hq]
      simp only [List.cons.injEq, hq, true_and, Bool.not_true, br_false]
    · rw [show (a[i] == b[i]) = false from beq_false_of_ne hq]
      simp only [List.cons.injEq, hq, false_and, Bool.not_false, br_true, decide_false]
theorem Equal_str (hN : big ≤ N) (a b : List Str) (ha : a.length ≤ maxLen) (hb : b.length ≤ maxLen) : slices_Equal_string_string N a b = some (decide (a = b)) := by
  unfold slices_Equal_string_string
  by_cases he : a.length = b.length
  · have := Equal_str_from (N := N) a b ha he a.length N 0 (by omega) (by unfold maxLen at ha; unfold big at hN; omega)
    rw [show ((0 : Nat) : Int) = 0 from rfl, List.drop_zero, List.drop_zero] at this
    rw [this]; simp [he]
  · have hne : a ≠ b := fun e => he (by rw [e])
    simp only [decide_eq_false hne]
    have : ((a.length : Int) != (b.length : Int)) = true := by simp; omega
    simp [this]
/-- Whether two values are the same, of which the first one has no cases. -/
def sameP (a b : GValue) : Bool := a.kind == b.kind && (a.text == b.text && (a.number == b.number && (decide (a.list = b.list) && b.cases.isEmpty)))
theorem sameP_self {a : GValue} (h : a.cases = []) : sameP a a = true := by simp [sameP, h]
theorem SameValue_eq (hN : big ≤ N) (d : Nat) (a b : GValue) (ha : a.cases = []) (hla : a.list.length ≤ maxLen) (hlb : b.list.length ≤ maxLen) : ref2_SameValue N (d + 1) a b = some (sameP a b) := by
  show ref2_SameValue_b N _ a b = _
  unfold ref2_SameValue_b sameP
  rw [Equal_str hN _ _ hla hlb, bnd_some, ha]
  have hL : ∀ r c k, ref2_SameValue_b_L0 N r ((([] : List Case).length : Nat) : Int) [] c k N 0 = k := fun r c k => by
    obtain ⟨n, rfl⟩ : ∃ n, N = n + 1 := ⟨N - 1, by unfold big at hN; omega⟩
    show ref2_SameValue_b_L0T _ _ _ _ _ _ _ _ = _
    simp [ref2_SameValue_b_L0T]
  rw [hL]
  have hk : (a.kind != b.kind) = !(a.kind == b.kind) := rfl
  have hn : (a.number != b.number) = !(a.number == b.number) := rfl
  have hcs : (((([] : List Case).length : Nat) : Int) != (b.cases.length : Int)) = !b.cases.isEmpty := by
    cases hb : b.cases with
    | nil => rfl
    | cons => simp; omega
  rw [hk, hn, hcs]
  cases a.kind == b.kind <;> cases a.text == b.text <;> cases a.number == b.number <;> cases decide (a.list = b.list) <;> cases b.cases.isEmpty <;> simp
def plusV (a b : GValue) : GValue := .mk a.kind (a.text ++ b.text) (IntKind.i64.wrap (a.number + b.number)) (a.list ++ b.list) []
theorem text_of {v : GValue} {cc : Int} (h : valS cc v = 0) : v.text.length ≤ 1000 := by
  apply Classical.byContradiction
  intro hn
  have e : decide ((v.text.length : Int) > 1000) = true := decide_eq_true (by omega)
  unfold valS at h
  by_cases c1 : decide (v.kind < 1) = true
  · rw [if_pos c1] at h; cases h
  · rw [if_neg c1] at h
    by_cases c2 : decide (v.kind > 4) = true
    · rw [if_pos c2] at h; cases h
    · rw [if_neg c2] at h
      by_cases c3 : formV v = true
      · rw [if_pos c3] at h; cases h
      · rw [if_neg c3] at h
        unfold tailV at h
        rw [if_pos e] at h; cases h
theorem Concat_two (hN : big ≤ N) (a b : List Str) (ha : a.length ≤ 100000) (hb : b.length ≤ 100000) : slices_Concat_string_string N [a, b] = some (a ++ b) := by
  obtain ⟨d, rfl⟩ : ∃ d, N = d + 3 := ⟨N - 3, by unfold big at hN; omega⟩
  have e0 : IntKind.i64.wrap ((0 : Int) + (a.length : Int)) = (a.length : Int) := by rw [Int.zero_add]; exact wrap_id (by omega) (by omega)
  have e1 : IntKind.i64.wrap ((a.length : Int) + (b.length : Int)) = ((a.length + b.length : Nat) : Int) := by rw [Int.natCast_add]; exact wrap_id (by omega) (by omega)
  have g0 : geti [a, b] (0 : Int) = some a := rfl
  have g1 : geti [a, b] (1 : Int) = some b := rfl
  have w1 : IntKind.i64.wrap ((0 : Int) + 1) = 1 := by decide
  have w2 : IntKind.i64.wrap ((1 : Int) + 1) = 2 := by decide
  have t0 : decide ((0 : Int) < 2) = true := rfl
  have t1 : decide ((1 : Int) < 2) = true := rfl
  have t2 : decide ((2 : Int) < 2) = false := rfl
  have n0 : decide ((a.length : Int) < 0) = false := decide_eq_false (by omega)
  have n1 : decide (((a.length + b.length : Nat) : Int) < 0) = false := decide_eq_false (by omega)
  have p0 : decide ((([] : List Str).length + a.length) * (24 * Ty.sz .str) ≤ 140737488355328) = true := decide_eq_true (by show (0 + a.length) * (24 * 1) ≤ _; omega)
  have p1 : decide ((a.length + b.length) * (24 * Ty.sz .str) ≤ 140737488355328) = true := decide_eq_true (by show (a.length + b.length) * (24 * 1) ≤ _; omega)
  have h0 : ∀ k, slices_Concat_string_string_L0 (d + 3) [a, b] 2 k (d + 3) 0 0 = k ((a.length + b.length : Nat) : Int) := by
    intro k
    simp only [slices_Concat_string_string_L0, slices_Concat_string_string_L0T, t0, t1, t2, g0, g1, w1, w2, e0, e1, n0, n1, bnd_some, br_true, br_false]
  have h1 : ∀ k, slices_Concat_string_string_L1 (d + 3) [a, b] 2 k (d + 3) 0 [] = k (a ++ b) := by
    intro k
    simp only [slices_Concat_string_string_L1, slices_Concat_string_string_L1T, t0, t1, t2, g0, g1, w1, w2, p0, p1, bnd_some, br_true, br_false, List.nil_append]
  have hg : slices_Grow_string ((a.length + b.length : Nat) : Int) = some [] := by
    unfold slices_Grow_string growF
    exact if_pos ⟨by omega, by show ((a.length + b.length : Nat) : Int) * ((24 * 1 : Nat) : Int) ≤ _; omega⟩
  show slices_Concat_string_string_L0 (d + 3) [a, b] 2 _ (d + 3) 0 0 = _
  rw [h0, hg, bnd_some]
  show slices_Concat_string_string_L1 (d + 3) [a, b] 2 _ (d + 3) 0 [] = _
  rw [h1]
/-- A value that can be added: its text and list are short. -/
structure Small (v : GValue) : Prop where
  text : v.text.length ≤ 1000
  list : v.list.length ≤ 1000
theorem small_of {v : GValue} {cc : Int} (h : valS cc v = 0) (h4 : v.kind ≠ 4) : Small v := ⟨text_of h, (plain_of h h4).list⟩
theorem plainSum_eq (hN : big ≤ N) {a b : GValue} (ha : Small a) (hb : Small b) : script_plainSum N a b = some (plusV a b) := by
  have h1 := ha.text
  have h2 := hb.text
  have h3 := ha.list
  have h4 := hb.list
  unfold script_plainSum
  rw [decide_eq_true (by omega : a.text.length + b.text.length ≤ 9223372036854775807), br_true, Concat_two hN _ _ (by omega) (by omega), bnd_some]
  rfl
def plusC (w : GValue) (k : Case) : Case := (k.1, plusV k.2 w)
theorem add_loop (hN : big ≤ N) {w : GValue} (hw : Small w) (cs : List Case) (hcl : cs.length ≤ 50) (hc : ∀ k ∈ cs, Small k.2) (K : List Case → Option (GValue × Int)) :
    script_add_L0 N cs (cs.length : Int) w.kind w.text w.number w.list w.cases K N 0 [] = K (cs.map (plusC w)) := by
  have hcm : cs.length ≤ maxLen := Nat.le_trans hcl (by decide)
  let st : Nat → List Case := fun i => (cs.take i).map (plusC w)
  have key := loop_st (S := List Case) (R := GValue × Int) (f := fun n i s => script_add_L0 N cs (cs.length : Int) w.kind w.text w.number w.list w.cases K n i s) (T := fun self i s => script_add_L0T N cs (cs.length : Int) w.kind w.text w.number w.list w.cases K self i s)
    (r := K (cs.map (plusC w))) (m := cs.length) (N := N) (fun n i s => rfl) hcm st
  have hT : ∀ (self : Int → List Case → Option (GValue × Int)) (i : Nat), i < cs.length → self ((i + 1 : Nat) : Int) (st (i + 1)) = K (cs.map (plusC w)) → script_add_L0T N cs (cs.length : Int) w.kind w.text w.number w.list w.cases K self (i : Int) (st i) = K (cs.map (plusC w)) := by
    intro self i h ih
    simp only [script_add_L0T, geti_lt cs h, bnd_some, GValue.eta, plainSum_eq hN (hc _ (List.getElem_mem h)) hw]
    have hst : (st i).length = i := by show ((cs.take i).map _).length = i; rw [List.length_map, List.length_take]; omega
    have e1 : decide (((st i).length + [(cs[i].1, plusV cs[i].2 w)].length) * (24 * Ty.sz (.pr .str (.rc .value))) ≤ 140737488355328) = true := decide_eq_true (by
      rw [hst]; show (_ + 1) * (24 * 6) ≤ _; omega)
    rw [lt_tt h, br_true, wrap_succ hcm h, e1, br_true]
    have e : st (i + 1) = st i ++ [(cs[i].1, plusV cs[i].2 w)] := by
      show (cs.take (i + 1)).map _ = (cs.take i).map _ ++ _
      rw [List.take_succ_eq_append_getElem h, List.map_append]
      rfl
    rw [← e]; exact ih
  have hE : ∀ self : Int → List Case → Option (GValue × Int), script_add_L0T N cs (cs.length : Int) w.kind w.text w.number w.list w.cases K self (cs.length : Int) (st cs.length) = K (cs.map (plusC w)) := by
    intro self
    simp only [script_add_L0T]
    rw [lt_fn, br_false]
    show K ((cs.take cs.length).map _) = _
    rw [List.take_length]
  exact key hT hE hN
def kindV (v : GValue) : Int := if v.kind = 4 then (match v.cases[0]? with | some d => d.2.kind | none => 0) else v.kind
theorem kindOf_eq {v : GValue} (h : v.kind = 4 → v.cases ≠ []) : script_kindOf N v = some (kindV v) := by
  unfold script_kindOf kindV
  by_cases h4 : v.kind = 4
  · rw [if_pos h4, beq_iff_eq.2 h4, br_true]
    have := h h4
    cases hc : v.cases with
    | nil => exact absurd hc this
    | cons a l => rw [geti_zero]; simp
  · rw [if_neg h4, beq_false_of_ne h4, br_false]
theorem fit_list {a b : List Str} (ha : Fit (.sl .str) a) (hb : Fit (.sl .str) b) (h : a.length + b.length ≤ maxLen) : Fit (.sl .str) (a ++ b) :=
  ⟨by rw [List.length_append]; exact h, fun x hx => by
    rcases List.mem_append.1 hx with h | h
    · exact ha.2 x h
    · exact hb.2 x h⟩
theorem fit_plus {a b : GValue} (ha : Fit (.rc .value) a) (hb : Fit (.rc .value) b) (sa : Small a) (sb : Small b) : Fit (.rc .value) (plusV a b) := by
  obtain ⟨a1, a2, a3, a4, a5⟩ := valFit ha
  obtain ⟨b1, b2, b3, b4, b5⟩ := valFit hb
  have h1 := sa.text
  have h2 := sb.text
  have h3 := sa.list
  have h4 := sb.list
  refine FitR.intro (i := .value) ⟨a1, ?_, wf_wrap _ _, fit_list a4 b4 (by unfold maxLen; omega), ⟨Nat.zero_le _, fun x hx => absurd hx List.not_mem_nil⟩⟩
  show (a.text ++ b.text).length ≤ maxLen
  rw [List.length_append]; unfold maxLen; omega
theorem br_neq {R : Type} (a b : Int) {X Y : Option R} : br (a != b) X Y = if a ≠ b then X else Y := by
  by_cases h : a = b
  · subst h; rw [show (a != a) = false by simp, br_false, if_neg (by simp)]
  · rw [show (a != b) = true by simp [h], br_true, if_pos h]
end Go.Proofs.YtahjncefiegflaaGreatDoor


/- Values of chapter 2 in the reference; sums and comparisons of any two. No program in sight. -/
namespace Go.Proofs.YtahjncefiegflaaGreatDoor
set_option linter.unusedVariables false
set_option linter.unusedSimpArgs false
open Go Go.RowKit
variable {N : Nat}
end Go.Proofs.YtahjncefiegflaaGreatDoor


/- Sums and comparisons of values, in the program and in the reference: laws 40 and 42. No program in sight. -/
namespace Go.Proofs.YtahjncefiegflaaGreatDoor
set_option linter.unusedVariables false
set_option linter.unusedSimpArgs false
open Go Go.RowKit
variable {N : Nat}
def plusD (v : GValue) (k : Case) : Case := (k.1, plusV v k.2)
/-- The sum of two values of one kind. -/
def sumG (v w : GValue) : GValue := if v.kind = 4 then .mk 4 [] 0 [] (v.cases.map (plusC w)) else if w.kind = 4 then .mk 4 [] 0 [] (w.cases.map (plusD v)) else plusV v w
def AddG (v w : GValue) : GValue × Int :=
  if valueE v ≠ 0 then (zeroV, valueE v) else if valueE w ≠ 0 then (zeroV, valueE w) else
    if kindV v ≠ kindV w then (zeroV, 6) else if v.kind = 4 ∧ w.kind = 4 then (zeroV, 6) else
      if valueE (sumG v w) ≠ 0 then (zeroV, valueE (sumG v w)) else (sumG v w, 0)
/-- What is known of a value that is right. -/
structure GoodV (v : GValue) : Prop where
  small : v.kind ≠ 4 → Small v
  plain : v.kind ≠ 4 → v.cases = []
  some : v.kind = 4 → v.cases ≠ []
  cases : ∀ k ∈ v.cases, Small k.2 ∧ k.2.cases = [] ∧ valS 0 k.2 = 0
  few : v.cases.length ≤ 50
  list : v.list.length ≤ 1000
theorem list_of {v : GValue} {cc : Int} (h : valS cc v = 0) : v.list.length ≤ 1000 := by
  apply Classical.byContradiction
  intro hn
  have e : decide ((v.list.length : Int) > 1000) = true := decide_eq_true (by omega)
  unfold valS at h
  by_cases c1 : decide (v.kind < 1) = true
  · rw [if_pos c1] at h; cases h
  · rw [if_neg c1] at h
    by_cases c2 : decide (v.kind > 4) = true
    · rw [if_pos c2] at h; cases h
    · rw [if_neg c2] at h
      by_cases c3 : formV v = true
      · rw [if_pos c3] at h; cases h
      · rw [if_neg c3] at h
        unfold tailV at h
        rw [if_pos e] at h
        split at h <;> cases h
theorem num_of {v : GValue} {cc : Int} (h : valS cc v = 0) : 0 ≤ v.number ∧ v.number ≤ 999999999 := by
  unfold valS at h
  split at h
  · cases h
  · split at h
    · cases h
    · split at h
      · cases h
      · unfold tailV at h
        split at h
        · cases h
        · split at h
          · cases h
          · split at h
            · cases h
            · split at h
              · cases h
              · split at h
                · cases h
                · split at h
                  · cases h
                  · split at h
                    · cases h
                    · split at h
                      · cases h
                      · rename_i h1 h2
                        have h1' : ¬ v.number < 0 := fun h => h1 (decide_eq_true h)
                        have h2' : ¬ v.number > 999999999 := fun h => h2 (decide_eq_true h)
                        omega
theorem good {v : GValue} (h : valueE v = 0) : GoodV v := by
  rcases value_ok h with ⟨h4, hp⟩ | ⟨h4, hc, hf⟩
  · exact ⟨fun _ => small_of h h4, fun _ => hp.cases, fun e => absurd e h4, fun k hk => by rw [hp.cases] at hk; exact absurd hk (by simp), by rw [hp.cases]; simp, hp.list⟩
  · exact ⟨fun e => absurd h4 e, fun e => absurd h4 e, fun _ => hc.some, fun k hk => ⟨small_of (hc.right k hk) (hc.plain k hk).kind, (hc.plain k hk).cases, hc.right k hk⟩, hf, list_of h⟩
theorem add_loop1 (hN : big ≤ N) {v : GValue} (hv : Small v) (cs : List Case) (hcl : cs.length ≤ 50) (hc : ∀ k ∈ cs, Small k.2) (K : List Case → Option (GValue × Int)) :
    script_add_L1 N cs (cs.length : Int) v.kind v.text v.number v.list v.cases K N 0 [] = K (cs.map (plusD v)) := by
  have hcm : cs.length ≤ maxLen := Nat.le_trans hcl (by decide)
  let st : Nat → List Case := fun i => (cs.take i).map (plusD v)
  have key := loop_st (S := List Case) (R := GValue × Int) (f := fun n i s => script_add_L1 N cs (cs.length : Int) v.kind v.text v.number v.list v.cases K n i s) (T := fun self i s => script_add_L1T N cs (cs.length : Int) v.kind v.text v.number v.list v.cases K self i s)
    (r := K (cs.map (plusD v))) (m := cs.length) (N := N) (fun n i s => rfl) hcm st
  have hT : ∀ (self : Int → List Case → Option (GValue × Int)) (i : Nat), i < cs.length → self ((i + 1 : Nat) : Int) (st (i + 1)) = K (cs.map (plusD v)) → script_add_L1T N cs (cs.length : Int) v.kind v.text v.number v.list v.cases K self (i : Int) (st i) = K (cs.map (plusD v)) := by
    intro self i h ih
    simp only [script_add_L1T, geti_lt cs h, bnd_some, GValue.eta, plainSum_eq hN hv (hc _ (List.getElem_mem h))]
    have hst : (st i).length = i := by show ((cs.take i).map _).length = i; rw [List.length_map, List.length_take]; omega
    have e1 : decide (((st i).length + [(cs[i].1, plusV v cs[i].2)].length) * (24 * Ty.sz (.pr .str (.rc .value))) ≤ 140737488355328) = true := decide_eq_true (by
      rw [hst]; show (_ + 1) * (24 * 6) ≤ _; omega)
    rw [lt_tt h, br_true, wrap_succ hcm h, e1, br_true]
    have e : st (i + 1) = st i ++ [(cs[i].1, plusV v cs[i].2)] := by
      show (cs.take (i + 1)).map _ = (cs.take i).map _ ++ _
      rw [List.take_succ_eq_append_getElem h, List.map_append]
      rfl
    rw [← e]; exact ih
  have hE : ∀ self : Int → List Case → Option (GValue × Int), script_add_L1T N cs (cs.length : Int) v.kind v.text v.number v.list v.cases K self (cs.length : Int) (st cs.length) = K (cs.map (plusD v)) := by
    intro self
    simp only [script_add_L1T]
    rw [lt_fn, br_false]
    show K ((cs.take cs.length).map _) = _
    rw [List.take_length]
  exact key hT hE hN
theorem fit_sumG {v w : GValue} (hv : Fit (.rc .value) v) (hw : Fit (.rc .value) w) (gv : GoodV v) (gw : GoodV w) (h : ¬ (v.kind = 4 ∧ w.kind = 4)) : Fit (.rc .value) (sumG v w) := by
  unfold sumG
  split
  · rename_i h4
    have h5 : w.kind ≠ 4 := fun e => h ⟨h4, e⟩
    obtain ⟨_, _, _, _, h6⟩ := valFit hv
    refine FitR.intro (i := .value) ⟨(by decide : (Lit.int .i64 (4 : Int)).wf = true), Nat.zero_le _, (by decide : (Lit.int .i64 (0 : Int)).wf = true), ⟨Nat.zero_le _, fun x hx => absurd hx List.not_mem_nil⟩, ⟨?_, fun x hx => ?_⟩⟩
    · show (v.cases.map _).length ≤ _
      rw [List.length_map]; exact h6.1
    · obtain ⟨k, hk, rfl⟩ := List.mem_map.1 hx
      exact ⟨(h6.2 k hk).1, fit_plus (h6.2 k hk).2 hw (gv.cases k hk).1 (gw.small h5)⟩
  · rename_i h4
    split
    · rename_i h5
      obtain ⟨_, _, _, _, h6⟩ := valFit hw
      refine FitR.intro (i := .value) ⟨(by decide : (Lit.int .i64 (4 : Int)).wf = true), Nat.zero_le _, (by decide : (Lit.int .i64 (0 : Int)).wf = true), ⟨Nat.zero_le _, fun x hx => absurd hx List.not_mem_nil⟩, ⟨?_, fun x hx => ?_⟩⟩
      · show (w.cases.map _).length ≤ _
        rw [List.length_map]; exact h6.1
      · obtain ⟨k, hk, rfl⟩ := List.mem_map.1 hx
        exact ⟨(h6.2 k hk).1, fit_plus hv (h6.2 k hk).2 (gv.small h4) (gw.cases k hk).1⟩
    · rename_i h5
      exact fit_plus hv hw (gv.small h4) (gw.small h5)
theorem addG_eq (hN : big ≤ N) {v w : GValue} (hv : Fit (.rc .value) v) (hw : Fit (.rc .value) w) (h1 : valueE v = 0) (h2 : valueE w = 0) : script_add N v w = some (AddG v w) := by
  have gv := good h1
  have gw := good h2
  unfold script_add AddG
  rw [if_neg (by simp [h1]), if_neg (by simp [h2])]
  simp only [GValue.eta, kindOf_eq gv.some, kindOf_eq gw.some, bnd_some]
  rw [br_neq]
  split
  · rfl
  · by_cases h4 : v.kind = 4
    · by_cases h5 : w.kind = 4
      · rw [if_pos ⟨h4, h5⟩, beq_iff_eq.2 h4, br_true, beq_iff_eq.2 h5, br_true]; rfl
      · have hf := fit_sumG hv hw gv gw (fun h => h5 h.2)
        have es : sumG v w = .mk 4 [] 0 [] (v.cases.map (plusC w)) := if_pos h4
        rw [if_neg (fun h => h5 h.2)]
        rw [es] at hf ⊢
        simp only [beq_iff_eq.2 h4, beq_false_of_ne h5, br_true, br_false, add_loop hN (gw.small h5) v.cases gv.few (fun k hk => (gv.cases k hk).1), CheckValue_all hN _ hf, bnd_some]
        rw [br_ne]
        split <;> rfl
    · rw [if_neg (fun h => h4 h.1)]
      have hf := fit_sumG hv hw gv gw (fun h => h4 h.1)
      by_cases h5 : w.kind = 4
      · have es : sumG v w = .mk 4 [] 0 [] (w.cases.map (plusD v)) := by unfold sumG; rw [if_neg h4, if_pos h5]
        rw [es] at hf ⊢
        simp only [beq_iff_eq.2 h5, beq_false_of_ne h4, br_true, br_false, add_loop1 hN (gv.small h4) w.cases gw.few (fun k hk => (gw.cases k hk).1), CheckValue_all hN _ hf, bnd_some]
        rw [br_ne]
        split <;> rfl
      · have es : sumG v w = plusV v w := by unfold sumG; rw [if_neg h4, if_neg h5]
        rw [es] at hf ⊢
        simp only [beq_false_of_ne h4, beq_false_of_ne h5, br_false, plainSum_eq hN (gv.small h4) (gw.small h5), bnd_some, GValue.eta, CheckValue_all hN _ hf]
        rw [br_ne]
        split <;> rfl
theorem AddG_eq (hN : big ≤ N) {v w : GValue} (hv : Fit (.rc .value) v) (hw : Fit (.rc .value) w) : script_Add N v w = some (AddG v w) := by
  unfold script_Add script_checkTwo
  simp only [GValue.eta, CheckValue_all hN v hv, CheckValue_all hN w hw, bnd_some]
  rw [br_ne]
  by_cases h1 : valueE v = 0
  · by_cases h2 : valueE w = 0
    · rw [if_neg (by simp [h1]), bnd_some, h2, br_ne, if_neg (by simp), addG_eq hN hv hw h1 h2, bnd_some]
    · rw [if_neg (by simp [h1]), bnd_some, br_ne, if_pos h2]
      unfold AddG
      rw [if_neg (by simp [h1]), if_pos h2]
      rfl
  · rw [if_pos h1, bnd_some, br_ne, if_pos h1]
    unfold AddG
    rw [if_pos h1]
    rfl
/-- Whether the cases of two choices are the same. -/
def sameL : List Case → List Case → Bool
  | [], [] => true
  | x :: l, y :: m => (x.1 == y.1 && sameP x.2 y.2) && sameL l m
  | _, _ => false
def sameG (a b : GValue) : Bool := a.kind == b.kind && (a.text == b.text && (a.number == b.number && (decide (a.list = b.list) && sameL a.cases b.cases)))
theorem sameL_len : ∀ {l m : List Case}, l.length ≠ m.length → sameL l m = false
  | [], [], h => absurd rfl h
  | [], _ :: _, _ => rfl
  | _ :: _, [], _ => rfl
  | x :: l, y :: m, h => by
    show ((x.1 == y.1 && sameP x.2 y.2) && sameL l m) = false
    rw [sameL_len (l := l) (m := m) (by simpa using h)]; simp
theorem sameL_self : ∀ {l : List Case}, (∀ k ∈ l, k.2.cases = []) → sameL l l = true
  | [], _ => rfl
  | x :: l, h => by
    show ((x.1 == x.1 && sameP x.2 x.2) && sameL l l) = true
    rw [sameP_self (h x (by simp)), sameL_self fun k hk => h k (by simp [hk])]; simp
theorem sameG_self {a : GValue} (h : ∀ k ∈ a.cases, k.2.cases = []) : sameG a a = true := by
  unfold sameG
  rw [sameL_self h]; simp
theorem sameR_from (hN : big ≤ N) (d : Nat) (k : Option Bool) (l m : List Case) (hl : l.length ≤ maxLen) (he : l.length = m.length) (h1 : ∀ k ∈ l, k.2.cases = [] ∧ k.2.list.length ≤ maxLen) (h2 : ∀ k ∈ m, k.2.list.length ≤ maxLen) (hk : k = some true) : ∀ (q n i : Nat), i + q = l.length → q < n → ref2_SameValue_b_L0 N (ref2_SameValue N (d + 1)) (l.length : Int) l m k n (i : Int) = some (sameL (l.drop i) (m.drop i))
  | 0, n, i, hi, hn => by
    obtain ⟨n, rfl⟩ : ∃ j, n = j + 1 := ⟨n - 1, by omega⟩
    have : i = l.length := by omega
    subst this
    show ref2_SameValue_b_L0T _ _ _ _ _ _ _ _ = _
    simp only [ref2_SameValue_b_L0T, lt_ff, br_false, List.drop_length]
    rw [he, List.drop_length, hk]; rfl
  | q + 1, n, i, hi, hn => by
    obtain ⟨n, rfl⟩ : ∃ j, n = j + 1 := ⟨n - 1, by omega⟩
    have h : i < l.length := by omega
    have hb : i < m.length := by omega
    have ih := sameR_from hN d k l m hl he h1 h2 hk q n (i + 1) (by omega) (by omega)
    have hp := h1 _ (List.getElem_mem h)
    show ref2_SameValue_b_L0T _ _ _ _ _ _ _ _ = _
    simp only [ref2_SameValue_b_L0T, geti_lt l h, geti_lt m hb, wrap_succ hl h, ih, bnd_some, SameValue_eq hN d _ _ hp.1 hp.2 (h2 _ (List.getElem_mem hb))]
    rw [lt_tt h, br_true, List.drop_eq_getElem_cons h, List.drop_eq_getElem_cons hb]
    show _ = some ((l[i].1 == m[i].1 && sameP l[i].2 m[i].2) && sameL _ _)
    cases l[i].1 == m[i].1 <;> cases sameP l[i].2 m[i].2 <;> simp
theorem SameValueG (hN : big ≤ N) {a b : GValue} (ha : ∀ k ∈ a.cases, k.2.cases = [] ∧ k.2.list.length ≤ maxLen) (hb : ∀ k ∈ b.cases, k.2.list.length ≤ maxLen) (la : a.list.length ≤ maxLen) (lb : b.list.length ≤ maxLen) (ca : a.cases.length ≤ maxLen) : ref2_SameValue N N a b = some (sameG a b) := by
  obtain ⟨d, hd⟩ : ∃ d, N = d + 2 := ⟨N - 2, by unfold big at hN; omega⟩
  have e : ref2_SameValue N N a b = ref2_SameValue_b N (ref2_SameValue N (d + 1)) a b := by
    conv => lhs; arg 2; rw [hd]
    rfl
  rw [e]
  unfold ref2_SameValue_b sameG
  rw [Equal_str hN _ _ la lb, bnd_some]
  have hk : (a.kind != b.kind) = !(a.kind == b.kind) := rfl
  have hn : (a.number != b.number) = !(a.number == b.number) := rfl
  rw [hk, hn]
  have hC : (br ((a.cases.length : Int) != (b.cases.length : Int)) (some false) (ref2_SameValue_b_L0 N (ref2_SameValue N (d + 1)) (a.cases.length : Int) a.cases b.cases (some true) N 0)) = some (sameL a.cases b.cases) := by
    by_cases he : a.cases.length = b.cases.length
    · rw [show ((a.cases.length : Int) != (b.cases.length : Int)) = false by simp [he], br_false]
      have := sameR_from hN d (some true) a.cases b.cases ca he ha hb rfl a.cases.length N 0 (by omega) (by unfold maxLen at ca; unfold big at hN; omega)
      simpa using this
    · rw [show ((a.cases.length : Int) != (b.cases.length : Int)) = true by simp; omega, br_true, sameL_len he]
  rw [hC]
  cases a.kind == b.kind <;> cases a.text == b.text <;> cases a.number == b.number <;> cases decide (a.list = b.list) <;> simp
end Go.Proofs.YtahjncefiegflaaGreatDoor


/- CheckValue, Add and Same are as specified: law 42 in plain Lean. -/
namespace Go.Proofs.YtahjncefiegflaaGreatDoor
set_option linter.unusedVariables false
set_option linter.unusedSimpArgs false
open Go Go.RowKit
variable {N : Nat}
theorem good_cases {v : GValue} (g : GoodV v) : ∀ k ∈ v.cases, k.2.cases = [] ∧ k.2.list.length ≤ maxLen := fun k hk => ⟨(g.cases k hk).2.1, Nat.le_trans (g.cases k hk).1.list (by decide)⟩
theorem good_list {v : GValue} (g : GoodV v) : v.list.length ≤ maxLen := Nat.le_trans g.list (by decide)
theorem good_few {v : GValue} (g : GoodV v) : v.cases.length ≤ maxLen := Nat.le_trans g.few (by decide)
theorem good_same (hN : big ≤ N) {v : GValue} (g : GoodV v) : ref2_SameValue N N v v = some true := by
  rw [SameValueG hN (good_cases g) (fun k hk => (good_cases g k hk).2) (good_list g) (good_list g) (good_few g), sameG_self fun k hk => (g.cases k hk).2.1]
end Go.Proofs.YtahjncefiegflaaGreatDoor


/- Sums of three values are the same from the left and from the right: law 40 in plain Lean. -/
namespace Go.Proofs.YtahjncefiegflaaGreatDoor
set_option linter.unusedVariables false
set_option linter.unusedSimpArgs false
open Go Go.RowKit
variable {N : Nat}
theorem add_ok {v w : GValue} (h : (AddG v w).2 = 0) : valueE v = 0 ∧ valueE w = 0 ∧ ¬ (v.kind = 4 ∧ w.kind = 4) ∧ valueE (sumG v w) = 0 ∧ (AddG v w).1 = sumG v w := by
  unfold AddG at h ⊢
  by_cases h1 : valueE v = 0
  · rw [if_neg (by simp [h1])] at h ⊢
    by_cases h2 : valueE w = 0
    · rw [if_neg (by simp [h2])] at h ⊢
      split at h
      · cases h
      · split at h
        · cases h
        · rename_i h3 h4
          by_cases h5 : valueE (sumG v w) = 0
          · rw [if_neg h3, if_neg h4, if_neg (by simp [h5])]
            exact ⟨h1, h2, h4, h5, rfl⟩
          · rw [if_pos h5] at h; exact absurd h h5
    · rw [if_pos h2] at h; exact absurd h h2
  · rw [if_pos h1] at h; exact absurd h h1
def Num (v : GValue) : Prop := 0 ≤ v.number ∧ v.number ≤ 999999999
theorem plus_assoc {u v w : GValue} (hu : Num u) (hv : Num v) (hw : Num w) : plusV (plusV u v) w = plusV u (plusV v w) := by
  obtain ⟨u1, u2⟩ := hu
  obtain ⟨v1, v2⟩ := hv
  obtain ⟨w1, w2⟩ := hw
  have e1 : IntKind.i64.wrap (u.number + v.number) = u.number + v.number := wrap_id (by omega) (by omega)
  have e2 : IntKind.i64.wrap (v.number + w.number) = v.number + w.number := wrap_id (by omega) (by omega)
  show GValue.mk u.kind ((u.text ++ v.text) ++ w.text) (IntKind.i64.wrap (IntKind.i64.wrap (u.number + v.number) + w.number)) ((u.list ++ v.list) ++ w.list) [] = GValue.mk u.kind (u.text ++ (v.text ++ w.text)) (IntKind.i64.wrap (u.number + IntKind.i64.wrap (v.number + w.number))) (u.list ++ (v.list ++ w.list)) []
  rw [e1, e2, List.append_assoc, List.append_assoc, Int.add_assoc]
theorem sum_assoc {a b c : GValue} (h1 : (AddG a b).2 = 0) (h2 : (AddG b c).2 = 0) (h3 : (AddG (sumG a b) c).2 = 0) (h4 : (AddG a (sumG b c)).2 = 0) : sumG (sumG a b) c = sumG a (sumG b c) := by
  obtain ⟨ga, gb, nab, _, _⟩ := add_ok h1
  obtain ⟨_, gc, nbc, _, _⟩ := add_ok h2
  obtain ⟨_, _, nx, _, _⟩ := add_ok h3
  obtain ⟨_, _, ny, _, _⟩ := add_ok h4
  have na : Num a := num_of ga
  have nb : Num b := num_of gb
  have nc : Num c := num_of gc
  have ca : ∀ k ∈ a.cases, Num k.2 := fun k hk => num_of ((good ga).cases k hk).2.2
  have cb : ∀ k ∈ b.cases, Num k.2 := fun k hk => num_of ((good gb).cases k hk).2.2
  have cc : ∀ k ∈ c.cases, Num k.2 := fun k hk => num_of ((good gc).cases k hk).2.2
  by_cases a4 : a.kind = 4
  · have b4 : b.kind ≠ 4 := fun e => nab ⟨a4, e⟩
    have eab : sumG a b = .mk 4 [] 0 [] (a.cases.map (plusC b)) := if_pos a4
    have c4 : c.kind ≠ 4 := fun e => nx ⟨by rw [eab]; rfl, e⟩
    have ebc : sumG b c = plusV b c := by unfold sumG; rw [if_neg b4, if_neg c4]
    rw [eab, ebc]
    have e1 : sumG (.mk 4 [] 0 [] (a.cases.map (plusC b))) c = .mk 4 [] 0 [] ((a.cases.map (plusC b)).map (plusC c)) := if_pos rfl
    have e2 : sumG a (plusV b c) = .mk 4 [] 0 [] (a.cases.map (plusC (plusV b c))) := if_pos a4
    rw [e1, e2, List.map_map]
    congr 1
    refine List.map_congr_left fun k hk => ?_
    show (k.1, plusV (plusV k.2 b) c) = (k.1, plusV k.2 (plusV b c))
    rw [plus_assoc (ca k hk) nb nc]
  · by_cases b4 : b.kind = 4
    · have eab : sumG a b = .mk 4 [] 0 [] (b.cases.map (plusD a)) := by unfold sumG; rw [if_neg a4, if_pos b4]
      have ebc : sumG b c = .mk 4 [] 0 [] (b.cases.map (plusC c)) := if_pos b4
      have c4 : c.kind ≠ 4 := fun e => nbc ⟨b4, e⟩
      rw [eab, ebc]
      have e1 : sumG (.mk 4 [] 0 [] (b.cases.map (plusD a))) c = .mk 4 [] 0 [] ((b.cases.map (plusD a)).map (plusC c)) := if_pos rfl
      have e2 : sumG a (.mk 4 [] 0 [] (b.cases.map (plusC c))) = .mk 4 [] 0 [] ((b.cases.map (plusC c)).map (plusD a)) := by
        show (if a.kind = 4 then _ else if (4 : Int) = 4 then _ else _) = _
        rw [if_neg a4, if_pos rfl]; rfl
      rw [e1, e2, List.map_map, List.map_map]
      congr 1
      refine List.map_congr_left fun k hk => ?_
      show (k.1, plusV (plusV a k.2) c) = (k.1, plusV a (plusV k.2 c))
      rw [plus_assoc na (cb k hk) nc]
    · have eab : sumG a b = plusV a b := by unfold sumG; rw [if_neg a4, if_neg b4]
      have k4 : (plusV a b).kind ≠ 4 := a4
      rw [eab]
      by_cases c4 : c.kind = 4
      · have ebc : sumG b c = .mk 4 [] 0 [] (c.cases.map (plusD b)) := by unfold sumG; rw [if_neg b4, if_pos c4]
        rw [ebc]
        have e1 : sumG (plusV a b) c = .mk 4 [] 0 [] (c.cases.map (plusD (plusV a b))) := by unfold sumG; rw [if_neg k4, if_pos c4]
        have e2 : sumG a (.mk 4 [] 0 [] (c.cases.map (plusD b))) = .mk 4 [] 0 [] ((c.cases.map (plusD b)).map (plusD a)) := by
          show (if a.kind = 4 then _ else if (4 : Int) = 4 then _ else _) = _
          rw [if_neg a4, if_pos rfl]; rfl
        rw [e1, e2, List.map_map]
        congr 1
        refine List.map_congr_left fun k hk => ?_
        show (k.1, plusV (plusV a b) k.2) = (k.1, plusV a (plusV b k.2))
        rw [plus_assoc na nb (cc k hk)]
      · have ebc : sumG b c = plusV b c := by unfold sumG; rw [if_neg b4, if_neg c4]
        have k5 : (plusV b c).kind ≠ 4 := b4
        rw [ebc]
        have e1 : sumG (plusV a b) c = plusV (plusV a b) c := by unfold sumG; rw [if_neg k4, if_neg c4]
        have e2 : sumG a (plusV b c) = plusV a (plusV b c) := by unfold sumG; rw [if_neg a4, if_neg k5]
        rw [e1, e2, plus_assoc na nb nc]
theorem law_goes (hN : big ≤ N) {a b c : GValue} (ha : Fit (.rc .value) a) (hb : Fit (.rc .value) b) (hc : Fit (.rc .value) c) : law2_ScriptAddGoesOn N a b c = some true := by
  unfold law2_ScriptAddGoesOn
  simp only [GValue.eta, AddG_eq hN ha hb, AddG_eq hN hb hc, bnd_some, law2_awake]
  rw [br_ne]
  split
  · rfl
  · rename_i h1
    have h1 : (AddG a b).2 = 0 := by simpa using h1
    rw [br_ne]
    split
    · rfl
    · rename_i h2
      have h2 : (AddG b c).2 = 0 := by simpa using h2
      obtain ⟨va, vb, nab, sab, eab⟩ := add_ok h1
      obtain ⟨_, vc, nbc, sbc, ebc⟩ := add_ok h2
      have fab := fit_sumG ha hb (good va) (good vb) nab
      have fbc := fit_sumG hb hc (good vb) (good vc) nbc
      rw [eab, ebc, AddG_eq hN fab hc, bnd_some, AddG_eq hN ha fbc, bnd_some, br_ne]
      split
      · rfl
      · rename_i h3
        have h3 : (AddG (sumG a b) c).2 = 0 := by simpa using h3
        rw [br_ne]
        split
        · rfl
        · rename_i h4
          have h4 : (AddG a (sumG b c)).2 = 0 := by simpa using h4
          obtain ⟨_, _, _, sx, ex⟩ := add_ok h3
          obtain ⟨_, _, _, sy, ey⟩ := add_ok h4
          rw [ex, ey, sum_assoc h1 h2 h3 h4, good_same hN (good sy), bnd_some, br_true]
theorem plain_ScriptAddGoesOn (a b c : GValue) (ha : Fit (.rc .value) a) (hb : Fit (.rc .value) b) (hc : Fit (.rc .value) c) : ∃ N, law2_ScriptAddGoesOn N a b c = some true := ⟨big, law_goes (Nat.le_refl _) ha hb hc⟩
end Go.Proofs.YtahjncefiegflaaGreatDoor

