/- Values: when they are right, when they are the same, their copies. No program in sight. -/
import Derived.Test.YtbekhaioddmliaaDoorQCfF9
import Derived.Test.YtbekhaioddmliaaDoorQFor2
import Derived.Test.YtbekhaioddmliaaDoorQCfF14
namespace Go.Proofs.YtbekhaioddmliaaDoor
set_option linter.unusedVariables false
set_option linter.unusedSimpArgs false
open Go Go.RowKit
variable {N : Nat}
theorem GValue.eta (v : GValue) : GValue.mk v.kind v.text v.number v.list v.cases = v := by cases v; rfl
abbrev Case : Type := Str × GValue
abbrev caseTy : Ty := .pr .str (.rc .value)
/-- A byte of a text. -/
def textB (b : UInt8) : Bool := b == 10 || (!decide (b < 32) && !decide (b > 126))
theorem isText_eq (hN : big ≤ N) (s : Str) (hs : s.length ≤ maxLen) : script_isText N s = some (s.all textB) := by
  unfold script_isText
  rw [show s.all textB = (s.all textB && true) by simp, ← forT_every textB true s 0]
  refine loop_for (fun _ _ => rfl) s hs (fun self i h r hr => ?_) (fun self => ?_) hN
  · simp only [script_isText_L0T, geti_lt s h, wrap_succ hs h, hr, bnd_some]
    rw [lt_tt h, br_true]
    unfold textB
    cases h1 : (s[i] == (10 : UInt8)) <;> cases h2 : decide (s[i] < (32 : UInt8)) <;> cases h3 : decide (s[i] > (126 : UInt8)) <;> simp [h1, bne]
  · simp only [script_isText_L0T, lt_ff, br_false]
def textE (s : Str) : Int := if decide ((s.length : Int) > 1000) then 2 else if s.all textB then 0 else 3
theorem checkText_eq (hN : big ≤ N) (s : Str) (hs : s.length ≤ maxLen) : script_checkText N s = some (textE s) := by
  unfold script_checkText textE
  rw [isText_eq hN s hs, bnd_some]
  cases decide ((s.length : Int) > 1000) <;> cases s.all textB <;> simp
theorem idx_any {α : Type} (p : α → Bool) (xs : List α) : decide (idxP p xs ≥ (0 : Int)) = xs.any p := idxP_nonneg p xs
theorem Contains_long (hN : big ≤ N) (l : List Str) (hl : l.length ≤ maxLen) : slices_ContainsFunc_string_string N l () = some (l.any fun s => decide ((s.length : Int) > 1000)) := by
  unfold slices_ContainsFunc_string_string
  have : slices_IndexFunc_string_string N l () = some (idxP (fun s => decide ((s.length : Int) > 1000)) l) := by
    unfold slices_IndexFunc_string_string
    refine loop_for (fun _ _ => rfl) l hl (fun self i h r hr => ?_) (fun self => ?_) hN
    · simp only [slices_IndexFunc_string_string_L0T, geti_lt l h, wrap_succ hl h, hr, bnd_some, script_CheckValue_1]
      rw [lt_tt h, br_true, br_ite]
    · simp only [slices_IndexFunc_string_string_L0T, lt_ff, br_false]
  rw [this, bnd_some, idx_any]
theorem Contains_odd (hN : big ≤ N) (l : List Str) (hl : Fit (.sl .str) l) : slices_ContainsFunc_string_string_2 N l () = some (l.any fun s => !s.all textB) := by
  unfold slices_ContainsFunc_string_string_2
  have : slices_IndexFunc_string_string_2 N l () = some (idxP (fun s => !s.all textB) l) := by
    unfold slices_IndexFunc_string_string_2
    refine loop_for (fun _ _ => rfl) l hl.1 (fun self i h r hr => ?_) (fun self => ?_) hN
    · simp only [slices_IndexFunc_string_string_2_L0T, geti_lt l h, wrap_succ hl.1 h, hr, bnd_some, script_CheckValue_2, isText_eq hN _ (hl.2 _ (List.getElem_mem h))]
      rw [lt_tt h, br_true, br_ite]
    · simp only [slices_IndexFunc_string_string_2_L0T, lt_ff, br_false]
  rw [this, bnd_some, idx_any]
/-- The error of a value; cc: that of its cases. -/
def tailV (cc : Int) (v : GValue) : Int :=
  if decide ((v.text.length : Int) > 1000) then 2 else if decide ((v.list.length : Int) > 1000) then 2 else if v.list.any (fun s => decide ((s.length : Int) > 1000)) then 2 else if decide ((v.cases.length : Int) > 50) then 2 else
    if !v.text.all textB then 3 else if v.list.any (fun s => !s.all textB) then 3 else if decide (v.number < 0) then 1 else if decide (v.number > 999999999) then 1 else if v.kind == 4 then cc else 0
def formV (v : GValue) : Bool := (!(v.text == []) && v.kind != 1) || (v.number != 0 && v.kind != 2) || (decide ((v.list.length : Int) > 0) && v.kind != 3) || (decide ((v.cases.length : Int) > 0) && v.kind != 4)
def valS (cc : Int) (v : GValue) : Int :=
  if decide (v.kind < 1) then 4 else if decide (v.kind > 4) then 4 else if formV v then 3 else tailV cc v
theorem valFit {v : GValue} (h : Fit (.rc .value) v) : (Lit.int .i64 v.kind).wf = true ∧ v.text.length ≤ maxLen ∧ (Lit.int .i64 v.number).wf = true ∧ Fit (.sl .str) v.list ∧ Fit (.sl caseTy) v.cases := FitR.elim h
theorem CheckValue_eq (hN : big ≤ N) {r : List Case → Option Int} {cc : Int} (v : GValue) (hv : Fit (.rc .value) v) (hr : v.kind = 4 → r v.cases = some cc) : script_CheckValue N r v = some (valS cc v) := by
  obtain ⟨_, ht, _, hl, hc⟩ := valFit hv
  have hT : (br (decide ((v.text.length : Int) > (1000 : Int))) (some (2 : Int)) (br (decide ((v.list.length : Int) > (1000 : Int))) (some (2 : Int)) (bnd (slices_ContainsFunc_string_string N v.list ()) fun t61 => br (t61) (some (2 : Int)) (br (decide ((v.cases.length : Int) > (50 : Int))) (some (2 : Int)) (bnd (script_isText N v.text) fun t72 => br (!t72) (some (3 : Int)) (bnd (slices_ContainsFunc_string_string_2 N v.list ()) fun t77 => br (t77) (some (3 : Int)) (br (decide (v.number < (0 : Int))) (some (1 : Int)) (br (decide (v.number > (999999999 : Int))) (some (1 : Int)) (br (v.kind == (4 : Int)) (bnd (r v.cases) fun t94 => some t94) (some (0 : Int)))))))))))= some (tailV cc v) := by
    simp only [Contains_long hN _ hl.1, Contains_odd hN _ hl, isText_eq hN _ ht, bnd_some]
    have hk : (br (v.kind == (4 : Int)) (bnd (r v.cases) fun t94 => some t94) (some (0 : Int))) = some (if v.kind == 4 then cc else 0) := by
      by_cases h4 : v.kind = 4
      · rw [hr h4]; simp [h4]
      · rw [show (v.kind == (4 : Int)) = false from beq_false_of_ne h4]; simp
    rw [hk]
    simp only [br_ite]
    rfl
  unfold script_CheckValue
  simp only [hT]
  unfold valS formV
  generalize tailV cc v = t
  generalize decide (v.kind < 1) = b1
  generalize decide (v.kind > 4) = b2
  generalize (v.text == ([] : Str)) = b3
  generalize (v.kind != (1 : Int)) = b4
  generalize (v.number != (0 : Int)) = b5
  generalize (v.kind != (2 : Int)) = b6
  generalize decide ((v.list.length : Int) > 0) = b7
  generalize (v.kind != (3 : Int)) = b8
  generalize decide ((v.cases.length : Int) > 0) = b9
  generalize (v.kind != (4 : Int)) = b10
  cases b1
  · cases b2
    · cases b3 <;> cases b5 <;> cases b7 <;> cases b9 <;> simp only [br_true, br_false, Bool.not_true, Bool.not_false] <;> cases b4 <;> cases b6 <;> cases b8 <;> cases b10 <;> simp
    · simp
  · simp
/-- The error of the cases of a choice. -/
def caseB (l : List Case) (i : Nat) (c : Case) (r : Int) : Int :=
  if textE c.1 ≠ 0 then textE c.1 else if (l.take i).any (fun d => d.1 == c.1) then 7 else if c.2.kind == 4 then 4 else if valS 0 c.2 ≠ 0 then valS 0 c.2 else
    if c.2.kind != (match l[0]? with | some d => d.2.kind | none => 0) then 6 else r
def casesS (l : List Case) : Int := if l.length = 0 then 9 else forT (caseB l) 0 l 0
def valueE (v : GValue) : Int := valS (casesS v.cases) v
theorem valS_plain {v : GValue} (h : v.kind ≠ 4) (a b : Int) : valS a v = valS b v := by
  unfold valS tailV
  simp [h]
theorem IndexFunc_case (hN : big ≤ N) (xs : List Case) (hx : xs.length ≤ maxLen) (q : Case) : slices_IndexFunc_api_Case N xs (q, ()) = some (idxP (fun x => x.1 == q.1) xs) := by
  unfold slices_IndexFunc_api_Case
  refine loop_for (fun _ _ => rfl) xs hx (fun self i h r hr => ?_) (fun self => ?_) hN
  · simp only [slices_IndexFunc_api_Case_L0T, geti_lt xs h, wrap_succ hx h, hr, bnd_some, script_checkCases_1]
    rw [lt_tt h, br_true, br_ite]
  · simp only [slices_IndexFunc_api_Case_L0T, lt_ff, br_false]
theorem checkCases_eq (hN : big ≤ N) (r : List Case → Option Int) (l : List Case) (hl : Fit (.sl caseTy) l) : script_checkCases_b N r l = some (casesS l) := by
  unfold script_checkCases_b casesS
  by_cases h0 : l.length = 0
  · simp [h0]
  · rw [if_neg h0, show ((l.length : Int) == (0 : Int)) = false from beq_false_of_ne (by omega), br_false]
    refine loop_for (fun _ _ => rfl) l hl.1 (fun self i h r' hr => ?_) (fun self => ?_) hN
    · have hx := hl.2 _ (List.getElem_mem h)
      have ht : (l.take i).length ≤ maxLen := by have := hl.1; rw [List.length_take]; omega
      have h00 : 0 < l.length := by omega
      simp only [script_checkCases_b_L0T, geti_lt l h, wrap_succ hl.1 h, hr, bnd_some, checkText_eq hN _ hx.1, slc_take l (Nat.le_of_lt h), slices_ContainsFunc_api_Case, IndexFunc_case hN _ ht, idxP_nonneg, GValue.eta, geti_zero, List.getElem?_eq_getElem h00]
      rw [lt_tt h, br_true]
      unfold caseB
      rw [List.getElem?_eq_getElem h00]
      by_cases h4 : l[i].2.kind = 4
      · simp only [h4, beq_self_eq_true, br_true, br_ite, br_ne, if_true]
        by_cases h1 : textE l[i].1 = 0 <;> simp [h1]
      · rw [CheckValue_eq hN (cc := 0) _ hx.2 (fun h => absurd h h4), bnd_some]
        have e4 : (l[i].2.kind == (4 : Int)) = false := beq_false_of_ne h4
        simp only [e4, br_false, br_ite, br_ne, Bool.false_eq_true, if_false]
        by_cases h1 : textE l[i].1 = 0 <;> by_cases h2 : valS 0 l[i].2 = 0 <;> simp [h1, h2]
        all_goals (try (split <;> (try split) <;> simp_all))
    · simp only [script_checkCases_b_L0T, lt_ff, br_false]
theorem CheckValue_all (hN : big ≤ N) (v : GValue) (hv : Fit (.rc .value) v) : script_CheckValue N (script_checkCases N N) v = some (valueE v) := by
  obtain ⟨_, _, _, _, hc⟩ := valFit hv
  refine CheckValue_eq hN v hv fun _ => ?_
  obtain ⟨d, rfl⟩ : ∃ d, N = d + 1 := ⟨N - 1, by unfold big at hN; omega⟩
  exact checkCases_eq hN _ _ hc
/-- A value that is no choice. -/
structure PlainV (v : GValue) : Prop where
  kind : v.kind ≠ 4
  cases : v.cases = []
  list : v.list.length ≤ 1000
theorem plain_of {v : GValue} {cc : Int} (h : valS cc v = 0) (h4 : v.kind ≠ 4) : PlainV v := by
  unfold valS at h
  split at h
  · cases h
  · split at h
    · cases h
    · split at h
      · cases h
      · rename_i hf
        unfold formV at hf
        unfold tailV at h
        refine ⟨h4, ?_, ?_⟩
        · simp only [Bool.or_eq_true, Bool.and_eq_true, not_or, not_and, bne_iff_ne, ne_eq] at hf
          have := hf.2
          have h5 : ¬ ((v.cases.length : Int) > 0) := fun h6 => this (decide_eq_true h6) h4
          exact List.eq_nil_of_length_eq_zero (by omega)
        · split at h
          · cases h
          · split at h
            · cases h
            · rename_i h6
              have : ¬ ((v.list.length : Int) > 1000) := fun h7 => h6 (decide_eq_true h7)
              omega
structure CasesOk (l : List Case) : Prop where
  some : l ≠ []
  plain : ∀ c ∈ l, PlainV c.2
  right : ∀ c ∈ l, valS 0 c.2 = 0
  once : ∀ i (hi : i < l.length) (j : Nat) (hj : j < i), l[j].1 ≠ l[i].1
theorem cases_ok {l : List Case} (h : casesS l = 0) : CasesOk l := by
  unfold casesS at h
  split at h
  · cases h
  · rename_i h0
    have := (forT_zero (q := fun i c => textE c.1 = 0 ∧ (l.take i).any (fun d => d.1 == c.1) = false ∧ c.2.kind ≠ 4 ∧ valS 0 c.2 = 0 ∧ c.2.kind = (match l[0]? with | some d => d.2.kind | none => 0)) (body := caseB l) (fun i c r => by
      unfold caseB
      by_cases h1 : textE c.1 = 0 <;> by_cases h2 : (l.take i).any (fun d => d.1 == c.1) = true <;> by_cases h3 : c.2.kind = 4 <;> by_cases h4 : valS 0 c.2 = 0 <;> simp [h1, h2, h3, h4]
      all_goals (first | (split <;> (first | (split <;> simp_all) | simp_all)) | skip)) l 0).1 h
    refine ⟨fun e => h0 (by rw [e]; rfl), fun c hc => ?_, fun c hc => ?_, fun i hi j hj he => ?_⟩
    · obtain ⟨i, hi, rfl⟩ := List.mem_iff_getElem.1 hc
      have := this i hi
      exact plain_of this.2.2.2.1 this.2.2.1
    · obtain ⟨i, hi, rfl⟩ := List.mem_iff_getElem.1 hc
      exact (this i hi).2.2.2.1
    · have := (this i hi).2.1
      rw [Nat.zero_add, List.any_eq_false] at this
      have hm : l[j] ∈ l.take i := List.mem_take_iff_getElem.2 ⟨j, by omega, rfl⟩
      have := this _ hm
      simp [he] at this
theorem value_ok {v : GValue} (h : valueE v = 0) : (v.kind ≠ 4 ∧ PlainV v) ∨ (v.kind = 4 ∧ CasesOk v.cases ∧ v.cases.length ≤ 50) := by
  by_cases h4 : v.kind = 4
  · refine .inr ⟨h4, ?_⟩
    unfold valueE valS at h
    split at h
    · cases h
    · split at h
      · cases h
      · split at h
        · cases h
        · unfold tailV at h
          split at h
          · cases h
          · split at h
            · cases h
            · split at h
              · cases h
              · split at h
                · cases h
                · rename_i h5
                  have h5' : ¬ ((v.cases.length : Int) > 50) := fun h7 => h5 (decide_eq_true h7)
                  split at h
                  · cases h
                  · split at h
                    · cases h
                    · split at h
                      · cases h
                      · split at h
                        · cases h
                        · rw [h4] at h
                          exact ⟨cases_ok h, by omega⟩
  · exact .inl ⟨h4, plain_of h h4⟩
/-- slices.Equal of strings. -/
theorem Equal_str_from (a b : List Str) (ha : a.length ≤ maxLen) (he : a.length = b.length) : ∀ (m n i : Nat), i + m = a.length → m < n → slices_Equal_string_string_L0 N a b (a.length : Int) (some true) n (i : Int) = some (decide (a.drop i = b.drop i))
  | 0, n, i, hi, hn => by
    obtain ⟨n, rfl⟩ : ∃ j, n = j + 1 := ⟨n - 1, by omega⟩
    have : i = a.length := by omega
    subst this
    show slices_Equal_string_string_L0T _ _ _ _ _ _ _ = _
    simp only [slices_Equal_string_string_L0T, lt_ff, br_false, List.drop_length]
    rw [he, List.drop_length]; simp
  | m + 1, n, i, hi, hn => by
    obtain ⟨n, rfl⟩ : ∃ j, n = j + 1 := ⟨n - 1, by omega⟩
    have h : i < a.length := by omega
    have hb : i < b.length := by omega
    have ih := Equal_str_from a b ha he m n (i + 1) (by omega) (by omega)
    show slices_Equal_string_string_L0T _ _ _ _ _ _ _ = _
    simp only [slices_Equal_string_string_L0T, geti_lt a h, geti_lt b hb, wrap_succ ha h, ih, bnd_some]
    rw [lt_tt h, br_true, List.drop_eq_getElem_cons h, List.drop_eq_getElem_cons hb]
    by_cases hq : a[i] = b[i]
    · rw [show (a[i] == b[i]) = true from beq_iff_eq.2 hq]
      simp only [List.cons.injEq, hq, true_and, Bool.not_true, br_false]
    · rw [show (a[i] == b[i]) = false from beq_false_of_ne hq]
      simp only [List.cons.injEq, hq, false_and, Bool.not_false, br_true, decide_false]
theorem Equal_str (hN : big ≤ N) (a b : List Str) (ha : a.length ≤ maxLen) (hb : b.length ≤ maxLen) : slices_Equal_string_string N a b = some (decide (a = b)) := by
  unfold slices_Equal_string_string
  by_cases he : a.length = b.length
  · have := Equal_str_from (N := N) a b ha he a.length N 0 (by omega) (by unfold maxLen at ha; unfold big at hN; omega)
    rw [show ((0 : Nat) : Int) = 0 from rfl, List.drop_zero, List.drop_zero] at this
    rw [this]; simp [he]
  · have hne : a ≠ b := fun e => he (by rw [e])
    simp only [decide_eq_false hne]
    have : ((a.length : Int) != (b.length : Int)) = true := by simp; omega
    simp [this]
/-- Whether two values are the same, of which the first one has no cases. -/
def sameP (a b : GValue) : Bool := a.kind == b.kind && (a.text == b.text && (a.number == b.number && (decide (a.list = b.list) && b.cases.isEmpty)))
theorem sameP_self {a : GValue} (h : a.cases = []) : sameP a a = true := by simp [sameP, h]
theorem SameValue_eq (hN : big ≤ N) (d : Nat) (a b : GValue) (ha : a.cases = []) (hla : a.list.length ≤ maxLen) (hlb : b.list.length ≤ maxLen) : ref2_SameValue N (d + 1) a b = some (sameP a b) := by
  show ref2_SameValue_b N _ a b = _
  unfold ref2_SameValue_b sameP
  rw [Equal_str hN _ _ hla hlb, bnd_some, ha]
  have hL : ∀ r c k, ref2_SameValue_b_L0 N r ((([] : List Case).length : Nat) : Int) [] c k N 0 = k := fun r c k => by
    obtain ⟨n, rfl⟩ : ∃ n, N = n + 1 := ⟨N - 1, by unfold big at hN; omega⟩
    show ref2_SameValue_b_L0T _ _ _ _ _ _ _ _ = _
    simp [ref2_SameValue_b_L0T]
  rw [hL]
  have hk : (a.kind != b.kind) = !(a.kind == b.kind) := rfl
  have hn : (a.number != b.number) = !(a.number == b.number) := rfl
  have hcs : (((([] : List Case).length : Nat) : Int) != (b.cases.length : Int)) = !b.cases.isEmpty := by
    cases hb : b.cases with
    | nil => rfl
    | cons => simp; omega
  rw [hk, hn, hcs]
  cases a.kind == b.kind <;> cases a.text == b.text <;> cases a.number == b.number <;> cases decide (a.list = b.list) <;> cases b.cases.isEmpty <;> simp
theorem Clone_case (l : List Case) (h : l.length ≤ 1000) : slices_Clone_api_Case N l = some l := by
  unfold slices_Clone_api_Case
  have e : decide ((([] : List Case).length + l.length) * (24 * Ty.sz (.pr .str (.rc .value))) ≤ 140737488355328) = true := decide_eq_true (by show (0 + l.length) * (24 * 6) ≤ _; omega)
  rw [e, br_true]
  cases l with
  | nil => simp
  | cons a l => simp
theorem Clone_strs (l : List Str) (h : l.length ≤ 1000000) : slices_Clone_string_string N l = some l := by
  unfold slices_Clone_string_string
  have e : decide ((([] : List Str).length + l.length) * (24 * Ty.sz .str) ≤ 140737488355328) = true := decide_eq_true (by show (0 + l.length) * (24 * 1) ≤ _; omega)
  rw [e, br_true]
  cases l with
  | nil => simp
  | cons a l => simp
theorem Own_eq (hN : big ≤ N) (d : Nat) (v : GValue) (h : v.cases = []) (hl : v.list.length ≤ 1000000) : script_Own N (d + 1) v = some v := by
  show script_Own_b N _ v = _
  unfold script_Own_b
  rw [Clone_strs _ hl, bnd_some, h, Clone_case [] (by simp), bnd_some]
  obtain ⟨n, rfl⟩ : ∃ n, N = n + 1 := ⟨N - 1, by unfold big at hN; omega⟩
  show script_Own_b_L0T _ _ _ _ _ _ _ = _
  simp only [script_Own_b_L0T]
  rw [show decide ((0 : Int) < (([] : List Case).length : Int)) = false by simp, br_false, ← h, GValue.eta]
end Go.Proofs.YtbekhaioddmliaaDoor


/- What is chosen of a value. No program in sight. -/
namespace Go.Proofs.YtbekhaioddmliaaDoor
set_option linter.unusedVariables false
set_option linter.unusedSimpArgs false
open Go Go.RowKit
variable {N : Nat}
abbrev Cond : Type := Str × List (Str × Str) × List (Str × Str)
abbrev dflt : Str := [100, 101, 102, 97, 117, 108, 116]
theorem IndexFunc_cond (hN : big ≤ N) (xs : List Cond) (hx : xs.length ≤ maxLen) (n : Str) : slices_IndexFunc_api_Condition N xs (n, ()) = some (idxP (fun x => x.1 == n) xs) := by
  unfold slices_IndexFunc_api_Condition
  refine loop_for (fun _ _ => rfl) xs hx (fun self i h r hr => ?_) (fun self => ?_) hN
  · simp only [slices_IndexFunc_api_Condition_L0T, geti_lt xs h, wrap_succ hx h, hr, bnd_some, config_conditionOf_1]
    rw [lt_tt h, br_true, br_ite]
  · simp only [slices_IndexFunc_api_Condition_L0T, lt_ff, br_false]
theorem conditionOf_eq (hN : big ≤ N) (m : List Cond) (hm : m.length ≤ maxLen) (n : Str) : config_conditionOf N m n = some (findF (fun x => x.1 == n) (fun x => (x, true)) (([], ([], [])), false) m) := by
  unfold config_conditionOf findF
  rw [IndexFunc_cond hN m hm, bnd_some]
  rcases idxP_cases (fun x : Cond => x.1 == n) m with ⟨h1, h2⟩ | ⟨j, t, h1, h2, h3, h4⟩
  · rw [h1, h2]; simp
  · rw [h1, h4, decide_eq_false (show ¬ ((j : Int) < 0) by omega), br_false, geti_nat, h2, bnd_some]
def moreS (a b : Cond) : Bool := b.2.1.all (hasPair a.2.1) && (b.2.2.all (hasPair a.2.2) && decide (a.2.1.length + a.2.2.length > b.2.1.length + b.2.2.length))
/-- A condition that is right. -/
structure CondOk (l : List (Str × List Str)) (x : Cond) : Prop where
  name : condS x.1 = true
  needs : x.2.1.length ≤ 30
  on : x.2.2.length ≤ 30
  found : ∀ n ∈ x.2.1, (l.find? (fun s => s.1 == n.1)).isSome = true
theorem cond_ok {l : List (Str × List Str)} {m : List Cond} (h : conditionsS l m = 0) : settingsS l = 0 ∧ m.length ≤ 100 ∧ ∀ x ∈ m, CondOk l x := by
  have hf := cond_found h
  refine ⟨hf.1, ?_, fun x hx => ?_⟩
  · unfold conditionsS at h
    rw [if_neg (by simpa using hf.1)] at h
    split at h
    · cases h
    · omega
  · unfold conditionsS at h
    rw [if_neg (by simpa using hf.1)] at h
    split at h
    · cases h
    · have := forT_keep (p := fun x : Cond => condS x.1 = true ∧ x.2.1.length ≤ 30 ∧ x.2.2.length ≤ 30) (body := condB1 l m) (fun i x r h => by
        unfold condB1 at h
        split at h
        · cases h
        · rename_i h1
          split at h
          · cases h
          · rename_i h2
            split at h
            · cases h
            · rename_i h3
              split at h
              · rename_i h4; exact absurd h (of_decide_eq_true h4)
              · split at h
                · rename_i h5; exact absurd h (of_decide_eq_true h5)
                · refine ⟨⟨by simpa using h1, ?_, ?_⟩, prevS_keep h⟩
                  · have : ¬ (30 < x.2.1.length) := fun h => h2 (decide_eq_true h)
                    omega
                  · have : ¬ (30 < x.2.2.length) := fun h => h3 (decide_eq_true h)
                    omega) m 0 h x hx
      exact ⟨this.1, this.2.1, this.2.2, pairs_found (hf.2 x hx)⟩
theorem isMore_eq (hN : big ≤ N) (a b : Cond) {l : List (Str × List Str)} (ha : CondOk l a) (hb : CondOk l b) : config_isMore N a b = some (moreS a b) := by
  have h30 : (30 : Nat) ≤ maxLen := by decide
  unfold config_isMore moreS
  rw [Fit_eq hN _ _ (Nat.le_trans hb.needs h30) (Nat.le_trans ha.needs h30), bnd_some, Fit_eq hN _ _ (Nat.le_trans hb.on h30) (Nat.le_trans ha.on h30), bnd_some]
  have h1 := ha.needs
  have h2 := ha.on
  have h3 := hb.needs
  have h4 := hb.on
  rw [wrap_id (by omega) (by omega), wrap_id (by omega) (by omega), (decide_eq_decide.2 (by omega) : decide ((a.2.1.length : Int) + (a.2.2.length : Int) > (b.2.1.length : Int) + (b.2.2.length : Int)) = decide (a.2.1.length + a.2.2.length > b.2.1.length + b.2.2.length))]
  cases b.2.1.all (hasPair a.2.1) <;> cases b.2.2.all (hasPair a.2.2) <;> simp
/-- The error of the names of conditions in a value. -/
def oddC (m : List Cond) (c : Case) : Bool := (m.find? (fun x => x.1 == c.1)).isNone && !(c.1 == dflt)
def namedS (m : List Cond) (l : List Case) : Int := if l.any (oddC m) = true then 5 else 0
theorem checkNamed_eq (hN : big ≤ N) (m : List Cond) (hm : m.length ≤ maxLen) (v : GValue) (hv : v.cases.length ≤ maxLen) : config_checkNamed N m v = some (namedS m v.cases) := by
  unfold config_checkNamed namedS
  rw [← forT_guard (oddC m) (5 : Int) 0 v.cases 0]
  refine loop_for (fun _ _ => rfl) v.cases hv (fun self i h r hr => ?_) (fun self => ?_) hN
  · simp only [config_checkNamed_L0T, geti_lt _ h, wrap_succ hv h, hr, bnd_some, conditionOf_eq hN m hm]
    rw [lt_tt h, br_true]
    unfold oddC findF
    cases m.find? (fun x => x.1 == v.cases[i].1) with
    | none => simp only [Bool.not_false, br_true, Option.isNone_none, Bool.true_and, br_ite]; rfl
    | some z => simp
  · simp only [config_checkNamed_L0T, lt_ff, br_false]
/-- The cases whose conditions hold, with them. -/
def selF (l : List (Str × List Str)) (m : List Cond) (c : List (Str × Str)) (p : Str × List (Str × Str)) (k : Case) : Option (Case × Cond) := match m.find? (fun x => x.1 == k.1) with
  | some z => if holdsS l z c p = true then some (k, z) else none
  | none => none
def selS (l : List (Str × List Str)) (m : List Cond) (c : List (Str × Str)) (p : Str × List (Str × Str)) (cs : List Case) : List (Case × Cond) := cs.filterMap (selF l m c p)
/-- Whether the condition number i is more special than those before k. -/
def bestTo (ws : List Cond) (i k : Nat) : Bool := (List.range k).all fun j => decide (j = i) || match ws[i]?, ws[j]? with | some a, some b => moreS a b | _, _ => false
theorem bestTo_succ (ws : List Cond) (i k : Nat) (hi : i < ws.length) (hk : k < ws.length) : bestTo ws i (k + 1) = (bestTo ws i k && (decide (k = i) || moreS ws[i] ws[k])) := by
  unfold bestTo
  rw [List.range_succ, List.all_append, List.getElem?_eq_getElem hi]
  simp [List.getElem?_eq_getElem hk]
def zeroV : GValue := .mk 0 [] 0 [] []
def pickB (sel : List (Case × Cond)) (s0 : Case) (i : Nat) (x : Case × Cond) (b : Bool) (g : Bool → GValue × Int) : GValue × Int := if bestTo (sel.map (·.2)) i sel.length = true then (x.1.2, 0) else g (b && sameP s0.2 x.1.2)
def pickS (sel : List (Case × Cond)) (cs : List Case) : GValue × Int := match sel with
  | [] => match cs.find? (fun k => k.1 == dflt) with
    | some k => (k.2, 0)
    | none => (zeroV, 9)
  | s0 :: _ => forA (pickB sel s0.1) (fun b => if b = true then (s0.1.2, 0) else (zeroV, 12)) sel 0 true
def chosenS (l : List (Str × List Str)) (m : List Cond) (c : List (Str × Str)) (p : Str × List (Str × Str)) (v : GValue) : GValue × Int :=
  if v.kind ≠ 4 then (v, 0) else if namedS m v.cases ≠ 0 then (zeroV, namedS m v.cases) else pickS (selS l m c p v.cases) v.cases
theorem IndexFunc_dflt (hN : big ≤ N) (xs : List Case) (hx : xs.length ≤ maxLen) : slices_IndexFunc_api_Case_2 N xs () = some (idxP (fun x => x.1 == dflt) xs) := by
  unfold slices_IndexFunc_api_Case_2
  refine loop_for (fun _ _ => rfl) xs hx (fun self i h r hr => ?_) (fun self => ?_) hN
  · simp only [slices_IndexFunc_api_Case_2_L0T, geti_lt xs h, wrap_succ hx h, hr, bnd_some, config_chosen_1]
    rw [lt_tt h, br_true, br_ite]
  · simp only [slices_IndexFunc_api_Case_2_L0T, lt_ff, br_false]
theorem Equal_eq (hN : big ≤ N) (r : Case → Case → Option Bool) (a b : GValue) (ha : a.cases = []) (hb : b.cases = []) (hla : a.list.length ≤ maxLen) (hlb : b.list.length ≤ maxLen) : script_Equal N r a b = some (sameP a b) := by
  unfold script_Equal sameP
  rw [Equal_str hN _ _ hla hlb, bnd_some, ha, hb]
  have hE : slices_EqualFunc_api_Case N r [] [] () = some true := by
    unfold slices_EqualFunc_api_Case
    obtain ⟨n, rfl⟩ : ∃ n, N = n + 1 := ⟨N - 1, by unfold big at hN; omega⟩
    have : slices_EqualFunc_api_Case_L0 (n + 1) r [] [] ((([] : List Case).length : Nat) : Int) (some true) (n + 1) 0 = some true := by
      show slices_EqualFunc_api_Case_L0T _ _ _ _ _ _ _ _ = _
      simp [slices_EqualFunc_api_Case_L0T]
    rw [this]; simp
  rw [hE]
  cases a.kind == b.kind <;> cases a.text == b.text <;> cases a.number == b.number <;> cases decide (a.list = b.list) <;> simp
theorem own_case (hN : big ≤ N) {v : GValue} (h : PlainV v) : script_Own N N v = some v := by
  obtain ⟨d, rfl⟩ : ∃ d, N = d + 1 := ⟨N - 1, by unfold big at hN; omega⟩
  exact Own_eq hN d v h.cases (by have := h.list; omega)
theorem best2_eq (hN : big ≤ N) {l : List (Str × List Str)} (ws : List Cond) (hw : ws.length ≤ 50) (hok : ∀ z ∈ ws, CondOk l z) (i : Nat) (hi : i < ws.length) (k4 : Bool → Option (GValue × Int)) :
    config_chosen_L2 N (i : Int) (ws.length : Int) ws k4 N true 0 = k4 (bestTo ws i ws.length) := by
  have hm : ws.length ≤ maxLen := Nat.le_trans hw (by decide)
  refine loop_st (f := fun n j b => config_chosen_L2 N (i : Int) (ws.length : Int) ws k4 n b j) (T := fun self j b => config_chosen_L2T N (i : Int) (ws.length : Int) ws k4 (fun b j => self j b) b j) (fun _ _ _ => rfl) hm (fun j => bestTo ws i j) (fun self j hj ih => ?_) (fun self => ?_) hN
  · simp only [config_chosen_L2T]
    rw [lt_tn hj, br_true, wrap_s hm hj]
    rw [bestTo_succ ws i j hi hj] at ih
    cases hb : bestTo ws i j with
    | false => rw [br_false]; rw [hb, Bool.false_and] at ih; exact ih
    | true =>
      rw [br_true]
      rw [hb, Bool.true_and] at ih
      by_cases hji : j = i
      · rw [show ((j : Int) == (i : Int)) = true by simp [hji], br_true]
        rw [decide_eq_true hji, Bool.true_or] at ih; exact ih
      · rw [show ((j : Int) == (i : Int)) = false from beq_false_of_ne (by omega), br_false, geti_lt ws hi, bnd_some, geti_lt ws hj, bnd_some, isMore_eq hN _ _ (hok _ (List.getElem_mem hi)) (hok _ (List.getElem_mem hj)), bnd_some]
        rw [decide_eq_false hji, Bool.false_or] at ih; exact ih
  · simp only [config_chosen_L2T]
    rw [lt_fn, br_false]
theorem best3_eq (hN : big ≤ N) {l : List (Str × List Str)} (ws : List Cond) (hw : ws.length ≤ 50) (hok : ∀ z ∈ ws, CondOk l z) (i : Nat) (hi : i < ws.length) (k4 : Bool → Option (GValue × Int)) :
    config_chosen_L3 N (i : Int) (ws.length : Int) ws k4 N true 0 = k4 (bestTo ws i ws.length) := by
  have hm : ws.length ≤ maxLen := Nat.le_trans hw (by decide)
  refine loop_st (f := fun n j b => config_chosen_L3 N (i : Int) (ws.length : Int) ws k4 n b j) (T := fun self j b => config_chosen_L3T N (i : Int) (ws.length : Int) ws k4 (fun b j => self j b) b j) (fun _ _ _ => rfl) hm (fun j => bestTo ws i j) (fun self j hj ih => ?_) (fun self => ?_) hN
  · simp only [config_chosen_L3T]
    rw [lt_tn hj, br_true, wrap_s hm hj]
    rw [bestTo_succ ws i j hi hj] at ih
    cases hb : bestTo ws i j with
    | false => rw [br_false]; rw [hb, Bool.false_and] at ih; exact ih
    | true =>
      rw [br_true]
      rw [hb, Bool.true_and] at ih
      by_cases hji : j = i
      · rw [show ((j : Int) == (i : Int)) = true by simp [hji], br_true]
        rw [decide_eq_true hji, Bool.true_or] at ih; exact ih
      · rw [show ((j : Int) == (i : Int)) = false from beq_false_of_ne (by omega), br_false, geti_lt ws hi, bnd_some, geti_lt ws hj, bnd_some, isMore_eq hN _ _ (hok _ (List.getElem_mem hi)) (hok _ (List.getElem_mem hj)), bnd_some]
        rw [decide_eq_false hji, Bool.false_or] at ih; exact ih
  · simp only [config_chosen_L3T]
    rw [lt_fn, br_false]
theorem sel_take (l : List (Str × List Str)) (m : List Cond) (c : List (Str × Str)) (p : Str × List (Str × Str)) (cs : List Case) {i : Nat} (h : i < cs.length) :
    selS l m c p (cs.take (i + 1)) = selS l m c p (cs.take i) ++ (match selF l m c p cs[i] with | some y => [y] | none => []) := by
  unfold selS
  rw [List.take_succ_eq_append_getElem h, List.filterMap_append]
  congr 1
  simp only [List.filterMap_cons, List.filterMap_nil]
  cases selF l m c p cs[i] <;> rfl
theorem sel_mem {l : List (Str × List Str)} {m : List Cond} {c : List (Str × Str)} {p : Str × List (Str × Str)} {cs : List Case} {y : Case × Cond} (h : y ∈ selS l m c p cs) : y.1 ∈ cs ∧ y.2 ∈ m := by
  unfold selS at h
  obtain ⟨k, hk, e⟩ := List.mem_filterMap.1 h
  unfold selF at e
  split at e
  · rename_i z hz
    split at e
    · cases e; exact ⟨hk, List.mem_of_find?_eq_some hz⟩
    · cases e
  · cases e
theorem sel_len (l : List (Str × List Str)) (m : List Cond) (c : List (Str × Str)) (p : Str × List (Str × Str)) (cs : List Case) : (selS l m c p cs).length ≤ cs.length := List.length_filterMap_le _ _
/-- Which of the cases is taken. -/
theorem pick_eq (hN : big ≤ N) {l : List (Str × List Str)} (sel : List (Case × Cond)) (hl : sel.length ≤ 50) (hc : ∀ y ∈ sel, PlainV y.1.2) (hz : ∀ y ∈ sel, CondOk l y.2) (s0 : Case × Cond) (rest : List (Case × Cond)) (hs : sel = s0 :: rest) {K : Bool → Option (GValue × Int)} {k : Bool → GValue × Int} (hK : ∀ b, K b = some (k b)) :
    config_chosen_L1 N (((sel.map (·.1)).length : Nat) : Int) (sel.map (·.1)) (sel.map (·.2)) K N true 0 = some (forA (pickB sel s0.1) k sel 0 true) := by
  have hm : sel.length ≤ maxLen := Nat.le_trans hl (by decide)
  rw [List.length_map]
  refine loop_acc (f := fun n i b => config_chosen_L1 N (sel.length : Int) (sel.map (·.1)) (sel.map (·.2)) K n b i) (T := fun self i b => config_chosen_L1T N (sel.length : Int) (sel.map (·.1)) (sel.map (·.2)) K (fun b i => self i b) b i)
    (fun _ _ _ => rfl) sel hm (fun _ _ => True) (fun self i h b g _ hg => ?_) (fun self b _ => ?_) hN trivial
  · have h0 : 0 < sel.length := by omega
    have e0 : (sel.map (·.1))[0]? = some s0.1 := by rw [hs]; rfl
    have e1 : geti (sel.map (·.1)) (i : Int) = some sel[i].1 := by rw [geti_nat, List.getElem?_map, List.getElem?_eq_getElem h]; rfl
    have hw : (sel.map (·.2)).length ≤ 50 := by rw [List.length_map]; exact hl
    have hok : ∀ z ∈ sel.map (·.2), CondOk l z := fun z hz' => by
      obtain ⟨y, hy, rfl⟩ := List.mem_map.1 hz'
      exact hz y hy
    have hi' : i < (sel.map (·.2)).length := by rw [List.length_map]; exact h
    have hp0 := hc s0 (by rw [hs]; simp)
    have hpi := hc _ (List.getElem_mem h)
    have h2 := fun k4 => best2_eq hN (sel.map (·.2)) hw hok i hi' k4
    have h3 := fun k4 => best3_eq hN (sel.map (·.2)) hw hok i hi' k4
    simp only [List.length_map] at h2 h3
    have hg' : ∀ b', self (IntKind.i64.wrap ((i : Int) + 1)) b' = some (g b') := fun b' => by rw [wrap_succ hm h]; exact hg b' trivial
    simp only [config_chosen_L1T, geti_zero, e0, e1, bnd_some, List.length_map, Equal_eq hN _ _ _ hp0.cases hpi.cases (Nat.le_trans hp0.list (by decide)) (Nat.le_trans hpi.list (by decide)), h2, h3, own_case hN hpi, GValue.eta, hg']
    rw [lt_tt h, br_true]
    unfold pickB
    cases b
    · rw [br_false, br_ite, Bool.false_and]
    · rw [br_true, br_ite, Bool.true_and]
  · simp only [config_chosen_L1T]
    rw [lt_ff, br_false, hK]
set_option maxHeartbeats 1000000 in
theorem loop0_eq (hN : big ≤ N) {l : List (Str × List Str)} {m : List Cond} (hlf : Fit settingTy l) (hmf : Fit (.sl condTy) m) {c : List (Str × Str)} (hc : c.length ≤ maxLen) (p1 : Str) {p2 : List (Str × Str)} (hp : p2.length ≤ maxLen) (hs : settingsS l = 0) (hml : m.length ≤ 100) (hok : ∀ x ∈ m, CondOk l x)
    (cs : List Case) (hcl : cs.length ≤ 50) (K : List Case → List Cond → Option (GValue × Int)) : config_chosen_L0 N c cs (cs.length : Int) l m p1 p2 K N 0 [] [] = K ((selS l m c (p1, p2) cs).map (·.1)) ((selS l m c (p1, p2) cs).map (·.2)) := by
  have hmm : m.length ≤ maxLen := Nat.le_trans hml (by decide)
  have hcm : cs.length ≤ maxLen := Nat.le_trans hcl (by decide)
  have hE : ∀ (self : Int → List Case × List Cond → Option (GValue × Int)), config_chosen_L0T N c cs (cs.length : Int) l m p1 p2 K (fun i a b => self i (a, b)) (cs.length : Int) ((selS l m c (p1, p2) (cs.take cs.length)).map (·.1)) ((selS l m c (p1, p2) (cs.take cs.length)).map (·.2)) = K ((selS l m c (p1, p2) cs).map (·.1)) ((selS l m c (p1, p2) cs).map (·.2)) := fun self => by
    unfold config_chosen_L0T
    rw [lt_fn, br_false, List.take_length]
  have hT : ∀ (self : Int → List Case × List Cond → Option (GValue × Int)) (i : Nat), i < cs.length → self ((i + 1 : Nat) : Int) ((selS l m c (p1, p2) (cs.take (i + 1))).map (·.1), (selS l m c (p1, p2) (cs.take (i + 1))).map (·.2)) = K ((selS l m c (p1, p2) cs).map (·.1)) ((selS l m c (p1, p2) cs).map (·.2)) →
      config_chosen_L0T N c cs (cs.length : Int) l m p1 p2 K (fun i a b => self i (a, b)) (i : Int) ((selS l m c (p1, p2) (cs.take i)).map (·.1)) ((selS l m c (p1, p2) (cs.take i)).map (·.2)) = K ((selS l m c (p1, p2) cs).map (·.1)) ((selS l m c (p1, p2) cs).map (·.2)) := by
    intro self i h ih
    have hsl := sel_len l m c (p1, p2) (cs.take i)
    rw [List.length_take] at hsl
    rw [sel_take l m c (p1, p2) cs h] at ih
    simp only [config_chosen_L0T, geti_lt cs h, bnd_some, conditionOf_eq hN _ hmm]
    rw [lt_tt h, br_true, wrap_succ hcm h]
    unfold selF findF at *
    cases hz : m.find? (fun z => z.1 == cs[i].1) with
    | none =>
      rw [hz] at ih
      simp only [br_false]
      simpa using ih
    | some z =>
      rw [hz] at ih
      have hzm := List.mem_of_find?_eq_some hz
      simp only [br_true, holds_eq hN l hlf z (hmf.2 z hzm) c hc (p1, p2) hp hs (hok z hzm).found, bnd_some, GValue.eta, times_eq, both_self]
      dsimp only at ih
      cases hh : holdsS l z c (p1, p2) with
      | false =>
        rw [hh] at ih
        simp only [br_false]
        simpa using ih
      | true =>
        rw [hh] at ih
        have e1 : decide ((((selS l m c (p1, p2) (cs.take i)).map (·.1)).length + [(cs[i].1, cs[i].2)].length) * (24 * Ty.sz (.pr .str (.rc .value))) ≤ 140737488355328) = true := decide_eq_true (by
          rw [List.length_map]; show (_ + 1) * (24 * 6) ≤ _; omega)
        have e2 : decide ((((selS l m c (p1, p2) (cs.take i)).map (·.2)).length + [z].length) * (24 * Ty.sz (.pr .str (.pr (.sl (.pr .str .str)) (.sl (.pr .str .str))))) ≤ 140737488355328) = true := decide_eq_true (by
          rw [List.length_map]; show (_ + 1) * (24 * 3) ≤ _; omega)
        rw [br_true, e1, br_true, e2, br_true]
        simpa using ih
  have hf : ∀ (n : Nat) (i : Int) (a : List Case) (b : List Cond), config_chosen_L0 N c cs (cs.length : Int) l m p1 p2 K (n + 1) i a b = config_chosen_L0T N c cs (cs.length : Int) l m p1 p2 K (config_chosen_L0 N c cs (cs.length : Int) l m p1 p2 K n) i a b := fun _ _ _ _ => rfl
  let st : Nat → List Case × List Cond := fun i => ((selS l m c (p1, p2) (cs.take i)).map (·.1), (selS l m c (p1, p2) (cs.take i)).map (·.2))
  have key := loop_st (S := List Case × List Cond) (R := GValue × Int) (f := fun n i s => config_chosen_L0 N c cs (cs.length : Int) l m p1 p2 K n i s.1 s.2) (T := fun self i s => config_chosen_L0T N c cs (cs.length : Int) l m p1 p2 K (fun i a b => self i (a, b)) i s.1 s.2)
    (r := K ((selS l m c (p1, p2) cs).map (·.1)) ((selS l m c (p1, p2) cs).map (·.2))) (m := cs.length) (N := N)
  exact key (fun n i s => hf n i s.1 s.2) hcm st hT hE hN
theorem chosen_eq (hN : big ≤ N) (x : worldTy.den) (hx : Fit worldTy x) (c : List (Str × Str)) (hc : c.length ≤ maxLen) (p : Str × List (Str × Str)) (hp : Fit (.pr .str (.sl (.pr .str .str))) p) (v : GValue) (hv : Fit (.rc .value) v)
    (hm : conditionsS x.1 x.2.1 = 0) (hval : valueE v = 0) : config_chosen N x v c p = some (chosenS x.1 x.2.1 c p v) := by
  obtain ⟨hs, hml, hok⟩ := cond_ok hm
  have hmm : x.2.1.length ≤ maxLen := Nat.le_trans hml (by decide)
  unfold config_chosen chosenS
  simp only [GValue.eta]
  rcases value_ok hval with ⟨h4, hpl⟩ | ⟨h4, hco, hcl⟩
  · rw [show (v.kind != (4 : Int)) = true by simp [h4], br_true, own_case hN hpl, bnd_some, if_pos h4]
  · have hcm : v.cases.length ≤ maxLen := Nat.le_trans hcl (by decide)
    rw [show (v.kind != (4 : Int)) = false by simp [h4], br_false, if_neg (by simpa using h4), checkNamed_eq hN _ hmm _ hcm, bnd_some]
    by_cases hn : namedS x.2.1 v.cases = 0
    · rw [if_neg (by simpa using hn), show (namedS x.2.1 v.cases != (0 : Int)) = false by simp [hn], br_false]
      generalize hcs : v.cases = cs at hco hcl hcm
      rw [loop0_eq hN hx.1 hx.2.1 hc p.1 hp.2.1 hs hml hok cs hcl]
      have hsl := sel_len x.1 x.2.1 c p cs
      have hselc : ∀ y ∈ selS x.1 x.2.1 c p cs, PlainV y.1.2 := fun y hy => hco.plain _ (sel_mem hy).1
      have hselz : ∀ y ∈ selS x.1 x.2.1 c p cs, CondOk x.1 y.2 := fun y hy => hok _ (sel_mem hy).2
      unfold pickS
      cases hsel : selS x.1 x.2.1 c p cs with
      | nil =>
        simp only [List.map_nil, List.length_nil]
        rw [show (((0 : Nat) : Int) == (0 : Int)) = true from rfl, br_true, IndexFunc_dflt hN _ hcm, bnd_some]
        rcases idxP_cases (fun k : Case => k.1 == dflt) cs with ⟨h1, h2⟩ | ⟨j, t, h1, h2, h3, h5⟩
        · rw [h1, h2]; simp [zeroV]
        · rw [h1, h5, decide_eq_false (show ¬ ((j : Int) < 0) by omega), br_false, geti_nat, h2, bnd_some, own_case hN (hco.plain t (List.mem_of_getElem? h2)), bnd_some]
      | cons s0 rest =>
        rw [hsel] at hsl hselc hselz
        have hp0 := hselc s0 (by simp)
        rw [show ((((s0 :: rest).map (·.1)).length : Int) == (0 : Int)) = false from beq_false_of_ne (by simp; omega), br_false]
        refine pick_eq hN (s0 :: rest) (by omega) hselc hselz s0 rest rfl fun b => ?_
        cases b
        · simp [zeroV]
        · rw [br_true, geti_zero, List.map_cons, List.getElem?_cons_zero, bnd_some, own_case hN hp0, bnd_some]
          simp only [GValue.eta, if_true]
    · rw [if_pos hn, show (namedS x.2.1 v.cases != (0 : Int)) = true by simp [hn], br_true]; rfl
/-- Chosen. -/
def choiceS (x : worldTy.den) (c : List (Str × Str)) (p : Str × List (Str × Str)) : Int := if conditionsS x.1 x.2.1 ≠ 0 then conditionsS x.1 x.2.1 else if configS x.1 c ≠ 0 then configS x.1 c else platformsS [p]
def ChosenS (x : worldTy.den) (v : GValue) (c : List (Str × Str)) (p : Str × List (Str × Str)) : GValue × Int :=
  if choiceS x c p ≠ 0 then (zeroV, choiceS x c p) else if valueE v ≠ 0 then (zeroV, valueE v) else chosenS x.1 x.2.1 c p v
theorem checkChoice_eq (hN : big ≤ N) (x : worldTy.den) (hx : Fit worldTy x) (c : List (Str × Str)) (hc : c.length ≤ maxLen) (p : Str × List (Str × Str)) (hp : Fit (.pr .str (.sl (.pr .str .str))) p) : config_checkChoice N x c p = some (choiceS x c p) := by
  unfold config_checkChoice choiceS
  rw [CheckConditions_eq hN _ hx.1 _ hx.2.1, bnd_some, checkConfig_eq hN _ hx.1 _ hc, bnd_some, CheckPlatforms_eq hN _ (fit_one hp), bnd_some, br_ne, br_ne]
  split
  · rfl
  · split <;> rfl
theorem choice_cond {x : worldTy.den} {c : List (Str × Str)} {p : Str × List (Str × Str)} (h : choiceS x c p = 0) : conditionsS x.1 x.2.1 = 0 := by
  unfold choiceS at h
  split at h
  · rename_i h1; exact absurd h h1
  · rename_i h1; exact Classical.not_not.1 h1
theorem Chosen_eq (hN : big ≤ N) (x : worldTy.den) (hx : Fit worldTy x) (v : GValue) (hv : Fit (.rc .value) v) (c : List (Str × Str)) (hc : c.length ≤ maxLen) (p : Str × List (Str × Str)) (hp : Fit (.pr .str (.sl (.pr .str .str))) p) : config_Chosen N x v c p = some (ChosenS x v c p) := by
  unfold config_Chosen ChosenS
  simp only [GValue.eta]
  rw [checkChoice_eq hN x hx c hc p hp, bnd_some, CheckValue_all hN v hv, bnd_some, br_ne, br_ne]
  split
  · rfl
  · rename_i h1
    split
    · rfl
    · rename_i h2
      rw [chosen_eq hN x hx c hc p hp v hv (choice_cond (Classical.not_not.1 h1)) (Classical.not_not.1 h2), bnd_some]
theorem pick_forA (sel : List (Case × Cond)) (s0 : Case) (k : Bool → GValue × Int) (Q : GValue × Int → Prop) (hk : ∀ b, Q (k b)) (hp : ∀ y ∈ sel, Q (y.1.2, 0)) : ∀ (xs : List (Case × Cond)) (i : Nat) (b : Bool), (∀ y ∈ xs, y ∈ sel) → Q (forA (pickB sel s0) k xs i b)
  | [], _, b, _ => hk b
  | y :: xs, i, b, h => by
    show Q (pickB sel s0 i y b _)
    unfold pickB
    split
    · exact hp y (h y (by simp))
    · exact pick_forA sel s0 k Q hk hp xs (i + 1) _ fun z hz => h z (List.mem_cons_of_mem _ hz)
/-- What is chosen is nothing, or the value, or that of one of its cases. -/
theorem chosen_mem (x : worldTy.den) (c : List (Str × Str)) (p : Str × List (Str × Str)) (v : GValue) : ((ChosenS x v c p).2 ≠ 0 ∧ (ChosenS x v c p).1 = zeroV) ∨
    ((ChosenS x v c p).2 = 0 ∧ choiceS x c p = 0 ∧ valueE v = 0 ∧ ((v.kind ≠ 4 ∧ (ChosenS x v c p).1 = v) ∨ (v.kind = 4 ∧ ∃ k ∈ v.cases, (ChosenS x v c p).1 = k.2))) := by
  unfold ChosenS
  split
  · rename_i h; exact .inl ⟨h, rfl⟩
  · rename_i h1
    split
    · rename_i h; exact .inl ⟨h, rfl⟩
    · rename_i h2
      have h1 := Classical.not_not.1 h1
      have h2 := Classical.not_not.1 h2
      unfold chosenS
      split
      · rename_i h4; exact .inr ⟨rfl, h1, h2, .inl ⟨h4, rfl⟩⟩
      · rename_i h4
        have h4 := Classical.not_not.1 h4
        split
        · rename_i h; exact .inl ⟨h, rfl⟩
        · unfold pickS
          split
          · split
            · rename_i k hk; exact .inr ⟨rfl, h1, h2, .inr ⟨h4, k, List.mem_of_find?_eq_some hk, rfl⟩⟩
            · exact .inl ⟨by decide, rfl⟩
          · rename_i s0 rest hsel
            have hin : ∀ y ∈ s0 :: rest, y.1 ∈ v.cases := fun y hy => (sel_mem (by rw [hsel]; exact hy)).1
            rw [hsel]
            refine pick_forA (s0 :: rest) s0.1 _ (fun r => (r.2 ≠ 0 ∧ r.1 = zeroV) ∨ (r.2 = 0 ∧ choiceS x c p = 0 ∧ valueE v = 0 ∧ ((v.kind ≠ 4 ∧ r.1 = v) ∨ (v.kind = 4 ∧ ∃ k ∈ v.cases, r.1 = k.2)))) (fun b => ?_) (fun y hy => .inr ⟨rfl, h1, h2, .inr ⟨h4, y.1, hin y hy, rfl⟩⟩) _ _ _ fun y hy => hy
            cases b
            · exact .inl ⟨fun h => (by cases h), rfl⟩
            · exact .inr ⟨rfl, h1, h2, .inr ⟨h4, s0.1, hin s0 (by simp), rfl⟩⟩
end Go.Proofs.YtbekhaioddmliaaDoor


/- What is chosen is one of the values that there are; chosen again it stays. No program in sight. -/
namespace Go.Proofs.YtbekhaioddmliaaDoor
set_option linter.unusedVariables false
set_option linter.unusedSimpArgs false
open Go Go.RowKit
variable {N : Nat}
theorem Same_all (hN : big ≤ N) (a b : GValue) (ha : a.cases = []) (hla : a.list.length ≤ maxLen) (hlb : b.list.length ≤ maxLen) : ref2_SameValue N N a b = some (sameP a b) := by
  obtain ⟨d, rfl⟩ : ∃ d, N = d + 1 := ⟨N - 1, by unfold big at hN; omega⟩
  exact SameValue_eq hN d a b ha hla hlb
theorem one_loop (hN : big ≤ N) (a : GValue) (ha : a.cases = []) (hla : a.list.length ≤ maxLen) (cs : List Case) (hcs : Fit (.sl caseTy) cs) (b0 : Bool) (K : Bool → Option Bool) :
    law3_ConfigChosenIsOne_L0 N cs (cs.length : Int) a.kind a.text a.number a.list a.cases K N b0 0 = K (b0 || cs.any fun k => sameP a k.2) := by
  let st : Nat → Bool := fun i => b0 || (cs.take i).any fun k => sameP a k.2
  have key := loop_st (S := Bool) (R := Bool) (f := fun n i s => law3_ConfigChosenIsOne_L0 N cs (cs.length : Int) a.kind a.text a.number a.list a.cases K n s i) (T := fun self i s => law3_ConfigChosenIsOne_L0T N cs (cs.length : Int) a.kind a.text a.number a.list a.cases K (fun s i => self i s) s i)
    (r := K (b0 || cs.any fun k => sameP a k.2)) (m := cs.length) (N := N) (fun n i s => rfl) hcs.1 st
  have hT : ∀ (self : Int → Bool → Option Bool) (i : Nat), i < cs.length → self ((i + 1 : Nat) : Int) (st (i + 1)) = K (b0 || cs.any fun k => sameP a k.2) → law3_ConfigChosenIsOne_L0T N cs (cs.length : Int) a.kind a.text a.number a.list a.cases K (fun s i => self i s) (st i) (i : Int) = K (b0 || cs.any fun k => sameP a k.2) := by
    intro self i h ih
    have hx := hcs.2 _ (List.getElem_mem h)
    obtain ⟨_, _, _, hl, _⟩ := valFit hx.2
    simp only [law3_ConfigChosenIsOne_L0T, geti_lt cs h, bnd_some, GValue.eta, Same_all hN a _ ha hla hl.1]
    rw [lt_tt h, br_true, wrap_succ hcs.1 h]
    have e : st (i + 1) = (st i || sameP a cs[i].2) := by
      show (b0 || _) = ((b0 || _) || _)
      rw [List.take_succ_eq_append_getElem h, List.any_append, Bool.or_assoc]
      simp
    rw [e] at ih
    cases hb : st i
    · rw [hb] at ih; rw [br_false]; simpa using ih
    · rw [hb] at ih; rw [br_true]; simpa using ih
  have hE : ∀ self : Int → Bool → Option Bool, law3_ConfigChosenIsOne_L0T N cs (cs.length : Int) a.kind a.text a.number a.list a.cases K (fun s i => self i s) (st cs.length) (cs.length : Int) = K (b0 || cs.any fun k => sameP a k.2) := by
    intro self
    simp only [law3_ConfigChosenIsOne_L0T]
    rw [lt_fn, br_false]
    show K (b0 || (cs.take cs.length).any _) = _
    rw [List.take_length]
  have := key hT hE hN
  simpa [st] using this
theorem again_eq {x : worldTy.den} {c : List (Str × Str)} {p : Str × List (Str × Str)} {a : GValue} (hch : choiceS x c p = 0) (hval : valueE a = 0) (h4 : a.kind ≠ 4) : ChosenS x a c p = (a, 0) := by
  unfold ChosenS chosenS
  rw [if_neg (by simpa using hch), if_neg (by simpa using hval), if_pos h4]
theorem chosen_fit {x : worldTy.den} {c : List (Str × Str)} {p : Str × List (Str × Str)} {v a : GValue} (hv : Fit (.rc .value) v) (hval : valueE v = 0) (h : (v.kind ≠ 4 ∧ a = v) ∨ (v.kind = 4 ∧ ∃ k ∈ v.cases, a = k.2)) : PlainV a ∧ Fit (.rc .value) a ∧ valueE a = 0 := by
  rcases h with ⟨h4, rfl⟩ | ⟨h4, k, hk, rfl⟩
  · rcases value_ok hval with ⟨_, hp⟩ | ⟨h5, _⟩
    · exact ⟨hp, hv, hval⟩
    · exact absurd h5 h4
  · rcases value_ok hval with ⟨h5, _⟩ | ⟨_, hco, _⟩
    · exact absurd h4 h5
    · refine ⟨hco.plain k hk, ((valFit hv).2.2.2.2.2 k hk).2, ?_⟩
      unfold valueE
      rw [valS_plain (hco.plain k hk).kind _ 0]
      exact hco.right k hk
theorem isOne_eq (hN : big ≤ N) (hawake : law3_awake N = some true) (x : worldTy.den) (hx : Fit worldTy x) (v : GValue) (hv : Fit (.rc .value) v) (c : List (Str × Str)) (hc : c.length ≤ maxLen) (p : Str × List (Str × Str)) (hp : Fit (.pr .str (.sl (.pr .str .str))) p) :
    law3_ConfigChosenIsOne N x v c p = some true := by
  unfold law3_ConfigChosenIsOne
  simp only [GValue.eta, Chosen_eq hN x hx v hv c hc p hp, bnd_some, hawake]
  have hcs := (valFit hv).2.2.2.2
  rcases chosen_mem x c p v with ⟨h1, h2⟩ | ⟨h1, hch, hval, hcase⟩
  · rw [br_ne, if_pos h1, h2]; show br ((0 : Int) == 0) (some true) (some false) = some true; simp
  · obtain ⟨hpl, hfa, hva⟩ := chosen_fit (x := x) (c := c) (p := p) hv hval hcase
    generalize ChosenS x v c p = r at *
    obtain ⟨a, f⟩ := r
    dsimp only at *
    have hla : a.list.length ≤ maxLen := Nat.le_trans hpl.list (by decide)
    have e4 : (a.kind != (4 : Int)) = true := by simp [hpl.kind]
    have hK : (br true (br (a.kind != (4 : Int)) (br ((0 : Int) == (0 : Int)) (bnd (some (sameP a a)) fun t75 => br t75 (some true) (some false)) (some false)) (some false)) (some false)) = some true := by
      rw [e4, sameP_self hpl.cases]; simp
    simp only [Chosen_eq hN x hx a hfa c hc p hp, again_eq hch hva hpl.kind, bnd_some, Same_all hN a a hpl.cases hla hla, Same_all hN a v hpl.cases hla (valFit hv).2.2.2.1.1, one_loop hN a hpl.cases hla v.cases hcs, h1]
    have hone : ((v.kind != (4 : Int)) = true ∧ sameP a v = true) ∨ ((v.kind != (4 : Int)) = false ∧ (v.cases.any fun k => sameP a k.2) = true) := by
      rcases hcase with ⟨h4, rfl⟩ | ⟨h4, k, hk, rfl⟩
      · exact .inl ⟨by simp [h4], sameP_self hpl.cases⟩
      · exact .inr ⟨by simp [h4], List.any_eq_true.2 ⟨k, hk, sameP_self hpl.cases⟩⟩
    rcases hone with ⟨h4, h5⟩ | ⟨h4, h5⟩
    · rw [h4, h5, e4, sameP_self hpl.cases]; simp
    · rw [h4, h5, e4, sameP_self hpl.cases]; simp
theorem plain_ConfigChosenIsOne (x : worldTy.den) (v : GValue) (c : List (Str × Str)) (p : Str × List (Str × Str)) (hx : Fit worldTy x) (hv : Fit (.rc .value) v) (hc : Fit pairTy c) (hp : Fit (.pr .str (.sl (.pr .str .str))) p) : ∃ N, law3_ConfigChosenIsOne N x v c p = some true :=
  ⟨big, isOne_eq (Nat.le_refl _) awake_eq x hx v hv c hc.1 p hp⟩
end Go.Proofs.YtbekhaioddmliaaDoor

