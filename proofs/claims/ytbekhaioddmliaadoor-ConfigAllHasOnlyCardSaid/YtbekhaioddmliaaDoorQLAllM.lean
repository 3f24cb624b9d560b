/- What All computes; the law AllMatches. No program in sight. -/
import Derived.Test.YtbekhaioddmliaaDoorQLAll
namespace Go.Proofs.YtbekhaioddmliaaDoor
set_option linter.unusedVariables false
set_option linter.unusedSimpArgs false
open Go Go.RowKit
variable {N : Nat}
theorem eqb_pair (x y : Str × Str) : eqb (.pr .str .str) x y = decide (x = y) := by
  show (x.1 == y.1 && x.2 == y.2) = _
  rcases x with ⟨a, b⟩
  rcases y with ⟨c, d⟩
  by_cases h1 : a = c <;> by_cases h2 : b = d <;> simp [h1, h2]
theorem Equal_from (a b : Cfg) (ha : a.length ≤ maxLen) (he : a.length = b.length) : ∀ (m n i : Nat), i + m = a.length → m < n → slices_Equal_api_Pair_L0 N a b (a.length : Int) (some true) n (i : Int) = some (decide (a.drop i = b.drop i))
  | 0, n, i, hi, hm => by
    obtain ⟨n, rfl⟩ : ∃ q, n = q + 1 := ⟨n - 1, by omega⟩
    have : i = a.length := by omega
    subst this
    show slices_Equal_api_Pair_L0T _ _ _ _ _ _ _ = _
    unfold slices_Equal_api_Pair_L0T
    rw [lt_ff, br_false, List.drop_length, he, List.drop_length]; rfl
  | m + 1, n, i, hi, hm => by
    obtain ⟨n, rfl⟩ : ∃ q, n = q + 1 := ⟨n - 1, by omega⟩
    have hlt : i < a.length := by omega
    have hltb : i < b.length := by omega
    show slices_Equal_api_Pair_L0T _ _ _ _ _ _ _ = _
    unfold slices_Equal_api_Pair_L0T
    rw [lt_tt hlt, br_true, geti_lt a hlt, bnd_some, geti_lt b hltb, bnd_some, eqb_pair, wrap_succ ha hlt, List.drop_eq_getElem_cons hlt, List.drop_eq_getElem_cons hltb]
    by_cases h : a[i] = b[i]
    · have := Equal_from a b ha he m n (i + 1) (by omega) (by omega)
      simp only [h, decide_true, Bool.not_true, br_false, List.cons.injEq, true_and]
      exact this
    · simp only [h, decide_false, Bool.not_false, br_true, List.cons.injEq, false_and]
theorem Equal_pair (hN : big ≤ N) (a b : Cfg) (ha : a.length ≤ maxLen) (hb : b.length ≤ maxLen) : slices_Equal_api_Pair N a b = some (decide (a = b)) := by
  unfold slices_Equal_api_Pair
  by_cases he : a.length = b.length
  · have := Equal_from (N := N) a b ha he a.length N 0 (by omega) (by unfold big at hN; unfold maxLen at ha; omega)
    rw [show ((0 : Nat) : Int) = 0 from rfl] at this
    rw [this, he]
    simp
  · have h2 : a ≠ b := fun e => he (by rw [e])
    have h3 : ((a.length : Int) != (b.length : Int)) = true := bne_iff_ne.2 (by omega)
    rw [h3, br_true]
    simp [h2]
def AllS (l : Sets) (ns : List Str) : List Cfg × Int := if settingsS l ≠ 0 then ([], settingsS l) else if namesS l ns ≠ 0 then ([], namesS l ns) else if (allS l ns [[]]).2 then ((allS l ns [[]]).1, 0) else ([], 2)
theorem nil_ok {l : Sets} (h : SetOk l) : CfgOk l [] := ⟨h, fun p hp => (by cases hp), List.Pairwise.nil⟩
theorem spread_eq (hN : big ≤ N) (l : Sets) (hl : Fit settingTy l) (hS : SetOk l) (ns : List Str) (hn : NamesOk l ns) : config_spread N l [] ns = some (allS l ns [[]]) := by
  unfold config_spread
  rw [Clone_pair [] (by simp), bnd_some]
  have hns : ns.length ≤ 30 := Nat.le_trans (names_len hn) hS.len
  have := spread_from hN l hl hS ns hn ns.length N 0 [[]] (by omega) (by unfold big at hN; omega) (by simp) (fun x hx => by rw [List.mem_singleton.1 hx]; exact nil_ok hS)
  exact this
theorem All_eq (hN : big ≤ N) (l : Sets) (hl : Fit settingTy l) (ns : List Str) (hn : ns.length ≤ maxLen) : config_All N l ns = some (AllS l ns) := by
  unfold config_All AllS
  rw [settings_eq hN l hl, bnd_some, br_ne]
  by_cases h : settingsS l = 0
  · have ok := (settings_iff l).1 h
    rw [if_neg (by simpa using h), if_neg (by simpa using h), checkNames_eq hN l hl ns hn, bnd_some, br_ne]
    by_cases h2 : namesS l ns = 0
    · rw [if_neg (by simpa using h2), if_neg (by simpa using h2), spread_eq hN l hl ok ns ((names_iff l ns).1 h2), bnd_some]
      cases (allS l ns [[]]).2 <;> simp
    · rw [if_pos h2, if_pos h2]
  · rw [if_pos h, if_pos h]
theorem allS_len (l : Sets) : ∀ (ns : List Str) (acc : List Cfg), acc.length ≤ 1000 → (allS l ns acc).1.length ≤ 1000
  | [], acc, h => h
  | n :: ns, acc, h => by
    show (if 1000 < acc.length * (valsOf l n).length then _ else _ : List Cfg × Bool).1.length ≤ 1000
    by_cases hb : 1000 < acc.length * (valsOf l n).length
    · rw [if_pos hb]; exact Nat.zero_le _
    · rw [if_neg hb]; exact allS_len l ns _ (by rw [stepA_len]; omega)
theorem allS_ok {l : Sets} (hl : SetOk l) : ∀ (ns : List Str) (acc : List Cfg), (∀ n ∈ ns, ∃ s ∈ l, s.1 = n) → (∀ x ∈ acc, CfgOk l x) → ∀ x ∈ (allS l ns acc).1, CfgOk l x
  | [], acc, _, h => h
  | n :: ns, acc, hn, h => by
    show ∀ x ∈ (if 1000 < acc.length * (valsOf l n).length then _ else _ : List Cfg × Bool).1, CfgOk l x
    by_cases hb : 1000 < acc.length * (valsOf l n).length
    · rw [if_pos hb]; intro x hx; cases hx
    · rw [if_neg hb]
      refine allS_ok hl ns _ (fun m hm => hn m (List.mem_cons_of_mem _ hm)) ?_
      obtain ⟨s, hs, rfl⟩ := hn n (by simp)
      rw [vals_ok hl hs]
      exact step_ok hl hs h
theorem AllS_mem {l : Sets} {ns : List Str} : (AllS l ns).1.length ≤ 1000 ∧ ∀ x ∈ (AllS l ns).1, CfgOk l x := by
  unfold AllS
  by_cases h : settingsS l = 0
  · have ok := (settings_iff l).1 h
    rw [if_neg (by simpa using h)]
    by_cases h2 : namesS l ns = 0
    · rw [if_neg (by simpa using h2)]
      cases (allS l ns [[]]).2 with
      | false => exact ⟨Nat.zero_le _, fun x hx => (by cases hx)⟩
      | true =>
        refine ⟨allS_len l ns [[]] (by simp), allS_ok ok ns [[]] (fun n hn => ?_) (fun x hx => by rw [List.mem_singleton.1 hx]; exact nil_ok ok)⟩
        obtain ⟨s, hs, e, _⟩ := ((names_iff l ns).1 h2).1 n hn
        exact ⟨s, hs, e⟩
    · rw [if_pos h2]; exact ⟨Nat.zero_le _, fun x hx => (by cases hx)⟩
  · rw [if_pos h]; exact ⟨Nat.zero_le _, fun x hx => (by cases hx)⟩
end Go.Proofs.YtbekhaioddmliaaDoor
