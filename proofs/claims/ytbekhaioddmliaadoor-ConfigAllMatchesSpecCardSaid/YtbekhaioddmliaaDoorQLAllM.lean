/- What All computes; the law AllMatches. No program in sight. -/
import Derived.Test.YtbekhaioddmliaaDoorQLAll
namespace Go.Proofs.YtbekhaioddmliaaDoor
set_option linter.unusedVariables false
set_option linter.unusedSimpArgs false
open Go Go.RowKit
variable {N : Nat}
theorem SamePairs_self (hN : big ≤ N) (xs : List Cfg) (hx : xs.length ≤ maxLen) (hc : ∀ c ∈ xs, c.length ≤ maxLen) : ref3_SamePairs N xs xs = some true := by
  unfold ref3_SamePairs
  have hL : ref3_SamePairs_L0 N xs xs (xs.length : Int) (some true) N 0 = some true := by
    refine loop_st (f := fun n i (_ : Unit) => ref3_SamePairs_L0 N xs xs (xs.length : Int) (some true) n i) (T := fun self i _ => ref3_SamePairs_L0T N xs xs (xs.length : Int) (some true) (fun i => self i ()) i) (fun _ _ _ => rfl) hx (fun _ => ()) (fun self i h hr => ?_) (fun self => ?_) hN
    · simp only [ref3_SamePairs_L0T, geti_lt xs h, wrap_succ hx h, bnd_some, Equal_pair_self hN _ (hc _ (List.getElem_mem h)), Bool.not_true, br_false]
      rw [lt_tt h, br_true]
      exact hr
    · simp only [ref3_SamePairs_L0T, lt_ff, br_false]
  rw [hL]; simp
def AllS (l : Sets) (ns : List Str) : List Cfg × Int := if settingsS l ≠ 0 then ([], settingsS l) else if namesS l ns ≠ 0 then ([], namesS l ns) else if (allS l ns [[]]).2 then ((allS l ns [[]]).1, 0) else ([], 2)
theorem nil_ok {l : Sets} (h : SetOk l) : CfgOk l [] := ⟨h, fun p hp => (by cases hp), List.Pairwise.nil⟩
theorem spread_eq (hN : big ≤ N) (l : Sets) (hl : Fit settingTy l) (hS : SetOk l) (ns : List Str) (hn : NamesOk l ns) : config_spread N l [] ns = some (allS l ns [[]]) := by
  unfold config_spread
  rw [Clone_pair [] (by simp), bnd_some]
  have hns : ns.length ≤ 30 := Nat.le_trans (names_len hn) hS.len
  have := spread_from hN l hl hS ns hn ns.length N 0 [[]] (by omega) (by unfold big at hN; omega) (by simp) (fun x hx => by rw [List.mem_singleton.1 hx]; exact nil_ok hS)
  exact this
theorem all_eq (hN : big ≤ N) (l : Sets) (hl : Fit settingTy l) (hS : SetOk l) (ns : List Str) (hn : NamesOk l ns) : ref3_all N l [] ns = some (allS l ns [[]]) := by
  unfold ref3_all
  have hns : ns.length ≤ 30 := Nat.le_trans (names_len hn) hS.len
  have := all_from hN l hl hS ns hn ns.length N 0 [[]] (by omega) (by unfold big at hN; omega) (by simp) (fun x hx => by rw [List.mem_singleton.1 hx]; exact nil_ok hS)
  exact this
theorem All_eq (hN : big ≤ N) (l : Sets) (hl : Fit settingTy l) (ns : List Str) (hn : ns.length ≤ maxLen) : config_All N l ns = some (AllS l ns) := by
  unfold config_All AllS
  rw [settings_eq hN l hl, bnd_some, br_ne]
  by_cases h : settingsS l = 0
  · have ok := (settings_iff l).1 h
    rw [if_neg (by simpa using h), if_neg (by simpa using h), checkNames_eq hN l hl ns hn, bnd_some, br_ne]
    by_cases h2 : namesS l ns = 0
    · rw [if_neg (by simpa using h2), if_neg (by simpa using h2), spread_eq hN l hl ok ns ((names_iff l ns).1 h2), bnd_some]
      cases (allS l ns [[]]).2 <;> simp
    · rw [if_pos h2, if_pos h2]
  · rw [if_pos h, if_pos h]
theorem ref_All_eq (hN : big ≤ N) (l : Sets) (hl : Fit settingTy l) (ns : List Str) (hn : ns.length ≤ maxLen) : ref3_All N l ns = some (AllS l ns) := by
  unfold ref3_All AllS
  rw [ref_settings_eq hN l hl, bnd_some, br_ne]
  by_cases h : settingsS l = 0
  · have ok := (settings_iff l).1 h
    rw [if_neg (by simpa using h), if_neg (by simpa using h), ref_checkNames_eq hN l hl ns hn, bnd_some, br_ne]
    by_cases h2 : namesS l ns = 0
    · rw [if_neg (by simpa using h2), if_neg (by simpa using h2), all_eq hN l hl ok ns ((names_iff l ns).1 h2), bnd_some]
      cases (allS l ns [[]]).2 <;> simp
    · rw [if_pos h2, if_pos h2]
  · rw [if_pos h, if_pos h]
theorem allS_len (l : Sets) : ∀ (ns : List Str) (acc : List Cfg), acc.length ≤ 1000 → (allS l ns acc).1.length ≤ 1000
  | [], acc, h => h
  | n :: ns, acc, h => by
    show (if 1000 < acc.length * (valsOf l n).length then _ else _ : List Cfg × Bool).1.length ≤ 1000
    by_cases hb : 1000 < acc.length * (valsOf l n).length
    · rw [if_pos hb]; exact Nat.zero_le _
    · rw [if_neg hb]; exact allS_len l ns _ (by rw [stepA_len]; omega)
theorem allS_ok {l : Sets} (hl : SetOk l) : ∀ (ns : List Str) (acc : List Cfg), (∀ n ∈ ns, ∃ s ∈ l, s.1 = n) → (∀ x ∈ acc, CfgOk l x) → ∀ x ∈ (allS l ns acc).1, CfgOk l x
  | [], acc, _, h => h
  | n :: ns, acc, hn, h => by
    show ∀ x ∈ (if 1000 < acc.length * (valsOf l n).length then _ else _ : List Cfg × Bool).1, CfgOk l x
    by_cases hb : 1000 < acc.length * (valsOf l n).length
    · rw [if_pos hb]; intro x hx; cases hx
    · rw [if_neg hb]
      refine allS_ok hl ns _ (fun m hm => hn m (List.mem_cons_of_mem _ hm)) ?_
      obtain ⟨s, hs, rfl⟩ := hn n (by simp)
      rw [vals_ok hl hs]
      exact step_ok hl hs h
theorem AllS_mem {l : Sets} {ns : List Str} : (AllS l ns).1.length ≤ 1000 ∧ ∀ x ∈ (AllS l ns).1, CfgOk l x := by
  unfold AllS
  by_cases h : settingsS l = 0
  · have ok := (settings_iff l).1 h
    rw [if_neg (by simpa using h)]
    by_cases h2 : namesS l ns = 0
    · rw [if_neg (by simpa using h2)]
      cases (allS l ns [[]]).2 with
      | false => exact ⟨Nat.zero_le _, fun x hx => (by cases hx)⟩
      | true =>
        refine ⟨allS_len l ns [[]] (by simp), allS_ok ok ns [[]] (fun n hn => ?_) (fun x hx => by rw [List.mem_singleton.1 hx]; exact nil_ok ok)⟩
        obtain ⟨s, hs, e, _⟩ := ((names_iff l ns).1 h2).1 n hn
        exact ⟨s, hs, e⟩
    · rw [if_pos h2]; exact ⟨Nat.zero_le _, fun x hx => (by cases hx)⟩
  · rw [if_pos h]; exact ⟨Nat.zero_le _, fun x hx => (by cases hx)⟩
theorem OnlyS_len {l : Sets} {c : Cfg} (hc : c.length ≤ maxLen) (ns : List Str) : (OnlyS l c ns).1.length ≤ maxLen := by
  unfold OnlyS
  split
  · exact Nat.zero_le _
  · split
    · exact Nat.zero_le _
    · exact Nat.le_trans (List.length_filter_le _ _) hc
theorem plain_ConfigAllMatchesSpec (l : Sets) (c : Cfg) (ns : List Str) (hl : Fit settingTy l) (hc : Fit pairTy c) (hn : Fit (.sl .str) ns) : ∃ N, law3_ConfigAllMatchesSpec N l c ns = some true := by
  have hN : big ≤ big := Nat.le_refl _
  refine ⟨big, ?_⟩
  unfold law3_ConfigAllMatchesSpec
  obtain ⟨h1, h2⟩ := AllS_mem (l := l) (ns := ns)
  rw [Only_eq hN l hl c hc.1 ns hn.1, ref_Only_eq hN l hl c hc.1 ns hn.1, bnd_some, bnd_some]
  simp only [bne_self_eq_false, br_false, Equal_pair_self hN _ (OnlyS_len hc.1 ns), bnd_some, Bool.not_true, All_eq hN l hl ns hn.1, ref_All_eq hN l hl ns hn.1, beq_self_eq_true, br_true, SamePairs_self hN _ (Nat.le_trans h1 (by decide)) (fun x hx => Nat.le_trans (h2 x hx).len (by decide)), awake_eq]
end Go.Proofs.YtbekhaioddmliaaDoor
