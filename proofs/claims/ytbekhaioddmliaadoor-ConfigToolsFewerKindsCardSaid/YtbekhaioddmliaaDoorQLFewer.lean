/- What can be built with tools of some kinds can be with those of fewer ones. No program in sight. -/
import Derived.Test.YtbekhaioddmliaaDoorQLTools
import Derived.Test.YtbekhaioddmliaaDoorQCfg
import Derived.Test.YtbekhaioddmliaaDoorQFor2
import Derived.Test.YtbekhaioddmliaaDoorQCfF6
namespace Go.Proofs.YtbekhaioddmliaaDoor
set_option linter.unusedVariables false
set_option linter.unusedSimpArgs false
open Go Go.RowKit
variable {N : Nat}
abbrev Plat : Type := Str × List (Str × Str)
/-- The tools of all kinds, if there is one of each. -/
theorem onB_all (l : List Tool) (on tg : List (Str × Str)) : ∀ (kinds : List Str) (i : Nat) (w : List Str),
    (forA (onB l on tg) (fun w => (true, w)) kinds i w).1 = kinds.all (fun k => (l.find? (toolFit k on tg)).isSome) ∧
    ((forA (onB l on tg) (fun w => (true, w)) kinds i w).1 = true → (forA (onB l on tg) (fun w => (true, w)) kinds i w).2.length = w.length + kinds.length)
  | [], _, w => by simp [forA]
  | k :: ks, i, w => by
    have e : forA (onB l on tg) (fun w => (true, w)) (k :: ks) i w = (match l.find? (toolFit k on tg) with | some t => forA (onB l on tg) (fun w => (true, w)) ks (i + 1) (w ++ [t.1]) | none => (false, [])) := rfl
    rw [e, List.all_cons]
    cases l.find? (toolFit k on tg) with
    | none => simp
    | some t =>
      have ih := onB_all l on tg ks (i + 1) (w ++ [t.1])
      refine ⟨by simpa using ih.1, fun h => ?_⟩
      have := ih.2 h
      simp only [List.length_append, List.length_cons, List.length_nil] at this ⊢
      omega
theorem kindE_zero {l : List Str} {i : Nat} {x : Str} : kindE l i x = 0 ↔ isWordS x = true ∧ (∀ y, i ≠ 0 → l[i - 1]? = some y → y < x) := by
  unfold kindE
  cases isWordS x with
  | false => simp
  | true =>
    simp only [Bool.not_true, Bool.false_eq_true, if_false, true_and]
    by_cases h0 : i = 0
    · simp [h0]
    · simp only [h0, if_false]
      cases l[i - 1]? with
      | none => simp
      | some y =>
        simp only [le_not]
        by_cases h : y < x
        · simp [h]
        · simp [h, h0]
theorem kinds_iff (l : List Str) : kindsS l = 0 ↔ l.length ≤ 30 ∧ (∀ k ∈ l, isWordS k = true) ∧ l.Pairwise (· < ·) := by
  unfold kindsS kindsL
  by_cases h30 : 30 < l.length
  · simp [h30]; omega
  · rw [if_neg h30, forT_zero (q := fun i x => kindE l i x = 0) (fun i x r => by by_cases h : kindE l i x = 0 <;> simp [h])]
    have ha := asc_iff (l.map fun k => (k, ()))
    unfold Asc at ha
    rw [List.pairwise_map] at ha
    simp only [List.length_map, List.getElem_map, List.getElem?_map] at ha
    constructor
    · intro h
      refine ⟨by omega, fun k hk => ?_, ha.1 fun i hi y h0 hy => ?_⟩
      · obtain ⟨i, hi, rfl⟩ := List.mem_iff_getElem.1 hk
        have := h i hi
        rw [Nat.zero_add] at this
        exact (kindE_zero.1 this).1
      · have := h i hi
        rw [Nat.zero_add] at this
        obtain ⟨z, hz, rfl⟩ := Option.map_eq_some_iff.1 hy
        exact (kindE_zero.1 this).2 z h0 hz
    · rintro ⟨_, h1, h2⟩ i hi
      rw [Nat.zero_add]
      refine kindE_zero.2 ⟨h1 _ (List.getElem_mem hi), fun y h0 hy => ?_⟩
      exact ha.2 h2 i hi (y, ()) h0 (by rw [hy]; rfl)
theorem kinds_sub {l m : List Str} (h : m.Sublist l) (hl : kindsS l = 0) : kindsS m = 0 := by
  obtain ⟨h1, h2, h3⟩ := (kinds_iff l).1 hl
  exact (kinds_iff m).2 ⟨Nat.le_trans h.length_le h1, fun k hk => h2 k (h.subset hk), h3.sublist h⟩
theorem platforms_nodup {l : List Plat} (h : platformsS l = 0) : ∀ i (hi : i < l.length) (j : Nat) (hj : j < i), l[j].1 ≠ l[i].1 := by
  unfold platformsS at h
  split at h
  · cases h
  · have := (forT_zero (q := fun i x => (l.take i).any (fun y => y.1 == x.1) = false) (body := fun i x r => if (l.take i).any (fun y => y.1 == x.1) then 7 else r) (fun i x r => by cases (l.take i).any (fun y => y.1 == x.1) <;> simp) l 0).1 ?_
    · intro i hi j hj he
      have := this i hi
      rw [Nat.zero_add, List.any_eq_false] at this
      have hm : l[j] ∈ l.take i := List.mem_take_iff_getElem.2 ⟨j, by omega, rfl⟩
      have := this _ hm
      simp [he] at this
    · have hz : ∀ (xs : List Plat) (j : Nat), forT (platformsB l) 0 xs j = 0 → forT (fun i x r => if (l.take i).any (fun y => y.1 == x.1) then 7 else r) (0 : Int) xs j = 0 := by
        intro xs
        induction xs with
        | nil => intro j _; rfl
        | cons x xs ih =>
          intro j hj
          simp only [forT] at hj ⊢
          unfold platformsB at hj
          split at hj
          · cases hj
          · split at hj
            · rename_i _ hp; exact absurd hj (of_decide_eq_true hp)
            · split at hj
              · cases hj
              · rename_i ha; rw [if_neg ha]; exact ih _ hj
      exact hz l 0 h
/-- Which of two names comes first. -/
theorem first_of (b a : Str) (p : Plat → Bool) : ∀ (l : List Plat) (j : Nat), (∃ x, l.find? p = some x ∧ x.1 = b) → (∀ i (hi : i < l.length), l[i].1 = a → ∃ k, ∃ hk : k < l.length, k ≤ i ∧ p l[k] = true) →
    forT (fun _ (y : Plat) r => if y.1 == b then true else if y.1 == a then false else r) false l j = true
  | [], _, ⟨x, hx, _⟩, _ => by simp at hx
  | y :: l, j, ⟨x, hx, hb⟩, h => by
    simp only [forT]
    rw [List.find?_cons] at hx
    cases hp : p y with
    | true => rw [hp] at hx; simp only [Option.some.injEq] at hx; subst hx; simp [hb]
    | false =>
      rw [hp] at hx
      by_cases h1 : y.1 = b
      · simp [h1]
      · have h2 : y.1 ≠ a := fun e => by
          obtain ⟨k, hk, hk0, hpk⟩ := h 0 (by simp) e
          obtain rfl : k = 0 := by omega
          rw [List.getElem_cons_zero, hp] at hpk; cases hpk
        rw [if_neg (by simpa using h1), if_neg (by simpa using h2)]
        refine first_of b a p l (j + 1) ⟨x, hx, hb⟩ fun i hi e => ?_
        obtain ⟨k, hk, hki, hpk⟩ := h (i + 1) (by simpa using hi) (by simpa using e)
        cases k with
        | zero => rw [List.getElem_cons_zero, hp] at hpk; cases hpk
        | succ k => exact ⟨k, by simpa using hk, by omega, by simpa using hpk⟩
theorem Clone_str (l : List Str) (h : l.length ≤ 1000000) : slices_Clone_string_string N l = some l := by
  unfold slices_Clone_string_string
  have e : decide ((([] : List Str).length + l.length) * (24 * Ty.sz .str) ≤ 140737488355328) = true := decide_eq_true (by show (0 + l.length) * (24 * 1) ≤ _; omega)
  rw [e, br_true]
  cases l with
  | nil => simp
  | cons a l => simp
theorem Delete_str (l : List Str) (k : Nat) (h : k < l.length) (hl : l.length ≤ maxLen) : slices_Delete_string_string (k : Int) (IntKind.i64.wrap ((k : Int) + 1)) l = some (l.take k ++ l.drop (k + 1)) := by
  rw [wrap_succ hl h]
  unfold slices_Delete_string_string
  rw [if_pos ⟨by omega, by omega, by omega⟩]; rfl
theorem modN {n : Nat} (h0 : 0 < n) (hn : n ≤ 1000) (x : Int) : ∃ k : Nat, k < n ∧ Int.tmod (IntKind.i64.wrap (Int.tmod x (n : Int) + (n : Int))) (n : Int) = (k : Int) := by
  have h1 : -(n : Int) < Int.tmod x n := Int.lt_tmod_of_pos x (by omega)
  have h2 : Int.tmod x n < (n : Int) := Int.tmod_lt_of_pos x (by omega)
  rw [wrap_id (by omega) (by omega)]
  refine ⟨(Int.tmod (Int.tmod x n + n) n).toNat, ?_, ?_⟩
  · have := Int.tmod_lt_of_pos (Int.tmod x n + n) (show (0 : Int) < n by omega)
    have := Int.tmod_nonneg (n : Int) (show 0 ≤ Int.tmod x n + n by omega)
    omega
  · have := Int.tmod_nonneg (n : Int) (show 0 ≤ Int.tmod x n + n by omega)
    omega
theorem fewer_eq (hN : big ≤ N) (hawake : law3_awake N = some true) (x : worldTy.den) (kinds : List Str) (q : Str × List (Str × Str)) (m : Int) (hx : Fit worldTy x) (hk : Fit (.sl .str) kinds) (hq : Fit (.pr .str (.sl (.pr .str .str))) q) (_ : Fit .i64 m) : law3_ConfigToolsFewerKinds N x kinds q m = some true := by
  unfold law3_ConfigToolsFewerKinds
  have hxs := hx.2.2.2.1
  generalize hpl : x.2.2.1 = pl
  generalize htl : x.2.2.2.1 = tl
  have hp : Fit platformTy pl := hpl ▸ hx.2.2.1
  have hl : Fit (.sl toolTy) tl := htl ▸ hx.2.2.2.1
  simp only [Tools_eq hN pl hp tl hl kinds hk q hq, bnd_some, hawake]
  -- without an answer
  have none_case : ∀ e : Int, ToolsS pl tl kinds q = ([], (false, (e, []))) → e ≠ 0 ∨ (ToolsS pl tl kinds q).2.1 = false := fun e h => by rw [h]; exact .inr rfl
  by_cases h1 : platformsS pl = 0 <;> by_cases h2 : toolsS tl = 0 <;> by_cases h3 : kindsS kinds = 0 <;> by_cases h4 : platformsS [q] = 0
  case pos =>
    have hrun : ToolsS pl tl kinds q = toolsRun pl tl kinds q.2 := by unfold ToolsS; simp [h1, h2, h3, h4]
    rw [hrun]
    cases hf : pl.find? (fun p => (toolsOnS tl kinds p.2 q.2).1) with
    | none =>
      have : toolsRun pl tl kinds q.2 = ([], (false, (0, []))) := by unfold toolsRun findF; rw [hf]
      rw [this]; simp
    | some p =>
      have hr : toolsRun pl tl kinds q.2 = (p.1, (true, (0, (toolsOnS tl kinds p.2 q.2).2))) := by unfold toolsRun findF; rw [hf]
      have hpp : (toolsOnS tl kinds p.2 q.2).1 = true := List.find?_some (p := fun p : Plat => (toolsOnS tl kinds p.2 q.2).1) hf
      have hall := (onB_all tl p.2 q.2 kinds 0 []).1.symm.trans hpp
      have hlen := (onB_all tl p.2 q.2 kinds 0 []).2 hpp
      rw [hr]
      simp only [bne_self_eq_false, br_false, Bool.not_true]
      by_cases h0 : kinds.length = 0
      · rw [show ((kinds.length : Int) == (0 : Int)) = true by simp [h0]]; simp
      · have hk30 := kinds_len h3
        have hkm : kinds.length ≤ maxLen := hk.1
        obtain ⟨k, hkl, hke⟩ := modN (show 0 < kinds.length by omega) (show kinds.length ≤ 1000 by omega) m
        rw [show ((kinds.length : Int) == (0 : Int)) = false from beq_false_of_ne (by omega)]
        simp only [br_false]
        rw [hke]
        have hsub : (kinds.take k ++ kinds.drop (k + 1)).Sublist kinds := by
          conv => rhs; rw [← List.take_append_drop k kinds]
          exact List.Sublist.append (List.Sublist.refl _) (List.drop_sublist_drop_left kinds (Nat.le_succ k))
        have hfew : Fit (.sl .str) (kinds.take k ++ kinds.drop (k + 1)) := ⟨Nat.le_trans hsub.length_le hkm, fun y hy => hk.2 y (hsub.subset hy)⟩
        have hfl : (kinds.take k ++ kinds.drop (k + 1)).length + 1 = kinds.length := by simp; omega
        have h3' := kinds_sub hsub h3
        have hT : ToolsS pl tl (kinds.take k ++ kinds.drop (k + 1)) q = toolsRun pl tl (kinds.take k ++ kinds.drop (k + 1)) q.2 := by unfold ToolsS; simp [h1, h2, h3', h4]
        have himp : ∀ y : Plat, (toolsOnS tl kinds y.2 q.2).1 = true → (toolsOnS tl (kinds.take k ++ kinds.drop (k + 1)) y.2 q.2).1 = true := fun y hy => by
          unfold toolsOnS at hy ⊢
          rw [(onB_all tl y.2 q.2 _ 0 []).1] at hy ⊢
          exact List.all_eq_true.2 fun z hz => List.all_eq_true.1 hy z (hsub.subset hz)
        obtain ⟨p', hf'⟩ : ∃ p', pl.find? (fun p => (toolsOnS tl (kinds.take k ++ kinds.drop (k + 1)) p.2 q.2).1) = some p' :=
          Option.isSome_iff_exists.1 (List.find?_isSome.2 ⟨p, List.mem_of_find?_eq_some hf, himp p hpp⟩)
        have hr' : toolsRun pl tl (kinds.take k ++ kinds.drop (k + 1)) q.2 = (p'.1, (true, (0, (toolsOnS tl (kinds.take k ++ kinds.drop (k + 1)) p'.2 q.2).2))) := by unfold toolsRun findF; rw [hf']
        have hlen' := (onB_all tl p'.2 q.2 (kinds.take k ++ kinds.drop (k + 1)) 0 []).2 (List.find?_some (p := fun p : Plat => (toolsOnS tl (kinds.take k ++ kinds.drop (k + 1)) p.2 q.2).1) hf')
        have hloop : law3_ConfigToolsFewerKinds_L0 N p.1 p'.1 pl (pl.length : Int) (some false) N 0 = some true := by
          rw [← first_of p'.1 p.1 _ pl 0 ⟨p', hf', rfl⟩ fun i hi e => ?_]
          · refine loop_for (fun _ _ => rfl) pl hp.1 (fun self i h r hr => ?_) (fun self => ?_) hN
            · simp only [law3_ConfigToolsFewerKinds_L0T, geti_lt pl h, wrap_succ hp.1 h, hr, bnd_some]
              rw [lt_tt h, br_true]
              simp only [br_ite]
            · simp only [law3_ConfigToolsFewerKinds_L0T, lt_ff, br_false]
          · obtain ⟨j, hj, hje⟩ := List.mem_iff_getElem.1 (List.mem_of_find?_eq_some hf)
            refine ⟨j, hj, ?_, by rw [hje]; exact himp p hpp⟩
            rcases Nat.lt_trichotomy i j with hlt | heq | hgt
            · exact absurd (by rw [e, hje]) (platforms_nodup h1 j hj i hlt)
            · omega
            · omega
        · rw [Clone_str kinds (by omega), bnd_some, Delete_str kinds k hkl hkm, bnd_some]
          simp only [Tools_eq hN pl hp tl hl _ hfew q hq, bnd_some]
          rw [hT, hr']
          have hL : (((toolsOnS tl (kinds.take k ++ kinds.drop (k + 1)) p'.2 q.2).2.length : Int) != IntKind.i64.wrap (((toolsOnS tl kinds p.2 q.2).2.length : Int) - 1)) = false := by
            unfold toolsOnS
            rw [hlen, hlen', wrap_id (by simp only [List.length_nil]; omega) (by simp only [List.length_nil]; omega), bne_eq_false_iff_eq]
            simp only [List.length_nil]
            omega
          rw [hL]
          simp only [bne_self_eq_false, Bool.not_true, br_false]
          exact hloop
  all_goals
    have hne : ToolsS pl tl kinds q = ([], (false, ((ToolsS pl tl kinds q).2.2.1, []))) := by
      unfold ToolsS; simp [h1, h2, h3, h4]
    rw [hne]
    by_cases hz : (ToolsS pl tl kinds q).2.2.1 = 0
    · rw [hz]; simp
    · rw [br_ne, if_pos hz, show ((ToolsS pl tl kinds q).2.2.1 == (0 : Int)) = false by simpa using hz]; simp
theorem plain_ConfigToolsFewerKinds (x : worldTy.den) (kinds : List Str) (q : Str × List (Str × Str)) (m : Int) (hx : Fit worldTy x) (hk : Fit (.sl .str) kinds) (hq : Fit (.pr .str (.sl (.pr .str .str))) q) (hm : Fit .i64 m) : ∃ N, law3_ConfigToolsFewerKinds N x kinds q m = some true :=
  ⟨big, fewer_eq (Nat.le_refl _) awake_eq x kinds q m hx hk hq hm⟩
end Go.Proofs.YtbekhaioddmliaaDoor
