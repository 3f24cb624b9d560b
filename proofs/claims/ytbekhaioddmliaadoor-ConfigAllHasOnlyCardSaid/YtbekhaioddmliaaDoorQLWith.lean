/- What With computes. No program in sight. -/
import Derived.Test.YtbekhaioddmliaaDoorQCfF7
import Derived.Test.YtbekhaioddmliaaDoorQLTexts
import Derived.Test.YtbekhaioddmliaaDoorQSlc
namespace Go.Proofs.YtbekhaioddmliaaDoor
set_option linter.unusedVariables false
set_option linter.unusedSimpArgs false
open Go Go.RowKit
variable {N : Nat}
abbrev Sets : Type := List (Str × List Str)
abbrev Cfg : Type := List (Str × Str)
theorem Clone_pair (c : Cfg) (h : c.length ≤ 1000000) : slices_Clone_api_Pair N c = some c := by
  unfold slices_Clone_api_Pair
  exact clone_eq (24 * Ty.sz (.pr .str .str)) c (by show c.length * 48 ≤ _; omega)
theorem IndexFunc_pair (hN : big ≤ N) (xs : Cfg) (hx : xs.length ≤ maxLen) (n : Str) : slices_IndexFunc_api_Pair N xs (n, ()) = some (idxP (fun x => x.1 == n) xs) := by
  unfold slices_IndexFunc_api_Pair
  refine loop_for (fun _ _ => rfl) xs hx (fun self i h r hr => ?_) (fun self => ?_) hN
  · simp only [slices_IndexFunc_api_Pair_L0T, geti_lt xs h, wrap_succ hx h, hr, bnd_some, config_with_1]
    rw [lt_tt h, br_true, br_ite]
  · simp only [slices_IndexFunc_api_Pair_L0T, lt_ff, br_false]
theorem DeleteFunc_pair (hN : big ≤ N) (c : Cfg) (hc : c.length ≤ maxLen) (n : Str) : slices_DeleteFunc_api_Pair N (n, ()) c = some (c.filter fun p => !(p.1 == n)) := by
  unfold slices_DeleteFunc_api_Pair
  rw [IndexFunc_pair hN c hc n, bnd_some]
  exact deleteFunc_eq hN hc (fun p : Str × Str => p.1 == n) (P := fun t => config_with_1 N t n) (fun _ _ => rfl) (zero (.pr .str .str)) (f := fun m a b w => slices_DeleteFunc_api_Pair_L0 N (n, ()) _ m a b w) (fun _ _ _ _ => rfl)
theorem Asc.filter {α : Type} {c : List (Str × α)} (h : Asc c) (q : Str × α → Bool) : Asc (c.filter q) := h.sublist List.filter_sublist
theorem Asc.lt_get {α : Type} {c : List (Str × α)} (h : Asc c) {a b : Nat} (ha : a < c.length) (hb : b < c.length) (hab : a < b) : c[a].1 < c[b].1 := List.pairwise_iff_getElem.1 h a b ha hb hab
theorem Binary_pair (hN : big ≤ N) (c : Cfg) (hc : c.length ≤ 1000000) (h : Asc c) (n : Str) : ∃ b, slices_BinarySearchFunc_api_Pair_string N c n () = some ((lowN (fun p : Str × Str => decide (p.1 < n)) c : Int), b) := by
  unfold slices_BinarySearchFunc_api_Pair_string
  have hC : ∀ t : Str × Str, config_with_2 N t n = some (Lib.compareBytes t.1 n) := fun t => by
    unfold config_with_2
    rw [show strings_Compare t.1 n = some (Lib.compareBytes t.1 n) from rfl, bnd_some]
  have := bin_loop (R := Int × Bool) hc (fun p : Str × Str => decide (p.1 < n)) (C := fun t => config_with_2 N t n) (fun t _ => ⟨_, hC t, cmp_lt _ _⟩)
    (fun a b ha hb hab hl => by
      rcases Nat.eq_or_lt_of_le hab with e | e
      · subst e; exact hl
      · exact decide_eq_true (List.lt_trans (h.lt_get ha hb e) (of_decide_eq_true hl)))
    (k0 := fun o0_9 =>
      br (decide (o0_9 < (c.length : Int)))
        (bnd (geti c o0_9) fun t43 =>
        bnd (config_with_2 N t43 n) fun t46 =>
        some (o0_9, t46 == (0 : Int)))
        (some (o0_9, false))) (f := fun m a b => slices_BinarySearchFunc_api_Pair_string_L0 N c n _ m a b) (fun _ _ _ => rfl) c.length N 0 c.length (by omega) (by unfold big at hN; omega) (Nat.zero_le _) (Nat.le_refl _) (fun k _ hk => absurd hk (Nat.not_lt_zero k)) (fun k hk hk2 => by omega)
  have e : ((0 : Nat) : Int) = 0 := rfl
  rw [e] at this
  rw [this]
  rcases Nat.lt_or_ge (lowN (fun p : Str × Str => decide (p.1 < n)) c) c.length with hlt | hge
  · exact ⟨_, by rw [br_pos (by omega), geti_lt c hlt, bnd_some, hC, bnd_some]⟩
  · exact ⟨_, by rw [br_neg (by omega)]⟩
theorem lowN_lt {α : Type} (lt : α → Bool) (xs : List α) : ∀ x ∈ xs.take (lowN lt xs), lt x = true := by
  have e : xs.take (lowN lt xs) = xs.takeWhile lt := by
    induction xs with
    | nil => rfl
    | cons x xs ih =>
      unfold lowN at ih ⊢
      cases h : lt x with
      | true => rw [List.takeWhile_cons_of_pos h, List.length_cons, List.take_succ_cons, ih]
      | false => rw [List.takeWhile_cons_of_neg (by simp [h])]; rfl
  rw [e]
  intro x hx
  exact List.all_eq_true.1 List.all_takeWhile x hx
theorem lowN_ge {c : Cfg} (h : Asc c) (n : Str) : ∀ x ∈ c.drop (lowN (fun p : Str × Str => decide (p.1 < n)) c), ¬ x.1 < n := by
  induction c with
  | nil => intro x hx; simp at hx
  | cons y c ih =>
    have hy := List.pairwise_cons.1 h
    intro x hx
    unfold lowN at hx ih
    by_cases hl : y.1 < n
    · rw [List.takeWhile_cons_of_pos (by simpa using hl), List.length_cons, List.drop_succ_cons] at hx
      exact ih hy.2 x hx
    · rw [List.takeWhile_cons_of_neg (by simpa using hl)] at hx
      rcases List.mem_cons.1 hx with rfl | hx
      · exact hl
      · intro hxn
        exact hl (List.lt_trans (hy.1 x hx) hxn)
/-- The configuration in which a setting has a value: taken out, and put in again. -/
def withI (c : Cfg) (s : Str × List Str) (v : Str) : Cfg :=
  let out := c.filter fun p => !(p.1 == s.1)
  if v == s.2.headD [] then out else out.take (lowN (fun p : Str × Str => decide (p.1 < s.1)) out) ++ [(s.1, v)] ++ out.drop (lowN (fun p : Str × Str => decide (p.1 < s.1)) out)
theorem mem_filter_ne {c : Cfg} {n : Str} {p : Str × Str} : p ∈ c.filter (fun p => !(p.1 == n)) ↔ p ∈ c ∧ p.1 ≠ n := by
  rw [List.mem_filter]
  simp
theorem mem_withI {c : Cfg} {s : Str × List Str} {v : Str} {p : Str × Str} : p ∈ withI c s v ↔ (p ∈ c ∧ p.1 ≠ s.1) ∨ (p = (s.1, v) ∧ v ≠ s.2.headD []) := by
  unfold withI
  by_cases h : (v == s.2.headD []) = true
  · simp only [h, if_true]
    rw [mem_filter_ne]
    have : v = s.2.headD [] := eq_of_beq h
    simp [this]
  · have hne : v ≠ s.2.headD [] := fun e => h (by rw [e]; simp)
    simp only [h]
    generalize lowN _ _ = k
    have e : ∀ q : Str × Str, q ∈ (c.filter fun p => !(p.1 == s.1)).take k ∨ q ∈ (c.filter fun p => !(p.1 == s.1)).drop k ↔ q ∈ c.filter fun p => !(p.1 == s.1) := fun q => by
      rw [← List.mem_append, List.take_append_drop]
    rw [if_neg (by simp), List.mem_append, List.mem_append, List.mem_singleton, ← mem_filter_ne, ← e]
    constructor
    · rintro ((h1 | h1) | h1)
      · exact .inl (.inl h1)
      · exact .inr ⟨h1, hne⟩
      · exact .inl (.inr h1)
    · rintro ((h1 | h1) | ⟨h1, _⟩)
      · exact .inl (.inl h1)
      · exact .inr h1
      · exact .inl (.inr h1)
theorem asc_withI {c : Cfg} (h : Asc c) (s : Str × List Str) (v : Str) : Asc (withI c s v) := by
  unfold withI
  have ho := h.filter fun p => !(p.1 == s.1)
  by_cases hv : (v == s.2.headD []) = true
  · simp only [hv, if_true]; exact ho
  · simp only [hv]
    rw [if_neg (by simp)]
    have hlow := lowN_lt (fun p : Str × Str => decide (p.1 < s.1)) (c.filter fun p => !(p.1 == s.1))
    have hge := lowN_ge ho s.1
    generalize lowN _ _ = k at hlow hge
    have hpw : Asc ((c.filter fun p => !(p.1 == s.1)).take k ++ (c.filter fun p => !(p.1 == s.1)).drop k) := by rw [List.take_append_drop]; exact ho
    have hpw := List.pairwise_append.1 hpw
    refine List.pairwise_append.2 ⟨List.pairwise_append.2 ⟨hpw.1, List.pairwise_singleton _ _, fun a ha b hb => ?_⟩, hpw.2.1, fun a ha b hb => ?_⟩
    · rw [List.mem_singleton.1 hb]; exact of_decide_eq_true (hlow a ha)
    · have hbn : b.1 ≠ s.1 := (mem_filter_ne.1 (List.mem_of_mem_drop hb)).2
      have hsb : s.1 < b.1 := by
        rcases lt_tri s.1 b.1 with h1 | h1 | h1
        · exact h1
        · exact absurd h1.symm hbn
        · exact absurd h1 (hge b hb)
      rcases List.mem_append.1 ha with ha | ha
      · exact hpw.2.2 a ha b hb
      · rw [List.mem_singleton.1 ha]; exact hsb
theorem with_eq (hN : big ≤ N) (l : Sets) (hl : Fit settingTy l) (c : Cfg) (ok : CfgOk l c) (s : Str × List Str) (hs : l.find? (fun x => x.1 == s.1) = some s) (v : Str) : config_with N l c s.1 v = some (withI c s v) := by
  have hc : c.length ≤ 30 := ok.len
  have hm := (find_mem hs).1
  unfold config_with withI
  rw [Clone_pair c (by omega), bnd_some, DeleteFunc_pair hN c (Nat.le_trans hc (by decide)), bnd_some, find_eq hN l hl.1]
  obtain ⟨i, x, h1, h2, h3, h4⟩ : ∃ (i : Nat) (x : Str × List Str), l.find? (fun x => x.1 == s.1) = some x ∧ l[i]? = some x ∧ (x.1 == s.1) = true ∧ idxP (fun x : Str × List Str => x.1 == s.1) l = (i : Int) := by
    rcases idxP_cases (fun x : Str × List Str => x.1 == s.1) l with ⟨h1, _⟩ | ⟨i, x, h1, h2, h3, h4⟩
    · rw [hs] at h1; cases h1
    · exact ⟨i, x, h1, h2, h3, h4⟩
  obtain rfl : s = x := Option.some.inj (hs.symm.trans h1)
  obtain ⟨a, t, hat⟩ : ∃ a t, s.2 = a :: t := by
    cases hq : s.2 with
    | nil => exact absurd hq (ok.set.some s hm)
    | cons a t => exact ⟨a, t, rfl⟩
  rw [h4, bnd_some, geti_nat, h2, bnd_some, hat, geti_zero, List.getElem?_cons_zero, bnd_some, br_eq_ite]
  simp only [List.headD_cons]
  have hle := List.length_filter_le (fun p : Str × Str => !(p.1 == s.1)) c
  by_cases hv : v = a
  · subst hv
    simp only [beq_self_eq_true, if_true]
  · obtain ⟨b, hb⟩ := Binary_pair hN (c.filter fun p => !(p.1 == s.1)) (by omega) (ok.asc.filter _) s.1
    have hlow := lowN_le (fun p : Str × Str => decide (p.1 < s.1)) (c.filter fun p => !(p.1 == s.1))
    simp only [beq_iff_eq, hv, if_false]
    rw [hb, bnd_some]
    unfold slices_Insert_pair
    rw [if_pos ⟨by omega, by omega, rfl, by show (_ + 1) * 48 ≤ _; omega⟩, bnd_some, Int.toNat_natCast]
/-- The same, made anew of the settings. -/
def wU (l : Sets) (c : Cfg) (n v : Str) (s : Str × List Str) : Str := if s.1 == n then v else valueS l c s.1
def wE (l : Sets) (c : Cfg) (n v : Str) (s : Str × List Str) : Option (Str × Str) := if wU l c n v s == s.2.headD [] then none else some (s.1, wU l c n v s)
def withS (l : Sets) (c : Cfg) (n v : Str) : Cfg := l.filterMap (wE l c n v)
theorem wE_some {l : Sets} {c : Cfg} {n v : Str} {s : Str × List Str} {p : Str × Str} (h : wE l c n v s = some p) : p = (s.1, wU l c n v s) ∧ wU l c n v s ≠ s.2.headD [] := by
  unfold wE at h
  split at h
  · cases h
  · rename_i hv
    exact ⟨(Option.some.inj h).symm, fun e => hv (by rw [e]; simp)⟩
theorem wE_of {l : Sets} {c : Cfg} {n v : Str} {s : Str × List Str} (h : wU l c n v s ≠ s.2.headD []) : wE l c n v s = some (s.1, wU l c n v s) := by
  unfold wE
  rw [if_neg (fun e => h (eq_of_beq e))]
theorem wU_eq {l : Sets} {c : Cfg} {n v : Str} {s : Str × List Str} (h : s.1 = n) : wU l c n v s = v := by unfold wU; simp [h]
theorem wU_ne {l : Sets} {c : Cfg} {n v : Str} {s : Str × List Str} (h : s.1 ≠ n) : wU l c n v s = valueS l c s.1 := by unfold wU; simp [h]
theorem val_in {l : Sets} {c : Cfg} (h : Asc c) {p : Str × Str} (hp : p ∈ c) : valueS l c p.1 = p.2 := by
  unfold valueS findF
  rw [h.find hp]
theorem val_out {l : Sets} (hl : SetOk l) {c : Cfg} {s : Str × List Str} (hs : s ∈ l) (h : ∀ p ∈ c, p.1 ≠ s.1) : valueS l c s.1 = s.2.headD [] := by
  unfold valueS findF
  have : c.find? (fun p => p.1 == s.1) = none := List.find?_eq_none.2 fun p hp => by simpa using h p hp
  rw [this, hl.asc.find hs]
theorem PairOk.strict {l : Sets} {p : Str × Str} (h : PairOk l true p) (hl : SetOk l) : ∃ s ∈ l, s.1 = p.1 ∧ p.2 ∈ s.2 ∧ p.2 ≠ s.2.headD [] := by
  obtain ⟨s, h1, h2, h3⟩ := h
  obtain ⟨hm, hn⟩ := find_mem h1
  refine ⟨s, hm, hn, h2, fun e => h3 rfl ?_⟩
  rw [e]
  cases hq : s.2 with
  | nil => exact absurd hq (hl.some s hm)
  | cons a t => rfl
theorem mem_withS {l : Sets} {c : Cfg} (ok : CfgOk l c) {s : Str × List Str} (hs : s ∈ l) {v : Str} {p : Str × Str} : p ∈ withS l c s.1 v ↔ (p ∈ c ∧ p.1 ≠ s.1) ∨ (p = (s.1, v) ∧ v ≠ s.2.headD []) := by
  unfold withS
  rw [List.mem_filterMap]
  constructor
  · rintro ⟨t, ht, he⟩
    obtain ⟨rfl, hv⟩ := wE_some he
    by_cases hn : t.1 = s.1
    · have hts : t = s := ok.set.asc.inj ht hs hn
      subst hts
      rw [wU_eq rfl] at hv ⊢
      exact .inr ⟨rfl, hv⟩
    · rw [wU_ne hn] at hv ⊢
      left
      rcases Classical.em (∃ q ∈ c, q.1 = t.1) with ⟨q, hq, hqt⟩ | hno
      · have := val_in (l := l) ok.asc hq
        rw [hqt] at this
        rw [this]
        exact ⟨by rw [← hqt]; exact hq, hn⟩
      · exact absurd (val_out ok.set ht (fun q hq e => hno ⟨q, hq, e⟩)) hv
  · rintro (⟨hp, hn⟩ | ⟨rfl, hv⟩)
    · obtain ⟨t, ht, htn, _, hne⟩ := (ok.pair p hp).strict ok.set
      have hval : valueS l c t.1 = p.2 := by rw [htn]; exact val_in ok.asc hp
      have hu : wU l c s.1 v t = p.2 := by rw [wU_ne (by rw [htn]; exact hn), hval]
      exact ⟨t, ht, by rw [wE_of (by rw [hu]; exact hne), hu, htn]⟩
    · exact ⟨s, hs, by rw [wE_of (by rw [wU_eq rfl]; exact hv), wU_eq rfl]⟩
theorem asc_withS {l : Sets} (hl : SetOk l) (c : Cfg) (n v : Str) : Asc (withS l c n v) := by
  unfold withS
  refine List.Pairwise.filterMap _ (fun a a' haa b hb b' hb' => ?_) hl.asc
  rw [(wE_some hb).1, (wE_some hb').1]; exact haa
theorem withI_eq {l : Sets} {c : Cfg} (ok : CfgOk l c) {s : Str × List Str} (hs : s ∈ l) (v : Str) : withI c s v = withS l c s.1 v :=
  Asc.ext (asc_withI ok.asc s v) (asc_withS ok.set c s.1 v) fun p => by rw [mem_withI, mem_withS ok hs]
theorem with_ok {l : Sets} {c : Cfg} (ok : CfgOk l c) {s : Str × List Str} (hs : s ∈ l) {v : Str} (hv : v ∈ s.2) : CfgOk l (withS l c s.1 v) := by
  refine ⟨ok.set, fun p hp => ?_, asc_withS ok.set c s.1 v⟩
  rcases (mem_withS ok hs).1 hp with ⟨h1, _⟩ | ⟨rfl, h2⟩
  · exact ok.pair p h1
  · refine ⟨s, ok.set.asc.find hs, hv, fun _ e => h2 ?_⟩
    cases hq : s.2 with
    | nil => exact absurd hq (ok.set.some s hs)
    | cons a t => rw [hq] at e; exact (Option.some.inj e).symm
theorem with_val {l : Sets} {c : Cfg} (ok : CfgOk l c) {s : Str × List Str} (hs : s ∈ l) {v : Str} (hv : v ∈ s.2) {t : Str × List Str} (ht : t ∈ l) : valueS l (withS l c s.1 v) t.1 = if t.1 == s.1 then v else valueS l c t.1 := by
  have ok' := with_ok ok hs hv
  by_cases hn : t.1 = s.1
  · obtain rfl := ok.set.asc.inj ht hs hn
    rw [if_pos (beq_self_eq_true _)]
    rcases Classical.em (v = t.2.headD []) with e | e
    · rw [e]
      refine val_out ok.set ht fun p hp hpn => ?_
      rcases (mem_withS ok ht).1 hp with ⟨_, h2⟩ | ⟨_, h2⟩
      · exact h2 hpn
      · exact h2 rfl
    · exact val_in (p := (t.1, v)) ok'.asc ((mem_withS ok ht).2 (.inr ⟨rfl, e⟩))
  · rw [if_neg (by simpa using hn)]
    rcases Classical.em (∃ q ∈ c, q.1 = t.1) with ⟨q, hq, hqt⟩ | hno
    · have h1 := val_in (l := l) ok'.asc ((mem_withS ok hs (v := v)).2 (.inl ⟨hq, by rw [hqt]; exact hn⟩))
      have h2 := val_in (l := l) ok.asc hq
      rw [hqt] at h1 h2
      rw [h1, h2]
    · rw [val_out ok.set ht (fun q hq e => hno ⟨q, hq, e⟩)]
      refine val_out ok.set ht fun p hp hpn => ?_
      rcases (mem_withS ok hs).1 hp with ⟨h1, _⟩ | ⟨rfl, _⟩
      · exact hno ⟨p, h1, hpn⟩
      · exact hn hpn.symm
end Go.Proofs.YtbekhaioddmliaaDoor
