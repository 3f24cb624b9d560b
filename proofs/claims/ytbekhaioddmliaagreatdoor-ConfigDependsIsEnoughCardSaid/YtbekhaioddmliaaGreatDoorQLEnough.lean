/- What With computes. No program in sight. -/
import Derived.Test.YtbekhaioddmliaaGreatDoorQLChecks
import Derived.Test.YtbekhaioddmliaaGreatDoorQLTexts
import Derived.Test.YtbekhaioddmliaaGreatDoorQSlc
import Derived.Test.YtbekhaioddmliaaGreatDoorRows
namespace Go.Proofs.YtbekhaioddmliaaGreatDoor
set_option linter.unusedVariables false
set_option linter.unusedSimpArgs false
open Go Go.RowKit
variable {N : Nat}
abbrev Sets : Type := List (Str × List Str)
abbrev Cfg : Type := List (Str × Str)
theorem Clone_pair (c : Cfg) (h : c.length ≤ 1000000) : slices_Clone_api_Pair N c = some c := by
 unfold slices_Clone_api_Pair
 exact clone_eq (24 * Ty.sz (.pr .str .str)) c (by show c.length * 48 ≤ _; omega)
theorem IndexFunc_pair (hN : big ≤ N) (xs : Cfg) (hx : xs.length ≤ maxLen) (n : Str) : slices_IndexFunc_api_Pair N xs (n, ()) = some (idxP (fun x => x.1 == n) xs) := by
 unfold slices_IndexFunc_api_Pair
 refine loop_for (fun _ _ => rfl) xs hx (fun self i h r hr => ?_) (fun self => ?_) hN
 · simp only [z23L0T, geti_lt xs h, wrap_succ hx h, hr, bnd_some, config_with_1]
   rw [lt_tt h, br_true, br_ite]
 · simp only [z23L0T, lt_ff, br_false]
theorem DeleteFunc_pair (hN : big ≤ N) (c : Cfg) (hc : c.length ≤ maxLen) (n : Str) : slices_DeleteFunc_api_Pair N (n, ()) c = some (c.filter fun p => !(p.1 == n)) := by
 unfold slices_DeleteFunc_api_Pair
 rw [IndexFunc_pair hN c hc n, bnd_some]
 exact deleteFunc_eq hN hc (fun p : Str × Str => p.1 == n) (P := fun t => config_with_1 N t n) (fun _ _ => rfl) (zero (.pr .str .str)) (f := fun m a b w => z17L0 N (n, ()) _ m a b w) (fun _ _ _ _ => rfl)
theorem Asc.filter {α : Type} {c : List (Str × α)} (h : Asc c) (q : Str × α → Bool) : Asc (c.filter q) := h.sublist List.filter_sublist
theorem Asc.lt_get {α : Type} {c : List (Str × α)} (h : Asc c) {a b : Nat} (ha : a < c.length) (hb : b < c.length) (hab : a < b) : c[a].1 < c[b].1 := List.pairwise_iff_getElem.1 h a b ha hb hab
theorem Binary_pair (hN : big ≤ N) (c : Cfg) (hc : c.length ≤ 1000000) (h : Asc c) (n : Str) : ∃ b, slices_BinarySearchFunc_api_Pair_string N c n () = some ((lowN (fun p : Str × Str => decide (p.1 < n)) c : Int), b) := by
 unfold slices_BinarySearchFunc_api_Pair_string
 have hC : ∀ t : Str × Str, config_with_2 N t n = some (Lib.compareBytes t.1 n) := fun t => by
   unfold config_with_2
   rw [show strings_Compare t.1 n = some (Lib.compareBytes t.1 n) from rfl, bnd_some]
 have := bin_loop (R := Int × Bool) hc (fun p : Str × Str => decide (p.1 < n)) (C := fun t => config_with_2 N t n) (fun t _ => ⟨_, hC t, cmp_lt _ _⟩)
   (fun a b ha hb hab hl => by
     rcases Nat.eq_or_lt_of_le hab with e | e
     · subst e; exact hl
     · exact decide_eq_true (List.lt_trans (h.lt_get ha hb e) (of_decide_eq_true hl)))
   (k0 := fun o0_9 =>
     br (decide (o0_9 < (c.length : Int)))
       (bnd (geti c o0_9) fun t43 =>
       bnd (config_with_2 N t43 n) fun t46 =>
       some (o0_9, t46 == (0 : Int)))
       (some (o0_9, false))) (f := fun m a b => z1L0 N c n _ m a b) (fun _ _ _ => rfl) c.length N 0 c.length (by omega) (by unfold big at hN; omega) (Nat.zero_le _) (Nat.le_refl _) (fun k _ hk => absurd hk (Nat.not_lt_zero k)) (fun k hk hk2 => by omega)
 have e : ((0 : Nat) : Int) = 0 := rfl
 rw [e] at this
 rw [this]
 rcases Nat.lt_or_ge (lowN (fun p : Str × Str => decide (p.1 < n)) c) c.length with hlt | hge
 · exact ⟨_, by rw [br_pos (by omega), geti_lt c hlt, bnd_some, hC, bnd_some]⟩
 · exact ⟨_, by rw [br_neg (by omega)]⟩
theorem lowN_lt {α : Type} (lt : α → Bool) (xs : List α) : ∀ x ∈ xs.take (lowN lt xs), lt x = true := by
 have e : xs.take (lowN lt xs) = xs.takeWhile lt := by
   induction xs with
   | nil => rfl
   | cons x xs ih =>
     unfold lowN at ih ⊢
     cases h : lt x with
     | true => rw [List.takeWhile_cons_of_pos h, List.length_cons, List.take_succ_cons, ih]
     | false => rw [List.takeWhile_cons_of_neg (by simp [h])]; rfl
 rw [e]
 intro x hx
 exact List.all_eq_true.1 List.all_takeWhile x hx
theorem lowN_ge {c : Cfg} (h : Asc c) (n : Str) : ∀ x ∈ c.drop (lowN (fun p : Str × Str => decide (p.1 < n)) c), ¬ x.1 < n := by
 induction c with
 | nil => intro x hx; simp at hx
 | cons y c ih =>
   have hy := List.pairwise_cons.1 h
   intro x hx
   unfold lowN at hx ih
   by_cases hl : y.1 < n
   · rw [List.takeWhile_cons_of_pos (by simpa using hl), List.length_cons, List.drop_succ_cons] at hx
     exact ih hy.2 x hx
   · rw [List.takeWhile_cons_of_neg (by simpa using hl)] at hx
     rcases List.mem_cons.1 hx with rfl | hx
     · exact hl
     · intro hxn
       exact hl (List.lt_trans (hy.1 x hx) hxn)
def withI (c : Cfg) (s : Str × List Str) (v : Str) : Cfg :=
 let out := c.filter fun p => !(p.1 == s.1)
 if v == s.2.headD [] then out else out.take (lowN (fun p : Str × Str => decide (p.1 < s.1)) out) ++ [(s.1, v)] ++ out.drop (lowN (fun p : Str × Str => decide (p.1 < s.1)) out)
theorem mem_filter_ne {c : Cfg} {n : Str} {p : Str × Str} : p ∈ c.filter (fun p => !(p.1 == n)) ↔ p ∈ c ∧ p.1 ≠ n := by
 rw [List.mem_filter]
 simp
theorem mem_withI {c : Cfg} {s : Str × List Str} {v : Str} {p : Str × Str} : p ∈ withI c s v ↔ (p ∈ c ∧ p.1 ≠ s.1) ∨ (p = (s.1, v) ∧ v ≠ s.2.headD []) := by
 unfold withI
 by_cases h : (v == s.2.headD []) = true
 · simp only [h, if_true]
   rw [mem_filter_ne]
   have : v = s.2.headD [] := eq_of_beq h
   simp [this]
 · have hne : v ≠ s.2.headD [] := fun e => h (by rw [e]; simp)
   simp only [h]
   generalize lowN _ _ = k
   have e : ∀ q : Str × Str, q ∈ (c.filter fun p => !(p.1 == s.1)).take k ∨ q ∈ (c.filter fun p => !(p.1 == s.1)).drop k ↔ q ∈ c.filter fun p => !(p.1 == s.1) := fun q => by
     rw [← List.mem_append, List.take_append_drop]
   rw [if_neg (by simp), List.mem_append, List.mem_append, List.mem_singleton, ← mem_filter_ne, ← e]
   constructor
   · rintro ((h1 | h1) | h1)
     · exact .inl (.inl h1)
     · exact .inr ⟨h1, hne⟩
     · exact .inl (.inr h1)
   · rintro ((h1 | h1) | ⟨h1, _⟩)
     · exact .inl (.inl h1)
     · exact .inr h1
     · exact .inl (.inr h1)
theorem asc_withI {c : Cfg} (h : Asc c) (s : Str × List Str) (v : Str) : Asc (withI c s v) := by
 unfold withI
 have ho := h.filter fun p => !(p.1 == s.1)
 by_cases hv : (v == s.2.headD []) = true
 · simp only [hv, if_true]; exact ho
 · simp only [hv]
   rw [if_neg (by simp)]
   have hlow := lowN_lt (fun p : Str × Str => decide (p.1 < s.1)) (c.filter fun p => !(p.1 == s.1))
   have hge := lowN_ge ho s.1
   generalize lowN _ _ = k at hlow hge
   have hpw : Asc ((c.filter fun p => !(p.1 == s.1)).take k ++ (c.filter fun p => !(p.1 == s.1)).drop k) := by rw [List.take_append_drop]; exact ho
   have hpw := List.pairwise_append.1 hpw
   refine List.pairwise_append.2 ⟨List.pairwise_append.2 ⟨hpw.1, List.pairwise_singleton _ _, fun a ha b hb => ?_⟩, hpw.2.1, fun a ha b hb => ?_⟩
   · rw [List.mem_singleton.1 hb]; exact of_decide_eq_true (hlow a ha)
   · have hbn : b.1 ≠ s.1 := (mem_filter_ne.1 (List.mem_of_mem_drop hb)).2
     have hsb : s.1 < b.1 := by
       rcases lt_tri s.1 b.1 with h1 | h1 | h1
       · exact h1
       · exact absurd h1.symm hbn
       · exact absurd h1 (hge b hb)
     rcases List.mem_append.1 ha with ha | ha
     · exact hpw.2.2 a ha b hb
     · rw [List.mem_singleton.1 ha]; exact hsb
theorem with_eq (hN : big ≤ N) (l : Sets) (hl : Fit settingTy l) (c : Cfg) (ok : CfgOk l c) (s : Str × List Str) (hs : l.find? (fun x => x.1 == s.1) = some s) (v : Str) : config_with N l c s.1 v = some (withI c s v) := by
 have hc : c.length ≤ 30 := ok.len
 have hm := (find_mem hs).1
 unfold config_with withI
 rw [Clone_pair c (by omega), bnd_some, DeleteFunc_pair hN c (Nat.le_trans hc (by decide)), bnd_some, find_eq hN l hl.1]
 obtain ⟨i, x, h1, h2, h3, h4⟩ : ∃ (i : Nat) (x : Str × List Str), l.find? (fun x => x.1 == s.1) = some x ∧ l[i]? = some x ∧ (x.1 == s.1) = true ∧ idxP (fun x : Str × List Str => x.1 == s.1) l = (i : Int) := by
   rcases idxP_cases (fun x : Str × List Str => x.1 == s.1) l with ⟨h1, _⟩ | ⟨i, x, h1, h2, h3, h4⟩
   · rw [hs] at h1; cases h1
   · exact ⟨i, x, h1, h2, h3, h4⟩
 obtain rfl : s = x := Option.some.inj (hs.symm.trans h1)
 obtain ⟨a, t, hat⟩ : ∃ a t, s.2 = a :: t := by
   cases hq : s.2 with
   | nil => exact absurd hq (ok.set.some s hm)
   | cons a t => exact ⟨a, t, rfl⟩
 rw [h4, bnd_some, geti_nat, h2, bnd_some, hat, geti_zero, List.getElem?_cons_zero, bnd_some, br_eq_ite]
 simp only [List.headD_cons]
 have hle := List.length_filter_le (fun p : Str × Str => !(p.1 == s.1)) c
 by_cases hv : v = a
 · subst hv
   simp only [beq_self_eq_true, if_true]
 · obtain ⟨b, hb⟩ := Binary_pair hN (c.filter fun p => !(p.1 == s.1)) (by omega) (ok.asc.filter _) s.1
   have hlow := lowN_le (fun p : Str × Str => decide (p.1 < s.1)) (c.filter fun p => !(p.1 == s.1))
   simp only [beq_iff_eq, hv, if_false]
   rw [hb, bnd_some]
   unfold slices_Insert_pair
   rw [if_pos ⟨by omega, by omega, rfl, by show (_ + 1) * 48 ≤ _; omega⟩, bnd_some, Int.toNat_natCast]
def wU (l : Sets) (c : Cfg) (n v : Str) (s : Str × List Str) : Str := if s.1 == n then v else valueS l c s.1
def wE (l : Sets) (c : Cfg) (n v : Str) (s : Str × List Str) : Option (Str × Str) := if wU l c n v s == s.2.headD [] then none else some (s.1, wU l c n v s)
def withS (l : Sets) (c : Cfg) (n v : Str) : Cfg := l.filterMap (wE l c n v)
theorem wE_some {l : Sets} {c : Cfg} {n v : Str} {s : Str × List Str} {p : Str × Str} (h : wE l c n v s = some p) : p = (s.1, wU l c n v s) ∧ wU l c n v s ≠ s.2.headD [] := by
 unfold wE at h
 split at h
 · cases h
 · rename_i hv
   exact ⟨(Option.some.inj h).symm, fun e => hv (by rw [e]; simp)⟩
theorem wE_of {l : Sets} {c : Cfg} {n v : Str} {s : Str × List Str} (h : wU l c n v s ≠ s.2.headD []) : wE l c n v s = some (s.1, wU l c n v s) := by
 unfold wE
 rw [if_neg (fun e => h (eq_of_beq e))]
theorem wU_eq {l : Sets} {c : Cfg} {n v : Str} {s : Str × List Str} (h : s.1 = n) : wU l c n v s = v := by unfold wU; simp [h]
theorem wU_ne {l : Sets} {c : Cfg} {n v : Str} {s : Str × List Str} (h : s.1 ≠ n) : wU l c n v s = valueS l c s.1 := by unfold wU; simp [h]
theorem val_in {l : Sets} {c : Cfg} (h : Asc c) {p : Str × Str} (hp : p ∈ c) : valueS l c p.1 = p.2 := by
 unfold valueS findF
 rw [h.find hp]
theorem val_out {l : Sets} (hl : SetOk l) {c : Cfg} {s : Str × List Str} (hs : s ∈ l) (h : ∀ p ∈ c, p.1 ≠ s.1) : valueS l c s.1 = s.2.headD [] := by
 unfold valueS findF
 have : c.find? (fun p => p.1 == s.1) = none := List.find?_eq_none.2 fun p hp => by simpa using h p hp
 rw [this, hl.asc.find hs]
theorem PairOk.strict {l : Sets} {p : Str × Str} (h : PairOk l true p) (hl : SetOk l) : ∃ s ∈ l, s.1 = p.1 ∧ p.2 ∈ s.2 ∧ p.2 ≠ s.2.headD [] := by
 obtain ⟨s, h1, h2, h3⟩ := h
 obtain ⟨hm, hn⟩ := find_mem h1
 refine ⟨s, hm, hn, h2, fun e => h3 rfl ?_⟩
 rw [e]
 cases hq : s.2 with
 | nil => exact absurd hq (hl.some s hm)
 | cons a t => rfl
theorem mem_withS {l : Sets} {c : Cfg} (ok : CfgOk l c) {s : Str × List Str} (hs : s ∈ l) {v : Str} {p : Str × Str} : p ∈ withS l c s.1 v ↔ (p ∈ c ∧ p.1 ≠ s.1) ∨ (p = (s.1, v) ∧ v ≠ s.2.headD []) := by
 unfold withS
 rw [List.mem_filterMap]
 constructor
 · rintro ⟨t, ht, he⟩
   obtain ⟨rfl, hv⟩ := wE_some he
   by_cases hn : t.1 = s.1
   · have hts : t = s := ok.set.asc.inj ht hs hn
     subst hts
     rw [wU_eq rfl] at hv ⊢
     exact .inr ⟨rfl, hv⟩
   · rw [wU_ne hn] at hv ⊢
     left
     rcases Classical.em (∃ q ∈ c, q.1 = t.1) with ⟨q, hq, hqt⟩ | hno
     · have := val_in (l := l) ok.asc hq
       rw [hqt] at this
       rw [this]
       exact ⟨by rw [← hqt]; exact hq, hn⟩
     · exact absurd (val_out ok.set ht (fun q hq e => hno ⟨q, hq, e⟩)) hv
 · rintro (⟨hp, hn⟩ | ⟨rfl, hv⟩)
   · obtain ⟨t, ht, htn, _, hne⟩ := (ok.pair p hp).strict ok.set
     have hval : valueS l c t.1 = p.2 := by rw [htn]; exact val_in ok.asc hp
     have hu : wU l c s.1 v t = p.2 := by rw [wU_ne (by rw [htn]; exact hn), hval]
     exact ⟨t, ht, by rw [wE_of (by rw [hu]; exact hne), hu, htn]⟩
   · exact ⟨s, hs, by rw [wE_of (by rw [wU_eq rfl]; exact hv), wU_eq rfl]⟩
theorem asc_withS {l : Sets} (hl : SetOk l) (c : Cfg) (n v : Str) : Asc (withS l c n v) := by
 unfold withS
 refine List.Pairwise.filterMap _ (fun a a' haa b hb b' hb' => ?_) hl.asc
 rw [(wE_some hb).1, (wE_some hb').1]; exact haa
theorem withI_eq {l : Sets} {c : Cfg} (ok : CfgOk l c) {s : Str × List Str} (hs : s ∈ l) (v : Str) : withI c s v = withS l c s.1 v :=
 Asc.ext (asc_withI ok.asc s v) (asc_withS ok.set c s.1 v) fun p => by rw [mem_withI, mem_withS ok hs]
theorem with_ok {l : Sets} {c : Cfg} (ok : CfgOk l c) {s : Str × List Str} (hs : s ∈ l) {v : Str} (hv : v ∈ s.2) : CfgOk l (withS l c s.1 v) := by
 refine ⟨ok.set, fun p hp => ?_, asc_withS ok.set c s.1 v⟩
 rcases (mem_withS ok hs).1 hp with ⟨h1, _⟩ | ⟨rfl, h2⟩
 · exact ok.pair p h1
 · refine ⟨s, ok.set.asc.find hs, hv, fun _ e => h2 ?_⟩
   cases hq : s.2 with
   | nil => exact absurd hq (ok.set.some s hs)
   | cons a t => rw [hq] at e; exact (Option.some.inj e).symm
theorem with_val {l : Sets} {c : Cfg} (ok : CfgOk l c) {s : Str × List Str} (hs : s ∈ l) {v : Str} (hv : v ∈ s.2) {t : Str × List Str} (ht : t ∈ l) : valueS l (withS l c s.1 v) t.1 = if t.1 == s.1 then v else valueS l c t.1 := by
 have ok' := with_ok ok hs hv
 by_cases hn : t.1 = s.1
 · obtain rfl := ok.set.asc.inj ht hs hn
   rw [if_pos (beq_self_eq_true _)]
   rcases Classical.em (v = t.2.headD []) with e | e
   · rw [e]
     refine val_out ok.set ht fun p hp hpn => ?_
     rcases (mem_withS ok ht).1 hp with ⟨_, h2⟩ | ⟨_, h2⟩
     · exact h2 hpn
     · exact h2 rfl
   · exact val_in (p := (t.1, v)) ok'.asc ((mem_withS ok ht).2 (.inr ⟨rfl, e⟩))
 · rw [if_neg (by simpa using hn)]
   rcases Classical.em (∃ q ∈ c, q.1 = t.1) with ⟨q, hq, hqt⟩ | hno
   · have h1 := val_in (l := l) ok'.asc ((mem_withS ok hs (v := v)).2 (.inl ⟨hq, by rw [hqt]; exact hn⟩))
     have h2 := val_in (l := l) ok.asc hq
     rw [hqt] at h1 h2
     rw [h1, h2]
   · rw [val_out ok.set ht (fun q hq e => hno ⟨q, hq, e⟩)]
     refine val_out ok.set ht fun p hp hpn => ?_
     rcases (mem_withS ok hs).1 hp with ⟨h1, _⟩ | ⟨rfl, _⟩
     · exact hno ⟨p, h1, hpn⟩
     · exact hn hpn.symm
def WithS (l : Sets) (c : Cfg) (n v : Str) : Cfg × Int := if configS l c ≠ 0 then ([], configS l c) else match l.find? (fun s => s.1 == n) with
 | none => ([], 5)
 | some s => if v ∈ s.2 then (withS l c n v, 0) else ([], 1)
theorem With_eq (hN : big ≤ N) (l : Sets) (hl : Fit settingTy l) (c : Cfg) (hc : c.length ≤ maxLen) (n v : Str) : config_With N l c n v = some (WithS l c n v) := by
 unfold config_With WithS
 rw [checkConfig_eq hN l hl c hc, bnd_some, br_ne]
 by_cases h : configS l c = 0
 · rw [if_neg (by simpa using h), if_neg (by simpa using h)]
   have ok := (config_iff l c).1 h
   rw [find_eq hN l hl.1, bnd_some]
   rcases idxP_cases (fun s : Str × List Str => s.1 == n) l with ⟨h1, h2⟩ | ⟨i, s, h1, h2, h3, h4⟩
   · rw [h2, h1]; simp
   · have hm := List.mem_of_getElem? h2
     have hn : s.1 = n := eq_of_beq h3
     rw [h4, h1, br_neg (by omega), geti_nat, h2, bnd_some, slices_Contains_eq hN _ (hl.2 _ hm).2.1, bnd_some, any_mem]
     subst hn
     by_cases ha : v ∈ s.2
     case neg => simp [ha]
     case pos =>
       simp only [ha, decide_true, Bool.not_true, br_false, if_true]
       rw [with_eq hN l hl c ok s h1 v, bnd_some, withI_eq ok hm]
 · rw [if_pos h, if_pos h]
theorem withS_len {l : Sets} (hl : SetOk l) (c : Cfg) (n v : Str) : (withS l c n v).length ≤ 30 := Nat.le_trans (List.length_filterMap_le _ _) hl.len
theorem WithS_len (l : Sets) (c : Cfg) (n v : Str) : (WithS l c n v).1.length ≤ maxLen := by
 unfold WithS
 split
 · exact Nat.zero_le _
 · rename_i h
   split
   · exact Nat.zero_le _
   · split
     · exact Nat.le_trans (withS_len ((config_iff l c).1 (Classical.not_not.1 h)).set c n v) (by decide)
     · exact Nat.zero_le _
end Go.Proofs.YtbekhaioddmliaaGreatDoor


/- What Only and All compute. No program in sight. -/
namespace Go.Proofs.YtbekhaioddmliaaGreatDoor
set_option linter.unusedVariables false
set_option linter.unusedSimpArgs false
open Go Go.RowKit
variable {N : Nat}
def NamesOk (l : Sets) (ns : List Str) : Prop := (∀ n ∈ ns, ∃ s ∈ l, s.1 = n ∧ l.find? (fun x => x.1 == n) = some s) ∧ ns.Pairwise (· < ·)
theorem pw_nodup {l : List Str} (h : l.Pairwise (· < ·)) : l.Nodup := h.imp fun {a b} hab e => by rw [e] at hab; exact List.lt_irrefl _ hab
theorem names_len {l : Sets} {ns : List Str} (h : NamesOk l ns) : ns.length ≤ l.length := by
 have := (pw_nodup h.2).length_le_of_subset (l₂ := l.map (·.1)) (fun n hn => by
   obtain ⟨s, hs, e, _⟩ := h.1 n hn
   exact List.mem_map.2 ⟨s, hs, e⟩)
 simpa using this
end Go.Proofs.YtbekhaioddmliaaGreatDoor


/- What All computes; the law AllMatches. No program in sight. -/
namespace Go.Proofs.YtbekhaioddmliaaGreatDoor
set_option linter.unusedVariables false
set_option linter.unusedSimpArgs false
open Go Go.RowKit
variable {N : Nat}
end Go.Proofs.YtbekhaioddmliaaGreatDoor


/- The law AllHasOnly. No program in sight. -/
namespace Go.Proofs.YtbekhaioddmliaaGreatDoor
set_option linter.unusedVariables false
set_option linter.unusedSimpArgs false
open Go Go.RowKit
variable {N : Nat}
end Go.Proofs.YtbekhaioddmliaaGreatDoor


/- What transitions compute; the law ThroughMatches. No program in sight. -/
namespace Go.Proofs.YtbekhaioddmliaaGreatDoor
set_option linter.unusedVariables false
set_option linter.unusedSimpArgs false
open Go Go.RowKit
variable {N : Nat}
abbrev Trans : Type := Str × List (Str × Str) × List Str
def setsN (c : Cfg) (n : Str) : Bool := c.any fun p => p.1 == n
structure TransOk (l : Sets) (t : Trans) : Prop where
 set : SetOk l
 pair : ∀ p ∈ t.2.1, PairOk l false p
 asc : Asc t.2.1
 names : NamesOk l t.2.2
 off : ∀ n ∈ t.2.2, setsN t.2.1 n = false
theorem TransOk.len {l : Sets} {t : Trans} (h : TransOk l t) : t.2.1.length ≤ 30 ∧ t.2.2.length ≤ 30 :=
 ⟨Nat.le_trans (h.asc.len fun p hp => by obtain ⟨s, h1, h2, _⟩ := (h.pair p hp).mem; exact ⟨s, h1, h2⟩) h.set.len, Nat.le_trans (names_len h.names) h.set.len⟩
end Go.Proofs.YtbekhaioddmliaaGreatDoor


/- What targets are checked for, and what Plain computes. No program in sight. -/
namespace Go.Proofs.YtbekhaioddmliaaGreatDoor
set_option linter.unusedVariables false
set_option linter.unusedSimpArgs false
open Go Go.RowKit
variable {N : Nat}
abbrev Attr : Type := Str × GValue
abbrev Target : Type := Str × Str × List Attr
abbrev attrTy : Ty := .pr .str (.rc .value)
abbrev targetTy : Ty := .pr .str (.pr .str (.sl attrTy))
def smallB (c : UInt8) : Bool := decide (c ≥ 97) && decide (c ≤ 122)
def digitB (c : UInt8) : Bool := decide (c ≥ 48) && decide (c ≤ 57)
def nmB (c : UInt8) : Bool := smallB c || (digitB c || c == 95)
theorem isSmall_eq (c : UInt8) : script_isSmall N c = some (smallB c) := by
 unfold script_isSmall smallB
 cases decide (c ≥ 97) <;> simp
theorem isDigit_eq (c : UInt8) : script_isDigit N c = some (digitB c) := by
 unfold script_isDigit digitB
 cases decide (c ≥ 48) <;> simp
def kwds : List Str := [[109, 97, 99, 114, 111], [102, 111, 114], [105, 110], [105, 102], [101, 108, 115, 101], [117, 115, 101], [102, 105, 108, 101, 115], [99, 104, 111, 111, 115, 101]]
def nameS (s : Str) : Bool := match s with
 | [] => false
 | b :: _ => decide (s.length ≤ 40) && (smallB b && (s.all nmB && !(kwds.any (s == ·))))
theorem script_IsName_eq (hN : big ≤ N) (s : Str) (hs : s.length ≤ maxLen) : script_IsName N s = some (nameS s) := by
 unfold script_IsName
 cases s with
 | nil => simp [nameS]
 | cons b x =>
   have h1 : ¬ (((b :: x).length : Int) < 1) := by simp; omega
   rw [br_neg h1, geti_zero, List.getElem?_cons_zero, bnd_some, isSmall_eq, bnd_some]
   have hL : z77L0 N (b :: x) ((b :: x).length : Int) (bnd (script_words N) fun t42 => bnd (slices_Contains_string_string N t42 (b :: x)) fun t44 => some (!t44)) N 0 = some ((b :: x).all nmB && !(kwds.any ((b :: x) == ·))) := by
     have hk : (bnd (script_words N) fun t42 => bnd (slices_Contains_string_string N t42 (b :: x)) fun t44 => some (!t44)) = some (!(kwds.any ((b :: x) == ·))) := by
       unfold script_words
       rw [bnd_some, slices_Contains_eq hN _ (by decide), bnd_some]; rfl
     rw [hk, ← forT_every nmB _ _ 0]
     refine loop_for (fun _ _ => rfl) (b :: x) hs (fun self i h r hr => ?_) (fun self => ?_) hN
     · simp only [z77L0T, geti_lt _ h, wrap_succ hs h, hr, bnd_some, isSmall_eq, isDigit_eq]
       rw [lt_tt h, br_true]
       unfold nmB
       generalize (b :: x)[i] = c
       cases h1 : smallB c <;> cases h2 : digitB c <;> cases h3 : (c == 95) <;> simp [bne, h3]
     · simp only [z77L0T, lt_ff, br_false]
   rw [hL]
   show _ = some (decide ((b :: x).length ≤ 40) && (smallB b && ((b :: x).all nmB && !(kwds.any ((b :: x) == ·)))))
   generalize ((b :: x).all nmB && !(kwds.any ((b :: x) == ·))) = q
   by_cases h40 : (b :: x).length ≤ 40
   · rw [br_neg (by omega), decide_eq_true h40]
     cases smallB b <;> simp
   · rw [br_pos (by omega), decide_eq_false h40]; rfl
def partB (c : UInt8) : Bool := (decide (c ≥ 97) && decide (c ≤ 122)) || ((decide (c ≥ 65) && decide (c ≤ 90)) || ((decide (c ≥ 48) && decide (c ≤ 57)) || decide (Lib.indexByte [46, 95, 45, 43] c ≥ 0)))
theorem inPart_eq (c : UInt8) : blob_inPart N c = some (partB c) := by
 unfold blob_inPart strings_IndexByte partB
 simp only [bnd_some, br_ite]
 generalize decide (c ≥ 97) = a1
 generalize decide (c ≤ 122) = a2
 generalize decide (c ≥ 65) = a3
 generalize decide (c ≤ 90) = a4
 generalize decide (c ≥ 48) = a5
 generalize decide (c ≤ 57) = a6
 generalize decide (Lib.indexByte [46, 95, 45, 43] c ≥ 0) = a7
 cases a1 <;> cases a2 <;> cases a3 <;> cases a4 <;> cases a5 <;> cases a6 <;> cases a7 <;> rfl
def endB (s : Str) : Bool := !(s == []) && (!(s == [46]) && !(s == [46, 46]))
theorem end_br (s : Str) : (br (!(s == ([] : Str))) (br (!(s == ([46] : Str))) (some (!(s == ([46, 46] : Str)))) (some false)) (some false)) = some (endB s) := by
 unfold endB
 simp only [br_ite]
 generalize (s == ([] : Str)) = a1
 generalize (s == ([46] : Str)) = a2
 generalize (s == ([46, 46] : Str)) = a3
 cases a1 <;> cases a2 <;> cases a3 <;> rfl
def partS (s : Str) : Bool := s.all partB && endB s
theorem isPart_eq (hN : big ≤ N) (s : Str) (hs : s.length ≤ maxLen) : blob_isPart N s = some (partS s) := by
 unfold blob_isPart partS
 rw [end_br, ← forT_every partB _ _ 0]
 refine loop_for (fun _ _ => rfl) s hs (fun self i h r hr => ?_) (fun self => ?_) hN
 · simp only [z89L0T, geti_lt _ h, wrap_succ hs h, hr, bnd_some, inPart_eq]
   rw [lt_tt h, br_true, br_ite]
 · simp only [z89L0T, lt_ff, br_false]
def pathS (s : Str) : Bool := decide (1 ≤ s.length) && (decide (s.length ≤ 200) && (splitC 47 s).all partS)
theorem IsPath_eq (hN : big ≤ N) (s : Str) : blob_IsPath N s = some (pathS s) := by
 unfold blob_IsPath pathS
 by_cases h1 : 1 ≤ s.length
 case neg => rw [br_pos (by omega), decide_eq_false h1]; rfl
 by_cases h2 : s.length ≤ 200
 case neg => rw [br_neg (by omega), br_pos (by omega), decide_eq_false h2, Bool.false_and, Bool.and_false]
 rw [br_neg (by omega), br_neg (by omega), strings_Split_one _ _ (by omega), bnd_some, decide_eq_true h1, decide_eq_true h2, Bool.true_and, Bool.true_and]
 have hlen : (splitC 47 s).length ≤ 201 := by
   have h3 : s.count 47 ≤ s.length := List.count_le_length
   rw [splitC_len]; omega
 have hx : (splitC 47 s).length ≤ maxLen := by unfold maxLen; omega
 rw [← Bool.and_true ((splitC 47 s).all partS), ← forT_every partS _ _ 0]
 refine loop_for (fun _ _ => rfl) _ hx (fun self i h r hr => ?_) (fun self => ?_) hN
 · have hp := (splitC_mem 47 s _ (List.getElem_mem h)).2
   simp only [z87L0T, geti_lt _ h, wrap_succ hx h, hr, bnd_some, isPart_eq hN _ (by unfold maxLen; omega : ((splitC 47 s)[i]).length ≤ maxLen)]
   rw [lt_tt h, br_true, br_ite]
 · simp only [z87L0T, lt_ff, br_false]
def isKw (a : Attr) : Bool := a.1 == ([110, 97, 109, 101] : Str) || a.1 == ([107, 105, 110, 100] : Str)
def attrB (l : List Attr) (i : Nat) (a : Attr) (r : Int) : Int := if !nameS a.1 then 5 else if decide (valueE a.2 ≠ 0) then valueE a.2 else prevS l i a.1 r
def targetE (t : Target) : Int := if !pathS t.1 then 3 else if !nameS t.2.1 then 5 else if 30 < t.2.2.length then 2 else forT (attrB t.2.2) (if t.2.2.any isKw then 5 else 0) t.2.2 0
theorem kw_eq (a : Attr) : script_CheckTarget_1 N a = some (isKw a) := by
 unfold script_CheckTarget_1 isKw
 rw [br_ite]
 cases h1 : (a.1 == ([110, 97, 109, 101] : Str)) <;> cases h2 : (a.1 == ([107, 105, 110, 100] : Str)) <;> simp
theorem Contains_kw (hN : big ≤ N) (l : List Attr) (hl : l.length ≤ maxLen) : slices_ContainsFunc_api_Attr N l () = some (l.any isKw) := by
 unfold slices_ContainsFunc_api_Attr
 have : slices_IndexFunc_api_Attr N l () = some (idxP isKw l) := by
   unfold slices_IndexFunc_api_Attr
   refine loop_for (fun _ _ => rfl) l hl (fun self i h r hr => ?_) (fun self => ?_) hN
   · simp only [z21L0T, geti_lt l h, wrap_succ hl h, hr, bnd_some, kw_eq]
     rw [lt_tt h, br_true, br_ite]
   · simp only [z21L0T, lt_ff, br_false]
 rw [this, bnd_some, idx_any]
theorem CheckTarget_eq (hN : big ≤ N) (t : Target) (ht : Fit targetTy t) : script_CheckTarget N t = some (targetE t) := by
 unfold script_CheckTarget targetE
 rw [IsPath_eq hN, bnd_some, script_IsName_eq hN _ ht.2.1, bnd_some, Contains_kw hN _ ht.2.2.1, bnd_some]
 have hL : z45L0 N t.2.2 (t.2.2.length : Int) t.2.2 (br (t.2.2.any isKw) (some (5 : Int)) (some (0 : Int))) N 0 = some (forT (attrB t.2.2) (if t.2.2.any isKw then 5 else 0) t.2.2 0) := by
   rw [br_ite]
   refine loop_for (fun _ _ => rfl) t.2.2 ht.2.2.1 (fun self i h r hr => ?_) (fun self => ?_) hN
   · have ha := ht.2.2.2 _ (List.getElem_mem h)
     simp only [z45L0T, geti_lt _ h, wrap_succ ht.2.2.1 h, hr, bnd_some, GValue.eta, script_IsName_eq hN _ ha.1, CheckValue_all hN _ ha.2]
     rw [lt_tt h, br_true, prev_eq ht.2.2.1 h, ne_zero_dec]
     unfold attrB
     simp only [br_ite]
   · simp only [z45L0T, lt_ff, br_false]
 rw [hL, (decide_eq_decide.2 (by omega) : decide ((t.2.2.length : Int) > 30) = decide (30 < t.2.2.length)), br_ite, br_ite, br_ite]
 simp only [decide_eq_true_eq]
theorem forT_kk {α : Type} {q : Nat → α → Prop} {body : Nat → α → Int → Int} (h : ∀ i x r, body i x r = 0 → q i x ∧ r = 0) : ∀ (xs : List α) (k : Int) (j : Nat), forT body k xs j = 0 → (∀ i (hi : i < xs.length), q (j + i) xs[i]) ∧ k = 0
 | [], k, j, h' => ⟨fun i hi => absurd hi (by simp), h'⟩
 | x :: xs, k, j, h' => by
   obtain ⟨h1, h2⟩ := h _ _ _ (show body j x (forT body k xs (j + 1)) = 0 from h')
   obtain ⟨h3, h4⟩ := forT_kk h xs k (j + 1) h2
   refine ⟨fun i hi => ?_, h4⟩
   cases i with
   | zero => exact h1
   | succ i =>
     have := h3 i (by simpa using hi)
     simpa [Nat.add_assoc, Nat.add_comm 1] using this
structure TargetOk (t : Target) : Prop where
 len : t.2.2.length ≤ 30
 val : ∀ a ∈ t.2.2, valueE a.2 = 0
 asc : Asc t.2.2
 name : ∀ a ∈ t.2.2, nameS a.1 = true
theorem target_ok {t : Target} (h : targetE t = 0) : TargetOk t := by
 unfold targetE at h
 split at h
 · cases h
 · split at h
   · cases h
   · split at h
     · cases h
     · rename_i h30
       have h2 := (forT_kk (q := fun i x => (nameS x.1 = true ∧ valueE x.2 = 0) ∧ ∀ y, i ≠ 0 → t.2.2[i - 1]? = some y → y.1 < x.1) (fun i x r hb => ?_) _ _ 0 h).1
       · refine ⟨by omega, fun a ha => ?_, (asc_iff _).1 fun i hi y h0 hy => (h2 i hi).2 y (by omega) (by simpa using hy), fun a ha => ?_⟩
         · obtain ⟨i, hi, rfl⟩ := List.getElem_of_mem ha
           exact (h2 i hi).1.2
         · obtain ⟨i, hi, rfl⟩ := List.getElem_of_mem ha
           exact (h2 i hi).1.1
       · unfold attrB at hb
         split at hb
         · cases hb
         · rename_i hn
           split at hb
           · rename_i hv; exact absurd hb (of_decide_eq_true hv)
           · rename_i hv
             have := prevS_zero.1 hb
             exact ⟨⟨⟨by simpa using hn, by simpa using hv⟩, this.1⟩, this.2⟩
def nilTg : Target := ([], [], [])
def plainB (x : worldTy.den) (c : List (Str × Str)) (p : Str × List (Str × Str)) (_ : Nat) (a : Attr) (w : List Attr) (g : List Attr → Target × Str × Int) : Target × Str × Int :=
 if (chosenS x.1 x.2.1 c p a.2).2 ≠ 0 then (nilTg, a.1, (chosenS x.1 x.2.1 c p a.2).2) else g (w ++ [(a.1, (chosenS x.1 x.2.1 c p a.2).1)])
def PlainS (x : worldTy.den) (t : Target) (c : List (Str × Str)) (p : Str × List (Str × Str)) : Target × Str × Int :=
 if choiceS x c p ≠ 0 then (nilTg, [], choiceS x c p) else if targetE t ≠ 0 then (nilTg, [], targetE t) else
   forA (plainB x c p) (fun w => ((t.1, t.2.1, w), [], 0)) t.2.2 0 []
theorem Plain_eq (hN : big ≤ N) (x : worldTy.den) (hx : Fit worldTy x) (t : Target) (ht : Fit targetTy t) (c : List (Str × Str)) (hc : c.length ≤ maxLen) (p : Str × List (Str × Str)) (hp : Fit (.pr .str (.sl (.pr .str .str))) p) : config_Plain N x t c p = some (PlainS x t c p) := by
 unfold config_Plain PlainS
 rw [checkChoice_eq hN x hx c hc p hp, bnd_some, br_ne, CheckTarget_eq hN t ht, bnd_some, br_ne]
 by_cases h1 : choiceS x c p = 0
 case neg => rw [if_pos h1, if_pos h1]; rfl
 rw [if_neg (Classical.not_not.2 h1), if_neg (Classical.not_not.2 h1)]
 by_cases h2 : targetE t = 0
 case neg => rw [if_pos h2, if_pos h2]; rfl
 rw [if_neg (Classical.not_not.2 h2), if_neg (Classical.not_not.2 h2)]
 have tok := target_ok h2
 have hcnd := choice_cond h1
 refine loop_acc (f := fun m i w => z80L0 N c t.2.2 (t.2.2.length : Int) x.1 x.2.1 x.2.2.1 x.2.2.2.1 x.2.2.2.2 p.1 p.2 (fun o => some ((t.1, (t.2.1, o)), (([] : Str), (0 : Int)))) m i w) (T := fun self i w => z80L0T N c t.2.2 (t.2.2.length : Int) x.1 x.2.1 x.2.2.1 x.2.2.2.1 x.2.2.2.2 p.1 p.2 (fun o => some ((t.1, (t.2.1, o)), (([] : Str), (0 : Int)))) self i w) (fun _ _ _ => rfl) t.2.2 ht.2.2.1 (fun i w => w.length ≤ i) (fun self i h w g hw hg => ?_) (fun self w hw => ?_) hN (Nat.le_refl 0)
 · have ha := ht.2.2.2 _ (List.getElem_mem h)
   have hch : config_chosen N (x.1, (x.2.1, (x.2.2.1, (x.2.2.2.1, x.2.2.2.2)))) t.2.2[i].2 c (p.1, p.2) = some (chosenS x.1 x.2.1 c p t.2.2[i].2) := chosen_eq hN x hx c hc p hp _ ha.2 hcnd (tok.val _ (List.getElem_mem h))
   simp only [z80L0T, geti_lt _ h, wrap_succ ht.2.2.1 h, bnd_some, GValue.eta, hch]
   rw [lt_tt h, br_true, br_ne]
   unfold plainB
   by_cases hz : (chosenS x.1 x.2.1 c p t.2.2[i].2).2 = 0
   · rw [if_neg (by simpa using hz), if_neg (by simpa using hz)]
     have hsz : (w.length + [(t.2.2[i].1, (chosenS x.1 x.2.1 c p t.2.2[i].2).1)].length) * (24 * Ty.sz (.pr .str (.rc .value))) ≤ 140737488355328 := by
       have := tok.len
       rw [List.length_singleton]; show _ * 144 ≤ _; omega
     rw [br_pos hsz]
     exact hg _ (by rw [List.length_append, List.length_singleton]; omega)
   · rw [if_pos hz, if_pos hz]; rfl
 · simp only [z80L0T, lt_ff, br_false]
theorem chosenS_plain {x : worldTy.den} {c : List (Str × Str)} {p : Str × List (Str × Str)} {v : GValue} (hval : valueE v = 0) : PlainV (chosenS x.1 x.2.1 c p v).1 ∨ (chosenS x.1 x.2.1 c p v).1 = zeroV := by
 unfold chosenS
 rcases value_ok hval with ⟨h4, hp⟩ | ⟨h4, hco, _⟩
 · rw [if_pos h4]; exact .inl hp
 · rw [if_neg (by simpa using h4)]
   split
   · exact .inr rfl
   · unfold pickS
     split
     · split
       · rename_i k hk; exact .inl (hco.plain _ (List.mem_of_find?_eq_some hk))
       · exact .inr rfl
     · rename_i s0 rest hsel
       have hin : ∀ y ∈ s0 :: rest, y.1 ∈ v.cases := fun y hy => (sel_mem (by rw [hsel]; exact hy)).1
       rw [hsel]
       refine pick_forA (s0 :: rest) s0.1 _ (fun r => PlainV r.1 ∨ r.1 = zeroV) (fun b => ?_) (fun y hy => .inl (hco.plain _ (hin y hy))) _ _ _ fun y hy => hy
       cases b
       · exact .inr rfl
       · exact .inl (hco.plain _ (hin s0 (by simp)))
theorem plain_forA (x : worldTy.den) (c : List (Str × Str)) (p : Str × List (Str × Str)) (k : List Attr → Target × Str × Int) (Q : Target × Str × Int → Prop) (he : ∀ n e, Q (nilTg, n, e)) (hk : ∀ w, (∀ b ∈ w, b.2.cases = [] ∧ b.2.list.length ≤ maxLen) → Q (k w)) : ∀ (xs : List Attr) (i : Nat) (w : List Attr), (∀ a ∈ xs, valueE a.2 = 0) → (∀ b ∈ w, b.2.cases = [] ∧ b.2.list.length ≤ maxLen) → Q (forA (plainB x c p) k xs i w)
 | [], i, w, _, hw => hk w hw
 | a :: xs, i, w, hv, hw => by
   show Q (plainB x c p i a w fun w => forA (plainB x c p) k xs (i + 1) w)
   unfold plainB
   split
   · exact he _ _
   · refine plain_forA x c p k Q he hk xs (i + 1) _ (fun b hb => hv b (List.mem_cons_of_mem _ hb)) fun b hb => ?_
     rcases List.mem_append.1 hb with hb | hb
     · exact hw b hb
     · rw [List.mem_singleton.1 hb]
       have := chosenS_plain (x := x) (c := c) (p := p) (hv a (by simp))
       rcases this with h | h
       · exact ⟨h.cases, Nat.le_trans h.list (by decide)⟩
       · rw [h]; exact ⟨rfl, Nat.zero_le _⟩
end Go.Proofs.YtbekhaioddmliaaGreatDoor


/- What Depends computes. No program in sight. -/
namespace Go.Proofs.YtbekhaioddmliaaGreatDoor
set_option linter.unusedVariables false
set_option linter.unusedSimpArgs false
open Go Go.RowKit
variable {N : Nat}
def setM (m : List (Str × Bool)) (l : List Str) : List (Str × Bool) := l.foldl (fun m n => mset m n true) m
theorem mset_keys (m : List (Str × Bool)) (n : Str) (b : Bool) : ((m.map (·.1)).Nodup → ((mset m n b).map (·.1)).Nodup) ∧ ∀ x, x ∈ (mset m n b).map (·.1) ↔ x ∈ m.map (·.1) ∨ x = n := by
 induction m with
 | nil => exact ⟨fun _ => by simp [mset], fun x => by simp [mset]⟩
 | cons p m ih =>
   obtain ⟨k, v⟩ := p
   unfold mset
   by_cases h : n = k
   · subst h
     simp only [beq_self_eq_true, if_true]
     exact ⟨fun h => h, fun x => ⟨.inl, fun h => h.elim id fun e => by rw [e]; simp⟩⟩
   · have hb : (n == k) = false := by simpa using h
     simp only [hb, Bool.false_eq_true, if_false, List.map_cons]
     refine ⟨fun hn => ?_, fun x => ?_⟩
     · rw [List.nodup_cons] at hn ⊢
       refine ⟨fun hm => ?_, ih.1 hn.2⟩
       rcases (ih.2 k).1 hm with h1 | h1
       · exact hn.1 h1
       · exact h h1.symm
     · rw [List.mem_cons, List.mem_cons, ih.2]
       exact or_assoc.symm
theorem setM_keys : ∀ (l : List Str) (m : List (Str × Bool)), ((m.map (·.1)).Nodup → ((setM m l).map (·.1)).Nodup) ∧ ∀ x, x ∈ (setM m l).map (·.1) ↔ x ∈ m.map (·.1) ∨ x ∈ l
 | [], m => ⟨fun h => h, fun x => by simp [setM]⟩
 | n :: l, m => by
   have h1 := mset_keys m n true
   have h2 := setM_keys l (mset m n true)
   show ((m.map (·.1)).Nodup → ((setM (mset m n true) l).map (·.1)).Nodup) ∧ ∀ x, x ∈ (setM (mset m n true) l).map (·.1) ↔ _
   refine ⟨fun h => h2.1 (h1.1 h), fun x => ?_⟩
   rw [h2.2, h1.2, List.mem_cons, or_assoc]
theorem setM_app (m : List (Str × Bool)) (a b : List Str) : setM m (a ++ b) = setM (setM m a) b := by unfold setM; rw [List.foldl_append]
theorem setM_len (l : List Str) (m : List (Str × Bool)) : (setM m l).length ≤ m.length + l.length := by
 induction l generalizing m with
 | nil => exact Nat.le_refl _
 | cons n l ih =>
   have h1 : ∀ m : List (Str × Bool), (mset m n true).length ≤ m.length + 1 := fun m => by
     induction m with
     | nil => exact Nat.le_refl _
     | cons p m ih =>
       obtain ⟨k, v⟩ := p
       unfold mset
       split
       · simp
       · simp only [List.length_cons]; omega
   have h2 := ih (mset m n true)
   have h3 := h1 m
   show (setM (mset m n true) l).length ≤ _
   rw [List.length_cons]; omega
def sortN (l : List Str) : List Str := ((setM [] l).map (·.1)).mergeSort leStr
theorem mem_sortN (l : List Str) (x : Str) : x ∈ sortN l ↔ x ∈ l := by
 unfold sortN
 rw [List.mem_mergeSort, (setM_keys l []).2]; simp
def needF (m : List Cond) (n : Str) : List (Str × Str) := findF (fun x => x.1 == n) (fun x => x.2.1) [] m
def caseN (m : List Cond) (k : Case) : List Str := (needF m k.1).map (·.1)
def attrN (m : List Cond) (a : Attr) : List Str := a.2.cases.flatMap (caseN m)
def depsB (m : List Cond) (_ : Nat) (a : Attr) (w : List Str) (g : List Str → Int × List Str) : Int × List Str := if namedS m a.2.cases ≠ 0 then (namedS m a.2.cases, []) else g (w ++ attrN m a)
def DependsS (x : worldTy.den) (t : Target) : Int × List Str :=
 if conditionsS x.1 x.2.1 ≠ 0 then (conditionsS x.1 x.2.1, []) else if targetE t ≠ 0 then (targetE t, []) else forA (depsB x.2.1) (fun w => (0, sortN w)) t.2.2 0 []
theorem need_eq (m : List Cond) (n : Str) : (findF (fun x : Cond => x.1 == n) (fun x => (x, true)) (([], ([], [])), false) m).1.2.1 = needF m n := by
 unfold needF findF
 cases m.find? (fun x => x.1 == n) <;> rfl
theorem need_len {l : List (Str × List Str)} {m : List Cond} (hok : ∀ x ∈ m, CondOk l x) (n : Str) : (needF m n).length ≤ 30 := by
 unfold needF findF
 cases hf : m.find? (fun x => x.1 == n) with
 | none => exact Nat.zero_le _
 | some z => exact (hok z (List.mem_of_find?_eq_some hf)).needs
theorem cases_len {v : GValue} (h : valueE v = 0) : v.cases.length ≤ 50 := by
 rcases value_ok h with ⟨_, hp⟩ | ⟨_, _, h⟩
 · rw [hp.cases]; exact Nat.zero_le _
 · exact h
theorem flat_le {α β : Type} (f : α → List β) (b : Nat) : ∀ xs : List α, (∀ x ∈ xs, (f x).length ≤ b) → (xs.flatMap f).length ≤ xs.length * b
 | [], _ => by simp
 | x :: xs, h => by
   have h1 := h x (by simp)
   have h2 := flat_le f b xs fun y hy => h y (List.mem_cons_of_mem _ hy)
   rw [List.flatMap_cons, List.length_append, List.length_cons, Nat.succ_mul]; omega
theorem attrN_len {l : List (Str × List Str)} {m : List Cond} (hok : ∀ x ∈ m, CondOk l x) {a : Attr} (h : valueE a.2 = 0) : (attrN m a).length ≤ 1500 := by
 have h1 := flat_le (caseN m) 30 a.2.cases fun k _ => by unfold caseN; rw [List.length_map]; exact need_len hok _
 have h2 := cases_len h
 unfold attrN
 omega
theorem attrN_word {l : List (Str × List Str)} {m : List Cond} (hm : Fit (.sl condTy) m) {a : Attr} : ∀ n ∈ attrN m a, n.length ≤ maxLen := fun n hn => by
 obtain ⟨k, _, hn⟩ := List.mem_flatMap.1 hn
 obtain ⟨p, hp, rfl⟩ := List.mem_map.1 hn
 unfold needF findF at hp
 cases hf : m.find? (fun x => x.1 == k.1) with
 | none => rw [hf] at hp; cases hp
 | some z =>
   rw [hf] at hp
   exact ((hm.2 z (List.mem_of_find?_eq_some hf)).2.1.2 p hp).1
theorem map_take_snoc {α β : Type} (f : α → β) (c : List α) {i : Nat} (h : i < c.length) : (c.take (i + 1)).map f = (c.take i).map f ++ [f c[i]] := by
 rw [List.take_succ_eq_append_getElem h, List.map_append]; rfl
theorem flat_take_snoc {α β : Type} (f : α → List β) (c : List α) {i : Nat} (h : i < c.length) : (c.take (i + 1)).flatMap f = (c.take i).flatMap f ++ f c[i] := by
 rw [List.take_succ_eq_append_getElem h, List.flatMap_append]; simp
theorem dep_L2_eq (hN : big ≤ N) (ps : List (Str × Str)) (hp : ps.length ≤ maxLen) (k : List (Str × Bool) → Option (Int × List Str)) (m0 : List (Str × Bool)) : z62L2 N ps (ps.length : Int) k N 0 m0 = k (setM m0 (ps.map (·.1))) := by
 have := loop_st (f := fun n i w => z62L2 N ps (ps.length : Int) k n i w) (T := fun self i w => z62L2T N ps (ps.length : Int) k self i w) (fun _ _ _ => rfl) hp (fun i => setM m0 ((ps.take i).map (·.1))) (r := k (setM m0 (ps.map (·.1)))) (fun self i hi hr => ?_) (fun self => ?_) hN
 · simpa [setM] using this
 · rw [map_take_snoc _ _ hi, setM_app] at hr
   generalize setM m0 ((ps.take i).map (·.1)) = w at hr ⊢
   simp only [z62L2T, geti_lt _ hi, wrap_succ hp hi, bnd_some]
   rw [lt_tt hi, br_true]
   exact hr
 · simp only [z62L2T, lt_ff, br_false, List.take_length]
theorem dep_L1_eq (hN : big ≤ N) {l : List (Str × List Str)} {m : List Cond} (hm : m.length ≤ maxLen) (hok : ∀ x ∈ m, CondOk l x) (cs : List Case) (hc : cs.length ≤ maxLen) (k : List (Str × Bool) → Option (Int × List Str)) (m0 : List (Str × Bool)) : z62L1 N cs (cs.length : Int) m k N 0 m0 = k (setM m0 (cs.flatMap (caseN m))) := by
 have := loop_st (f := fun n i w => z62L1 N cs (cs.length : Int) m k n i w) (T := fun self i w => z62L1T N cs (cs.length : Int) m k self i w) (fun _ _ _ => rfl) hc (fun i => setM m0 ((cs.take i).flatMap (caseN m))) (r := k (setM m0 (cs.flatMap (caseN m)))) (fun self i hi hr => ?_) (fun self => ?_) hN
 · simpa [setM] using this
 · rw [flat_take_snoc _ _ hi, setM_app] at hr
   generalize setM m0 ((cs.take i).flatMap (caseN m)) = w at hr ⊢
   have hl := need_len hok cs[i].1
   simp only [z62L1T, geti_lt _ hi, wrap_succ hc hi, bnd_some, conditionOf_eq hN m hm, need_eq]
   rw [lt_tt hi, br_true, dep_L2_eq hN _ (by unfold maxLen; omega)]
   exact hr
 · simp only [z62L1T, lt_ff, br_false, List.take_length]
theorem Depends_eq (hN : big ≤ N) (x : worldTy.den) (hx : Fit worldTy x) (t : Target) (ht : Fit targetTy t) : config_Depends N x t = some (DependsS x t) := by
 unfold config_Depends DependsS
 rw [CheckConditions_eq hN _ hx.1 _ hx.2.1, bnd_some, br_ne, CheckTarget_eq hN t ht, bnd_some, br_ne]
 by_cases h1 : conditionsS x.1 x.2.1 = 0
 case neg => rw [if_pos h1, if_pos h1]
 rw [if_neg (Classical.not_not.2 h1), if_neg (Classical.not_not.2 h1)]
 by_cases h2 : targetE t = 0
 case neg => rw [if_pos h2, if_pos h2]
 rw [if_neg (Classical.not_not.2 h2), if_neg (Classical.not_not.2 h2)]
 have tok := target_ok h2
 obtain ⟨hs, hml, hok⟩ := cond_ok h1
 have hmm : x.2.1.length ≤ maxLen := Nat.le_trans hml (by decide)
 have gen : ∀ (d n i : Nat) (w : List Str), i + d = t.2.2.length → d < n → w.length ≤ i * 1500 → (∀ y ∈ w, y.length ≤ maxLen) →
     z62L0 N t.2.2 (t.2.2.length : Int) x.2.1 (fun o => bnd (maps_Keys_bool o) fun t77 => bnd (slices_Sorted_keys t77) fun t78 => some ((0 : Int), t78.2)) n (i : Int) (setM [] w) = some (forA (depsB x.2.1) (fun w => (0, sortN w)) (t.2.2.drop i) i w) := by
   intro d
   induction d with
   | zero =>
     intro n i w hi hn hw hwl
     obtain ⟨n, rfl⟩ : ∃ q, n = q + 1 := ⟨n - 1, by omega⟩
     obtain rfl : i = t.2.2.length := by omega
     show z62L0T _ _ _ _ _ _ _ _ = _
     unfold z62L0T
     have hl := tok.len
     have hsl := setM_len w []
     simp only [List.length_nil, Nat.zero_add] at hsl
     have hkey : ∀ p ∈ setM [] w, p.1.length ≤ maxLen := fun p hp => by
       have := ((setM_keys w []).2 p.1).1 (List.mem_map.2 ⟨p, hp, rfl⟩)
       rcases this with h | h
       · cases h
       · exact hwl _ h
     rw [lt_ff, br_false, List.drop_length]
     unfold maps_Keys_bool slices_Sorted_keys
     dsimp only
     rw [bnd_some, if_pos ⟨by omega, hkey⟩, bnd_some]
     rfl
   | succ d ih =>
     intro n i w hi hn hw hwl
     obtain ⟨n, rfl⟩ : ∃ q, n = q + 1 := ⟨n - 1, by omega⟩
     have hlt : i < t.2.2.length := by omega
     have ha := ht.2.2.2 _ (List.getElem_mem hlt)
     have hc := cases_len (tok.val _ (List.getElem_mem hlt))
     have hcm : t.2.2[i].2.cases.length ≤ maxLen := by unfold maxLen; omega
     rw [List.drop_eq_getElem_cons hlt]
     show z62L0T _ _ _ _ _ _ _ _ = some (depsB x.2.1 i t.2.2[i] w fun w => forA (depsB x.2.1) _ _ (i + 1) w)
     unfold z62L0T depsB
     rw [lt_tt hlt, br_true, geti_lt _ hlt, bnd_some]
     simp only [GValue.eta]
     rw [checkNamed_eq hN _ hmm _ hcm, bnd_some, br_ne, wrap_succ ht.2.2.1 hlt]
     by_cases hz : namedS x.2.1 t.2.2[i].2.cases = 0
     · rw [if_neg (Classical.not_not.2 hz), if_neg (Classical.not_not.2 hz), dep_L1_eq hN hmm hok _ hcm, ← setM_app]
       have hal := attrN_len hok (tok.val _ (List.getElem_mem hlt))
       refine ih n (i + 1) (w ++ attrN x.2.1 t.2.2[i]) (by omega) (by omega) (by rw [List.length_append]; omega) fun y hy => ?_
       rcases List.mem_append.1 hy with hy | hy
       · exact hwl y hy
       · exact attrN_word (l := x.1) hx.2.1 y hy
     · rw [if_pos hz, if_pos hz]
 have := gen t.2.2.length N 0 [] (by omega) (by have := tok.len; unfold big at hN; omega) (by simp) (fun y hy => by cases hy)
 simpa [setM] using this
end Go.Proofs.YtbekhaioddmliaaGreatDoor


/- Chosen is as specified. No program in sight. -/
namespace Go.Proofs.YtbekhaioddmliaaGreatDoor
set_option linter.unusedVariables false
set_option linter.unusedSimpArgs false
open Go Go.RowKit
variable {N : Nat}
theorem Same_any (hN : big ≤ N) (a b : GValue) (ha : a.cases = []) (hla : a.list.length ≤ maxLen) (hlb : b.list.length ≤ maxLen) : ref2_SameValue N N a b = some (sameP a b) := by
 obtain ⟨d, rfl⟩ : ∃ d, N = d + 1 := ⟨N - 1, by unfold big at hN; omega⟩
 exact SameValue_eq hN d a b ha hla hlb
end Go.Proofs.YtbekhaioddmliaaGreatDoor


/- A package of one target is the same as itself. No program in sight. -/
namespace Go.Proofs.YtbekhaioddmliaaGreatDoor
set_option linter.unusedVariables false
set_option linter.unusedSimpArgs false
open Go Go.RowKit
variable {N : Nat}
theorem ConcatA_two (hN : big ≤ N) (a b : List Attr) (ha : a.length ≤ 100000) (hb : b.length ≤ 100000) : slices_Concat_api_Attr N [a, b] = some (a ++ b) := by
 obtain ⟨d, rfl⟩ : ∃ d, N = d + 3 := ⟨N - 3, by unfold big at hN; omega⟩
 have e0 : IntKind.i64.wrap ((0 : Int) + (a.length : Int)) = (a.length : Int) := by rw [Int.zero_add]; exact wrap_id (by omega) (by omega)
 have e1 : IntKind.i64.wrap ((a.length : Int) + (b.length : Int)) = ((a.length + b.length : Nat) : Int) := by rw [Int.natCast_add]; exact wrap_id (by omega) (by omega)
 have g0 : geti [a, b] (0 : Int) = some a := rfl
 have g1 : geti [a, b] (1 : Int) = some b := rfl
 have w1 : IntKind.i64.wrap ((0 : Int) + 1) = 1 := by decide
 have w2 : IntKind.i64.wrap ((1 : Int) + 1) = 2 := by decide
 have t0 : decide ((0 : Int) < 2) = true := rfl
 have t1 : decide ((1 : Int) < 2) = true := rfl
 have t2 : decide ((2 : Int) < 2) = false := rfl
 have n0 : decide ((a.length : Int) < 0) = false := decide_eq_false (by omega)
 have n1 : decide (((a.length + b.length : Nat) : Int) < 0) = false := decide_eq_false (by omega)
 have p0 : decide ((([] : List Attr).length + a.length) * (24 * Ty.sz (.pr .str (.rc .value))) ≤ 140737488355328) = true := decide_eq_true (by show (0 + a.length) * (24 * 6) ≤ _; omega)
 have p1 : decide ((a.length + b.length) * (24 * Ty.sz (.pr .str (.rc .value))) ≤ 140737488355328) = true := decide_eq_true (by show (a.length + b.length) * (24 * 6) ≤ _; omega)
 have h0 : ∀ k, z29L0 (d + 3) [a, b] 2 k (d + 3) 0 0 = k ((a.length + b.length : Nat) : Int) := by
   intro k
   simp only [z29L0, z29L0T, t0, t1, t2, g0, g1, w1, w2, e0, e1, n0, n1, bnd_some, br_true, br_false]
 have h1 : ∀ k, z29L1 (d + 3) [a, b] 2 k (d + 3) 0 [] = k (a ++ b) := by
   intro k
   simp only [z29L1, z29L1T, t0, t1, t2, g0, g1, w1, w2, p0, p1, bnd_some, br_true, br_false, List.nil_append]
 have hg : slices_Grow_api_Attr ((a.length + b.length : Nat) : Int) = some [] := by
   unfold slices_Grow_api_Attr growF
   exact if_pos ⟨by omega, by show ((a.length + b.length : Nat) : Int) * ((24 * 6 : Nat) : Int) ≤ _; omega⟩
 show z29L0 (d + 3) [a, b] 2 _ (d + 3) 0 0 = _
 rw [h0, hg, bnd_some]
 show z29L1 (d + 3) [a, b] 2 _ (d + 3) 0 [] = _
 rw [h1]
theorem attr_eq (hN : big ≤ N) (t : Target) (ht : t.2.2.length ≤ maxLen) (n : Str) : ref2_attr N t n = some (findF (fun a => a.1 == n) (fun a => (a.2, true)) (zeroV, false) t.2.2) := by
 unfold ref2_attr
 rw [← forT_find (fun a : Attr => a.1 == n) (fun a => (a.2, true)) (zeroV, false) t.2.2 0]
 refine loop_for (fun _ _ => rfl) _ ht (fun self i h r hr => ?_) (fun self => ?_) hN
 · simp only [z96L0T, geti_lt _ h, wrap_succ ht h, hr, bnd_some, GValue.eta]
   rw [lt_tt h, br_true, br_ite]
 · simp only [z96L0T, lt_ff, br_false]; rfl
theorem attr_flat {t : Target} (hv : ∀ b ∈ t.2.2, b.2.cases = [] ∧ b.2.list.length ≤ maxLen) (n : Str) : (findF (fun a : Attr => a.1 == n) (fun a => (a.2, true)) (zeroV, false) t.2.2).1.cases = [] ∧ (findF (fun a : Attr => a.1 == n) (fun a => (a.2, true)) (zeroV, false) t.2.2).1.list.length ≤ maxLen := by
 unfold findF
 cases hf : t.2.2.find? (fun a => a.1 == n) with
 | none => exact ⟨rfl, Nat.zero_le _⟩
 | some a => exact hv a (List.mem_of_find?_eq_some hf)
theorem otherAttrs_self (hN : big ≤ N) (t : Target) (hl : t.2.2.length ≤ 30) (hv : ∀ b ∈ t.2.2, b.2.cases = [] ∧ b.2.list.length ≤ maxLen) : ref2_otherAttrs N t t = some [] := by
 unfold ref2_otherAttrs
 rw [ConcatA_two hN _ _ (by omega) (by omega), bnd_some]
 have h0 : ∀ k, z60L0 N ((t.2.2 ++ t.2.2).length : Int) (t.2.2 ++ t.2.2) k N 0 [] = k ((t.2.2 ++ t.2.2).map (·.1)) := by
   intro k
   have hL : (t.2.2 ++ t.2.2).length ≤ 60 := by rw [List.length_append]; omega
   generalize t.2.2 ++ t.2.2 = L at hL ⊢
   have hm : L.length ≤ maxLen := Nat.le_trans hL (by decide)
   have := loop_st (f := fun n i w => z60L0 N (L.length : Int) L k n i w) (T := fun self i w => z60L0T N (L.length : Int) L k self i w) (fun _ _ _ => rfl) hm (fun i => (L.take i).map (·.1)) (r := k (L.map (·.1))) (fun self i hi hr => ?_) (fun self => ?_) hN
   · simpa using this
   · rw [map_take_snoc _ _ hi] at hr
     have hw : ((L.take i).map (·.1)).length ≤ 60 := by rw [List.length_map, List.length_take]; omega
     generalize (L.take i).map (·.1) = w at hr hw ⊢
     simp only [z60L0T, geti_lt _ hi, wrap_succ hm hi, bnd_some]
     have hsz : (w.length + [L[i].1].length) * (24 * Ty.sz .str) ≤ 140737488355328 := by
       rw [List.length_singleton]; show _ * 24 ≤ _; omega
     rw [lt_tt hi, br_true, br_pos hsz]
     exact hr
   · simp only [z60L0T, lt_ff, br_false, List.take_length]
 rw [h0]
 have hlen : ((t.2.2 ++ t.2.2).map (·.1)).length ≤ 60 := by rw [List.length_map, List.length_append]; omega
 generalize (t.2.2 ++ t.2.2).map (·.1) = ns at hlen ⊢
 unfold slices_Sort_string_string slices_Compact_string_string
 rw [if_pos (by omega), bnd_some, beq_self_eq_true, Bool.not_true, br_false, bnd_some]
 have hcl : (Lib.compact (ns.mergeSort leStr)).length ≤ maxLen := by
   have := Lib.compact_length_le (ns.mergeSort leStr)
   rw [List.length_mergeSort] at this
   unfold maxLen; omega
 generalize Lib.compact (ns.mergeSort leStr) = cs at hcl ⊢
 have htm : t.2.2.length ≤ maxLen := by unfold maxLen; omega
 refine loop_st (f := fun n i w => z60L1 N (cs.length : Int) t.1 t.2.1 t.2.2 t.1 t.2.1 t.2.2 cs (fun w => some w) n i w) (T := fun self i w => z60L1T N (cs.length : Int) t.1 t.2.1 t.2.2 t.1 t.2.1 t.2.2 cs (fun w => some w) self i w) (fun _ _ _ => rfl) hcl (fun _ => []) (fun self i hi hr => ?_) (fun self => ?_) hN
 · have hf := attr_flat hv cs[i]
   have ha : ref2_attr N (t.1, (t.2.1, t.2.2)) cs[i] = _ := attr_eq hN t htm cs[i]
   simp only [z60L1T, geti_lt _ hi, wrap_succ hcl hi, bnd_some, GValue.eta, ha, bne_self_eq_false, br_false, Same_any hN _ _ hf.1 hf.2 hf.2, sameP_self hf.1, Bool.not_true]
   rw [lt_tt hi, br_true, br_pos ⟨by omega, by omega⟩]
   exact hr
 · simp only [z60L1T, lt_ff, br_false]
theorem SamePackage_self (hN : big ≤ N) (t : Target) (hl : t.2.2.length ≤ 30) (hv : ∀ b ∈ t.2.2, b.2.cases = [] ∧ b.2.list.length ≤ maxLen) : ref2_SamePackage N (([] : Str), [t]) (([] : Str), [t]) = some true := by
 unfold ref2_SamePackage
 obtain ⟨d, rfl⟩ : ∃ d, N = d + 2 := ⟨N - 2, by unfold big at hN; omega⟩
 have g0 : geti [t] (0 : Int) = some t := rfl
 have w1 : IntKind.i64.wrap ((0 : Int) + 1) = 1 := by decide
 have t0 : decide ((0 : Int) < 1) = true := rfl
 have t1 : decide ((1 : Int) < 1) = false := rfl
 have z : decide ((([] : List Str).length : Int) > 0) = false := rfl
 show br (!(([] : Str) == [])) _ (br ((1 : Int) != 1) _ (z54L0 (d + 2) [t] (1 : Int) [t] (some true) (d + 2) 0)) = some true
 rw [show (!(([] : Str) == [])) = false from rfl, br_false, show ((1 : Int) != 1) = false from rfl, br_false]
 simp only [z54L0, z54L0T, t0, t1, g0, w1, z, bnd_some, br_true, br_false, beq_self_eq_true, Bool.not_true, bne_self_eq_false, otherAttrs_self hN t hl hv]
end Go.Proofs.YtbekhaioddmliaaGreatDoor


/- The arguments of a law, with how much they hold together ('bulk'). -/
namespace Go.Proofs.YtbekhaioddmliaaGreatDoor
set_option linter.unusedVariables false
set_option linter.unusedSimpArgs false
open Go Go.RowKit Go.ChangeShapes Go.WideShapes
section
variable {H : Type} {enc : TypeId × Value → H} {P : Program} {w : World} {spare : Nat → Bool} {held : Bool} {R : RC → Option TypeId} {rb : (i : RC) → i.den → Nat}
end
end Go.Proofs.YtbekhaioddmliaaGreatDoor


/- The law Plain and Depends. No program in sight. -/
namespace Go.Proofs.YtbekhaioddmliaaGreatDoor
set_option linter.unusedVariables false
set_option linter.unusedSimpArgs false
open Go Go.RowKit
variable {N : Nat}
theorem plain_ok (x : worldTy.den) (t : Target) (c : List (Str × Str)) (p : Str × List (Str × Str)) : (PlainS x t c p).1.2.2.length ≤ 30 ∧ ∀ b ∈ (PlainS x t c p).1.2.2, b.2.cases = [] ∧ b.2.list.length ≤ maxLen := by
 unfold PlainS
 split
 · exact ⟨Nat.zero_le _, fun b hb => (by cases hb)⟩
 · split
   · exact ⟨Nat.zero_le _, fun b hb => (by cases hb)⟩
   · rename_i h2
     have tok := target_ok (Classical.not_not.1 h2)
     refine ⟨?_, plain_forA x c p _ (fun r => ∀ b ∈ r.1.2.2, b.2.cases = [] ∧ b.2.list.length ≤ maxLen) (fun n e b hb => (by cases hb)) (fun w hw => hw) _ 0 [] tok.val (fun b hb => (by cases hb))⟩
     have len : ∀ (xs : List Attr) (i : Nat) (w : List Attr), (forA (plainB x c p) (fun w => ((t.1, t.2.1, w), ([] : Str), (0 : Int))) xs i w).1.2.2.length ≤ w.length + xs.length := by
       intro xs
       induction xs with
       | nil => intro i w; exact Nat.le_refl _
       | cons a xs ih =>
         intro i w
         show (plainB x c p i a w fun w => forA (plainB x c p) _ xs (i + 1) w).1.2.2.length ≤ _
         unfold plainB
         split
         · exact Nat.zero_le _
         · refine Nat.le_trans (ih _ _) ?_
           rw [List.length_append, List.length_singleton, List.length_cons]; omega
     have := len t.2.2 0 []
     have := tok.len
     simp only [List.length_nil, Nat.zero_add] at *
     omega
theorem depends_len {x : worldTy.den} {t : Target} : (DependsS x t).2.length ≤ maxLen := by
 unfold DependsS
 split
 · exact Nat.zero_le _
 · rename_i h1
   split
   · exact Nat.zero_le _
   · rename_i h2
     have tok := target_ok (Classical.not_not.1 h2)
     obtain ⟨_, hml, hok⟩ := cond_ok (Classical.not_not.1 h1)
     have len : ∀ (xs : List Attr) (i : Nat) (w : List Str), (∀ a ∈ xs, valueE a.2 = 0) → (forA (depsB x.2.1) (fun w => ((0 : Int), sortN w)) xs i w).2.length ≤ w.length + xs.length * 1500 := by
       intro xs
       induction xs with
       | nil =>
         intro i w _
         show (sortN w).length ≤ _
         unfold sortN
         rw [List.length_mergeSort, List.length_map]
         have := setM_len w []
         simpa using this
       | cons a xs ih =>
         intro i w hv
         show (depsB x.2.1 i a w fun w => forA (depsB x.2.1) _ xs (i + 1) w).2.length ≤ _
         unfold depsB
         split
         · exact Nat.zero_le _
         · refine Nat.le_trans (ih _ _ fun b hb => hv b (List.mem_cons_of_mem _ hb)) ?_
           have := attrN_len hok (hv a (by simp))
           rw [List.length_append, List.length_cons]; omega
     have h := len t.2.2 0 [] tok.val
     have := tok.len
     refine Nat.le_trans h ?_
     unfold maxLen
     simp only [List.length_nil, Nat.zero_add]; omega
end Go.Proofs.YtbekhaioddmliaaGreatDoor


/- The law DependsIsEnough. No program in sight. -/
namespace Go.Proofs.YtbekhaioddmliaaGreatDoor
set_option linter.unusedVariables false
set_option linter.unusedSimpArgs false
open Go Go.RowKit
variable {N : Nat}
theorem deps_all (m : List Cond) : ∀ (xs : List Attr) (i : Nat) (w names : List Str), forA (depsB m) (fun w => ((0 : Int), sortN w)) xs i w = (0, names) → (∀ n ∈ w, n ∈ names) ∧ ∀ a ∈ xs, ∀ n ∈ attrN m a, n ∈ names
 | [], i, w, names, h => by
   have h : ((0 : Int), sortN w) = (0, names) := h
   injection h with _ h
   exact ⟨fun n hn => by rw [← h]; exact (mem_sortN w n).2 hn, fun a ha => (by cases ha)⟩
 | a :: xs, i, w, names, h => by
   change depsB m i a w (fun w => forA (depsB m) _ xs (i + 1) w) = _ at h
   unfold depsB at h
   split at h
   · rename_i hz
     injection h with h1 _
     exact absurd h1 hz
   · obtain ⟨h1, h2⟩ := deps_all m xs (i + 1) _ names h
     refine ⟨fun n hn => h1 n (List.mem_append.2 (.inl hn)), fun b hb n hn => ?_⟩
     rcases List.mem_cons.1 hb with rfl | hb
     · exact h1 n (List.mem_append.2 (.inr hn))
     · exact h2 b hb n hn
theorem depends_names {x : worldTy.den} {t : Target} {names : List Str} (h : DependsS x t = (0, names)) : conditionsS x.1 x.2.1 = 0 ∧ targetE t = 0 ∧ ∀ a ∈ t.2.2, ∀ n ∈ attrN x.2.1 a, n ∈ names := by
 unfold DependsS at h
 split at h
 · rename_i hz; injection h with h1 _; exact absurd h1 hz
 · rename_i h1
   split at h
   · rename_i hz; injection h with h1 _; exact absurd h1 hz
   · rename_i h2
     exact ⟨Classical.not_not.1 h1, Classical.not_not.1 h2, (deps_all _ _ _ _ _ h).2⟩
theorem depends_err {x : worldTy.den} {t : Target} (h : (DependsS x t).1 ≠ 0) : (DependsS x t).2 = [] := by
 unfold DependsS at h ⊢
 split
 · rfl
 · rename_i h1
   rw [if_neg h1] at h
   split
   · rfl
   · rename_i h2
     rw [if_neg h2] at h
     have gen : ∀ (xs : List Attr) (i : Nat) (w : List Str), (forA (depsB x.2.1) (fun w => ((0 : Int), sortN w)) xs i w).1 ≠ 0 → (forA (depsB x.2.1) (fun w => ((0 : Int), sortN w)) xs i w).2 = [] := by
       intro xs
       induction xs with
       | nil => intro i w h; exact absurd rfl h
       | cons a xs ih =>
         intro i w h
         change (depsB x.2.1 i a w fun w => forA (depsB x.2.1) _ xs (i + 1) w).1 ≠ 0 at h
         show (depsB x.2.1 i a w fun w => forA (depsB x.2.1) _ xs (i + 1) w).2 = []
         unfold depsB at h ⊢
         split
         · rfl
         · rename_i hz
           rw [if_neg hz] at h
           exact ih _ _ h
     exact gen _ _ _ h
theorem sel_same {l : List (Str × List Str)} {m : List Cond} {c d : List (Str × Str)} {p : Str × List (Str × Str)} : ∀ (cs : List Case), (∀ n ∈ cs.flatMap (caseN m), valueS l c n = valueS l d n) → selS l m c p cs = selS l m d p cs
 | [], _ => rfl
 | k :: cs, h => by
   have ih := sel_same (p := p) cs fun n hn => h n (by rw [List.flatMap_cons]; exact List.mem_append.2 (.inr hn))
   unfold selS at ih ⊢
   have e : selF l m c p k = selF l m d p k := by
     unfold selF
     cases hf : m.find? (fun x => x.1 == k.1) with
     | none => rfl
     | some z =>
       have hh : holdsS l z c p = holdsS l z d p := by
         unfold holdsS
         have : ∀ q ∈ z.2.1, valueS l c q.1 = valueS l d q.1 := fun q hq => h q.1 (by
           rw [List.flatMap_cons]
           refine List.mem_append.2 (.inl ?_)
           unfold caseN needF findF
           rw [hf]
           exact List.mem_map.2 ⟨q, hq, rfl⟩)
         have e2 : z.2.1.all (fun n => valueS l c n.1 == n.2) = z.2.1.all (fun n => valueS l d n.1 == n.2) := by
           rw [Bool.eq_iff_iff, List.all_eq_true, List.all_eq_true]
           exact ⟨fun h q hq => by rw [← this q hq]; exact h q hq, fun h q hq => by rw [this q hq]; exact h q hq⟩
         rw [e2]
       simp only [hh]
   rw [List.filterMap_cons, List.filterMap_cons, e, ih]
theorem chosen_same {x : worldTy.den} {c d : List (Str × Str)} {p : Str × List (Str × Str)} {a : Attr} (h : ∀ n ∈ attrN x.2.1 a, valueS x.1 c n = valueS x.1 d n) : chosenS x.1 x.2.1 c p a.2 = chosenS x.1 x.2.1 d p a.2 := by
 unfold chosenS
 rw [sel_same (p := p) a.2.cases h]
theorem plain_same (x : worldTy.den) (c d : List (Str × Str)) (p : Str × List (Str × Str)) (k : List Attr → Target × Str × Int) : ∀ (xs : List Attr) (i : Nat) (w : List Attr), (∀ a ∈ xs, chosenS x.1 x.2.1 c p a.2 = chosenS x.1 x.2.1 d p a.2) → forA (plainB x c p) k xs i w = forA (plainB x d p) k xs i w
 | [], i, w, _ => rfl
 | a :: xs, i, w, h => by
   show plainB x c p i a w (fun w => forA (plainB x c p) k xs (i + 1) w) = plainB x d p i a w fun w => forA (plainB x d p) k xs (i + 1) w
   unfold plainB
   rw [h a (by simp)]
   split
   · rfl
   · exact plain_same x c d p k xs (i + 1) _ fun b hb => h b (List.mem_cons_of_mem _ hb)
theorem PlainS_same {x : worldTy.den} {t : Target} {c d : List (Str × Str)} {p : Str × List (Str × Str)} (hc : configS x.1 c = 0) (hd : configS x.1 d = 0) (h : ∀ a ∈ t.2.2, ∀ n ∈ attrN x.2.1 a, valueS x.1 c n = valueS x.1 d n) : PlainS x t c p = PlainS x t d p := by
 have e : choiceS x c p = choiceS x d p := by
   unfold choiceS
   rw [hc, hd]
 unfold PlainS
 rw [e, plain_same x c d p _ t.2.2 0 [] fun a ha => chosen_same (h a ha)]
theorem plain_ConfigDependsIsEnough (x : worldTy.den) (t : Target) (c d : List (Str × Str)) (p : Str × List (Str × Str)) (hx : Fit worldTy x) (ht : Fit targetTy t) (hc : Fit pairTy c) (hd : Fit pairTy d) (hp : Fit (.pr .str (.sl (.pr .str .str))) p) : ∃ N, law3_ConfigDependsIsEnough N x t c d p = some true := by
 have hN : big ≤ big := Nat.le_refl _
 refine ⟨big, ?_⟩
 unfold law3_ConfigDependsIsEnough
 rw [Depends_eq hN x hx t ht, bnd_some, br_ne]
 by_cases h0 : (DependsS x t).1 = 0
 case neg =>
   rw [if_pos h0, depends_err h0, awake_eq]
   show br true _ _ = _
   rw [br_true, bnd_some]
 rw [if_neg (Classical.not_not.2 h0)]
 have hnl := depends_len (x := x) (t := t)
 obtain ⟨names, hn⟩ : ∃ names, names = (DependsS x t).2 := ⟨_, rfl⟩
 have hD : DependsS x t = (0, names) := Prod.ext h0 hn.symm
 obtain ⟨_, _, hall⟩ := depends_names hD
 rw [← hn] at hnl ⊢
 obtain ⟨K, hK⟩ : ∃ K : List (Str × Str) → Option Bool, K = fun o0_3 => bnd (config_Plain big x t c p) fun t73 => bnd (config_Plain big x t o0_3 p) fun t82 => bnd (config_CheckConfig big x.1 c) fun t89 =>
     br (t89 != (0 : Int)) (bnd (law3_awake big) fun t98 => some t98) (bnd (config_CheckConfig big x.1 o0_3) fun t95 => br (t95 != (0 : Int)) (bnd (law3_awake big) fun t98_1 => some t98_1)
       (br (t73.2.2 == t82.2.2) (br (t73.2.1 == t82.2.1) (bnd (ref2_SamePackage big (([] : Str), [t73.1]) (([] : Str), [t82.1])) fun t114 => br t114 (bnd (law3_awake big) fun t117 => some t117) (some false)) (some false)) (some false))) := ⟨_, rfl⟩
 have gen : ∀ (q n i : Nat) (s : List (Str × Str)), i + q = names.length → q < n → s.length ≤ maxLen → (∀ m ∈ names.take i, (∃ st ∈ x.1, st.1 = m) ∧ (CfgOk x.1 s → valueS x.1 c m = valueS x.1 s m)) →
     z15L0 big c (names.length : Int) x.1 names K n s (i : Int) = some true := by
   intro q
   induction q with
   | zero =>
     intro n i s hi hq hs hI
     obtain ⟨n, rfl⟩ : ∃ j, n = j + 1 := ⟨n - 1, by omega⟩
     obtain rfl : i = names.length := by omega
     rw [List.take_length] at hI
     show z15L0T _ _ _ _ _ _ _ _ _ = _
     unfold z15L0T
     rw [lt_ff, br_false, hK]
     dsimp only
     rw [Plain_eq hN x hx t ht c hc.1 p hp, Plain_eq hN x hx t ht s hs p hp, bnd_some, bnd_some, checkConfig_eq hN x.1 hx.1 c hc.1, bnd_some, br_ne, awake_eq, bnd_some, checkConfig_eq hN x.1 hx.1 s hs, bnd_some, br_ne]
     by_cases h1 : configS x.1 c = 0
     case neg => rw [if_pos h1]
     rw [if_neg (Classical.not_not.2 h1)]
     by_cases h2 : configS x.1 s = 0
     case neg => rw [if_pos h2]
     rw [if_neg (Classical.not_not.2 h2)]
     have e : PlainS x t c p = PlainS x t s p := PlainS_same h1 h2 fun a ha n hn => (hI n (hall a ha n hn)).2 ((config_iff _ _).1 h2)
     obtain ⟨p1, p2⟩ := plain_ok x t s p
     rw [e, beq_self_eq_true, br_true, beq_self_eq_true, br_true, SamePackage_self hN _ p1 p2, bnd_some, br_true]
   | succ q ih =>
     intro n i s hi hq hs hI
     obtain ⟨n, rfl⟩ : ∃ j, n = j + 1 := ⟨n - 1, by omega⟩
     have hlt : i < names.length := by omega
     show z15L0T _ _ _ _ _ _ _ _ _ = _
     unfold z15L0T
     rw [lt_tt hlt, br_true, geti_lt _ hlt, bnd_some, ValueOf_eq hN x.1 hx.1 c hc.1, bnd_some, br_ne, awake_eq, bnd_some]
     by_cases h1 : (valueOfS x.1 c names[i]).2 = 0
     case neg => rw [if_pos h1]
     rw [if_neg (Classical.not_not.2 h1), With_eq hN x.1 hx.1 s hs, bnd_some, br_ne]
     by_cases h2 : (WithS x.1 s names[i] (valueOfS x.1 c names[i]).1).2 = 0
     case neg => rw [if_pos h2]
     rw [if_neg (Classical.not_not.2 h2), wrap_succ hnl hlt]
     have hv : (valueOfS x.1 c names[i]).1 = valueS x.1 c names[i] := by
       unfold valueOfS at h1 ⊢
       split at h1
       · rename_i hz; exact absurd h1 hz
       · rename_i hz
         rw [if_neg hz]
         split at h1
         · rename_i hf; rw [if_pos hf]
         · cases h1
     rw [hv] at h2 ⊢
     have hW : ∃ st ∈ x.1, st.1 = names[i] ∧ valueS x.1 c names[i] ∈ st.2 ∧ CfgOk x.1 s ∧ (WithS x.1 s names[i] (valueS x.1 c names[i])).1 = withS x.1 s names[i] (valueS x.1 c names[i]) := by
       unfold WithS at h2 ⊢
       split at h2
       · rename_i hz; exact absurd h2 hz
       · rename_i hz
         rw [if_neg hz]
         split at h2
         · cases h2
         · rename_i st hf
           split at h2
           · rename_i hm
             refine ⟨st, (find_mem hf).1, (find_mem hf).2, hm, (config_iff _ _).1 (Classical.not_not.1 hz), ?_⟩
             simp only [hm, if_true]
           · cases h2
     obtain ⟨st, hst, hsn, hsv, hok, e⟩ := hW
     refine ih n (i + 1) _ (by omega) (by omega) (WithS_len _ _ _ _) fun m hm => ?_
     rw [e]
     have hval : ∀ u ∈ x.1, valueS x.1 (withS x.1 s names[i] (valueS x.1 c names[i])) u.1 = if u.1 == names[i] then valueS x.1 c names[i] else valueS x.1 s u.1 := fun u hu => by
       rw [← hsn] at hsv ⊢
       exact with_val hok hst hsv hu
     rw [List.take_succ_eq_append_getElem hlt] at hm
     rcases List.mem_append.1 hm with hm | hm
     · obtain ⟨⟨u, hu, rfl⟩, h3⟩ := hI m hm
       refine ⟨⟨u, hu, rfl⟩, fun _ => ?_⟩
       rw [hval u hu, h3 hok]
       by_cases hun : u.1 = names[i]
       · rw [if_pos (by simpa using hun), ← hun, h3 hok]
       · rw [if_neg (by simpa using hun)]
     · rw [List.mem_singleton.1 hm]
       refine ⟨⟨st, hst, hsn⟩, fun _ => ?_⟩
       have := hval st hst
       rw [hsn, beq_self_eq_true, if_pos rfl] at this
       exact this.symm
 have := gen names.length big 0 d (by omega) (by unfold big; unfold maxLen at hnl; omega) hd.1 (fun m hm => by simp at hm)
 rw [hK] at this
 exact this
end Go.Proofs.YtbekhaioddmliaaGreatDoor

