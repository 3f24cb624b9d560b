/- How packages differ, in the program and in its reference (law 46), in plain Lean. -/
import Derived.Test.YtahjncefiegflaaGreatDoorQSrtN
namespace Go.Proofs.YtahjncefiegflaaGreatDoor
set_option linter.unusedVariables false
set_option linter.unusedSimpArgs false
open Go Go.RowKit
variable {N : Nat}
theorem ConcatA_two (hN : big ≤ N) (a b : List Attr) (ha : a.length ≤ 100000) (hb : b.length ≤ 100000) : slices_Concat_api_Attr N [a, b] = some (a ++ b) := by
 obtain ⟨d, rfl⟩ : ∃ d, N = d + 3 := ⟨N - 3, by unfold big at hN; omega⟩
 have e0 : IntKind.i64.wrap ((0 : Int) + (a.length : Int)) = (a.length : Int) := by rw [Int.zero_add]; exact wrap_id (by omega) (by omega)
 have e1 : IntKind.i64.wrap ((a.length : Int) + (b.length : Int)) = ((a.length + b.length : Nat) : Int) := by rw [Int.natCast_add]; exact wrap_id (by omega) (by omega)
 have g0 : geti [a, b] (0 : Int) = some a := rfl
 have g1 : geti [a, b] (1 : Int) = some b := rfl
 have w1 : IntKind.i64.wrap ((0 : Int) + 1) = 1 := by decide
 have w2 : IntKind.i64.wrap ((1 : Int) + 1) = 2 := by decide
 have t0 : decide ((0 : Int) < 2) = true := rfl
 have t1 : decide ((1 : Int) < 2) = true := rfl
 have t2 : decide ((2 : Int) < 2) = false := rfl
 have n0 : decide ((a.length : Int) < 0) = false := decide_eq_false (by omega)
 have n1 : decide (((a.length + b.length : Nat) : Int) < 0) = false := decide_eq_false (by omega)
 have p0 : decide ((([] : List Attr).length + a.length) * (24 * Ty.sz (.pr .str (.rc .value))) ≤ 140737488355328) = true := decide_eq_true (by show (0 + a.length) * (24 * 6) ≤ _; omega)
 have p1 : decide ((a.length + b.length) * (24 * Ty.sz (.pr .str (.rc .value))) ≤ 140737488355328) = true := decide_eq_true (by show (a.length + b.length) * (24 * 6) ≤ _; omega)
 have h0 : ∀ k, z14L0 (d + 3) [a, b] 2 k (d + 3) 0 0 = k ((a.length + b.length : Nat) : Int) := by
   intro k
   simp only [z14L0, z14L0T, t0, t1, t2, g0, g1, w1, w2, e0, e1, n0, n1, bnd_some, br_true, br_false]
 have h1 : ∀ k, z14L1 (d + 3) [a, b] 2 k (d + 3) 0 [] = k (a ++ b) := by
   intro k
   simp only [z14L1, z14L1T, t0, t1, t2, g0, g1, w1, w2, p0, p1, bnd_some, br_true, br_false, List.nil_append]
 have hg : slices_Grow_attr ((a.length + b.length : Nat) : Int) = some [] := by
   unfold slices_Grow_attr growF
   exact if_pos ⟨by omega, by show ((a.length + b.length : Nat) : Int) * ((24 * 6 : Nat) : Int) ≤ _; omega⟩
 show z14L0 (d + 3) [a, b] 2 _ (d + 3) 0 0 = _
 rw [h0, hg, bnd_some]
 show z14L1 (d + 3) [a, b] 2 _ (d + 3) 0 [] = _
 rw [h1]
theorem ConcatT_two (hN : big ≤ N) (a b : List Target) (ha : a.length ≤ 100000) (hb : b.length ≤ 100000) : slices_Concat_api_Target N [a, b] = some (a ++ b) := by
 obtain ⟨d, rfl⟩ : ∃ d, N = d + 3 := ⟨N - 3, by unfold big at hN; omega⟩
 have e0 : IntKind.i64.wrap ((0 : Int) + (a.length : Int)) = (a.length : Int) := by rw [Int.zero_add]; exact wrap_id (by omega) (by omega)
 have e1 : IntKind.i64.wrap ((a.length : Int) + (b.length : Int)) = ((a.length + b.length : Nat) : Int) := by rw [Int.natCast_add]; exact wrap_id (by omega) (by omega)
 have g0 : geti [a, b] (0 : Int) = some a := rfl
 have g1 : geti [a, b] (1 : Int) = some b := rfl
 have w1 : IntKind.i64.wrap ((0 : Int) + 1) = 1 := by decide
 have w2 : IntKind.i64.wrap ((1 : Int) + 1) = 2 := by decide
 have t0 : decide ((0 : Int) < 2) = true := rfl
 have t1 : decide ((1 : Int) < 2) = true := rfl
 have t2 : decide ((2 : Int) < 2) = false := rfl
 have n0 : decide ((a.length : Int) < 0) = false := decide_eq_false (by omega)
 have n1 : decide (((a.length + b.length : Nat) : Int) < 0) = false := decide_eq_false (by omega)
 have p0 : decide ((([] : List Target).length + a.length) * (24 * Ty.sz (.pr .str (.pr .str (.sl (.pr .str (.rc .value)))))) ≤ 140737488355328) = true := decide_eq_true (by show (0 + a.length) * (24 * 3) ≤ _; omega)
 have p1 : decide ((a.length + b.length) * (24 * Ty.sz (.pr .str (.pr .str (.sl (.pr .str (.rc .value)))))) ≤ 140737488355328) = true := decide_eq_true (by show (a.length + b.length) * (24 * 3) ≤ _; omega)
 have h0 : ∀ k, z13L0 (d + 3) [a, b] 2 k (d + 3) 0 0 = k ((a.length + b.length : Nat) : Int) := by
   intro k
   simp only [z13L0, z13L0T, t0, t1, t2, g0, g1, w1, w2, e0, e1, n0, n1, bnd_some, br_true, br_false]
 have h1 : ∀ k, z13L1 (d + 3) [a, b] 2 k (d + 3) 0 [] = k (a ++ b) := by
   intro k
   simp only [z13L1, z13L1T, t0, t1, t2, g0, g1, w1, w2, p0, p1, bnd_some, br_true, br_false, List.nil_append]
 have hg : slices_Grow_target ((a.length + b.length : Nat) : Int) = some [] := by
   unfold slices_Grow_target growF
   exact if_pos ⟨by omega, by show ((a.length + b.length : Nat) : Int) * ((24 * 3 : Nat) : Int) ≤ _; omega⟩
 show z13L0 (d + 3) [a, b] 2 _ (d + 3) 0 0 = _
 rw [h0, hg, bnd_some]
 show z13L1 (d + 3) [a, b] 2 _ (d + 3) 0 [] = _
 rw [h1]
structure GoodT (t : Target) : Prop where
 few : t.2.2.length ≤ 30
 vals : ∀ a ∈ t.2.2, valueE a.2 = 0
 asc : t.2.2.Pairwise fun a b => a.1 < b.1
theorem map_take_snoc' {α β : Type} (f : α → β) (l : List α) {i : Nat} (h : i < l.length) : (l.take (i + 1)).map f = (l.take i).map f ++ [f l[i]] := by
 rw [List.take_succ_eq_append_getElem h, List.map_append]; rfl
theorem attrG_flat {t : Target} (ht : GoodT t) (n : Str) : (∀ k ∈ (attrG t n).1.cases, k.2.cases = [] ∧ k.2.list.length ≤ maxLen) ∧ (attrG t n).1.list.length ≤ maxLen ∧ (attrG t n).1.cases.length ≤ maxLen := by
 unfold attrG
 cases h : attrF n t.2.2 with
 | none => exact ⟨fun k hk => (by cases hk), Nat.zero_le _, Nat.zero_le _⟩
 | some v =>
   obtain ⟨a, ha, rfl⟩ := attrF_mem h
   have g := good (ht.vals a ha)
   exact ⟨good_cases g, good_list g, good_few g⟩
def diffB (t u : Target) (n : Str) : Bool := ((attrG t n).2 != (attrG u n).2) || !(sameG (attrG t n).1 (attrG u n).1)
def kindL (t u : Target) : List Str := if t.2.1 == u.2.1 then [] else [[107, 105, 110, 100]]
def attrN (t : Target) : List Str := t.2.2.map (·.1)
def otherS (t u : Target) : List Str := kindL t u ++ (sortN (attrN t ++ attrN u)).filter (diffB t u)
theorem filter_take_snoc {α : Type} (p : α → Bool) (l : List α) {i : Nat} (h : i < l.length) : (l.take (i + 1)).filter p = (l.take i).filter p ++ if p l[i] = true then [l[i]] else [] := by
 rw [List.take_succ_eq_append_getElem h, List.filter_append]
 congr 1
 cases hp : p l[i] <;> simp [hp]
theorem otherAttrs_eq (hN : big ≤ N) (t u : Target) (ht : GoodT t) (hu : GoodT u) : ref2_otherAttrs N t u = some (otherS t u) := by
 have hlt := ht.few
 have hlu := hu.few
 unfold ref2_otherAttrs
 rw [ConcatA_two hN _ _ (by omega) (by omega), bnd_some]
 have h0 : ∀ k, z41L0 N ((t.2.2 ++ u.2.2).length : Int) (t.2.2 ++ u.2.2) k N 0 [] = k ((t.2.2 ++ u.2.2).map (·.1)) := by
   intro k
   have hL : (t.2.2 ++ u.2.2).length ≤ 60 := by rw [List.length_append]; omega
   generalize t.2.2 ++ u.2.2 = L at hL ⊢
   have hm : L.length ≤ maxLen := Nat.le_trans hL (by decide)
   have := loop_st (f := fun n i w => z41L0 N (L.length : Int) L k n i w) (T := fun self i w => z41L0T N (L.length : Int) L k self i w) (fun _ _ _ => rfl) hm (fun i => (L.take i).map (·.1)) (r := k (L.map (·.1))) (fun self i hi hr => ?_) (fun self => ?_) hN
   · simpa using this
   · rw [map_take_snoc' _ _ hi] at hr
     have hw : ((L.take i).map (·.1)).length ≤ 60 := by rw [List.length_map, List.length_take]; omega
     generalize (L.take i).map (·.1) = w at hr hw ⊢
     simp only [z41L0T, geti_lt _ hi, wrap_succ hm hi, bnd_some]
     have hsz : (w.length + [L[i].1].length) * (24 * Ty.sz .str) ≤ 140737488355328 := by
       rw [List.length_singleton]; show _ * 24 ≤ _; omega
     rw [lt_tt hi, br_true, br_pos hsz]
     exact hr
   · simp only [z41L0T, lt_ff, br_false, List.take_length]
 rw [h0]
 have hlen : ((t.2.2 ++ u.2.2).map (·.1)).length ≤ 60 := by rw [List.length_map, List.length_append]; omega
 have hns : (t.2.2 ++ u.2.2).map (·.1) = attrN t ++ attrN u := List.map_append
 rw [hns] at hlen ⊢
 unfold otherS
 generalize attrN t ++ attrN u = ns at hlen ⊢
 unfold slices_Sort_string_string slices_Compact_string_string
 rw [if_pos (by omega), bnd_some, bnd_some, compact_sort]
 have hcl : (sortN ns).length ≤ 60 := by
   have := setM_len ns []
   unfold sortN
   rw [List.length_mergeSort, List.length_map]
   simp only [List.length_nil] at this
   omega
 generalize sortN ns = cs at hcl ⊢
 have htm : t.2.2.length ≤ maxLen := by unfold maxLen; omega
 have hum : u.2.2.length ≤ maxLen := by unfold maxLen; omega
 have hcm : cs.length ≤ maxLen := Nat.le_trans hcl (by decide)
 have h1 : ∀ w0 : List Str, w0.length ≤ 1 → z41L1 N (cs.length : Int) t.1 t.2.1 t.2.2 u.1 u.2.1 u.2.2 cs (fun w => some w) N 0 w0 = some (w0 ++ cs.filter (diffB t u)) := by
   intro w0 hw0
   have := loop_st (f := fun n i w => z41L1 N (cs.length : Int) t.1 t.2.1 t.2.2 u.1 u.2.1 u.2.2 cs (fun w => some w) n i w) (T := fun self i w => z41L1T N (cs.length : Int) t.1 t.2.1 t.2.2 u.1 u.2.1 u.2.2 cs (fun w => some w) self i w) (fun _ _ _ => rfl) hcm (fun i => w0 ++ (cs.take i).filter (diffB t u)) (r := some (w0 ++ cs.filter (diffB t u))) (fun self i hi hr => ?_) (fun self => ?_) hN
   · simpa using this
   · rw [filter_take_snoc _ _ hi, ← List.append_assoc] at hr
     have hw : (w0 ++ (cs.take i).filter (diffB t u)).length ≤ 61 := by
       rw [List.length_append]
       have := List.length_filter_le (diffB t u) (cs.take i)
       rw [List.length_take] at this
       omega
     generalize w0 ++ (cs.take i).filter (diffB t u) = w at hr hw ⊢
     have hsz : (w.length + [cs[i]].length) * (24 * Ty.sz .str) ≤ 140737488355328 := by
       rw [List.length_singleton]; show _ * 24 ≤ _; omega
     have a1 : ref2_attr N (t.1, (t.2.1, t.2.2)) cs[i] = some (attrG t cs[i]) := attrR_eq hN t htm cs[i]
     have a2 : ref2_attr N (u.1, (u.2.1, u.2.2)) cs[i] = some (attrG u cs[i]) := attrR_eq hN u hum cs[i]
     have f1 := attrG_flat ht cs[i]
     have f2 := attrG_flat hu cs[i]
     simp only [z41L1T, geti_lt _ hi, wrap_succ hcm hi, bnd_some, GValue.eta, a1, a2, SameValueG hN f1.1 (fun k hk => (f2.1 k hk).2) f1.2.1 f2.2.1 f1.2.2]
     rw [lt_tt hi, br_true, br_pos ⟨by omega, by omega⟩]
     unfold diffB at hr
     cases h1 : (attrG t cs[i]).2 != (attrG u cs[i]).2 <;> cases h2 : sameG (attrG t cs[i]).1 (attrG u cs[i]).1 <;> simp only [h1, h2, Bool.not_true, Bool.not_false, Bool.or_true, Bool.or_false, Bool.true_or, if_true, Bool.false_eq_true, if_false, List.append_nil, br_true, br_false] at hr ⊢
     · rw [br_pos hsz]; exact hr
     · exact hr
     · rw [br_pos hsz]; exact hr
     · rw [br_pos hsz]; exact hr
   · simp only [z41L1T, lt_ff, br_false, List.take_length]
 unfold kindL
 cases hk : t.2.1 == u.2.1
 · simp only [Bool.not_false, br_true, bnd_some]
   rw [br_pos (by simp [Ty.sz])]
   exact h1 [[107, 105, 110, 100]] (by simp)
 · simp only [Bool.not_true, br_false, bnd_some]
   exact h1 [] (by simp)
theorem valueE_zero_name {l : List Attr} {k : Int} (h : forT (attrB l) k l 0 = 0) : (∀ a ∈ l, nameS a.1 = true) ∧ l.Pairwise fun a b => a.1 < b.1 := by
 have := (forT_kk (q := fun i a => nameS a.1 = true ∧ prevS l i a.1 0 = 0) (body := attrB l) (fun i x r hx => by
   unfold attrB at hx
   split at hx
   · cases hx
   · rename_i hn
     split at hx
     · rename_i h2
       exact absurd hx (by simpa using h2)
     · have hr := prev_zero hx
       subst hr
       exact ⟨⟨by simpa using hn, hx⟩, rfl⟩) l k 0 h).1
 refine ⟨fun a ha => ?_, ?_⟩
 · obtain ⟨i, hi, rfl⟩ := List.mem_iff_getElem.1 ha
   exact (this i hi).1
 · have step : ∀ i (hi : i + 1 < l.length), l[i].1 < l[i + 1].1 := fun i hi => by
     have h2 := (this (i + 1) hi).2
     rw [Nat.zero_add] at h2
     unfold prevS at h2
     rw [if_neg (by omega), Nat.add_sub_cancel, List.getElem?_eq_getElem (by omega)] at h2
     dsimp only at h2
     split at h2
     · cases h2
     · rename_i hb
       simp only [Bool.or_eq_true, not_or, Bool.not_eq_true] at hb
       rw [less_isK] at hb
       have h3 : ¬ l[i + 1].1 < l[i].1 := by simpa using hb.1
       have h4 : ¬ l[i + 1].1 = l[i].1 := by simpa using hb.2
       exact Classical.byContradiction fun h5 => h4 (str_tri _ _ h3 h5)
   rw [List.pairwise_iff_getElem]
   intro i j hi hj hij
   obtain ⟨d, rfl⟩ : ∃ d, j = i + 1 + d := ⟨j - (i + 1), by omega⟩
   induction d with
   | zero => exact step i (by omega)
   | succ d ih => exact str_lt_trans (ih (by omega) (by omega)) (step (i + 1 + d) (by omega))
theorem target_parts {t : Target} (h : targetE t = 0) : t.2.2.length ≤ 30 ∧ (∀ a ∈ t.2.2, nameS a.1 = true) ∧ t.2.2.Pairwise fun a b => a.1 < b.1 := by
 unfold targetE at h
 split at h
 · cases h
 · split at h
   · cases h
   · split at h
     · cases h
     · rename_i h1 h2 h3
       exact ⟨by omega, valueE_zero_name h⟩
theorem goodT {t : Target} (h : targetE t = 0) : GoodT t := ⟨(target_parts h).1, target_vals h, (target_parts h).2.2⟩
theorem beq_sym {α : Type} [BEq α] [LawfulBEq α] (a b : α) : (a == b) = (b == a) := by
 by_cases h : a = b
 · subst h; rfl
 · rw [beq_eq_false_iff_ne.2 h, beq_eq_false_iff_ne.2 (Ne.symm h)]
theorem dec_sym {α : Type} [DecidableEq α] (a b : α) : decide (a = b) = decide (b = a) := decide_eq_decide.2 eq_comm
theorem sameP_sym (a b : GValue) : sameP a b = sameP b a ∨ a.cases.isEmpty ≠ b.cases.isEmpty := by
 by_cases h : a.cases.isEmpty = b.cases.isEmpty
 · left
   unfold sameP
   rw [beq_sym a.kind, beq_sym a.text, beq_sym a.number, dec_sym a.list, h]
 · exact .inr h
theorem sameL_sym : ∀ {l m : List Case}, (∀ k ∈ l, k.2.cases = []) → (∀ k ∈ m, k.2.cases = []) → sameL l m = sameL m l
 | [], [], _, _ => rfl
 | [], _ :: _, _, _ => rfl
 | _ :: _, [], _, _ => rfl
 | x :: l, y :: m, hl, hm => by
   unfold sameL
   rw [sameL_sym (fun k hk => hl k (by simp [hk])) (fun k hk => hm k (by simp [hk])), beq_sym x.1]
   congr 2
   rcases sameP_sym x.2 y.2 with h | h
   · exact h
   · exact absurd (by rw [hl x (by simp), hm y (by simp)]) h
theorem sameG_sym {a b : GValue} (ha : ∀ k ∈ a.cases, k.2.cases = []) (hb : ∀ k ∈ b.cases, k.2.cases = []) : sameG a b = sameG b a := by
 unfold sameG
 rw [beq_sym a.kind, beq_sym a.text, beq_sym a.number, dec_sym a.list, sameL_sym ha hb]
theorem attrF_none {n : Str} : ∀ {l : List Attr}, attrF n l = none ↔ n ∉ l.map (·.1)
 | [] => by simp [attrF]
 | a :: l => by
   unfold attrF
   by_cases h : a.1 = n
   · simp [h]
   · rw [if_neg (by simpa using h), attrF_none, List.map_cons, List.mem_cons, not_or]
     exact ⟨fun h2 => ⟨fun e => h e.symm, h2⟩, fun h2 => h2.2⟩
theorem attrF_self : ∀ {l : List Attr}, (l.Pairwise fun a b => a.1 < b.1) → ∀ a ∈ l, attrF a.1 l = some a.2
 | [], _, a, h => by cases h
 | b :: l, hp, a, h => by
   rw [List.pairwise_cons] at hp
   unfold attrF
   rcases List.mem_cons.1 h with rfl | h
   · simp
   · have : ¬ b.1 = a.1 := fun e => str_lt_irrefl _ (e ▸ hp.1 a h)
     rw [if_neg (by simpa using this)]
     exact attrF_self hp.2 a h
theorem attrG_there {t : Target} (n : Str) : (attrG t n).2 = decide (n ∈ attrN t) := by
 unfold attrG attrN
 cases h : attrF n t.2.2 with
 | none => rw [attrF_none] at h; simp [h]
 | some v =>
   have : n ∈ t.2.2.map (·.1) := Classical.byContradiction fun hn => by rw [attrF_none.2 hn] at h; cases h
   simp only [this, decide_true]
theorem attrG_self {t : Target} (ht : GoodT t) {a : Attr} (ha : a ∈ t.2.2) : attrG t a.1 = (a.2, true) := by
 unfold attrG
 rw [attrF_self ht.asc a ha]
theorem mset_mem {α : Type} (m : List (Str × α)) (n : Str) (b : α) : ∀ p ∈ mset m n b, p ∈ m ∨ p = (n, b) := by
 induction m with
 | nil => intro p hp; right; simpa [mset] using hp
 | cons q m ih =>
   obtain ⟨k, v⟩ := q
   intro p hp
   unfold mset at hp
   split at hp
   · rename_i h
     rcases List.mem_cons.1 hp with rfl | hp
     · right
       simp only [beq_iff_eq] at h
       rw [h]
     · exact .inl (by simp [hp])
   · rcases List.mem_cons.1 hp with rfl | hp
     · exact .inl (by simp)
     · rcases ih p hp with h | h
       · exact .inl (by simp [h])
       · exact .inr h
structure Tells (c : Str → Bool) (m : List (Str × Bool)) (ks : List Str) : Prop where
 nd : (m.map (·.1)).Nodup
 keys : ∀ n, n ∈ m.map (·.1) ↔ n ∈ ks
 vals : ∀ p ∈ m, p.2 = c p.1
theorem Tells.set {c : Str → Bool} {m : List (Str × Bool)} {ks : List Str} (h : Tells c m ks) (n : Str) : Tells c (mset m n (c n)) (ks ++ [n]) :=
 ⟨(mset_keys m n _).1 h.nd, fun x => by rw [(mset_keys m n _).2, h.keys, List.mem_append, List.mem_singleton], fun p hp => by
   rcases mset_mem m n _ p hp with h1 | rfl
   · exact h.vals p h1
   · rfl⟩
theorem mset_len {α : Type} (m : List (Str × α)) (n : Str) (b : α) : (mset m n b).length ≤ m.length + 1 := by
 induction m with
 | nil => exact Nat.le_refl _
 | cons p m ih =>
   obtain ⟨k, v⟩ := p
   unfold mset
   split
   · simp
   · simp only [List.length_cons]; omega
theorem erase_perm {α : Type} : ∀ (l : List α) (i : Nat) (hi : i < l.length), (l[i] :: l.eraseIdx i).Perm l
 | [], i, hi => absurd hi (Nat.not_lt_zero _)
 | a :: l, 0, hi => List.Perm.refl _
 | a :: l, i + 1, hi => by
   have := erase_perm l i (by simpa using hi)
   exact (List.Perm.swap _ _ _).trans (List.Perm.cons a this)
theorem range_names {N : Nat} {k4 : List Str → Option (List Str)} {r : List Str} : ∀ (d : Nat) (m : List (Str × Bool)) (n : Nat) (w : List Str), m.length = d → d < n → w.length + d ≤ 1000 → (∀ w' : List Str, w'.Perm (w ++ (m.filter (·.2)).map (·.1)) → k4 w' = some r) → z25L2 N k4 n w m = some r := by
 intro d
 induction d with
 | zero =>
   intro m n w hm hn hw h
   obtain ⟨n, rfl⟩ : ∃ q, n = q + 1 := ⟨n - 1, by omega⟩
   obtain rfl : m = [] := List.eq_nil_of_length_eq_zero hm
   show z25L2T _ _ _ _ _ = _
   unfold z25L2T
   rw [List.isEmpty_nil, br_true]
   exact h w (by simp)
 | succ d ih =>
   intro m n w hm hn hw h
   obtain ⟨n, rfl⟩ : ∃ q, n = q + 1 := ⟨n - 1, by omega⟩
   have hne : m ≠ [] := fun e => by rw [e] at hm; cases hm
   show z25L2T _ _ _ _ _ = _
   unfold z25L2T
   rw [show m.isEmpty = false by cases m with | nil => exact absurd rfl hne | cons _ _ => rfl, br_false]
   refine allC_of hne fun i hi => ?_
   have hq : (m.eraseIdx i).length = d := by rw [List.length_eraseIdx_of_lt hi]; omega
   have hp : (m[i] :: m.eraseIdx i).Perm m := erase_perm m i hi
   have hf := (hp.filter (·.2)).map (·.1)
   rw [List.filter_cons] at hf
   cases hb : m[i].2 with
   | true =>
     rw [hb, if_pos rfl, List.map_cons] at hf
     rw [br_true, br_pos (by rw [List.length_singleton]; show _ * 24 ≤ _; omega)]
     refine ih _ n _ hq (by omega) (by simp; omega) fun w' hw' => h w' (hw'.trans ?_)
     rw [List.append_assoc]
     exact List.Perm.append_left w hf
   | false =>
     rw [hb, if_neg (by simp)] at hf
     rw [br_false]
     exact ih _ n _ hq (by omega) (by omega) fun w' hw' => h w' (hw'.trans (List.Perm.append_left w hf))
theorem foldl_take_snoc {α β : Type} (f : β → α → β) (b : β) (l : List α) {i : Nat} (h : i < l.length) : (l.take (i + 1)).foldl f b = f ((l.take i).foldl f b) l[i] := by
 rw [List.take_succ_eq_append_getElem h, List.foldl_append]; rfl
def mapA (t u : Target) (m : List (Str × Bool)) (l : List Attr) : List (Str × Bool) := l.foldl (fun m x => mset m x.1 (diffB t u x.1)) m
def mapB (t u : Target) (m : List (Str × Bool)) (l : List Attr) : List (Str × Bool) := l.foldl (fun m x => if (attrG t x.1).2 = true then m else mset m x.1 (diffB t u x.1)) m
theorem mapA_tells (t u : Target) : ∀ (l : List Attr) (m : List (Str × Bool)) (ks : List Str), Tells (diffB t u) m ks → Tells (diffB t u) (mapA t u m l) (ks ++ l.map (·.1)) ∧ (mapA t u m l).length ≤ m.length + l.length
 | [], m, ks, h => ⟨by simpa [mapA] using h, Nat.le_refl _⟩
 | x :: l, m, ks, h => by
   have := mapA_tells t u l _ _ (h.set x.1)
   have hl := mset_len m x.1 (diffB t u x.1)
   have e : mapA t u m (x :: l) = mapA t u (mset m x.1 (diffB t u x.1)) l := rfl
   rw [e]
   exact ⟨by simpa [List.append_assoc] using this.1, by rw [List.length_cons]; omega⟩
theorem mapB_tells (t u : Target) : ∀ (l : List Attr) (m : List (Str × Bool)) (ks : List Str), (∀ n, (attrG t n).2 = true → n ∈ ks) → Tells (diffB t u) m ks → Tells (diffB t u) (mapB t u m l) (ks ++ l.map (·.1)) ∧ (mapB t u m l).length ≤ m.length + l.length
 | [], m, ks, _, h => ⟨by simpa [mapB] using h, Nat.le_refl _⟩
 | x :: l, m, ks, hk, h => by
   by_cases hx : (attrG t x.1).2 = true
   · have := mapB_tells t u l m ks hk h
     have e : mapB t u m (x :: l) = mapB t u m l := by show mapB t u (if _ then _ else _) l = _; rw [if_pos hx]
     rw [e]
     refine ⟨⟨this.1.nd, fun n => ?_, this.1.vals⟩, by rw [List.length_cons]; omega⟩
     rw [this.1.keys, List.map_cons, List.mem_append, List.mem_append, List.mem_cons]
     have := hk _ hx
     constructor
     · rintro (h | h)
       · exact .inl h
       · exact .inr (.inr h)
     · rintro (h | h | h)
       · exact .inl h
       · rw [h]; exact .inl this
       · exact .inr h
   · have hl := mset_len m x.1 (diffB t u x.1)
     have := mapB_tells t u l _ _ (fun n hn => List.mem_append_left _ (hk n hn)) (h.set x.1)
     have e : mapB t u m (x :: l) = mapB t u (mset m x.1 (diffB t u x.1)) l := by show mapB t u (if _ then _ else _) l = _; rw [if_neg hx]
     rw [e]
     exact ⟨by simpa [List.append_assoc] using this.1, by rw [List.length_cons]; omega⟩
theorem attrG_cases {t : Target} (ht : GoodT t) (n : Str) : ∀ k ∈ (attrG t n).1.cases, k.2.cases = [] := fun k hk => ((attrG_flat ht n).1 k hk).1
theorem attrsDiffer_eq (hN : big ≤ N) (t u : Target) (ht0 : targetE t = 0) (hu0 : targetE u = 0) (ft : Fit targetTy t) (fu : Fit targetTy u) (h1 : t.1.length ≤ 1048576) (h2 : u.1.length ≤ 1048576) : script_attrsDiffer N t u = some (otherS t u) := by
 have ht := goodT ht0
 have hu := goodT hu0
 have hlt := ht.few
 have hlu := hu.few
 have htm : t.2.2.length ≤ maxLen := by unfold maxLen; omega
 have hum : u.2.2.length ≤ maxLen := by unfold maxLen; omega
 have askU : ∀ a ∈ t.2.2, script_Attr N (u.1, (u.2.1, u.2.2)) a.1 = some ((attrG u a.1).1, (attrG u a.1).2, 0) := fun a ha => by
   have := AttrS_eq hN u fu h2 a.1 (ft.2.2.2 a ha).1
   unfold AttrG at this
   rw [if_neg (by simpa using hu0), (target_parts ht0).2.1 a ha] at this
   exact this
 have askT : ∀ a ∈ u.2.2, script_Attr N (t.1, (t.2.1, t.2.2)) a.1 = some ((attrG t a.1).1, (attrG t a.1).2, 0) := fun a ha => by
   have := AttrS_eq hN t ft h1 a.1 (fu.2.2.2 a ha).1
   unfold AttrG at this
   rw [if_neg (by simpa using ht0), (target_parts hu0).2.1 a ha] at this
   exact this
 unfold script_attrsDiffer
 have hA : ∀ k, z25L0 N t.2.2 (t.2.2.length : Int) u.1 u.2.1 u.2.2 k N 0 [] = k (mapA t u [] t.2.2) := by
   intro k
   have := loop_st (f := fun n i w => z25L0 N t.2.2 (t.2.2.length : Int) u.1 u.2.1 u.2.2 k n i w) (T := fun self i w => z25L0T N t.2.2 (t.2.2.length : Int) u.1 u.2.1 u.2.2 k self i w) (fun _ _ _ => rfl) htm (fun i => mapA t u [] (t.2.2.take i)) (r := k (mapA t u [] t.2.2)) (fun self i hi hr => ?_) (fun self => ?_) hN
   · simpa [mapA] using this
   · unfold mapA at hr ⊢
     rw [foldl_take_snoc _ _ _ hi] at hr
     generalize (t.2.2.take i).foldl (fun m x => mset m x.1 (diffB t u x.1)) [] = m at hr ⊢
     have hmem := List.getElem_mem hi
     have f1 := attrG_flat hu t.2.2[i].1
     have f2 := attrG_flat ht t.2.2[i].1
     rw [attrG_self ht hmem] at f2
     simp only [z25L0T, geti_lt _ hi, wrap_succ htm hi, bnd_some, askU _ hmem, GValue.eta, EqualG hN f1.1 (fun k hk => (f2.1 k hk).2) f1.2.1 f2.2.1 f1.2.2]
     rw [lt_tt hi, br_true]
     unfold diffB at hr
     rw [attrG_self ht hmem] at hr
     have hs : sameG (attrG u t.2.2[i].1).1 t.2.2[i].2 = sameG t.2.2[i].2 (attrG u t.2.2[i].1).1 := sameG_sym (attrG_cases hu _) (fun k hk => (f2.1 k hk).1)
     rw [hs]
     cases h3 : (attrG u t.2.2[i].1).2 <;> simp only [h3, Bool.not_true, Bool.not_false, br_true, br_false, show ((true != false) = true) from rfl, show ((true != true) = false) from rfl, Bool.true_or, Bool.false_or] at hr ⊢ <;> exact hr
   · simp only [z25L0T, lt_ff, br_false, List.take_length]
 have hB : ∀ k m0, z25L1 N u.2.2 (u.2.2.length : Int) t.1 t.2.1 t.2.2 k N 0 m0 = k (mapB t u m0 u.2.2) := by
   intro k m0
   have := loop_st (f := fun n i w => z25L1 N u.2.2 (u.2.2.length : Int) t.1 t.2.1 t.2.2 k n i w) (T := fun self i w => z25L1T N u.2.2 (u.2.2.length : Int) t.1 t.2.1 t.2.2 k self i w) (fun _ _ _ => rfl) hum (fun i => mapB t u m0 (u.2.2.take i)) (r := k (mapB t u m0 u.2.2)) (fun self i hi hr => ?_) (fun self => ?_) hN
   · simpa [mapB] using this
   · unfold mapB at hr ⊢
     rw [foldl_take_snoc _ _ _ hi] at hr
     generalize (u.2.2.take i).foldl (fun m x => if (attrG t x.1).2 = true then m else mset m x.1 (diffB t u x.1)) m0 = m at hr ⊢
     have hmem := List.getElem_mem hi
     simp only [z25L1T, geti_lt _ hi, wrap_succ hum hi, bnd_some, askT _ hmem]
     rw [lt_tt hi, br_true]
     unfold diffB at hr
     rw [attrG_self hu hmem] at hr
     cases h3 : (attrG t u.2.2[i].1).2 <;> simp only [h3, Bool.not_true, Bool.not_false, br_true, br_false, show ((false != true) = true) from rfl, Bool.true_or, if_true, Bool.false_eq_true, if_false] at hr ⊢ <;> exact hr
   · simp only [z25L1T, lt_ff, br_false, List.take_length]
 rw [hA, hB]
 obtain ⟨t1, l1⟩ := mapA_tells t u t.2.2 [] [] ⟨List.nodup_nil, fun n => by simp, fun p hp => by cases hp⟩
 obtain ⟨t2, l2⟩ := mapB_tells t u u.2.2 (mapA t u [] t.2.2) _ (fun n hn => by rw [attrG_there] at hn; exact of_decide_eq_true hn) t1
 generalize mapB t u (mapA t u [] t.2.2) u.2.2 = m at t2 l2
 simp only [List.length_nil, Nat.zero_add] at l1
 have hml : m.length ≤ 60 := by omega
 have hkeys : ((m.filter (·.2)).map (·.1)).Nodup := (List.Sublist.map _ List.filter_sublist).nodup t2.nd
 refine range_names m.length m N [] rfl (by unfold big at hN; omega) (by simp; omega) fun w' hw' => ?_
 rw [List.nil_append] at hw'
 have hlw : w'.length ≤ 60 := by
   rw [hw'.length_eq, List.length_map]
   have := List.length_filter_le (·.2) m
   omega
 have hsort : w'.mergeSort leStr = (sortN (attrN t ++ attrN u)).filter (diffB t u) := by
   refine str_ext (sortStr_pw _ (hw'.nodup_iff.2 hkeys)) ((sortN_asc _).filter _) fun n => ?_
   rw [List.mem_mergeSort, hw'.mem_iff, List.mem_filter, mem_sortN]
   have hk := t2.keys n
   rw [List.nil_append] at hk
   constructor
   · intro h
     obtain ⟨p, hp, rfl⟩ := List.mem_map.1 h
     rw [List.mem_filter] at hp
     exact ⟨hk.1 (List.mem_map.2 ⟨p, hp.1, rfl⟩), by rw [← t2.vals p hp.1]; exact hp.2⟩
   · rintro ⟨h3, h4⟩
     obtain ⟨p, hp, rfl⟩ := List.mem_map.1 (hk.2 h3)
     exact List.mem_map.2 ⟨p, List.mem_filter.2 ⟨hp, by rw [t2.vals p hp]; exact h4⟩, rfl⟩
 unfold slices_Sort_string_string slices_Insert_string otherS kindL
 rw [if_pos (by omega), bnd_some, hsort]
 have hfl : ((sortN (attrN t ++ attrN u)).filter (diffB t u)).length ≤ 60 := by rw [← hsort, List.length_mergeSort]; exact hlw
 cases hk : t.2.1 == u.2.1
 · simp only [Bool.not_false, br_true, Bool.false_eq_true, if_false]
   rw [if_pos ⟨trivial, rfl, by show (_ + 1) * 24 ≤ _; omega⟩, bnd_some]
 · simp only [Bool.not_true, br_false, if_true]
   rfl
theorem packageE_parts {p : Package} (h : packageE p = 0) : p.2.length ≤ 500 ∧ (∀ t ∈ p.2, targetE t = 0) ∧ p.2.Pairwise fun a b => a.1 < b.1 := by
 unfold packageE at h
 split at h
 · cases h
 · split at h
   · cases h
   · rename_i h1 h2
     refine ⟨by omega, ?_⟩
     have := (forT_kk (q := fun i t => targetE t = 0 ∧ prevS p.2 i t.1 0 = 0) (body := targB p.2) (fun i x r hx => by
       unfold targB at hx
       split at hx
       · rename_i h3
         exact absurd hx (by simpa using h3)
       · rename_i h3
         have hr := prev_zero hx
         subst hr
         exact ⟨⟨by simpa using h3, hx⟩, rfl⟩) p.2 0 0 h).1
     refine ⟨fun a ha => ?_, ?_⟩
     · obtain ⟨i, hi, rfl⟩ := List.mem_iff_getElem.1 ha
       exact (this i hi).1
     · have step : ∀ i (hi : i + 1 < p.2.length), p.2[i].1 < p.2[i + 1].1 := fun i hi => by
         have h2 := (this (i + 1) hi).2
         rw [Nat.zero_add] at h2
         unfold prevS at h2
         rw [if_neg (by omega), Nat.add_sub_cancel, List.getElem?_eq_getElem (by omega)] at h2
         dsimp only at h2
         split at h2
         · cases h2
         · rename_i hb
           simp only [Bool.or_eq_true, not_or, Bool.not_eq_true] at hb
           rw [less_isK] at hb
           have h3 : ¬ p.2[i + 1].1 < p.2[i].1 := by simpa using hb.1
           have h4 : ¬ p.2[i + 1].1 = p.2[i].1 := by simpa using hb.2
           exact Classical.byContradiction fun h5 => h4 (str_tri _ _ h3 h5)
       rw [List.pairwise_iff_getElem]
       intro i j hi hj hij
       obtain ⟨d, rfl⟩ : ∃ d, j = i + 1 + d := ⟨j - (i + 1), by omega⟩
       induction d with
       | zero => exact step i (by omega)
       | succ d ih => exact str_lt_trans (ih (by omega) (by omega)) (step (i + 1 + d) (by omega))
def targF (n : Str) : List Target → Option Target
 | [] => none
 | a :: l => if a.1 == n then some a else targF n l
def zeroT : Target := ([], ([], []))
def targG (p : Package) (n : Str) : Target × Bool := match targF n p.2 with
 | some t => (t, true)
 | none => (zeroT, false)
theorem targF_mem {n : Str} : ∀ {l : List Target} {t : Target}, targF n l = some t → t ∈ l ∧ t.1 = n
 | [], _, h => by cases h
 | a :: l, t, h => by
   unfold targF at h
   split at h
   · rename_i he
     cases h; exact ⟨by simp, by simpa using he⟩
   · obtain ⟨h1, h2⟩ := targF_mem h
     exact ⟨by simp [h1], h2⟩
theorem targF_self : ∀ {l : List Target}, (l.Pairwise fun a b => a.1 < b.1) → ∀ a ∈ l, targF a.1 l = some a
 | [], _, a, h => by cases h
 | b :: l, hp, a, h => by
   rw [List.pairwise_cons] at hp
   unfold targF
   rcases List.mem_cons.1 h with rfl | h
   · simp
   · have : ¬ b.1 = a.1 := fun e => str_lt_irrefl _ (e ▸ hp.1 a h)
     rw [if_neg (by simpa using this)]
     exact targF_self hp.2 a h
theorem targF_forT {β : Type} (n : Str) (f : Target → β) (z : β) : ∀ (l : List Target) (j : Nat), forT (fun _ (a : Target) r => if (a.1 == n) = true then f a else r) z l j = (match targF n l with | some v => f v | none => z)
 | [], _ => rfl
 | a :: l, j => by
   show (if (a.1 == n) = true then f a else forT _ z l (j + 1)) = _
   rw [targF_forT n f z l (j + 1)]
   have e : targF n (a :: l) = if (a.1 == n) = true then some a else targF n l := rfl
   rw [e]
   by_cases h : (a.1 == n) = true
   · rw [if_pos h, if_pos h]
   · rw [if_neg h, if_neg h]
theorem targetOf_eq (hN : big ≤ N) (p : Package) (hp : p.2.length ≤ maxLen) (n : Str) : ref2_targetOf N p n = some (targG p n) := by
 unfold ref2_targetOf targG
 have e : (match targF n p.2 with | some v => (v, true) | none => (zeroT, false)) = forT (fun _ (a : Target) r => if (a.1 == n) = true then (a, true) else r) (zeroT, false) p.2 0 := (targF_forT n (fun v => (v, true)) (zeroT, false) p.2 0).symm
 rw [e]
 refine loop_for (fun _ _ => rfl) p.2 hp (fun self i h r' hr => ?_) (fun self => ?_) hN
 · simp only [z47L0T, geti_lt _ h, wrap_succ hp h, hr, bnd_some]
   rw [lt_tt h, br_true, br_ite]
 · simp only [z47L0T, lt_ff, br_false]; rfl
theorem mget_set {α : Type} (n k : Str) (v : α) : ∀ m : List (Str × α), mget (mset m k v) n = if n = k then some v else mget m n
 | [] => by
   unfold mset mget
   by_cases h : n = k
   · simp [h]
   · simp [h, mget]
 | (j, x) :: m => by
   unfold mset
   by_cases hk : k = j
   · subst hk
     simp only [beq_self_eq_true, if_true]
     unfold mget
     by_cases h : n = k
     · simp [h]
     · simp [h]
   · rw [if_neg (by simpa using hk)]
     by_cases hj : n = j
     · subst hj
       have hnk : ¬ n = k := Ne.symm hk
       rw [if_neg hnk]
       unfold mget
       simp
     · have e1 : ∀ r : List (Str × α), mget ((j, x) :: r) n = mget r n := fun r => by
         rw [mget, if_neg (by simpa using hj)]
       rw [e1, e1, mget_set n k v m]
theorem targF_cons (n : Str) (a : Target) (l : List Target) : targF n (a :: l) = if (a.1 == n) = true then some a else targF n l := rfl
theorem mget_fold (n : Str) : ∀ (l : List Target) (m : List (Str × Target)), (l.Pairwise fun a b => a.1 < b.1) → mget (l.foldl (fun m x => mset m x.1 x) m) n = match targF n l with | some t => some t | none => mget m n
 | [], m, _ => rfl
 | a :: l, m, h => by
   rw [List.pairwise_cons] at h
   show mget (l.foldl _ (mset m a.1 a)) n = _
   rw [mget_fold n l _ h.2, mget_set, targF_cons]
   by_cases ha : a.1 = n
   · subst ha
     have : targF a.1 l = none := by
       cases hf : targF a.1 l with
       | none => rfl
       | some t =>
         obtain ⟨h1, h2⟩ := targF_mem hf
         exact absurd (h2 ▸ h.1 t h1) (str_lt_irrefl _)
     rw [this]
     simp
   · rw [if_neg (Ne.symm ha), if_neg (by simpa using ha)]
theorem targetsOf_eq (hN : big ≤ N) (p : Package) (hp : p.2.length ≤ maxLen) : script_targetsOf N p = some (p.2.foldl (fun m x => mset m x.1 x) []) := by
 unfold script_targetsOf
 have := loop_st (f := fun n i w => z36L0 N p.2 (p.2.length : Int) (fun o => some o) n i w) (T := fun self i w => z36L0T N p.2 (p.2.length : Int) (fun o => some o) self i w) (fun _ _ _ => rfl) hp (fun i => (p.2.take i).foldl (fun m x => mset m x.1 x) []) (r := some (p.2.foldl (fun m x => mset m x.1 x) [])) (fun self i hi hr => ?_) (fun self => ?_) hN
 · simpa using this
 · rw [foldl_take_snoc _ _ _ hi] at hr
   simp only [z36L0T, geti_lt _ hi, wrap_succ hp hi, bnd_some]
   rw [lt_tt hi, br_true]
   exact hr
 · simp only [z36L0T, lt_ff, br_false, List.take_length]
abbrev Chg : Type := Str × Int × List Str
def chgR (p q : Package) (s : Str) : List Chg := match targF s p.2, targF s q.2 with
 | none, _ => [(s, (1, []))]
 | some _, none => [(s, (2, []))]
 | some t, some u => if (otherS t u).length > 0 then [(s, (3, otherS t u))] else []
def targN (p : Package) : List Str := p.2.map (·.1)
def outS (p q : Package) : List Chg := (sortN (targN p ++ targN q)).flatMap (chgR p q)
def chgA (q : Package) (t : Target) : List Chg := match targF t.1 q.2 with
 | none => [(t.1, (2, []))]
 | some u => if (otherS t u).length > 0 then [(t.1, (3, otherS t u))] else []
def chgB (p : Package) (t : Target) : List Chg := match targF t.1 p.2 with
 | none => [(t.1, (1, []))]
 | some _ => []
theorem chgR_one (p q : Package) (s : Str) : (chgR p q s).length ≤ 1 ∧ ∀ c ∈ chgR p q s, c.1 = s := by
 unfold chgR
 split
 · exact ⟨by simp, fun c hc => by simp at hc; rw [hc]⟩
 · exact ⟨by simp, fun c hc => by simp at hc; rw [hc]⟩
 · split
   · exact ⟨by simp, fun c hc => by simp at hc; rw [hc]⟩
   · exact ⟨by simp, fun c hc => by simp at hc⟩
theorem chgA_one (q : Package) (t : Target) : (chgA q t).length ≤ 1 ∧ ∀ c ∈ chgA q t, c.1 = t.1 := by
 unfold chgA
 split
 · exact ⟨by simp, fun c hc => by simp at hc; rw [hc]⟩
 · split
   · exact ⟨by simp, fun c hc => by simp at hc; rw [hc]⟩
   · exact ⟨by simp, fun c hc => by simp at hc⟩
theorem chgB_one (p : Package) (t : Target) : (chgB p t).length ≤ 1 ∧ ∀ c ∈ chgB p t, c.1 = t.1 := by
 unfold chgB
 split
 · exact ⟨by simp, fun c hc => by simp at hc; rw [hc]⟩
 · exact ⟨by simp, fun c hc => by simp at hc⟩
theorem flat_asc {α : Type} (ka : α → Str) (f : α → List Chg) (h1 : ∀ x, (f x).length ≤ 1) (h2 : ∀ x, ∀ c ∈ f x, c.1 = ka x) : ∀ {l : List α}, (l.Pairwise fun a b => ka a < ka b) → (l.flatMap f).Pairwise fun a b => a.1 < b.1
 | [], _ => List.Pairwise.nil
 | a :: l, h => by
   rw [List.pairwise_cons] at h
   rw [List.flatMap_cons, List.pairwise_append]
   refine ⟨?_, flat_asc ka f h1 h2 h.2, fun c hc d hd => ?_⟩
   · match hf : f a, h1 a with
     | [], _ => exact List.Pairwise.nil
     | [c], _ => exact List.pairwise_singleton _ _
   · obtain ⟨b, hb, hd⟩ := List.mem_flatMap.1 hd
     rw [h2 a c hc, h2 b d hd]
     exact h.1 b hb
theorem flat_take_snoc {α β : Type} (f : α → List β) (l : List α) {i : Nat} (h : i < l.length) : (l.take (i + 1)).flatMap f = (l.take i).flatMap f ++ f l[i] := by
 rw [List.take_succ_eq_append_getElem h, List.flatMap_append]
 simp
theorem flat_len {α β : Type} (f : α → List β) (h1 : ∀ x, (f x).length ≤ 1) : ∀ l : List α, (l.flatMap f).length ≤ l.length
 | [] => Nat.le_refl _
 | a :: l => by
   rw [List.flatMap_cons, List.length_append, List.length_cons]
   have := h1 a
   have := flat_len f h1 l
   omega
theorem asc_nodup {l : List Chg} (h : l.Pairwise fun a b => a.1 < b.1) : (l.map (·.1)).Nodup := by
 unfold List.Nodup
 rw [List.pairwise_map]
 refine h.imp fun {a b} h => ?_
 intro e
 rw [e] at h
 exact str_lt_irrefl _ h
theorem targF_none {n : Str} {l : List Target} : targF n l = none ↔ n ∉ l.map (·.1) := by
 induction l with
 | nil => simp [targF]
 | cons a l ih =>
   rw [targF_cons]
   by_cases h : a.1 = n
   · simp [h]
   · rw [if_neg (by simpa using h), ih, List.map_cons, List.mem_cons, not_or]
     exact ⟨fun h2 => ⟨fun e => h e.symm, h2⟩, fun h2 => h2.2⟩
theorem out_eq (p q : Package) (hp : p.2.Pairwise fun a b => a.1 < b.1) (hq : q.2.Pairwise fun a b => a.1 < b.1) (hl : p.2.length ≤ 500) (hlq : q.2.length ≤ 500) :
   slices_SortFunc_change () (p.2.flatMap (chgA q) ++ q.2.flatMap (chgB p)) = some (outS p q) := by
 have a1 := flat_asc (·.1) (chgA q) (fun x => (chgA_one q x).1) (fun x => (chgA_one q x).2) hp
 have a2 := flat_asc (·.1) (chgB p) (fun x => (chgB_one p x).1) (fun x => (chgB_one p x).2) hq
 have l1 := flat_len (chgA q) (fun x => (chgA_one q x).1) p.2
 have l2 := flat_len (chgB p) (fun x => (chgB_one p x).1) q.2
 have hnd : ((p.2.flatMap (chgA q) ++ q.2.flatMap (chgB p)).map (·.1)).Nodup := by
   rw [List.map_append, List.nodup_append]
   refine ⟨asc_nodup a1, asc_nodup a2, fun x hx y hy e => ?_⟩
   subst e
   obtain ⟨c, hc, rfl⟩ := List.mem_map.1 hx
   obtain ⟨d, hd, e⟩ := List.mem_map.1 hy
   obtain ⟨t, ht, hc⟩ := List.mem_flatMap.1 hc
   obtain ⟨u, hu, hd⟩ := List.mem_flatMap.1 hd
   rw [(chgA_one q t).2 c hc, (chgB_one p u).2 d hd] at e
   unfold chgB at hd
   cases h : targF u.1 p.2 with
   | some v => rw [h] at hd; cases hd
   | none => exact targF_none.1 h (List.mem_map.2 ⟨t, ht, e.symm⟩)
 unfold slices_SortFunc_change sortK
 rw [if_pos ⟨by rw [List.length_append]; omega, hnd⟩]
 congr 1
 refine asc_ext (fun c : Chg => c.1) (sorted_strictK (key := fun c : Chg => c.1) (((List.mergeSort_perm _ _).map _).nodup_iff.2 hnd) (mergeSort_key _ _)) (flat_asc id (chgR p q) (fun x => (chgR_one p q x).1) (fun x => (chgR_one p q x).2) (sortN_asc _)) fun c => ?_
 rw [List.mem_mergeSort, List.mem_append]
 unfold outS
 rw [List.mem_flatMap, List.mem_flatMap, List.mem_flatMap]
 constructor
 · rintro (⟨t, ht, hc⟩ | ⟨t, ht, hc⟩)
   · refine ⟨t.1, (mem_sortN _ _).2 (List.mem_append_left _ (List.mem_map.2 ⟨t, ht, rfl⟩)), ?_⟩
     unfold chgR
     rw [targF_self hp t ht]
     unfold chgA at hc
     cases h : targF t.1 q.2 <;> rw [h] at hc <;> exact hc
   · refine ⟨t.1, (mem_sortN _ _).2 (List.mem_append_right _ (List.mem_map.2 ⟨t, ht, rfl⟩)), ?_⟩
     unfold chgB at hc
     unfold chgR
     cases h : targF t.1 p.2 with
     | none => rw [h] at hc; exact hc
     | some v => rw [h] at hc; cases hc
 · rintro ⟨s, hs, hc⟩
   rw [mem_sortN, List.mem_append] at hs
   unfold chgR at hc
   cases h : targF s p.2 with
   | none =>
     rw [h] at hc
     right
     rcases hs with hs | hs
     · exact absurd hs (targF_none.1 h)
     · obtain ⟨t, ht, rfl⟩ := List.mem_map.1 hs
       refine ⟨t, ht, ?_⟩
       unfold chgB
       rw [h]
       exact hc
   | some t =>
     obtain ⟨ht, rfl⟩ := targF_mem h
     rw [h] at hc
     refine .inl ⟨t, ht, ?_⟩
     unfold chgA
     cases h2 : targF t.1 q.2 <;> rw [h2] at hc <;> exact hc
theorem goodZ : GoodT zeroT := ⟨by decide, fun a ha => (by cases ha), List.Pairwise.nil⟩
theorem targG_good {p : Package} (hp : ∀ t ∈ p.2, targetE t = 0) (n : Str) : GoodT (targG p n).1 := by
 unfold targG
 cases h : targF n p.2 with
 | none => exact goodZ
 | some t => exact goodT (hp t (targF_mem h).1)
theorem ConcatN (hN : big ≤ N) (p q : Package) (hp : p.2.length ≤ 500) (hq : q.2.length ≤ 500) (k : List Str → Option (Int × List Chg)) : z58L0 N ((p.2 ++ q.2).length : Int) (p.2 ++ q.2) k N 0 [] = k (targN p ++ targN q) := by
 have hns : targN p ++ targN q = (p.2 ++ q.2).map (·.1) := List.map_append.symm
 rw [hns]
 have hL : (p.2 ++ q.2).length ≤ 1000 := by rw [List.length_append]; omega
 generalize p.2 ++ q.2 = L at hL ⊢
 have hm : L.length ≤ maxLen := Nat.le_trans hL (by decide)
 have := loop_st (f := fun n i w => z58L0 N (L.length : Int) L k n i w) (T := fun self i w => z58L0T N (L.length : Int) L k self i w) (fun _ _ _ => rfl) hm (fun i => (L.take i).map (·.1)) (r := k (L.map (·.1))) (fun self i hi hr => ?_) (fun self => ?_) hN
 · simpa using this
 · rw [map_take_snoc' _ _ hi] at hr
   have hw : ((L.take i).map (·.1)).length ≤ 1000 := by rw [List.length_map, List.length_take]; omega
   generalize (L.take i).map (·.1) = w at hr hw ⊢
   simp only [z58L0T, geti_lt _ hi, wrap_succ hm hi, bnd_some]
   have hsz : (w.length + [L[i].1].length) * (24 * Ty.sz .str) ≤ 140737488355328 := by
     rw [List.length_singleton]; show _ * 24 ≤ _; omega
   rw [lt_tt hi, br_true, br_pos hsz]
   exact hr
 · simp only [z58L0T, lt_ff, br_false, List.take_length]
def DifferG (p q : Package) : Int × List Chg := if packageE p ≠ 0 then (packageE p, []) else if packageE q ≠ 0 then (packageE q, []) else (0, outS p q)
theorem DifferR_eq (hN : big ≤ N) (p q : Package) (fp : Fit packageTy p) (fq : Fit packageTy q) (h1 : p.1.length ≤ 1048576) (h2 : ∀ t ∈ p.2, t.1.length ≤ 1048576) (h3 : q.1.length ≤ 1048576) (h4 : ∀ t ∈ q.2, t.1.length ≤ 1048576) : ref2_Differ N p q = some (DifferG p q) := by
 unfold ref2_Differ DifferG
 rw [CheckPackageR_eq hN p fp h1 h2, bnd_some, br_ne]
 split
 · rfl
 · rename_i e1
   have e1 : packageE p = 0 := by simpa using e1
   rw [CheckPackageR_eq hN q fq h3 h4, bnd_some, br_ne]
   split
   · rfl
   · rename_i e2
     have e2 : packageE q = 0 := by simpa using e2
     obtain ⟨lp, tp, ap⟩ := packageE_parts e1
     obtain ⟨lq, tq, aq⟩ := packageE_parts e2
     rw [ConcatT_two hN _ _ (by omega) (by omega), bnd_some, ConcatN hN p q lp lq]
     have hlen : (targN p ++ targN q).length ≤ 1000 := by unfold targN; rw [List.length_append, List.length_map, List.length_map]; omega
     unfold slices_Sort_string_string slices_Compact_string_string outS
     generalize targN p ++ targN q = ns at hlen ⊢
     rw [if_pos (by omega), bnd_some, bnd_some, compact_sort]
     have hcl : (sortN ns).length ≤ 1000 := by
       have := setM_len ns []
       unfold sortN
       rw [List.length_mergeSort, List.length_map]
       simp only [List.length_nil] at this
       omega
     generalize sortN ns = cs at hcl ⊢
     have hcm : cs.length ≤ maxLen := Nat.le_trans hcl (by decide)
     have hpm : p.2.length ≤ maxLen := by unfold maxLen; omega
     have hqm : q.2.length ≤ maxLen := by unfold maxLen; omega
     have := loop_st (f := fun n i w => z58L1 N (cs.length : Int) p.1 p.2 q.1 q.2 cs (fun w => some ((0 : Int), w)) n i w) (T := fun self i w => z58L1T N (cs.length : Int) p.1 p.2 q.1 q.2 cs (fun w => some ((0 : Int), w)) self i w) (fun _ _ _ => rfl) hcm (fun i => (cs.take i).flatMap (chgR p q)) (r := some ((0 : Int), cs.flatMap (chgR p q))) (fun self i hi hr => ?_) (fun self => ?_) hN
     · simpa using this
     · rw [flat_take_snoc _ _ hi] at hr
       have hw : ((cs.take i).flatMap (chgR p q)).length ≤ 1000 := by
         have := flat_len (chgR p q) (fun x => (chgR_one p q x).1) (cs.take i)
         rw [List.length_take] at this
         omega
       generalize (cs.take i).flatMap (chgR p q) = w at hr hw ⊢
       have a1 : ref2_targetOf N (p.1, p.2) cs[i] = some (targG p cs[i]) := targetOf_eq hN p hpm cs[i]
       have a2 : ref2_targetOf N (q.1, q.2) cs[i] = some (targG q cs[i]) := targetOf_eq hN q hqm cs[i]
       simp only [z58L1T, geti_lt _ hi, wrap_succ hcm hi, bnd_some, a1, a2, otherAttrs_eq hN _ _ (targG_good tp cs[i]) (targG_good tq cs[i])]
       rw [lt_tt hi, br_true, br_pos ⟨by omega, by omega⟩]
       have hsz : ∀ c : Chg, (w.length + [c].length) * (24 * Ty.sz (.pr .str (.pr (.int .i64) (.sl .str)))) ≤ 140737488355328 := fun c => by
         rw [List.length_singleton]; show _ * (24 * 3) ≤ _; omega
       unfold chgR at hr
       unfold targG
       cases g1 : targF cs[i] p.2 with
       | none =>
         rw [g1] at hr
         simp only [Bool.not_false, br_true]
         rw [br_pos (hsz _)]
         exact hr
       | some t =>
         cases g2 : targF cs[i] q.2 with
         | none =>
           rw [g1, g2] at hr
           simp only [Bool.not_true, Bool.not_false, br_true, br_false]
           rw [br_pos (hsz _)]
           exact hr
         | some u =>
           rw [g1, g2] at hr
           simp only [Bool.not_true, br_false]
           by_cases hpos : (otherS t u).length > 0
           · rw [br_pos (by omega), br_pos (hsz _)]
             dsimp only at hr
             rw [if_pos hpos] at hr
             exact hr
           · rw [br_neg (by omega)]
             dsimp only at hr
             rw [if_neg hpos, List.append_nil] at hr
             exact hr
     · simp only [z58L1T, lt_ff, br_false, List.take_length]
theorem DifferS_eq (hN : big ≤ N) (p q : Package) (fp : Fit packageTy p) (fq : Fit packageTy q) (h1 : p.1.length ≤ 1048576) (h2 : ∀ t ∈ p.2, t.1.length ≤ 1048576) (h3 : q.1.length ≤ 1048576) (h4 : ∀ t ∈ q.2, t.1.length ≤ 1048576) : script_Differ N p q = some (DifferG p q) := by
 unfold script_Differ DifferG
 rw [CheckPackage_eq hN p fp h1 h2, bnd_some, br_ne]
 split
 · rfl
 · rename_i e1
   have e1 : packageE p = 0 := by simpa using e1
   rw [CheckPackage_eq hN q fq h3 h4, bnd_some, br_ne]
   split
   · rfl
   · rename_i e2
     have e2 : packageE q = 0 := by simpa using e2
     obtain ⟨lp, tp, ap⟩ := packageE_parts e1
     obtain ⟨lq, tq, aq⟩ := packageE_parts e2
     have hpm : p.2.length ≤ maxLen := by unfold maxLen; omega
     have hqm : q.2.length ≤ maxLen := by unfold maxLen; omega
     rw [targetsOf_eq hN p hpm, bnd_some, targetsOf_eq hN q hqm, bnd_some]
     have mq : ∀ n, mget (q.2.foldl (fun m x => mset m x.1 x) []) n = targF n q.2 := fun n => by
       rw [mget_fold n _ _ aq]
       cases targF n q.2 <;> rfl
     have mp : ∀ n, mget (p.2.foldl (fun m x => mset m x.1 x) []) n = targF n p.2 := fun n => by
       rw [mget_fold n _ _ ap]
       cases targF n p.2 <;> rfl
     generalize q.2.foldl (fun m x => mset m x.1 x) [] = Mq at mq ⊢
     generalize p.2.foldl (fun m x => mset m x.1 x) [] = Mp at mp ⊢
     have hA : ∀ k, z48L0 N p.2 (p.2.length : Int) Mq k N 0 [] = k (p.2.flatMap (chgA q)) := by
       intro k
       have := loop_st (f := fun n i w => z48L0 N p.2 (p.2.length : Int) Mq k n i w) (T := fun self i w => z48L0T N p.2 (p.2.length : Int) Mq k self i w) (fun _ _ _ => rfl) hpm (fun i => (p.2.take i).flatMap (chgA q)) (r := k (p.2.flatMap (chgA q))) (fun self i hi hr => ?_) (fun self => ?_) hN
       · simpa using this
       · rw [flat_take_snoc _ _ hi] at hr
         have hw : ((p.2.take i).flatMap (chgA q)).length ≤ 500 := by
           have := flat_len (chgA q) (fun x => (chgA_one q x).1) (p.2.take i)
           rw [List.length_take] at this
           omega
         generalize (p.2.take i).flatMap (chgA q) = w at hr hw ⊢
         have hmem := List.getElem_mem hi
         have hsz : ∀ c : Chg, (w.length + [c].length) * (24 * Ty.sz (.pr .str (.pr (.int .i64) (.sl .str)))) ≤ 140737488355328 := fun c => by
           rw [List.length_singleton]; show _ * (24 * 3) ≤ _; omega
         simp only [z48L0T, geti_lt _ hi, wrap_succ hpm hi, bnd_some, mq]
         rw [lt_tt hi, br_true]
         unfold chgA at hr
         cases g2 : targF p.2[i].1 q.2 with
         | none =>
           rw [g2] at hr
           simp only [Option.isSome_none, Bool.not_false, br_true]
           rw [br_pos (hsz _)]
           exact hr
         | some u =>
           rw [g2] at hr
           obtain ⟨hu, _⟩ := targF_mem g2
           have hD : script_attrsDiffer N p.2[i] (u.1, u.2) = some (otherS p.2[i] u) := attrsDiffer_eq hN p.2[i] u (tp _ hmem) (tq _ hu) (fp.2.2 _ hmem) (fq.2.2 _ hu) (h2 _ hmem) (h4 _ hu)
           simp only [Option.isSome_some, Bool.not_true, br_false, Option.getD_some, hD, bnd_some]
           by_cases hpos : (otherS p.2[i] u).length > 0
           · rw [br_pos (by omega), br_pos (hsz _)]
             dsimp only at hr
             rw [if_pos hpos] at hr
             exact hr
           · rw [br_neg (by omega)]
             dsimp only at hr
             rw [if_neg hpos, List.append_nil] at hr
             exact hr
       · simp only [z48L0T, lt_ff, br_false, List.take_length]
     have hB : ∀ k w0, w0.length ≤ 500 → z48L1 N q.2 (q.2.length : Int) Mp k N 0 w0 = k (w0 ++ q.2.flatMap (chgB p)) := by
       intro k w0 hw0
       have := loop_st (f := fun n i w => z48L1 N q.2 (q.2.length : Int) Mp k n i w) (T := fun self i w => z48L1T N q.2 (q.2.length : Int) Mp k self i w) (fun _ _ _ => rfl) hqm (fun i => w0 ++ (q.2.take i).flatMap (chgB p)) (r := k (w0 ++ q.2.flatMap (chgB p))) (fun self i hi hr => ?_) (fun self => ?_) hN
       · simpa using this
       · rw [flat_take_snoc _ _ hi, ← List.append_assoc] at hr
         have hw : (w0 ++ (q.2.take i).flatMap (chgB p)).length ≤ 1000 := by
           have := flat_len (chgB p) (fun x => (chgB_one p x).1) (q.2.take i)
           rw [List.length_take] at this
           rw [List.length_append]
           omega
         generalize w0 ++ (q.2.take i).flatMap (chgB p) = w at hr hw ⊢
         have hsz : ∀ c : Chg, (w.length + [c].length) * (24 * Ty.sz (.pr .str (.pr (.int .i64) (.sl .str)))) ≤ 140737488355328 := fun c => by
           rw [List.length_singleton]; show _ * (24 * 3) ≤ _; omega
         simp only [z48L1T, geti_lt _ hi, wrap_succ hqm hi, bnd_some, mp]
         rw [lt_tt hi, br_true]
         unfold chgB at hr
         cases g2 : targF q.2[i].1 p.2 with
         | none =>
           rw [g2] at hr
           simp only [Option.isSome_none, Bool.not_false, br_true]
           rw [br_pos (hsz _)]
           exact hr
         | some u =>
           rw [g2] at hr
           simp only [Option.isSome_some, Bool.not_true, br_false]
           dsimp only at hr
           rw [List.append_nil] at hr
           exact hr
       · simp only [z48L1T, lt_ff, br_false, List.take_length]
     rw [hA, hB _ _ (Nat.le_trans (flat_len (chgA q) (fun x => (chgA_one q x).1) p.2) lp), out_eq p q ap aq lp lq, bnd_some]
theorem otherS_self {t : Target} (ht : GoodT t) : otherS t t = [] := by
 unfold otherS kindL
 rw [beq_self_eq_true, if_pos rfl, List.nil_append, List.filter_eq_nil_iff]
 intro n _
 unfold diffB
 rw [sameG_self (attrG_cases ht n)]
 simp
theorem outS_self (p : Package) (hp : ∀ t ∈ p.2, targetE t = 0) : outS p p = [] := by
 unfold outS
 rw [List.flatMap_eq_nil_iff]
 intro s hs
 rw [mem_sortN, List.mem_append, or_self] at hs
 unfold chgR
 cases h : targF s p.2 with
 | none => exact absurd hs (targF_none.1 h)
 | some t =>
   dsimp only
   rw [otherS_self (goodT (hp t (targF_mem h).1))]
   rfl
theorem otherS_len {t u : Target} (ht : GoodT t) (hu : GoodT u) : (otherS t u).length ≤ 61 := by
 unfold otherS
 have h1 := ht.few
 have h2 := hu.few
 have := setM_len (attrN t ++ attrN u) []
 have h3 := List.length_filter_le (diffB t u) (sortN (attrN t ++ attrN u))
 have h4 : (sortN (attrN t ++ attrN u)).length ≤ 60 := by
   unfold sortN
   rw [List.length_mergeSort, List.length_map]
   unfold attrN at *
   simp only [List.length_nil, List.length_append, List.length_map] at this
   omega
 have h5 : (kindL t u).length ≤ 1 := by unfold kindL; split <;> simp
 rw [List.length_append]
 omega
theorem chgR_small {p q : Package} (hp : ∀ t ∈ p.2, targetE t = 0) (hq : ∀ t ∈ q.2, targetE t = 0) (s : Str) : ∀ c ∈ chgR p q s, c.2.2.length ≤ maxLen := by
 intro c hc
 unfold chgR at hc
 cases h : targF s p.2 with
 | none => rw [h] at hc; simp at hc; rw [hc]; exact Nat.zero_le _
 | some t =>
   cases h2 : targF s q.2 with
   | none => rw [h, h2] at hc; simp at hc; rw [hc]; exact Nat.zero_le _
   | some u =>
     rw [h, h2] at hc
     dsimp only at hc
     split at hc
     · simp at hc
       rw [hc]
       exact Nat.le_trans (otherS_len (goodT (hp t (targF_mem h).1)) (goodT (hq u (targF_mem h2).1))) (by decide)
     · cases hc
theorem SameChanges_self (hN : big ≤ N) (x : List Chg) (hx : x.length ≤ maxLen) (h : ∀ c ∈ x, c.2.2.length ≤ maxLen) : ref2_SameChanges N x x = some true := by
 unfold ref2_SameChanges
 rw [show ((x.length : Int) != (x.length : Int)) = false by simp, br_false]
 have := loop_st (S := Unit) (f := fun n i _ => z32L0 N x x (x.length : Int) (some true) n i) (T := fun self i _ => z32L0T N x x (x.length : Int) (some true) (fun j => self j ()) i) (fun _ _ _ => rfl) hx (fun _ => ()) (r := some true) (fun self i hi hr => ?_) (fun self => ?_) hN
 · exact this
 · have hc := h _ (List.getElem_mem hi)
   simp only [z32L0T, geti_lt _ hi, wrap_succ hx hi, bnd_some, Equal_str hN _ _ hc hc, beq_self_eq_true, bne_self_eq_false, Bool.not_true, br_false, decide_true]
   rw [lt_tt hi, br_true]
   exact hr
 · simp only [z32L0T, lt_ff, br_false]
theorem law_differs (hN : big ≤ N) (p q : Package) (fp : Fit packageTy p) (fq : Fit packageTy q) (h1 : p.1.length ≤ 1048576) (h2 : ∀ t ∈ p.2, t.1.length ≤ 1048576) (h3 : q.1.length ≤ 1048576) (h4 : ∀ t ∈ q.2, t.1.length ≤ 1048576) : law2_ScriptDiffersMatchSpec N p q = some true := by
 unfold law2_ScriptDiffersMatchSpec
 rw [DifferS_eq hN p q fp fq h1 h2 h3 h4, DifferR_eq hN p q fp fq h1 h2 h3 h4, bnd_some, bnd_some, bne_self_eq_false, br_false]
 have hsame : ref2_SameChanges N (DifferG p q).2 (DifferG p q).2 = some true := by
   unfold DifferG
   split
   · exact SameChanges_self hN [] (Nat.zero_le _) (fun c hc => by cases hc)
   · split
     · exact SameChanges_self hN [] (Nat.zero_le _) (fun c hc => by cases hc)
     · rename_i e1 e2
       obtain ⟨lp, tp, ap⟩ := packageE_parts (by simpa using e1)
       obtain ⟨lq, tq, aq⟩ := packageE_parts (by simpa using e2)
       refine SameChanges_self hN (outS p q) ?_ fun c hc => ?_
       · have := flat_len (chgR p q) (fun x => (chgR_one p q x).1) (sortN (targN p ++ targN q))
         have h5 := setM_len (targN p ++ targN q) []
         unfold outS
         have h6 : (sortN (targN p ++ targN q)).length ≤ 1000 := by
           unfold sortN
           rw [List.length_mergeSort, List.length_map]
           unfold targN at *
           simp only [List.length_nil, List.length_append, List.length_map] at h5
           omega
         unfold maxLen
         omega
       · unfold outS at hc
         obtain ⟨s, _, hc⟩ := List.mem_flatMap.1 hc
         exact chgR_small tp tq s c hc
 rw [hsame, bnd_some, Bool.not_true, br_false]
 unfold law2_awake
 rw [bnd_some, Bool.not_true, br_false, br_ne]
 split
 · rfl
 · rename_i e
   have e1 : packageE p = 0 := by
     unfold DifferG at e
     split at e
     · rename_i h; exact absurd (by simpa using e) h
     · rename_i h; simpa using h
   obtain ⟨lp, tp, ap⟩ := packageE_parts e1
   rw [DifferS_eq hN p p fp fp h1 h2 h1 h2, bnd_some]
   unfold DifferG
   rw [if_neg (by simpa using e1), if_neg (by simpa using e1), outS_self p tp]
   simp
theorem plain_ScriptDiffersMatchSpec (p q : Package) (hp : Fit packageTy p) (hq : Fit packageTy q) (hb : bulkG rbC packageTy p + bulkG rbC packageTy q ≤ 1048576) : ∃ N, law2_ScriptDiffersMatchSpec N p q = some true := by
 have e1 : ∀ p : Package, bulkG rbC packageTy p = (p.1.length + 1) + bulkG rbC (.sl targetTy) p.2 := fun _ => rfl
 have e2 : ∀ t : Target, bulkG rbC targetTy t = (t.1.length + 1) + bulkG rbC (.pr .str (.sl attrTy)) t.2 := fun _ => rfl
 have e3 := e1 p
 have e4 := e1 q
 refine ⟨big, law_differs (Nat.le_refl _) p q hp hq (by omega) (fun u hu => ?_) (by omega) (fun u hu => ?_)⟩
 · have := mem_bulk (t := targetTy) hu
   have := e2 u
   omega
 · have := mem_bulk (t := targetTy) hu
   have := e2 u
   omega
end Go.Proofs.YtahjncefiegflaaGreatDoor

