/- A region that draws its order: operations that only read may be taken first, if what they read stays behind all that does not wait for them. -/
import Derived.Test.YtbekhaioddmliaaDoorQBm13
import Derived.OrdersHeld
namespace Go.Proofs.YtbekhaioddmliaaDoor
set_option linter.unusedVariables false
set_option linter.unusedSimpArgs false
open Go Go.RowKit
section
variable {P : Program} {ops : Array Oper} {Q : Exit → Act → World → Prop} {S : World → Prop} {tail : Nat → Bool}
/-- Whatever order is picked from here on; S holds behind every operation, up to the first one of the tail. -/
def wpAnyT (P : Program) (ops : Array Oper) (Q : Exit → Act → World → Prop) (tail : Nat → Bool) (S : World → Prop) : Nat → Array Bool → Act → World → Prop
  | 0, listed, a, w => Region.ready .any ops listed = [] ∧ Q .normal a w
  | fuel + 1, listed, a, w =>
    (Region.ready .any ops listed = [] → Q .normal a w) ∧
    ∀ i ∈ Region.ready .any ops listed, wpOp P ops Q i (fun a' w' => (tail i = true ∧ wpAny P .any ops Q fuel (listed.setIfInBounds i true) a' w') ∨
      (tail i = false ∧ S w' ∧ wpAnyT P ops Q tail S fuel (listed.setIfInBounds i true) a' w')) a w
theorem wpAny_of_T : ∀ (fuel : Nat) (listed : Array Bool) (a : Act) (w : World), wpAnyT P ops Q tail S fuel listed a w → wpAny P .any ops Q fuel listed a w
  | 0, _, _, _, h => h
  | fuel + 1, _, _, _, h => ⟨h.1, fun i hi => wpOp_mono (fun a' w' h' => by
      rcases h' with h' | h'
      · exact h'.2
      · exact wpAny_of_T fuel _ a' w' h'.2.2) (h.2 i hi)⟩
/-- All that is ready is of the tail. -/
theorem wpAnyT_tail {fuel : Nat} {listed : Array Bool} {a : Act} {w : World} (ht : ∀ i ∈ Region.ready .any ops listed, tail i = true) (h : wpAny P .any ops Q fuel listed a w) : wpAnyT P ops Q tail S fuel listed a w := by
  cases fuel with
  | zero => exact h
  | succ fuel => exact ⟨h.1, fun i hi => wpOp_mono (fun a' w' h' => .inl ⟨ht i hi, h'⟩) (h.2 i hi)⟩
theorem calm_wp {o : Oper} (ho : calmOp o = true) {a : Act} {w : World} {K : Act → World → Prop} (h : o.wp P a w K Q) : o.wp P a w (fun a' w' => w' = w ∧ K a' w') Q := by
  unfold calmOp at ho
  split at ho
  · rename_i x hop
    unfold Oper.wp at *
    simp only [execOp, hop, Sem.run_pure, Oper.upon_value] at h ⊢
    exact ⟨trivial, h⟩
  · rename_i x hop
    unfold Oper.wp at *
    simp only [execOp, hop, Sem.run_pure, Oper.upon_value] at h ⊢
    exact ⟨trivial, h⟩
  · rename_i x j hop
    unfold Oper.wp at *
    simp only [execOp, hop, Instr.extract] at h ⊢
    split at h
    · split at h
      · simp only [Sem.run_bind, Sem.run_pure, Result.andThen_ok, Oper.upon_value] at h ⊢
        exact ⟨trivial, h⟩
      · simp [stuck, Oper.upon] at h
    · simp [stuck, Oper.upon] at h
  · cases ho
/-- All that is left and is not of the tail leaves the world as it is. -/
theorem wpAnyT_calm : ∀ (fuel : Nat) (listed : Array Bool) (a : Act) (w : World), (∀ j o, listed.getD j true = false → tail j = false → ops[j]? = some o → calmOp o = true) → S w → ¬ LetsOut Q → wpAny P .any ops Q fuel listed a w → wpAnyT P ops Q tail S fuel listed a w
  | 0, _, _, _, _, _, _, h => h
  | fuel + 1, listed, a, w, hc, hS, hL, h => ⟨h.1, fun i hi => by
      have h1 := h.2 i hi
      obtain ⟨hun, oi, hoi, _⟩ := mem_ready.1 hi
      have hc' : ∀ j o, (listed.setIfInBounds i true).getD j true = false → tail j = false → ops[j]? = some o → calmOp o = true := fun j o h1 h2 h3 => by
        refine hc j o ?_ h2 h3
        by_cases hij : i = j
        · subst hij; exact hun
        · rw [getD_set_ne true hij] at h1; exact h1
      cases ht : tail i with
      | true => exact wpOp_mono (fun a' w' h' => .inl ⟨rfl, h'⟩) h1
      | false =>
        have hcal := hc i oi hun ht hoi
        unfold wpOp at h1 ⊢
        rw [hoi] at h1 ⊢
        dsimp only at h1 ⊢
        split at h1
        · rename_i hw
          rw [if_pos hw]
          rcases h1 with h1 | h1
          · exact .inl (Oper.wp_mono (K := fun a' w' => w' = w ∧ wpAny P .any ops Q fuel (listed.setIfInBounds i true) a' w') (fun a' w' h' => .inr ⟨rfl, (by rw [h'.1]; exact hS), wpAnyT_calm fuel _ a' w' hc' (by rw [h'.1]; exact hS) hL h'.2⟩) (calm_wp hcal h1))
          · exact absurd h1.2 hL
        · rename_i hw
          rw [if_neg hw]
          exact .inr ⟨rfl, hS, wpAnyT_calm fuel _ _ w hc' hS hL h1⟩⟩
theorem wpAnyT_first {i : Nat} {oi : Oper} {v : Value} (hi : ops[i]? = some oi) (hsel : ∀ (j : Nat) (o : Oper) cs b, ops[j]? = some o → o.op ≠ .select cs b)
    (hQ : ∀ c a w, Q (.panic c) (a.put oi.dst v) w → Q (.panic c) a w)
    (hwait : ∀ j oj, ops[j]? = some oj → tail j = true → j ≠ i → ∃ e ∈ oj.after, Region.binds .any e = true ∧ e.on = i) :
    ∀ (fuel : Nat) (listed : Array Bool) (a : Act) (w : World),
      (∀ j oj, ops[j]? = some oj → j ≠ i → listed.getD j true = false → (∀ e ∈ oj.after, Region.binds .any e = true → e.on ≠ i) → oi.apart ops oj = true) →
      i ∈ Region.ready .any ops listed → YieldsIf P ops S oi v a → S w →
      wpAnyT P ops Q tail S fuel (listed.setIfInBounds i true) (a.put oi.dst v) w → wpAnyT P ops Q tail S (fuel + 1) listed a w := by
  intro fuel
  have same : ∀ (fuel : Nat) (listed : Array Bool) (a : Act) (w : World), S w → wpAnyT P ops Q tail S fuel (listed.setIfInBounds i true) a w →
      (tail i = true ∧ wpAny P .any ops Q fuel (listed.setIfInBounds i true) a w) ∨ (tail i = false ∧ S w ∧ wpAnyT P ops Q tail S fuel (listed.setIfInBounds i true) a w) := fun fuel listed a w hS H => by
    cases ht : tail i with
    | true => exact .inl ⟨rfl, wpAny_of_T _ _ _ _ H⟩
    | false => exact .inr ⟨rfl, hS, H⟩
  induction fuel with
  | zero =>
    intro listed a w _ hr hy hS H
    refine ⟨fun h => (by rw [h] at hr; cases hr), fun j hj => ?_⟩
    by_cases hji : j = i
    · subst hji; exact hy.wpOp hi hS (same _ _ _ _ hS H)
    · have := ready_mono hj hji
      rw [H.1] at this
      cases this
  | succ fuel ih =>
    intro listed a w hfree hr hy hS H
    refine ⟨fun h => (by rw [h] at hr; cases hr), fun j hj => ?_⟩
    by_cases hji : j = i
    · subst hji; exact hy.wpOp hi hS (same _ _ _ _ hS H)
    · have h1 := H.2 j (ready_mono hj hji)
      obtain ⟨hjun, oj, hoj, hall⟩ := mem_ready.1 hj
      have hnot : ∀ e ∈ oj.after, Region.binds .any e = true → e.on ≠ i := fun e he hb heq => by
        have h1 := hall e he hb
        have h0 := (mem_ready.1 hr).1
        rw [heq] at h1
        rcases Nat.lt_or_ge i listed.size with h' | h'
        · simp [h'] at h0 h1; rw [h0] at h1; cases h1
        · simp [Array.getElem?_eq_none h'] at h1
      have htj : tail j = false := by
        cases ht : tail j with
        | false => rfl
        | true =>
          obtain ⟨e, he, hb, hon⟩ := hwait j oj hoj ht hji
          exact absurd hon (hnot e he hb)
      have h2 := wpOp_putIf hoj (hfree j oj hoj hji hjun hnot) (fun cs b => hsel i oi cs b hi) (fun cs b => hsel j oj cs b hoj) hQ hy h1
      have hfree' : ∀ k ok, ops[k]? = some ok → k ≠ i → (listed.setIfInBounds j true).getD k true = false →
          (∀ e ∈ ok.after, Region.binds .any e = true → e.on ≠ i) → oi.apart ops ok = true := fun k ok hk hki hun hno => by
        refine hfree k ok hk hki ?_ hno
        by_cases hjk : j = k
        · subst hjk; exact hjun
        · rw [getD_set_ne true hjk] at hun; exact hun
      refine wpOp_mono (fun a' w' h3 => .inr ⟨htj, ?_⟩) h2
      rcases h3.2 with h4 | h4
      · rw [htj] at h4; cases h4.1
      · refine ⟨h4.2.1, ih (listed.setIfInBounds j true) a' w' hfree' (ready_mono hr (Ne.symm hji)) h3.1 h4.2.1 ?_⟩
        rw [Array.setIfInBounds_comm _ _ hji]
        exact h4.2.2
theorem waitsB_spec {i : Nat} (h : waitsB ops tail i = true) (j : Nat) (oj : Oper) (hj : ops[j]? = some oj) (ht : tail j = true) (hn : j ≠ i) : ∃ e ∈ oj.after, Region.binds .any e = true ∧ e.on = i := by
  unfold waitsB at h
  rw [List.all_eq_true] at h
  have h1 := h j (List.mem_range.2 (Array.getElem?_eq_some_iff.1 hj).1)
  simp only [ht, Bool.not_true, Bool.false_or, hj, Bool.or_eq_true, beq_iff_eq, hn, false_or] at h1
  obtain ⟨e, he, hb⟩ := Array.any_eq_true'.1 h1
  simp only [Bool.and_eq_true, beq_iff_eq] at hb
  exact ⟨e, he, hb.1, hb.2⟩
theorem wpAnyT_take {i : Nat} {oi : Oper} {v : Value} {fuel : Nat} {listed : Array Bool} {a : Act} {w : World} (hi : ops[i]? = some oi)
    (hs : Region.noSelect ops = true) (hf : Region.free .any ops listed i = true) (hr : (Region.ready .any ops listed).contains i = true) (hw : waitsB ops tail i = true)
    (hQ : ∀ c a w, Q (.panic c) (a.put oi.dst v) w → Q (.panic c) a w) (hy : YieldsIf P ops S oi v a) (hS : S w)
    (h : wpAnyT P ops Q tail S fuel (listed.setIfInBounds i true) (a.put oi.dst v) w) : wpAnyT P ops Q tail S (fuel + 1) listed a w :=
  wpAnyT_first hi (Region.noSelect_spec hs) hQ (waitsB_spec hw) fuel listed a w (Region.free_spec hi hf) (by simpa using hr) hy hS h
theorem wp_region_T {id : Nat} {a : Act} {w : World} (hm : P.follows .mixedOrders = true)
    (h : wpAnyT P ops Q tail S ops.size (Array.replicate ops.size false) a { w with drawn := w.drawn + 1 }) : (Code.region id ops true).wp P Q a w :=
  wp_region_any hm (wpAny_of_T _ _ _ _ h)
end
end Go.Proofs.YtbekhaioddmliaaDoor
