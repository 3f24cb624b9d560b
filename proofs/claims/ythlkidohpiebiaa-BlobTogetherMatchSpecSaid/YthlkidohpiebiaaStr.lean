/- Strings as lists of bytes: their order; strings put into a rising list, each once. No program is in sight here. -/
import Derived.Test.YthlkidohpiebiaaBase2
import Derived.Sort.Walk0
namespace Go.Proofs.Ythlkidohpiebiaa
open Go Go.RowKit
abbrev Str := List UInt8
def sv (l : Str) : Value := .string ⟨l.toArray⟩
def scs (L : List Str) : List Value := L.map fun l => .string ⟨l.toArray⟩
theorem scs_len (L : List Str) : (scs L).length = L.length := by simp [scs]
theorem scs_at (L : List Str) {k : Nat} (h : k < L.length) : (scs L)[k]? = some (.string ⟨L[k].toArray⟩) := by
  unfold scs; rw [List.getElem?_map, List.getElem?_eq_getElem h]; rfl
theorem scs_one (L : List Str) : ∀ u ∈ scs L, u.oneCell' = true := by
  intro u hu
  obtain ⟨x, _, rfl⟩ := List.mem_map.1 hu
  rfl
theorem lt_irr (x : Str) : ¬ x < x := List.lt_irrefl x
theorem lt_tr {x y z : Str} (h : x < y) (k : y < z) : x < z := List.lt_trans h k
theorem lt_asym {x y : Str} (h : x < y) : ¬ y < x := fun k => lt_irr x (lt_tr h k)
theorem lt_tri (x y : Str) : x < y ∨ x = y ∨ y < x := by
  by_cases h1 : x < y
  · exact .inl h1
  · by_cases h2 : y < x
    · exact .inr (.inr h2)
    · exact .inr (.inl (List.le_antisymm (List.not_lt.1 h2) (List.not_lt.1 h1)))
/-- What the walk shows of a comparison of two strings. -/
theorem cmp3 (x s : Str) : (x < s ∧ Op.bytesLess x s = true ∧ (x == s) = false) ∨ (x = s ∧ Op.bytesLess x s = false ∧ (x == s) = true) ∨ (s < x ∧ Op.bytesLess x s = false ∧ (x == s) = false) := by
  rcases lt_tri x s with h | h | h
  · refine .inl ⟨h, by rw [bytesLess_eq]; simpa using h, ?_⟩
    rw [beq_eq_false_iff_ne]; rintro rfl; exact lt_irr x h
  · subst h
    refine .inr (.inl ⟨rfl, by rw [bytesLess_eq]; simp, by simp⟩)
  · refine .inr (.inr ⟨h, by rw [bytesLess_eq]; simpa using lt_asym h, ?_⟩)
    rw [beq_eq_false_iff_ne]; rintro rfl; exact lt_irr x h
def Rising (L : List Str) : Prop := L.Pairwise (· < ·)
def ins (s : Str) : List Str → List Str
  | [] => [s]
  | x :: r => if s < x then s :: x :: r else if x = s then x :: r else x :: ins s r
theorem mem_ins (s t : Str) (L : List Str) : t ∈ ins s L ↔ t = s ∨ t ∈ L := by
  induction L with
  | nil => simp [ins]
  | cons x r ih =>
    unfold ins
    split
    · simp
    · split
      · rename_i h; subst h; simp
      · simp only [List.mem_cons, ih]
        constructor
        · rintro (h | h | h)
          · exact .inr (.inl h)
          · exact .inl h
          · exact .inr (.inr h)
        · rintro (h | h | h)
          · exact .inr (.inl h)
          · exact .inl h
          · exact .inr (.inr h)
theorem rising_ins {s : Str} {L : List Str} (h : Rising L) : Rising (ins s L) := by
  unfold Rising at *
  induction L with
  | nil => simp [ins]
  | cons x r ih =>
    have hx := List.pairwise_cons.1 h
    unfold ins
    split
    · rename_i h1
      refine List.pairwise_cons.2 ⟨fun y hy => ?_, h⟩
      rcases List.mem_cons.1 hy with rfl | hy
      · exact h1
      · exact lt_tr h1 (hx.1 y hy)
    · split
      · exact h
      · rename_i h1 h2
        refine List.pairwise_cons.2 ⟨fun y hy => ?_, ih hx.2⟩
        rcases (mem_ins s y r).1 hy with rfl | hy
        · rcases lt_tri x y with h3 | h3 | h3
          · exact h3
          · exact absurd h3 h2
          · exact absurd h3 h1
        · exact hx.1 y hy
theorem ins_len (s : Str) (L : List Str) : (ins s L).length ≤ L.length + 1 := by
  induction L with
  | nil => simp [ins]
  | cons x r ih =>
    unfold ins
    split
    · simp
    · split
      · simp
      · simp; omega
theorem ins_new {s : Str} : ∀ {L : List Str} {k : Nat}, Rising L → k ≤ L.length → (∀ i (h : i < L.length), k ≤ i → s < L[i]) → (∀ h : 0 < k, ∃ hk : k - 1 < L.length, L[k - 1] < s) → ins s L = L.take k ++ [s] ++ L.drop k := by
  intro L
  induction L with
  | nil => intro k _ _ _ _; simp [ins]
  | cons x r ih =>
    intro k hr hk h1 h2
    have hx := List.pairwise_cons.1 hr
    rcases k with _ | k
    · have := h1 0 (by simp) (Nat.zero_le _)
      unfold ins
      rw [if_pos (by simpa using this)]
      simp
    · have hxs : x < s := by
        obtain ⟨hk2, h3⟩ := h2 (by omega)
        simp only [Nat.add_sub_cancel] at h3
        rcases k with _ | k
        · simpa using h3
        · have : x < (x :: r)[k + 1] := hx.1 _ (by simp)
          exact lt_tr this h3
      unfold ins
      rw [if_neg (lt_asym hxs), if_neg (fun e => by rw [e] at hxs; exact lt_irr _ hxs)]
      rw [ih (k := k) hx.2 (by simpa using hk) (fun i h hki => by have := h1 (i + 1) (by simpa using h) (by omega); simpa using this) (fun h => by
        obtain ⟨hk2, h3⟩ := h2 (by omega)
        rcases k with _ | k
        · omega
        · exact ⟨by simp at hk2; omega, by simpa using h3⟩)]
      simp
theorem ins_old {s : Str} {L : List Str} (hr : Rising L) (h : s ∈ L) : ins s L = L := by
  unfold Rising at hr
  induction L with
  | nil => simp at h
  | cons x r ih =>
    have hx := List.pairwise_cons.1 hr
    unfold ins
    by_cases hxs : x = s
    · subst hxs; rw [if_neg (lt_irr x), if_pos rfl]
    · have hm : s ∈ r := (List.mem_cons.1 h).resolve_left (fun e => hxs e.symm)
      rw [if_neg (lt_asym (hx.1 s hm)), if_neg hxs, ih hx.2 hm]
/-- How often a string stands in a rising list: once or not at all. -/
theorem rising_count {s : Str} {L : List Str} (h : Rising L) : L.count s = if s ∈ L then 1 else 0 := by
  unfold Rising at h
  induction L with
  | nil => simp
  | cons x r ih =>
    have hx := List.pairwise_cons.1 h
    rw [List.count_cons, ih hx.2]
    by_cases hxs : x = s
    · subst hxs
      have : x ∉ r := fun hm => lt_irr x (hx.1 x hm)
      simp [this]
    · have h2 : s ≠ x := fun e => hxs e.symm
      simp [hxs, h2]
end Go.Proofs.Ythlkidohpiebiaa
