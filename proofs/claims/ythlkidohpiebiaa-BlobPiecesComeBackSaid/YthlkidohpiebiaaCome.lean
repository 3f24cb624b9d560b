/- Plain: what the pieces of bytes and of a beginning of them are like. No program is in sight here. -/
import Derived.Test.YthlkidohpiebiaaChunks
namespace Go.Proofs.Ythlkidohpiebiaa
theorem rolled_take (b : List UInt8) {k c : Nat} (h : k ≤ c) : rolled (b.take c) k = rolled b k := by
  unfold rolled win
  rw [List.take_take, Nat.min_eq_left h]
theorem cutSt_take (b : List UInt8) (least bits most c : Nat) : ∀ k, k ≤ c → cutSt (b.take c) least bits most k = cutSt b least bits most k := by
  intro k
  induction k with
  | zero => intro _; rfl
  | succ k ih =>
    intro h
    have := ih (by omega)
    unfold cutSt
    rw [this]
    have e : ∀ n, isEnd (b.take c) least bits most n (k + 1) = isEnd b least bits most n (k + 1) := by
      intro n; unfold isEnd; rw [rolled_take b h]
    rw [e]
theorem cutSt_prefix (b : List UInt8) (least bits most k : Nat) : ∀ m, k ≤ m → ∃ r, (cutSt b least bits most m).1 = (cutSt b least bits most k).1 ++ r := by
  intro m
  induction m with
  | zero => intro h; obtain rfl : k = 0 := by omega
            exact ⟨[], by simp⟩
  | succ m ih =>
    intro h
    by_cases he : k = m + 1
    · subst he; exact ⟨[], by simp⟩
    · obtain ⟨r, hr⟩ := ih (by omega)
      have e : cutSt b least bits most (m + 1) = if isEnd b least bits most (m + 1 - (cutSt b least bits most m).2) (m + 1) then ((cutSt b least bits most m).1 ++ [m + 1 - (cutSt b least bits most m).2], m + 1) else cutSt b least bits most m := by conv => lhs; unfold cutSt
      rw [e]
      by_cases hc : isEnd b least bits most (m + 1 - (cutSt b least bits most m).2) (m + 1) = true
      · rw [if_pos hc]
        exact ⟨r ++ [m + 1 - (cutSt b least bits most m).2], by simp [hr]⟩
      · rw [if_neg hc]
        exact ⟨r, hr⟩
theorem cutSt_mem (b : List UInt8) (least bits most k : Nat) (hm : 1 ≤ most) (hl : least ≤ most) : ∀ n ∈ (cutSt b least bits most k).1, least ≤ n ∧ n ≤ most := by
  induction k with
  | zero => intro n hn; simp [cutSt] at hn
  | succ k ih =>
    have h1 := cutSt_most b least bits most k hm
    intro n hn
    unfold cutSt at hn
    split at hn
    · rename_i h
      simp only [List.mem_append, List.mem_singleton] at hn
      rcases hn with hn | rfl
      · exact ih n hn
      · simp [isEnd] at h
        omega
    · exact ih n hn
theorem pieces_mem (b : List UInt8) (least bits most : Nat) (h1 : 1 ≤ least) (hl : least ≤ most) : ∀ n ∈ pieces b least bits most, 1 ≤ n ∧ n ≤ most := by
  intro n hn
  have h2 := cutSt_most b least bits most b.length (by omega)
  unfold pieces at hn
  split at hn
  · simp only [List.mem_append, List.mem_singleton] at hn
    rcases hn with hn | rfl
    · have := cutSt_mem b least bits most _ (by omega) hl n hn; omega
    · omega
  · have := cutSt_mem b least bits most _ (by omega) hl n hn; omega
theorem pieces_at (b : List UInt8) (least bits most : Nat) (h1 : 1 ≤ least) (hl : least ≤ most) {i : Nat} (hi : i + 1 < (pieces b least bits most).length) : least ≤ (pieces b least bits most)[i]'(by omega) := by
  have key : ∀ (l : List Nat) (e : pieces b least bits most = l), ∀ (h : i + 1 < l.length), least ≤ l[i] := by
    intro l e h
    unfold pieces at e
    split at e
    · subst e
      simp only [List.length_append, List.length_cons, List.length_nil] at h
      rw [List.getElem_append_left (by omega)]
      exact (cutSt_mem b least bits most _ (by omega) hl _ (List.getElem_mem _)).1
    · subst e
      exact (cutSt_mem b least bits most _ (by omega) hl _ (List.getElem_mem _)).1
  exact key _ rfl hi
theorem pieces_at' (b : List UInt8) (least bits most : Nat) (h1 : 1 ≤ least) (hl : least ≤ most) (i m : Nat) (hm : (pieces b least bits most)[i]? = some m) (hi : i + 1 < (pieces b least bits most).length) : least ≤ m := by
  have := pieces_at b least bits most h1 hl hi
  rw [List.getElem?_eq_getElem (by omega)] at hm
  injection hm with hm
  omega
/-- All but the last of the pieces of a beginning are the first ones of the whole. -/
theorem pieces_begin (b : List UInt8) (least bits most c : Nat) (hc : c ≤ b.length) :
    (pieces (b.take c) least bits most).length ≤ (pieces b least bits most).length ∧
    (pieces (b.take c) least bits most).take ((pieces (b.take c) least bits most).length - 1) = (pieces b least bits most).take ((pieces (b.take c) least bits most).length - 1) := by
  have hlen : (b.take c).length = c := by rw [List.length_take]; omega
  have e : pieces (b.take c) least bits most = if (cutSt b least bits most c).2 < c then (cutSt b least bits most c).1 ++ [c - (cutSt b least bits most c).2] else (cutSt b least bits most c).1 := by
    unfold pieces
    rw [hlen, cutSt_take b least bits most c c (Nat.le_refl _)]
  obtain ⟨r, hr⟩ := cutSt_prefix b least bits most c b.length hc
  have hw : ∃ r', pieces b least bits most = (cutSt b least bits most c).1 ++ r' := by
    unfold pieces
    split
    · exact ⟨r ++ [b.length - (cutSt b least bits most b.length).2], by rw [hr, List.append_assoc]⟩
    · exact ⟨r, hr⟩
  obtain ⟨r', hr'⟩ := hw
  have hsum := pieces_sum b least bits most
  have hs2 := cutSt_sum b least bits most c
  have hle := (cutSt_le b least bits most c).1
  rw [e]
  split
  · rename_i hlt
    have hne : r' ≠ [] := by
      rintro rfl
      rw [hr', List.append_nil, hs2] at hsum
      omega
    have hpos : 0 < r'.length := List.length_pos_iff.2 hne
    rw [hr']
    constructor
    · simp only [List.length_append, List.length_cons, List.length_nil]; omega
    · simp
  · rw [hr']
    constructor
    · simp
    · rw [List.take_append_of_le_length (by omega)]
theorem chunks_len (ns : List Nat) : ∀ b : List UInt8, (chunks b ns).length = ns.length := by
  induction ns with
  | nil => intro b; rfl
  | cons n ns ih => intro b; simp [chunks, ih]
theorem chunks_flat (ns : List Nat) : ∀ b : List UInt8, ns.sum = b.length → (chunks b ns).flatten = b := by
  induction ns with
  | nil => intro b h; simp at h; simp [chunks]; exact List.eq_nil_of_length_eq_zero h.symm
  | cons n ns ih =>
    intro b h
    simp only [List.sum_cons] at h
    simp only [chunks, List.flatten_cons]
    rw [ih _ (by simp; omega), List.take_append_drop]
end Go.Proofs.Ythlkidohpiebiaa
