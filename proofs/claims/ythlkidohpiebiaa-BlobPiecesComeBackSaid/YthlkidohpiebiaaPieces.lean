/- Plain: the pieces into which bytes are divided. No program is in sight here. -/
import Derived.Test.YthlkidohpiebiaaRoll
namespace Go.Proofs.Ythlkidohpiebiaa
def isEnd (b : List UInt8) (least bits most n k : Nat) : Bool := (decide (least ≤ n) && decide (rolled b k % 2 ^ bits = 0)) || decide (most ≤ n)
def cutSt (b : List UInt8) (least bits most : Nat) : Nat → List Nat × Nat
  | 0 => ([], 0)
  | k + 1 => if isEnd b least bits most (k + 1 - (cutSt b least bits most k).2) (k + 1) then ((cutSt b least bits most k).1 ++ [k + 1 - (cutSt b least bits most k).2], k + 1) else cutSt b least bits most k
def pieces (b : List UInt8) (least bits most : Nat) : List Nat :=
  if (cutSt b least bits most b.length).2 < b.length then (cutSt b least bits most b.length).1 ++ [b.length - (cutSt b least bits most b.length).2] else (cutSt b least bits most b.length).1
theorem cutSt_yes {b : List UInt8} {least bits most k fr r n : Nat} {l : List Nat} (h : (l, fr) = cutSt b least bits most k) (hr : r = rolled b (k + 1) % 2 ^ bits) (hn : n = k + 1 - fr)
    (hc : (least ≤ n ∧ r = 0) ∨ most ≤ n) : (l ++ [n], k + 1) = cutSt b least bits most (k + 1) := by
  have h1 : (cutSt b least bits most k).1 = l := by rw [← h]
  have h2 : (cutSt b least bits most k).2 = fr := by rw [← h]
  unfold cutSt
  rw [h1, h2, ← hn, if_pos (by simp [isEnd]; omega)]
theorem cutSt_no {b : List UInt8} {least bits most k fr r n : Nat} {l : List Nat} (h : (l, fr) = cutSt b least bits most k) (hr : r = rolled b (k + 1) % 2 ^ bits) (hn : n = k + 1 - fr)
    (hc : ¬ ((least ≤ n ∧ r = 0) ∨ most ≤ n)) : (l, fr) = cutSt b least bits most (k + 1) := by
  have h2 : (cutSt b least bits most k).2 = fr := by rw [← h]
  unfold cutSt
  rw [h2, ← hn, if_neg (by simp [isEnd]; omega)]
  exact h
theorem cutSt_le (b : List UInt8) (least bits most k : Nat) : (cutSt b least bits most k).2 ≤ k ∧ (cutSt b least bits most k).1.length ≤ (cutSt b least bits most k).2 := by
  induction k with
  | zero => exact ⟨Nat.le_refl _, Nat.le_refl _⟩
  | succ k ih =>
    unfold cutSt
    split
    · simp; omega
    · exact ⟨by omega, ih.2⟩
theorem cutSt_most (b : List UInt8) (least bits most k : Nat) (hm : 1 ≤ most) : k - (cutSt b least bits most k).2 < most := by
  induction k with
  | zero => simp [cutSt]; omega
  | succ k ih =>
    unfold cutSt
    split
    · simp; omega
    · rename_i h
      have hle := (cutSt_le b least bits most k).1
      simp [isEnd] at h
      omega
/-- The reference makes an end at the end of all. -/
theorem pieces_last (b : List UInt8) (least bits most : Nat) (k : Nat) (hk : k + 1 = b.length) :
    pieces b least bits most = (cutSt b least bits most k).1 ++ [k + 1 - (cutSt b least bits most k).2] := by
  have hle := (cutSt_le b least bits most k).1
  unfold pieces
  rw [← hk]
  have e : cutSt b least bits most (k + 1) = if isEnd b least bits most (k + 1 - (cutSt b least bits most k).2) (k + 1) then ((cutSt b least bits most k).1 ++ [k + 1 - (cutSt b least bits most k).2], k + 1) else cutSt b least bits most k := by conv => lhs; unfold cutSt
  rw [e]
  by_cases hc : isEnd b least bits most (k + 1 - (cutSt b least bits most k).2) (k + 1) = true
  · rw [if_pos hc, if_neg (by simp)]
  · rw [if_neg hc, if_pos (by omega)]
theorem pieces_yes {b : List UInt8} {least bits most fr : Nat} {l : List Nat} (h : (l, fr) = cutSt b least bits most b.length) (hf : fr < b.length) : pieces b least bits most = l ++ [b.length - fr] := by
  unfold pieces; rw [← h, if_pos hf]
theorem pieces_no {b : List UInt8} {least bits most fr : Nat} {l : List Nat} (h : (l, fr) = cutSt b least bits most b.length) (hf : ¬ fr < b.length) : pieces b least bits most = l := by
  unfold pieces; rw [← h, if_neg hf]
theorem pieces_nil (least bits most : Nat) : pieces [] least bits most = [] := by simp [pieces, cutSt]
theorem pieces_len (b : List UInt8) (least bits most : Nat) : (pieces b least bits most).length ≤ b.length := by
  have := cutSt_le b least bits most b.length
  unfold pieces
  split
  · simp; omega
  · omega
end Go.Proofs.Ythlkidohpiebiaa
