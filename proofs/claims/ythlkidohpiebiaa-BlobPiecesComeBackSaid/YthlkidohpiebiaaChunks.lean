/- Plain: bytes cut at pieces; what two of them share. No program is in sight here. -/
import Derived.Test.YthlkidohpiebiaaPieces
namespace Go.Proofs.Ythlkidohpiebiaa
def chunks : List UInt8 → List Nat → List (List UInt8)
  | _, [] => []
  | b, n :: ns => b.take n :: chunks (b.drop n) ns
theorem chunks_snoc (ns : List Nat) : ∀ (b : List UInt8) (n : Nat), chunks b (ns ++ [n]) = chunks b ns ++ [(b.drop ns.sum).take n] := by
  induction ns with
  | nil => intro b n; simp [chunks]
  | cons m ns ih => intro b n; simp [chunks, ih, List.drop_drop]
theorem chunks_take (b : List UInt8) (ns : List Nat) {k : Nat} (hk : k < ns.length) : chunks b (ns.take (k + 1)) = chunks b (ns.take k) ++ [(b.drop (ns.take k).sum).take ns[k]] := by
  rw [List.take_succ_eq_append_getElem hk, chunks_snoc]
theorem sum_take (ns : List Nat) {k : Nat} (hk : k < ns.length) : (ns.take (k + 1)).sum = (ns.take k).sum + ns[k] := by
  rw [List.take_succ_eq_append_getElem hk, List.sum_append, List.sum_cons, List.sum_nil, Nat.add_zero]
theorem sum_take_le (ns : List Nat) (k : Nat) : (ns.take k).sum ≤ ns.sum := by
  have : ns.sum = (ns.take k).sum + (ns.drop k).sum := by rw [← List.sum_append, List.take_append_drop]
  omega
theorem cutSt_sum (b : List UInt8) (least bits most k : Nat) : (cutSt b least bits most k).1.sum = (cutSt b least bits most k).2 := by
  induction k with
  | zero => rfl
  | succ k ih =>
    have := (cutSt_le b least bits most k).1
    unfold cutSt
    split
    · simp [ih]; omega
    · exact ih
theorem pieces_sum (b : List UInt8) (least bits most : Nat) : (pieces b least bits most).sum = b.length := by
  have h1 := cutSt_sum b least bits most b.length
  have h2 := (cutSt_le b least bits most b.length).1
  unfold pieces
  split
  · simp [h1]; omega
  · omega
def sharedSum (C D : List (List UInt8)) : Nat := (D.map fun d => if d ∈ C then d.length else 0).sum
theorem sharedSum_snoc (C D : List (List UInt8)) (d : List UInt8) : sharedSum C (D ++ [d]) = sharedSum C D + if d ∈ C then d.length else 0 := by simp [sharedSum]
theorem chunks_lens (ns : List Nat) : ∀ b : List UInt8, ns.sum ≤ b.length → (chunks b ns).map List.length = ns := by
  induction ns with
  | nil => intro b _; rfl
  | cons n ns ih =>
    intro b h
    simp only [List.sum_cons] at h
    simp only [chunks, List.map_cons, List.length_take]
    rw [ih _ (by simp; omega), Nat.min_eq_left (by omega)]
theorem sharedSum_le (C D : List (List UInt8)) : sharedSum C D ≤ (D.map List.length).sum := by
  unfold sharedSum
  induction D with
  | nil => simp
  | cons d D ih => simp only [List.map_cons, List.sum_cons]; split <;> omega
theorem sharedSum_self (C : List (List UInt8)) : sharedSum C C = (C.map List.length).sum := by
  unfold sharedSum
  congr 1
  apply List.map_congr_left
  intro d hd
  rw [if_pos hd]
end Go.Proofs.Ythlkidohpiebiaa
