/- blob.Together and smithyardref1.Together compute the same. -/
import Derived.Test.YthlkidohpiebiaaGrow
namespace Go.Proofs.Ythlkidohpiebiaa
open Go Go.RowKit
def lens (L : List (List UInt8)) : Nat := (L.map List.length).sum
def together (L : List (List UInt8)) : List UInt8 × Nat := if 20000 < L.length then ([], 2) else if 2000000 < lens L then ([], 2) else (L.flatten, 0)
theorem lens_bd (L : List (List UInt8)) (M : Nat) (hs : ∀ x ∈ L, x.length ≤ M) (k : Nat) : ((L.take k).map List.length).sum ≤ k * M := by
  induction k with
  | zero => simp
  | succ k ih =>
    rw [Nat.succ_mul]
    by_cases h : k < L.length
    · rw [lens_take L h]
      have := hs L[k] (List.getElem_mem h)
      omega
    · rw [List.take_of_length_le (by omega)]
      rw [List.take_of_length_le (by omega)] at ih
      omega
theorem lens_bd2 (L : List (List UInt8)) (hs : ∀ x ∈ L, x.length ≤ 140737488355328) (k : Nat) (hk : k ≤ 20000) : ((L.take k).map List.length).sum ≤ 2814749767106560000 := by
  have h := lens_bd L _ hs k
  have h2 : k * 140737488355328 ≤ 20000 * 140737488355328 := Nat.mul_le_mul_right _ hk
  exact Nat.le_trans h (Nat.le_trans h2 (by decide))
theorem together_many {L : List (List UInt8)} (h : 20000 < L.length) : together L = ([], 2) := by unfold together; rw [if_pos h]
theorem together_large {L : List (List UInt8)} (h : ¬ 20000 < L.length) (h2 : 2000000 < lens L) : together L = ([], 2) := by unfold together; rw [if_neg h, if_pos h2]
theorem together_good {L : List (List UInt8)} (h : ¬ 20000 < L.length) (h2 : ¬ 2000000 < lens L) : together L = (L.flatten, 0) := by unfold together; rw [if_neg h, if_neg h2]
set_option maxHeartbeats 1000000 in
theorem blobTogether_calls (v : Value) (L : List (List UInt8)) (w : World) (hs : ∀ x ∈ L, x.length ≤ 140737488355328) (hv : BBs w v L) :
    Calls Try.prog 15 #[v] w fun e w' => ∃ u, e = .returned (.tuple #[u, .int .i64 (together L).2]) ∧ w'.ownsRow w.heap.size 5 1 u (together L).1.length (bcs (together L).1) ∧ Ext w w' := by
  have hv' := hv
  obtain ⟨A, c, rfl, hlc, hcm, _⟩ := hv
  unfold maxLen at hcm
  by_cases hm : 20000 < L.length
  · rw [together_many hm]
    go_enter Try.func15, Try.ntmps15
    go_wp2_with fail
    go_ret2
    exact ⟨_, rfl, (by exact World.ownsRow_nil _ _ _ _), Ext.refl _⟩
  · go_enter Try.func15, Try.ntmps15
    go_wp2_with fail
    go_loop [4, 6, 12] (fun s _ i => ∃ (k n : Nat), k ≤ L.length ∧ i = .int .i64 k ∧ s = .int .i64 n ∧ n ≤ 2814749767106560000 ∧ Hid (n = ((L.take k).map List.length).sum)) (fun _ _ i => L.length - (intOf i).toNat)
    case atStart => exact ⟨0, 0, Nat.zero_le _, rfl, rfl, by omega, Lib.hid rfl⟩
    case round =>
      obtain ⟨k, n, hk, rfl, rfl, hn, HN⟩ := hrel
      by_cases hlt : k < L.length
      · obtain ⟨ad, B, d, rfl, hc, hld, hdm, hR⟩ := hv'.at_ hlt
        have h1 := lens_take L hlt
        have h2 := lens_bd2 L hs (k + 1) (by omega)
        obtain ⟨m, hme⟩ : ∃ m, m = L[k].length := ⟨_, rfl⟩
        have hnm : n + m ≤ 2814749767106560000 := by rw [HN.out, hme]; omega
        have HM := Lib.hid (show n + m = ((L.take (k + 1)).map List.length).sum by rw [h1, HN.out, hme])
        rw [← hme] at hc
        clear h1 h2 hme hld
        go_wp2_with fail
        go_round
        case rel => exact ⟨k + 1, n + m, by omega, by go_num, by go_num, hnm, HM⟩
        case measure => simp [intOf]; omega
      · obtain rfl : k = L.length := by omega
        have HN' : Hid (n = lens L) := Lib.hid (by rw [HN.out, List.take_length]; rfl)
        by_cases hl : 2000000 < n
        · have HT := Lib.hid (together_large hm (by rw [← HN'.out]; exact hl))
          go_wp2_with fail
          go_ret2
          exact ⟨_, by rw [HT.out]; rfl, by rw [HT.out]; exact World.ownsRow_nil _ _ _ _, Ext.refl _⟩
        · have HT := Lib.hid (together_good hm (by rw [← HN'.out]; exact hl))
          go_wp2_with fail
          refine (concatBytes_calls _ L w (by have := HN'.out; unfold lens at this; omega) hv').mono ?_
          rintro e w1 ⟨u, rfl, ho, hE⟩
          go_wp2_with fail
          go_ret2
          exact ⟨_, by rw [HT.out]; rfl, by rw [HT.out]; exact ho, hE⟩
set_option maxHeartbeats 1000000 in
theorem refTogether_calls (v : Value) (L : List (List UInt8)) (w : World) (hs : ∀ x ∈ L, x.length ≤ 140737488355328) (hv : BBs w v L) :
    Calls Try.prog 17 #[v] w fun e w' => ∃ u, e = .returned (.tuple #[u, .int .i64 (together L).2]) ∧ w'.ownsRow w.heap.size 5 1 u (together L).1.length (bcs (together L).1) ∧ Ext w w' := by
  have hv' := hv
  obtain ⟨A, c, rfl, hlc, hcm, _⟩ := hv
  unfold maxLen at hcm
  by_cases hm : 20000 < L.length
  · rw [together_many hm]
    go_enter Try.func17, Try.ntmps17
    go_wp2_with fail
    go_ret2
    exact ⟨_, rfl, (by exact World.ownsRow_nil _ _ _ _), Ext.refl _⟩
  · go_enter Try.func17, Try.ntmps17
    go_wp2_with fail
    go_loop [4, 5] (fun s i => ∃ (k n : Nat), k ≤ L.length ∧ i = .int .i64 k ∧ s = .int .i64 n ∧ n ≤ 2814749767106560000 ∧ Hid (n = ((L.take k).map List.length).sum)) (fun _ i => L.length - (intOf i).toNat)
    case atStart => exact ⟨0, 0, Nat.zero_le _, rfl, rfl, by omega, Lib.hid rfl⟩
    case round =>
      obtain ⟨k, n, hk, rfl, rfl, hn, HN⟩ := hrel
      by_cases hlt : k < L.length
      · obtain ⟨ad, B, d, rfl, hc, hld, hdm, hR⟩ := hv'.at_ hlt
        have h1 := lens_take L hlt
        have h2 := lens_bd2 L hs (k + 1) (by omega)
        obtain ⟨m, hme⟩ : ∃ m, m = L[k].length := ⟨_, rfl⟩
        have hnm : n + m ≤ 2814749767106560000 := by rw [HN.out, hme]; omega
        have HM := Lib.hid (show n + m = ((L.take (k + 1)).map List.length).sum by rw [h1, HN.out, hme])
        rw [← hme] at hc
        clear h1 h2 hme hld
        go_wp2_with fail
        go_round
        case rel => exact ⟨k + 1, n + m, by omega, by go_num, by go_num, hnm, HM⟩
        case measure => simp [intOf]; omega
      · obtain rfl : k = L.length := by omega
        have HN' : Hid (n = lens L) := Lib.hid (by rw [HN.out, List.take_length]; rfl)
        by_cases hl : 2000000 < n
        · have HT := Lib.hid (together_large hm (by rw [← HN'.out]; exact hl))
          go_wp2_with fail
          go_ret2
          exact ⟨_, by rw [HT.out]; rfl, by rw [HT.out]; exact World.ownsRow_nil _ _ _ _, Ext.refl _⟩
        · have HT := Lib.hid (together_good hm (by rw [← HN'.out]; exact hl))
          have hsum : (L.map List.length).sum ≤ 2000000 := by have := HN'.out; unfold lens at this; omega
          go_wp2_with fail
          go_loopw [6, 7] (fun q i wr => ∃ (k : Nat) (r : List UInt8), k ≤ L.length ∧ i = .int .i64 k ∧ wr.ownsRow w.heap.size 5 1 q r.length (bcs r) ∧ r.length ≤ 2000000 ∧ Hid (r = (L.take k).flatten) ∧ Ext w wr) (fun _ i _ => L.length - (intOf i).toNat)
          case atStart => exact ⟨0, [], Nat.zero_le _, rfl, (by exact World.ownsRow_nil _ _ _ _), by simp, Lib.hid rfl, Ext.refl _⟩
          case round =>
            obtain ⟨k, r, hk, rfl, hown, hr, HR, hE2⟩ := hrel
            by_cases hlt : k < L.length
            · obtain ⟨ad, B, d, rfl, hc0, hld, hdm, hR⟩ := hv'.at_ hlt
              have hc := hE2.cell hc0
              have hRr := hR.ext hE2
              have h1 := lens_take L hlt
              have h2 := lens_take_le L (k + 1)
              have h3 := flat_take L hlt
              rw [← HR.out] at h3
              obtain ⟨x, hx⟩ : ∃ x, x = L[k] := ⟨_, rfl⟩
              rw [← hx] at hc hRr h3
              have hrl : r.length + x.length ≤ 2000000 := by
                have := flat_len (L.take (k + 1)); rw [h3] at this; simp only [List.length_append] at this; omega
              have HF := Lib.hid h3
              clear h1 h2 h3 hx hc0 hR hld
              go_wp2_with (at_builtin; refine wp_app (w0 := w) rfl et_byte rfl hown hE2 rfl hRr rfl (by rw [bcs_len]; omega) (bcs_one _) (by omega) ?_; intro v' w2 hown' hE' hg' hb' hz')
              go_roundw
              case rel => exact ⟨k + 1, r ++ x, by omega, by go_num, own_bytes hown' rfl, by simp only [List.length_append]; omega, Lib.hid HF.out.symm, hE'⟩
              case measure => simp [intOf]; omega
            · obtain rfl : k = L.length := by omega
              have HF : Hid (r = L.flatten) := Lib.hid (by rw [HR.out, List.take_length])
              go_wp2_with fail
              go_ret2
              exact ⟨_, by rw [HT.out]; rfl, by rw [HT.out, ← HF.out]; exact hown, hE2⟩
end Go.Proofs.Ythlkidohpiebiaa
