/- The walk of BlobSharedIsAll. -/
import Derived.Test.YthlkidohpiebiaaShared
import Derived.Test.YthlkidohpiebiaaAwake
namespace Go.Proofs.Ythlkidohpiebiaa
open Go Go.RowKit
theorem sharedOf_self {a : List UInt8} {least bits most : Int} (h : (sharedOf a a least bits most).2 = 0) : (sharedOf a a least bits most).1 = a.length := by
  have hs := @piecesOf_sum a least bits most
  unfold sharedOf at h ⊢
  by_cases hf : (piecesOf a least bits most).2 ≠ 0
  · rw [if_pos hf] at h; exact absurd h hf
  · have hf0 : (piecesOf a least bits most).2 = 0 := by omega
    rw [if_neg hf, if_neg hf]
    simp only
    rw [sharedSum_self, chunks_lens _ _ (by rw [(hs hf0).1]; exact Nat.le_refl _), (hs hf0).1]
theorem sharedOf_bad {a b : List UInt8} {least bits most : Int} (h : (sharedOf a b least bits most).2 ≠ 0) : (sharedOf a b least bits most).1 = 0 := by
  unfold sharedOf at h ⊢
  split
  · rfl
  · split
    · rfl
    · rename_i h1 h2; rw [if_neg h1, if_neg h2] at h; simp at h
theorem sharedOf_le {a b : List UInt8} {least bits most : Int} (h : (sharedOf a b least bits most).2 = 0) : (sharedOf a b least bits most).1 ≤ b.length := by
  have hs := @piecesOf_sum b least bits most
  unfold sharedOf at h ⊢
  split
  · simp
  · split
    · simp
    · rename_i h1 h2
      have := hs (by omega)
      have h3 := sharedSum_le (chunks a (piecesOf a least bits most).1) (chunks b (piecesOf b least bits most).1)
      rw [chunks_lens (piecesOf b least bits most).1 _ (by omega)] at h3
      simp only
      omega
set_option maxHeartbeats 1000000 in
theorem lawSharedIsAll_calls (u : Value) (a : List UInt8) (v : Value) (b : List UInt8) (least bits most : Int) (w : World) (hu : Bs w u a) (hv : Bs w v b) :
    Calls Try.prog 5 #[u, v, .int .i64 least, .int .i64 bits, .int .i64 most] w fun e w' => e = .returned (.bool true) ∧ Ext w w' := by
  have hc1 := blobShared_calls u u a a least bits most w hu hu
  have hc2 := fun w1 (h : Ext w w1) => blobShared_calls u v a b least bits most w1 (hu.ext h) (hv.ext h)
  have hg1 := @sharedOf_self a least bits most
  have hb1 := @sharedOf_bad a a least bits most
  have hg2 := @sharedOf_le a b least bits most
  have hb2 := @sharedOf_bad a b least bits most
  generalize sharedOf a a least bits most = p at *
  generalize sharedOf a b least bits most = q at *
  obtain ⟨n, f⟩ := p
  obtain ⟨m, g⟩ := q
  simp only at hc1 hc2 hg1 hb1 hg2 hb2
  obtain ⟨A, c, rfl, hal, ham, _⟩ := hu
  obtain ⟨B, d, rfl, hbl, hbm, _⟩ := hv
  unfold maxLen at ham hbm
  by_cases hf : f = 0
  · obtain rfl := hf
    obtain rfl := hg1 rfl
    by_cases hg : g = 0
    · obtain rfl := hg
      have hm := hg2 rfl
      clear hg1 hb1 hg2 hb2
      go_enter Try.func5, Try.ntmps5
      go_wp2_with fail
      refine hc1.mono ?_
      clear hc1
      rintro e w1 ⟨rfl, h1⟩
      go_wp2_with fail
      refine (hc2 w1 h1).mono ?_
      clear hc2
      rintro e w2 ⟨rfl, h2⟩
      go_wp2_with fail
      refine (awake_calls w2).mono ?_
      rintro e w3 ⟨rfl, h3⟩
      go_wp2_with fail
      go_ret
      exact ⟨rfl, (h1.trans h2).trans h3⟩
    · have t : ((g : Int) != 0) = true := by simp; omega
      obtain rfl := hb2 hg
      clear hg1 hb1 hg2 hb2
      go_enter Try.func5, Try.ntmps5
      go_wp2_with fail
      refine hc1.mono ?_
      clear hc1
      rintro e w1 ⟨rfl, h1⟩
      go_wp2_with fail
      refine (hc2 w1 h1).mono ?_
      clear hc2
      rintro e w2 ⟨rfl, h2⟩
      go_wp2_with fail
      refine (awake_calls w2).mono ?_
      rintro e w3 ⟨rfl, h3⟩
      go_wp2_with fail
      go_ret
      exact ⟨rfl, (h1.trans h2).trans h3⟩
  · have t : ((f : Int) != 0) = true := by simp; omega
    obtain rfl := hb1 hf
    clear hg1 hb1 hg2 hb2
    go_enter Try.func5, Try.ntmps5
    go_wp2_with fail
    refine hc1.mono ?_
    clear hc1
    rintro e w1 ⟨rfl, h1⟩
    go_wp2_with fail
    refine (awake_calls w1).mono ?_
    rintro e w2 ⟨rfl, h2⟩
    go_wp2_with fail
    go_ret
    exact ⟨rfl, h1.trans h2⟩
end Go.Proofs.Ythlkidohpiebiaa
