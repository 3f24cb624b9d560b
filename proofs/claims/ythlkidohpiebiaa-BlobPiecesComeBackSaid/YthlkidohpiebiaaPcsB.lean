/- blob.Pieces and smithyardref1.Pieces: the walks. -/
import Derived.Test.YthlkidohpiebiaaPcs
namespace Go.Proofs.Ythlkidohpiebiaa
open Go Go.RowKit
set_option maxHeartbeats 1000000 in
theorem refPieces_calls (v : Value) (b : List UInt8) (least bits most : Int) (w : World) (hv : Bs w v b) :
    Calls Try.prog 12 #[v, .int .i64 least, .int .i64 bits, .int .i64 most] w fun e w' => ∃ u, e = .returned (.tuple #[u, .int .i64 (piecesOf b least bits most).2]) ∧
      w'.ownsRow w.heap.size 3 1 u (piecesOf b least bits most).1.length (ics (piecesOf b least bits most).1) ∧ Ext w w' := by
  have hc := checkCut_calls v b least bits most w hv
  rcases cutFault_cases b least bits most with ⟨h1, hf⟩ | ⟨h1, hb, hf⟩ | ⟨h1, hb, hf⟩
  · rw [hf] at hc
    rw [piecesOf_bad hf]
    clear hf
    go_enter Try.func12, Try.ntmps12
    go_wp2_with fail
    refine hc.mono ?_
    clear hc
    rintro e w1 ⟨rfl, rfl⟩
    go_wp2_with fail
    go_ret2
    exact ⟨_, rfl, (by exact World.ownsRow_nil _ _ _ _), Ext.refl _⟩
  · rw [hf] at hc
    rw [piecesOf_bad hf]
    clear hf hb
    go_enter Try.func12, Try.ntmps12
    go_wp2_with fail
    refine hc.mono ?_
    clear hc
    rintro e w1 ⟨rfl, rfl⟩
    go_wp2_with fail
    go_ret2
    exact ⟨_, rfl, (by exact World.ownsRow_nil _ _ _ _), Ext.refl _⟩
  · rw [hf] at hc
    obtain ⟨least, rfl⟩ := Int.eq_ofNat_of_zero_le (show 0 ≤ least by omega)
    obtain ⟨bits, rfl⟩ := Int.eq_ofNat_of_zero_le (show 0 ≤ bits by omega)
    obtain ⟨most, rfl⟩ := Int.eq_ofNat_of_zero_le (show 0 ≤ most by omega)
    have hp := piecesOf_calls v b least bits most w h1 (by omega) (by omega) (by omega) (by omega) hv
    have hlen := pieces_len b least bits most
    have HP : (20000 < (pieces b least bits most).length ∧ Hid (piecesOf b least bits most = ([], 2))) ∨ (¬ 20000 < (pieces b least bits most).length ∧ Hid (piecesOf b least bits most = (pieces b least bits most, 0))) := by
      by_cases h2 : 20000 < (pieces b least bits most).length
      · exact .inl ⟨h2, Lib.hid (piecesOf_many hf h2)⟩
      · exact .inr ⟨h2, Lib.hid (piecesOf_good hf h2)⟩
    clear hf hb
    rcases HP with ⟨h2, HP⟩ | ⟨h2, HP⟩
    all_goals
      go_enter Try.func12, Try.ntmps12
      go_wp2_with fail
      refine hc.mono ?_
      clear hc
      rintro e w1 ⟨rfl, rfl⟩
      go_wp2_with fail
      refine hp.mono ?_
      clear hp
      rintro e w1 ⟨u, rfl, hown, hE⟩
      obtain ⟨A, c, rfl, hlc, hcm, hR⟩ := Row.of_own' hown
      unfold maxLen at hcm
      go_wp2_with fail
      go_ret2
    · exact ⟨_, by rw [HP.out]; rfl, by rw [HP.out]; exact World.ownsRow_nil _ _ _ _, hE⟩
    · exact ⟨_, by rw [HP.out]; rfl, by rw [HP.out]; exact hown, hE⟩

set_option maxHeartbeats 1000000 in
theorem blobPieces_calls (v : Value) (b : List UInt8) (least bits most : Int) (w : World) (hv : Bs w v b) :
    Calls Try.prog 11 #[v, .int .i64 least, .int .i64 bits, .int .i64 most] w fun e w' => ∃ u, e = .returned (.tuple #[u, .int .i64 (piecesOf b least bits most).2]) ∧
      w'.ownsRow w.heap.size 3 1 u (piecesOf b least bits most).1.length (ics (piecesOf b least bits most).1) ∧ Ext w w' := by
  have hv' := hv
  obtain ⟨A, c, rfl, hlc, hcm, hR⟩ := hv
  unfold maxLen at hcm
  rcases cutFault_cases b least bits most with ⟨h1, hf⟩ | ⟨h1, hb, hf⟩ | ⟨h1, hb, hf⟩
  · rw [piecesOf_bad hf]
    clear hf
    go_enter Try.func11, Try.ntmps11
    go_wp2_with fail
    go_ret2
    exact ⟨_, rfl, (by exact World.ownsRow_nil _ _ _ _), Ext.refl _⟩
  · rw [piecesOf_bad hf]
    clear hf
    go_enter Try.func11, Try.ntmps11
    go_wp2_with fail
    all_goals
      first
      | (exfalso; apply hb; refine ⟨?_, ?_, ?_, ?_, ?_, ?_⟩ <;> omega)
      | (go_ret2; exact ⟨_, rfl, (by exact World.ownsRow_nil _ _ _ _), Ext.refl _⟩)
  · obtain ⟨least, rfl⟩ := Int.eq_ofNat_of_zero_le (show 0 ≤ least by omega)
    obtain ⟨bits, rfl⟩ := Int.eq_ofNat_of_zero_le (show 0 ≤ bits by omega)
    obtain ⟨most, rfl⟩ := Int.eq_ofNat_of_zero_le (show 0 ≤ most by omega)
    have hp := cut_calls _ b least bits most w h1 (by omega) (by omega) (by omega) (by omega) hv'
    have hlen := pieces_len b least bits most
    have HP : (20000 < (pieces b least bits most).length ∧ Hid (piecesOf b least bits most = ([], 2))) ∨ (¬ 20000 < (pieces b least bits most).length ∧ Hid (piecesOf b least bits most = (pieces b least bits most, 0))) := by
      by_cases h2 : 20000 < (pieces b least bits most).length
      · exact .inl ⟨h2, Lib.hid (piecesOf_many hf h2)⟩
      · exact .inr ⟨h2, Lib.hid (piecesOf_good hf h2)⟩
    clear hf
    obtain ⟨b1, b2, b3, b4, b5, b6⟩ := hb
    rcases HP with ⟨h2, HP⟩ | ⟨h2, HP⟩
    all_goals
      go_enter Try.func11, Try.ntmps11
      go_wp2_with fail
      refine hp.mono ?_
      clear hp
      rintro e w1 ⟨u, rfl, hown, hE⟩
      obtain ⟨A', c', rfl, hlc', hcm', hR'⟩ := Row.of_own' hown
      unfold maxLen at hcm'
      go_wp2_with fail
      go_ret2
    · exact ⟨_, by rw [HP.out]; rfl, by rw [HP.out]; exact World.ownsRow_nil _ _ _ _, hE⟩
    · exact ⟨_, by rw [HP.out]; rfl, by rw [HP.out]; exact hown, hE⟩
end Go.Proofs.Ythlkidohpiebiaa
