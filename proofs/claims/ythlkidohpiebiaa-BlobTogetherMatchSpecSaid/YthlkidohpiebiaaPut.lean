/- smithyardref1.put puts a string into a rising list. -/
import Derived.Test.YthlkidohpiebiaaProg
import Derived.Test.YthlkidohpiebiaaStr
import Derived.WalkSpells
import Derived.WalkLawsBesides
import Derived.Outline
import Derived.IntWalk
namespace Go.Proofs.Ythlkidohpiebiaa
open Go Go.RowKit
theorem et_str : ElemT Try.prog 47 9 1 16 := ElemT.mk_ Try.underlying47 (z := .string ⟨#[]⟩) (by kernel_rfl) rfl (by decide) (by decide)
theorem put_room (n k : Nat) (hn : n ≤ 1099511627776) (hk : k ≤ n) : (0 + k + 1) * 16 ≤ 140737488355328 ∧ (0 + k + 1 + (n - k)) * 16 ≤ 140737488355328 := by omega
theorem put_room1 (n k : Nat) (hn : n ≤ 1099511627776) (hk : k ≤ n) : (0 + k) * 16 ≤ 140737488355328 := by omega
set_option maxHeartbeats 1000000 in
theorem put_calls (v : Value) (L : List Str) (s : Str) (w : World) (hr : Rising L) (hl : L.length ≤ 1099511627776) (hv : Vs w v (scs L)) :
    Calls Try.prog 23 #[v, .string ⟨s.toArray⟩] w fun e w' => ∃ u, e = .returned u ∧ Vs w' u (scs (ins s L)) ∧ Ext w w' := by
  have hv' := hv
  obtain ⟨A, c, rfl, hlc, hcm, hR⟩ := hv
  rw [scs_len] at hlc hv' ⊢
  unfold maxLen at hcm
  go_enter Try.func23, Try.ntmps23
  go_wp2_with fail
  go_loop [5] (fun i => ∃ k : Nat, k ≤ L.length ∧ i = .int .i64 k ∧ Hid (∀ i (h : i < L.length), k ≤ i → s < L[i])) (fun i => (intOf i).toNat)
  case atStart => exact ⟨L.length, Nat.le_refl _, rfl, Lib.hid (fun i h h2 => by omega)⟩
  case round =>
    obtain ⟨k, hk, rfl, HG⟩ := hrel
    by_cases hk0 : k = 0
    · subst hk0
      have HF : Hid (ins s L = L.take 0 ++ [s] ++ L.drop 0) := Lib.hid (ins_new hr hk HG.out (fun h => by omega))
      have hk1 : 0 ≤ c := by omega
      have hB1 := put_room1 L.length 0 hl hk
      have hR1 : Row w A (scs (L.take 0)) := by unfold scs; rw [List.map_take]; exact hR.take _
      have hl1 : (scs (L.take 0)).length = 0 * 1 := by rw [scs_len, List.length_take]; omega
      have hR3 : Row w A (scs L) := hR
      have hl3 : (scs L).length = L.length * 1 := by rw [scs_len]; omega
      obtain ⟨hB2, hB3⟩ := put_room L.length 0 hl hk
      go_wp2_with (at_builtin; refine unstop ?_)
      refine stop (wp_app (w0 := w) rfl et_str rfl (World.ownsRow_nil _ _ _ _) (Ext.refl _) rfl hR1 rfl hl1 (scs_one _) hB1 ?_)
      intro v1 w1 ho1 hE1 hg1 hb1 hz1
      go_wp2_with (at_builtin; refine unstop ?_)
      refine stop (wp_app1 (w0 := w) rfl et_str rfl ho1 hE1 rfl rfl rfl rfl hB2 ?_)
      intro v2 w2 ho2 hE2 hg2 hn2 hb2
      go_wp2_with (at_builtin; refine unstop ?_)
      refine stop (wp_app (w0 := w) rfl et_str rfl ho2 hE2 rfl (hR3.ext hE2) rfl hl3 (scs_one _) hB3 ?_)
      intro v3 w3 ho3 hE3 hg3 hb3 hz3
      go_wp2_with fail
      go_ret
      have hfin := Vs.of_own ho3
      refine ⟨_, rfl, ?_, hE3⟩
      rw [HF.out]
      simpa [scs] using hfin
    · obtain ⟨j, rfl⟩ : ∃ j, k = j + 1 := ⟨k - 1, by omega⟩
      obtain ⟨ad, hA, hc⟩ := hR.at_ (scs_at L (show j < L.length by omega))
      rcases cmp3 L[j] s with ⟨hlt, e1, e2⟩ | ⟨heq, e1, e2⟩ | ⟨hgt, e1, e2⟩
      · have HF : Hid (ins s L = L.take (j + 1) ++ [s] ++ L.drop (j + 1)) := Lib.hid (ins_new hr hk HG.out (fun h => ⟨by simp; omega, by simpa using hlt⟩))
        obtain rfl := hA
        clear hlt
        have hk1 : (j + 1) ≤ c := by omega
        have hB1 := put_room1 L.length (j + 1) hl hk
        have hR1 : Row w (some ad) (scs (L.take (j + 1))) := by unfold scs; rw [List.map_take]; exact hR.take _
        have hl1 : (scs (L.take (j + 1))).length = (j + 1) * 1 := by rw [scs_len, List.length_take]; omega
        have HRa : Hid (c = j + 1 → Row w (some ad) (scs (L.drop (j + 1)))) := Lib.hid (fun he => by rw [List.drop_eq_nil_of_le (by omega)]; exact Row.nil _ _)
        have HRb : Hid (¬ c = j + 1 → Row w (some (ad.add (j + 1))) (scs (L.drop (j + 1)))) := Lib.hid (fun he => by unfold scs; rw [List.map_drop]; exact hR.drop _)
        have hl3 : (scs (L.drop (j + 1))).length = (L.length - (j + 1)) * 1 := by rw [scs_len, List.length_drop]; omega
        obtain ⟨hB2, hB3⟩ := put_room L.length (j + 1) hl hk
        go_wp2_with (at_builtin; refine unstop ?_)
        refine stop (wp_app (w0 := w) rfl et_str rfl (World.ownsRow_nil _ _ _ _) (Ext.refl _) rfl hR1 rfl hl1 (scs_one _) hB1 ?_)
        intro v1 w1 ho1 hE1 hg1 hb1 hz1
        go_wp2_with (at_builtin; refine unstop ?_)
        refine stop (wp_app1 (w0 := w) rfl et_str rfl ho1 hE1 rfl rfl rfl rfl hB2 ?_)
        intro v2 w2 ho2 hE2 hg2 hn2 hb2
        go_wp2_with (at_builtin; refine unstop ?_)
        all_goals
          first
          | refine stop (wp_app (w0 := w) rfl et_str rfl ho2 hE2 rfl ((HRa.out (by assumption)).ext hE2) rfl hl3 (scs_one _) hB3 ?_)
          | refine stop (wp_app (w0 := w) rfl et_str rfl ho2 hE2 rfl ((HRb.out (by assumption)).ext hE2) rfl hl3 (scs_one _) hB3 ?_)
          intro v3 w3 ho3 hE3 hg3 hb3 hz3
          go_wp2_with fail
          go_ret
          have hfin := Vs.of_own ho3
          refine ⟨_, rfl, ?_, hE3⟩
          rw [HF.out]
          simpa [scs] using hfin
      · have HF : Hid (ins s L = L) := Lib.hid (ins_old hr (by rw [← heq]; exact List.getElem_mem _))
        obtain rfl := hA
        clear heq
        go_wp2_with fail
        go_ret
        exact ⟨_, rfl, by rw [HF.out]; exact hv', Ext.refl _⟩
      · obtain rfl := hA
        have HG2 : Hid (∀ i (h : i < L.length), j ≤ i → s < L[i]) := Lib.hid (fun i h hji => by
          by_cases he : i = j
          · subst he; exact hgt
          · exact HG.out i h (by omega))
        clear hgt
        go_wp2_with fail
        go_round
        case rel => exact ⟨j, by omega, by go_num, HG2⟩
        case measure => simp [intOf]
end Go.Proofs.Ythlkidohpiebiaa
