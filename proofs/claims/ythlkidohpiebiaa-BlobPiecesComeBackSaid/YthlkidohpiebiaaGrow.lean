/- slices.Grow and slices.Concat at bytes. -/
import Derived.Test.YthlkidohpiebiaaProg
import Derived.Test.YthlkidohpiebiaaBase2
import Derived.WalkSpells
import Derived.WalkLawsBesides
import Derived.Outline
import Derived.IntWalk
import Derived.Deep.QuietTactic
import Derived.BigQuiet
namespace Go.Proofs.Ythlkidohpiebiaa
open Go Go.RowKit
theorem et_byte : ElemT Try.prog 22 5 1 1 := ElemT.mk_ Try.underlying22 (z := .int .u8 0) (by kernel_rfl) rfl (by decide) (by decide)
set_option maxHeartbeats 400000 in
theorem growBytes_calls (n : Nat) (w : World) (hn : n ≤ 140737488355328) :
    Calls Try.prog 26 #[.slice none 0 0, .int .i64 n] w fun e w' => ∃ u, e = .returned u ∧ w'.ownsRow w.heap.size 5 1 u 0 [] ∧ Ext w w' := by
  rcases Nat.eq_zero_or_pos n with rfl | h0
  · go_enter Try.func26, Try.ntmps26
    go_wp2_with fail
    go_ret
    exact ⟨_, rfl, World.ownsRow_nil _ _ _ _, Ext.refl _⟩
  · go_enter Try.func26, Try.ntmps26
    go_wp2_with (at_builtin; refine wp_app_make (w0 := w) rfl et_byte Try.underlying3 rfl rfl rfl (Ext.refl _) h0 (by omega) ?_; intro cap w1 hc ho hE)
    go_ret
    exact ⟨_, rfl, ho, hE⟩
theorem lens_take (L : List (List UInt8)) {k : Nat} (hk : k < L.length) : ((L.take (k + 1)).map List.length).sum = ((L.take k).map List.length).sum + L[k].length := by
  rw [List.take_succ_eq_append_getElem hk, List.map_append, List.sum_append]; simp
theorem lens_take_le (L : List (List UInt8)) (k : Nat) : ((L.take k).map List.length).sum ≤ (L.map List.length).sum := by
  have : (L.map List.length).sum = ((L.take k).map List.length).sum + ((L.drop k).map List.length).sum := by rw [← List.sum_append, ← List.map_append, List.take_append_drop]
  omega
theorem flat_take (L : List (List UInt8)) {k : Nat} (hk : k < L.length) : (L.take (k + 1)).flatten = (L.take k).flatten ++ L[k] := by
  rw [List.take_succ_eq_append_getElem hk, List.flatten_append, List.flatten_cons, List.flatten_nil, List.append_nil]
theorem flat_len (L : List (List UInt8)) : L.flatten.length = (L.map List.length).sum := by simp
theorem own_bytes {w w1 : World} {e : TypeId} {v : Value} {l m r : List UInt8} (h : w1.ownsRow w.heap.size e 1 v (l.length + m.length) (bcs l ++ bcs m)) (hr : r = l ++ m) : w1.ownsRow w.heap.size e 1 v r.length (bcs r) := by
  subst hr; simpa [bcs] using h
theorem bcs_one (l : List UInt8) : ∀ u ∈ bcs l, u.oneCell' = true := by
  intro u hu
  obtain ⟨x, _, rfl⟩ := List.mem_map.1 hu
  rfl
set_option maxHeartbeats 1000000 in
theorem concatBytes_calls (v : Value) (L : List (List UInt8)) (w : World) (hL : (L.map List.length).sum ≤ 2000000) (hv : BBs w v L) :
    Calls Try.prog 22 #[v] w fun e w' => ∃ u, e = .returned u ∧ w'.ownsRow w.heap.size 5 1 u L.flatten.length (bcs L.flatten) ∧ Ext w w' := by
  have hv' := hv
  obtain ⟨A, c, rfl, hlc, hcm, _⟩ := hv
  unfold maxLen at hcm
  go_enter Try.func22, Try.ntmps22
  go_wp2_with fail
  go_loop [3, 5, 11] (fun s _ i => ∃ (k n : Nat), k ≤ L.length ∧ i = .int .i64 k ∧ s = .int .i64 n ∧ n ≤ 2000000 ∧ Hid (n = ((L.take k).map List.length).sum)) (fun _ _ i => L.length - (intOf i).toNat)
  case atStart => exact ⟨0, 0, Nat.zero_le _, rfl, rfl, by omega, Lib.hid rfl⟩
  case round =>
    obtain ⟨k, n, hk, rfl, rfl, hn, HN⟩ := hrel
    by_cases hlt : k < L.length
    · obtain ⟨ad, B, d, rfl, hc, hld, hdm, hR⟩ := hv'.at_ hlt
      have h1 := lens_take L hlt
      have h2 := lens_take_le L (k + 1)
      obtain ⟨m, hm⟩ : ∃ m, m = L[k].length := ⟨_, rfl⟩
      have hnm : n + m ≤ 2000000 := by rw [HN.out, hm]; omega
      have HM := Lib.hid (show n + m = ((L.take (k + 1)).map List.length).sum by rw [h1, HN.out, hm])
      rw [← hm] at hc
      clear h1 h2 hm hld
      go_wp2_with fail
      go_round
      case rel => exact ⟨k + 1, n + m, by omega, by go_num, by go_num, hnm, HM⟩
      case measure => simp [intOf]; omega
    · obtain rfl : k = L.length := by omega
      go_wp2_with fail
      refine (growBytes_calls n w (by omega)).mono ?_
      rintro e w1 ⟨u, rfl, ho, hE⟩
      go_wp2_with fail
      go_loopw [6, 8, 27] (fun q _ i wr => ∃ (k : Nat) (r : List UInt8), k ≤ L.length ∧ i = .int .i64 k ∧ wr.ownsRow w.heap.size 5 1 q r.length (bcs r) ∧ r.length ≤ 2000000 ∧ Hid (r = (L.take k).flatten) ∧ Ext w wr) (fun _ _ i _ => L.length - (intOf i).toNat)
      case atStart => exact ⟨0, [], Nat.zero_le _, rfl, ho, by simp, Lib.hid rfl, hE⟩
      case round =>
        obtain ⟨k, r, hk, rfl, hown, hr, HR, hE2⟩ := hrel
        by_cases hlt : k < L.length
        · obtain ⟨ad, B, d, rfl, hc0, hld, hdm, hR⟩ := hv'.at_ hlt
          have hc := hE2.cell hc0
          have hRr := hR.ext hE2
          have h1 := lens_take L hlt
          have h2 := lens_take_le L (k + 1)
          have h3 := flat_take L hlt
          rw [← HR.out] at h3
          obtain ⟨x, hx⟩ : ∃ x, x = L[k] := ⟨_, rfl⟩
          rw [← hx] at hc hRr h3
          have hrl : r.length + x.length ≤ 2000000 := by
            have := flat_len (L.take (k + 1)); rw [h3] at this; simp only [List.length_append] at this; omega
          have HF := Lib.hid h3
          clear h1 h2 h3 hx hc0 hR hld
          go_wp2_with (at_builtin; refine wp_app (w0 := w) rfl et_byte rfl hown hE2 rfl hRr rfl (by rw [bcs_len]; omega) (bcs_one _) (by omega) ?_; intro v' w2 hown' hE' hg' hb' hz')
          go_roundw
          case rel => exact ⟨k + 1, r ++ x, by omega, by go_num, own_bytes hown' rfl, by simp only [List.length_append]; omega, Lib.hid HF.out.symm, hE'⟩
          case measure => simp [intOf]; omega
        · obtain rfl : k = L.length := by omega
          have HF : Hid (r = L.flatten) := Lib.hid (by rw [HR.out, List.take_length])
          go_wp2_with fail
          go_ret
          exact ⟨_, rfl, by rw [← HF.out]; exact hown, hE2⟩
end Go.Proofs.Ythlkidohpiebiaa
