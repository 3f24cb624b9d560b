/- blob.Shared: the walk. -/
import Derived.Test.YthlkidohpiebiaaPcsB
import Derived.Test.YthlkidohpiebiaaChunks
import Derived.Test.YthlkidohpiebiaaMap
namespace Go.Proofs.Ythlkidohpiebiaa
open Go Go.RowKit
/-- What two of some bytes share, and the error. -/
def sharedOf (a b : List UInt8) (least bits most : Int) : Nat × Nat :=
  if (piecesOf a least bits most).2 ≠ 0 then (0, (piecesOf a least bits most).2)
  else if (piecesOf b least bits most).2 ≠ 0 then (0, (piecesOf b least bits most).2)
  else (sharedSum (chunks a (piecesOf a least bits most).1) (chunks b (piecesOf b least bits most).1), 0)
theorem piecesOf_sum {b : List UInt8} {least bits most : Int} (h : (piecesOf b least bits most).2 = 0) : (piecesOf b least bits most).1.sum = b.length ∧ b.length ≤ 2000000 := by
  unfold piecesOf at h ⊢
  rcases cutFault_cases b least bits most with ⟨h1, hf⟩ | ⟨h1, hb, hf⟩ | ⟨h1, hb, hf⟩
  · rw [hf] at h; simp at h
  · rw [hf] at h; simp at h
  · rw [if_pos hf] at h ⊢
    split at h
    · simp at h
    · rename_i h2
      rw [if_neg h2]
      exact ⟨pieces_sum b _ _ _, h1⟩
def inC (C : List (List UInt8)) (s : ByteArray) : Option Value := if s.data.toList ∈ C then some (.bool true) else none
theorem inC_snoc (C : List (List UInt8)) (d : List UInt8) : (fun t : ByteArray => if t = ⟨d.toArray⟩ then some (Value.bool true) else inC C t) = inC (C ++ [d]) := by
  funext t
  unfold inC
  by_cases h : t = ⟨d.toArray⟩
  · subst h; simp
  · rw [if_neg h]
    have h2 : t.data.toList ≠ d := by rintro rfl; exact h (by simp)
    simp [h2]
theorem inC_get (C : List (List UInt8)) (d : List UInt8) : (inC C ⟨d.toArray⟩).getD (.bool false) = .bool (decide (d ∈ C)) := by
  unfold inC
  by_cases h : d ∈ C <;> simp [h]
set_option maxHeartbeats 2000000 in
theorem blobShared_calls (u v : Value) (a b : List UInt8) (least bits most : Int) (w : World) (hu : Bs w u a) (hv : Bs w v b) :
    Calls Try.prog 14 #[u, v, .int .i64 least, .int .i64 bits, .int .i64 most] w fun e w' => e = .returned (.tuple #[.int .i64 (sharedOf a b least bits most).1, .int .i64 (sharedOf a b least bits most).2]) ∧ Ext w w' := by
  have hc1 := blobPieces_calls u a least bits most w hu
  have hc2 := fun w1 (h : Ext w w1) => blobPieces_calls v b least bits most w1 (hv.ext h)
  have hs1 := @piecesOf_sum a least bits most
  have hs2 := @piecesOf_sum b least bits most
  obtain ⟨⟨xs, f1⟩, hx⟩ : ∃ p, piecesOf a least bits most = p := ⟨_, rfl⟩
  obtain ⟨⟨ys, f2⟩, hy⟩ : ∃ p, piecesOf b least bits most = p := ⟨_, rfl⟩
  have HS := Lib.hid (show sharedOf a b least bits most = if f1 ≠ 0 then (0, f1) else if f2 ≠ 0 then (0, f2) else (sharedSum (chunks a xs) (chunks b ys), 0) by unfold sharedOf; rw [hx, hy])
  rw [hx] at hc1 hs1
  simp only [hy] at hc2 hs2
  clear hx hy
  simp only at hc1 hs1 hs2
  go_enter Try.func14, Try.ntmps14
  go_wp2_with fail
  refine hc1.mono ?_
  clear hc1
  rintro e w1 ⟨x, rfl, hx, h1⟩
  by_cases hf1 : f1 = 0
  · obtain rfl := hf1
    obtain ⟨hsx, hal⟩ := hs1 rfl
    clear hs1
    go_wp2_with fail
    refine (hc2 w1 h1).mono ?_
    clear hc2
    rintro e w2 ⟨y, rfl, hy, h2⟩
    by_cases hf2 : f2 = 0
    · obtain rfl := hf2
      obtain ⟨hsy, hbl⟩ := hs2 rfl
      clear hs2
      obtain ⟨A1, c1, rfl, hxl, hxm, hxr⟩ := Row.of_own' (h2.own hx)
      obtain ⟨A2, c2, rfl, hyl, hym, hyr⟩ := Row.of_own' hy
      have hmm := @run_makeMap Try.prog
      have hu2 := hu.ext (h1.trans h2)
      have hv2 := hv.ext (h1.trans h2)
      have HX := Lib.hid hsx
      have HY := Lib.hid hsy
      clear hsx hsy hx hy
      unfold maxLen at hxm hym
      go_wp2_with fail
      go_loopw [0, 17, 46] (fun q _ i wr => ∃ (k : Nat) (rest : List UInt8), k ≤ xs.length ∧ i = .int .i64 k ∧ Bs wr q rest ∧ Hid (rest = a.drop (xs.take k).sum) ∧ MapOf wr w2.heap.size (inC (chunks a (xs.take k))) ∧ Ext w2 wr) (fun _ _ i _ => xs.length - (intOf i).toNat)
      case atStart => exact ⟨0, a, Nat.zero_le _, rfl, hu2.ext ((Ext.refl _).alloc _), Lib.hid rfl, MapOf.made w2, (Ext.refl _).alloc _⟩
      case round =>
        obtain ⟨k, rest, hk, rfl, ⟨A', c', rfl, hrl, hrm, hrr⟩, HR, hm, hE⟩ := hrel
        by_cases hlt : k < xs.length
        · obtain ⟨n, hn⟩ : ∃ n, n = xs[k] := ⟨_, rfl⟩
          obtain ⟨ad, rfl, hc0⟩ := hxr.at_ (show (ics xs)[k]? = some (.int .i64 n) by unfold ics; rw [List.getElem?_map, List.getElem?_eq_getElem hlt, hn]; rfl)
          have hc := hE.cell hc0
          have hnr : n ≤ rest.length := by
            have := sum_take xs hlt
            have := sum_take_le xs (k + 1)
            have := HX.out
            rw [HR.out, List.length_drop, hn]
            omega
          have hnc : n ≤ c' := by omega
          have hcv := run_bytes_str_part (P := Try.prog) wr 22 9 5 A' c' rest n Try.underlying22 Try.underlying5 Try.underlying9 hnr hrr
          have HN := Lib.hid hn
          clear hc0 hn
          go_wp2_with (at_mapUpdate; refine wp_mapput (w0 := w2) rfl rfl Try.underlying45 Try.underlying9 hm hE (Nat.le_refl _) rfl rfl rfl ?_; intro w3 hm3 hE3 hg3)
          go_roundw
          case rel =>
            refine ⟨k + 1, rest.drop n, by omega, by go_num, Bs.cut (hrr.ext (Ext.refl _) |>.mapped hm hg3) hrl hrm hnr, Lib.hid ?_, ?_, hE3⟩
            · rw [HR.out, List.drop_drop, sum_take xs hlt, HN.out]
            · rw [chunks_take a xs hlt, ← inC_snoc, ← HR.out, ← HN.out]; exact hm3
          case measure => simp [intOf]; omega
        · obtain rfl : k = xs.length := by omega
          rw [List.take_length] at hm
          go_wp2_with fail
          go_loopw [1, 18, 20, 61] (fun q s _ i wr => ∃ (k sm : Nat) (rest : List UInt8), k ≤ ys.length ∧ i = .int .i64 k ∧ s = .int .i64 sm ∧ sm ≤ 2000000 ∧ Bs wr q rest ∧ Hid (rest = b.drop (ys.take k).sum) ∧ Hid (sm = sharedSum (chunks a xs) (chunks b (ys.take k))) ∧ MapOf wr w2.heap.size (inC (chunks a xs)) ∧ Ext w2 wr) (fun _ _ _ i _ => ys.length - (intOf i).toNat)
          case atStart => exact ⟨0, 0, b, Nat.zero_le _, rfl, rfl, by omega, hv2.ext hE, Lib.hid rfl, Lib.hid rfl, hm, hE⟩
          case round =>
            obtain ⟨j, sm, rest2, hj, rfl, rfl, hsm, ⟨A3, c3, rfl, hsl, hsm', hsr⟩, HR2, HM, hm2, hE2⟩ := hrel
            by_cases hlt2 : j < ys.length
            · obtain ⟨n, hn⟩ : ∃ n, n = ys[j] := ⟨_, rfl⟩
              obtain ⟨ad, rfl, hd0⟩ := hyr.at_ (show (ics ys)[j]? = some (.int .i64 n) by unfold ics; rw [List.getElem?_map, List.getElem?_eq_getElem hlt2, hn]; rfl)
              have hd := hE2.cell hd0
              have hnr : n ≤ rest2.length := by
                have := sum_take ys hlt2
                have := sum_take_le ys (j + 1)
                have := HY.out
                rw [HR2.out, List.length_drop, hn]
                omega
              have hnc : n ≤ c3 := by omega
              have hcv := run_bytes_str_part (P := Try.prog) wr 22 9 5 A3 c3 rest2 n Try.underlying22 Try.underlying5 Try.underlying9 hnr hsr
              have HN := Lib.hid hn
              have hsum := chunks_take b ys hlt2
              rw [← HR2.out, ← hn] at hsum
              have hs3 := sharedSum_snoc (chunks a xs) (chunks b (ys.take j)) (rest2.take n)
              rw [← hsum, ← HM.out, List.length_take, Nat.min_eq_left hnr] at hs3
              have hbd : sharedSum (chunks a xs) (chunks b (ys.take (j + 1))) ≤ 2000000 := by
                have h1 := sharedSum_le (chunks a xs) (chunks b (ys.take (j + 1)))
                have h2 := sum_take_le ys (j + 1)
                have h3 := HY.out
                rw [chunks_lens _ _ (by omega)] at h1
                omega
              have hz : ∀ w, (zeroValue 4).run Try.prog w = .ok (.bool false) w := fun _ => by kernel_rfl
              have HC := Lib.hid (inC_get (chunks a xs) (rest2.take n))
              by_cases hin : rest2.take n ∈ chunks a xs
              · rw [if_pos hin] at hs3
                have HG : Hid ((inC (chunks a xs) ⟨(rest2.take n).toArray⟩).getD (.bool false) = .bool true) := Lib.hid (by rw [inC_get]; simp [hin])
                have hsn : sm + n ≤ 2000000 := by omega
                have HS3 := Lib.hid hs3
                clear hd0 hn hsum hs3 hin hbd
                go_wp2_with (at_lookup; refine wp_mapget rfl rfl Try.underlying45 Try.underlying9 hz hm2 rfl rfl ?_; simp only [Bool.false_eq_true, if_false]; rw [HG.out])
                go_roundw
                case rel => exact ⟨j + 1, sm + n, rest2.drop n, by omega, by go_num, by go_num, hsn, Bs.cut hsr hsl hsm' hnr, Lib.hid (by rw [HR2.out, List.drop_drop, sum_take ys hlt2, HN.out]), Lib.hid HS3.out.symm, hm2, hE2⟩
                case measure => simp [intOf]; omega
              · rw [if_neg hin] at hs3
                have HG : Hid ((inC (chunks a xs) ⟨(rest2.take n).toArray⟩).getD (.bool false) = .bool false) := Lib.hid (by rw [inC_get]; simp [hin])
                have HS3 := Lib.hid hs3
                clear hd0 hn hsum hs3 hin hbd
                go_wp2_with (at_lookup; refine wp_mapget rfl rfl Try.underlying45 Try.underlying9 hz hm2 rfl rfl ?_; simp only [Bool.false_eq_true, if_false]; rw [HG.out])
                go_roundw
                case rel => exact ⟨j + 1, sm, rest2.drop n, by omega, by go_num, rfl, hsm, Bs.cut hsr hsl hsm' hnr, Lib.hid (by rw [HR2.out, List.drop_drop, sum_take ys hlt2, HN.out]), Lib.hid HS3.out.symm, hm2, hE2⟩
                case measure => simp [intOf]; omega
            · obtain rfl : j = ys.length := by omega
              rw [List.take_length] at HM
              have HF : Hid (sharedOf a b least bits most = (sm, 0)) := Lib.hid (by rw [HS.out, HM.out]; rfl)
              go_wp2_with fail
              go_ret2
              exact ⟨by rw [HF.out]; rfl, (h1.trans h2).trans hE2⟩
    · have HF : Hid (sharedOf a b least bits most = (0, f2)) := Lib.hid (by rw [HS.out]; simp [hf2])
      have t : ((f2 : Int) != 0) = true := by simp; omega
      go_wp2_with fail
      go_ret2
      exact ⟨by rw [HF.out]; rfl, h1.trans h2⟩
  · have HF : Hid (sharedOf a b least bits most = (0, f1)) := Lib.hid (by rw [HS.out]; simp [hf1])
    have t : ((f1 : Int) != 0) = true := by simp; omega
    go_wp2_with fail
    go_ret2
    exact ⟨by rw [HF.out]; rfl, h1⟩
end Go.Proofs.Ythlkidohpiebiaa
