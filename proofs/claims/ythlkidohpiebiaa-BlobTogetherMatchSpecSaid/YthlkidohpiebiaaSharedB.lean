/- smithyardref1.Shared computes the same. -/
import Derived.Test.YthlkidohpiebiaaShared
import Derived.Test.YthlkidohpiebiaaPut
import Derived.Test.YthlkidohpiebiaaCutA
namespace Go.Proofs.Ythlkidohpiebiaa
open Go Go.RowKit
theorem piecesOf_len {b : List UInt8} {least bits most : Int} : (piecesOf b least bits most).1.length ≤ 20000 := by
  unfold piecesOf
  split
  · split
    · simp
    · simp only; omega
  · simp
/-- The chunks, in order, each once. -/
def risen (C : List Str) : List Str := C.foldl (fun K s => ins s K) []
theorem risen_snoc (C : List Str) (s : Str) : risen (C ++ [s]) = ins s (risen C) := by simp [risen]
theorem risen_rising (C : List Str) : Rising (risen C) := by
  unfold risen
  have : ∀ (C K : List Str), Rising K → Rising (C.foldl (fun K s => ins s K) K) := by
    intro C
    induction C with
    | nil => exact fun K h => h
    | cons s C ih => exact fun K h => ih _ (rising_ins h)
  exact this C [] List.Pairwise.nil
theorem mem_risen (C : List Str) (t : Str) : t ∈ risen C ↔ t ∈ C := by
  unfold risen
  have : ∀ (C K : List Str), t ∈ C.foldl (fun K s => ins s K) K ↔ t ∈ K ∨ t ∈ C := by
    intro C
    induction C with
    | nil => simp
    | cons s C ih =>
      intro K
      simp only [List.foldl_cons, ih, mem_ins, List.mem_cons]
      constructor
      · rintro ((h | h) | h)
        · exact .inr (.inl h)
        · exact .inl h
        · exact .inr (.inr h)
      · rintro (h | h | h)
        · exact .inl (.inr h)
        · exact .inl (.inl h)
        · exact .inr h
  simpa using this C []
theorem risen_len (C : List Str) : (risen C).length ≤ C.length := by
  unfold risen
  have : ∀ (C K : List Str), (C.foldl (fun K s => ins s K) K).length ≤ K.length + C.length := by
    intro C
    induction C with
    | nil => simp
    | cons s C ih => intro K; have := ih (ins s K); have := ins_len s K; simp only [List.foldl_cons, List.length_cons]; omega
  simpa using this C []
theorem chunks_len (ns : List Nat) : ∀ b, (chunks b ns).length = ns.length := by
  induction ns with
  | nil => intro b; rfl
  | cons n ns ih => intro b; simp [chunks, ih]
theorem count_take (K : List Str) (s : Str) {j : Nat} (h : j < K.length) : (K.take (j + 1)).count s = (K.take j).count s + if K[j] = s then 1 else 0 := by
  rw [List.take_succ_eq_append_getElem h, List.count_append]
  congr 1
  by_cases he : K[j] = s <;> simp [he]
set_option maxHeartbeats 4000000 in
theorem refShared_calls (u v : Value) (a b : List UInt8) (least bits most : Int) (w : World) (hu : Bs w u a) (hv : Bs w v b) :
    Calls Try.prog 18 #[u, v, .int .i64 least, .int .i64 bits, .int .i64 most] w fun e w' => e = .returned (.tuple #[.int .i64 (sharedOf a b least bits most).1, .int .i64 (sharedOf a b least bits most).2]) ∧ Ext w w' := by
  have hc1 := refPieces_calls u a least bits most w hu
  have hc2 := fun w1 (h : Ext w w1) => refPieces_calls v b least bits most w1 (hv.ext h)
  have hs1 := @piecesOf_sum a least bits most
  have hs2 := @piecesOf_sum b least bits most
  have hl1 := @piecesOf_len a least bits most
  have hl2 := @piecesOf_len b least bits most
  obtain ⟨⟨xs, f1⟩, hx⟩ : ∃ p, piecesOf a least bits most = p := ⟨_, rfl⟩
  obtain ⟨⟨ys, f2⟩, hy⟩ : ∃ p, piecesOf b least bits most = p := ⟨_, rfl⟩
  have HS := Lib.hid (show sharedOf a b least bits most = if f1 ≠ 0 then (0, f1) else if f2 ≠ 0 then (0, f2) else (sharedSum (chunks a xs) (chunks b ys), 0) by unfold sharedOf; rw [hx, hy])
  rw [hx] at hc1 hs1 hl1
  simp only [hy] at hc2 hs2 hl2
  clear hx hy
  simp only at hc1 hs1 hs2 hl1
  go_enter Try.func18, Try.ntmps18
  go_wp2_with fail
  refine hc1.mono ?_
  clear hc1
  rintro e w1 ⟨x, rfl, hx, h1⟩
  by_cases hf1 : f1 = 0
  · obtain rfl := hf1
    obtain ⟨hsx, hal⟩ := hs1 rfl
    clear hs1
    go_wp2_with fail
    refine (hc2 w1 h1).mono ?_
    clear hc2
    rintro e w2 ⟨y, rfl, hy, h2⟩
    by_cases hf2 : f2 = 0
    · obtain rfl := hf2
      obtain ⟨hsy, hbl⟩ := hs2 rfl
      clear hs2
      obtain ⟨A1, c1, rfl, hxl, hxm, hxr⟩ := Row.of_own' (h2.own hx)
      obtain ⟨A2, c2, rfl, hyl, hym, hyr⟩ := Row.of_own' hy
      have HX := Lib.hid hsx
      have HY := Lib.hid hsy
      obtain ⟨Au, cu, rfl, hul, hum, hur⟩ := hu.ext (h1.trans h2)
      obtain ⟨Av, cv, rfl, hvl, hvm, hvr⟩ := hv.ext (h1.trans h2)
      clear hsx hsy hx hy hu hv
      unfold maxLen at hxm hym hum hvm
      go_wp2_with fail
      go_loopw [15, 16, 17] (fun q p i wr => ∃ (k n : Nat) (K : List Str), k ≤ xs.length ∧ i = .int .i64 k ∧ p = .int .i64 n ∧ n ≤ a.length ∧ Vs wr q (scs K) ∧ Hid (n = (xs.take k).sum) ∧ Hid (K = risen (chunks a (xs.take k))) ∧ Ext w2 wr) (fun _ _ i _ => xs.length - (intOf i).toNat)
      case atStart => exact ⟨0, 0, [], Nat.zero_le _, rfl, rfl, Nat.zero_le _, Vs.nil _, Lib.hid rfl, Lib.hid rfl, Ext.refl _⟩
      case round =>
        obtain ⟨k, n, K, hk, rfl, rfl, hn, hKv, HN, HK, hE⟩ := hrel
        by_cases hlt : k < xs.length
        · obtain ⟨m, hm⟩ : ∃ m, m = xs[k] := ⟨_, rfl⟩
          obtain ⟨ad, rfl, hc0⟩ := hxr.at_ (show (ics xs)[k]? = some (.int .i64 m) by unfold ics; rw [List.getElem?_map, List.getElem?_eq_getElem hlt, hm]; rfl)
          have hc := hE.cell hc0
          have hnm : n + m ≤ a.length := by
            have := sum_take xs hlt
            have := sum_take_le xs (k + 1)
            have := HX.out
            rw [HN.out, hm]
            omega
          have hnc : n + m ≤ cu := by omega
          have hcv := fun w' (h : Ext w2 w') => run_bytes_str (P := Try.prog) w' 22 9 5 (offA Au n cu 1) (cu - n) ((a.drop n).take m) Try.underlying22 Try.underlying5 Try.underlying9 (by
            have := ((hur.ext h).mid (c := cu) (by rw [bcs_len]; exact hul) n m)
            unfold bcs at this ⊢
            rw [List.map_take, List.map_drop]; exact this)
          have hcv := hcv wr hE
          rw [List.length_take, List.length_drop, Nat.min_eq_left (by omega)] at hcv
          have hKr : Rising K := by rw [HK.out]; exact risen_rising _
          have hKl : K.length ≤ 1099511627776 := by
            have h1 := risen_len (chunks a (xs.take k))
            rw [chunks_len, List.length_take] at h1
            rw [HK.out]; omega
          have HM := Lib.hid hm
          clear hm hc0
          have hnn : ((n : Int) + (m : Int)).toNat = n + m := by omega
          have hnn2 : n + m - n = m := by omega
          go_wp2_with fail
          refine (put_calls _ K ((a.drop n).take m) wr hKr hKl hKv).mono ?_
          rintro e w3 ⟨q2, rfl, hq2, hE3⟩
          have hc3 := hE3.cell hc
          go_wp2_with fail
          go_roundw
          case rel => exact ⟨k + 1, n + m, ins ((a.drop n).take m) K, by omega, by go_num, by go_num, hnm, hq2, Lib.hid (by rw [HN.out, sum_take xs hlt, HM.out]), Lib.hid (by rw [chunks_take a xs hlt, risen_snoc, HK.out, HN.out, HM.out]), hE.trans hE3⟩
          case measure => simp [intOf]; omega
        · obtain rfl : k = xs.length := by omega
          rw [List.take_length] at HK
          have hKr : Rising K := by rw [HK.out]; exact risen_rising _
          obtain ⟨B, d, hq, hKl, hKm, hKrow⟩ := hKv
          rw [scs_len] at hq hKl
          subst hq
          unfold maxLen at hKm
          have HKr := Lib.hid hKr
          clear hKr
          have hvr2 := hvr.ext hE
          have hyr2 := hyr.ext hE
          go_wp2_with fail
          go_loop [16, 18, 19, 20, 21] (fun p s i _ _ => ∃ (k n sm : Nat), k ≤ ys.length ∧ i = .int .i64 k ∧ p = .int .i64 n ∧ s = .int .i64 sm ∧ n ≤ b.length ∧ sm ≤ 2000000 ∧ Hid (n = (ys.take k).sum) ∧ Hid (sm = sharedSum (chunks a xs) (chunks b (ys.take k)))) (fun _ _ i _ _ => ys.length - (intOf i).toNat)
          case atStart => exact ⟨0, 0, 0, Nat.zero_le _, rfl, rfl, rfl, Nat.zero_le _, by omega, Lib.hid rfl, Lib.hid rfl⟩
          case round =>
            obtain ⟨k, n, sm, hk, rfl, rfl, rfl, hn, hsm, HN, HM⟩ := hrel
            by_cases hlt2 : k < ys.length
            · obtain ⟨m, hm⟩ : ∃ m, m = ys[k] := ⟨_, rfl⟩
              obtain ⟨ad, rfl, hc⟩ := hyr2.at_ (show (ics ys)[k]? = some (.int .i64 m) by unfold ics; rw [List.getElem?_map, List.getElem?_eq_getElem hlt2, hm]; rfl)
              have hnm : n + m ≤ b.length := by
                have := sum_take ys hlt2
                have := sum_take_le ys (k + 1)
                have := HY.out
                rw [HN.out, hm]
                omega
              have hnc : n + m ≤ cv := by omega
              obtain ⟨t, ht⟩ : ∃ t, t = (b.drop n).take m := ⟨_, rfl⟩
              have hcv := run_bytes_str (P := Try.prog) wr 22 9 5 (offA Av n cv 1) (cv - n) ((b.drop n).take m) Try.underlying22 Try.underlying5 Try.underlying9 (by
                have := (hvr2.mid (c := cv) (by rw [bcs_len]; exact hvl) n m)
                unfold bcs at this ⊢
                rw [List.map_take, List.map_drop]; exact this)
              rw [List.length_take, List.length_drop, Nat.min_eq_left (by omega), ← ht] at hcv
              have htl : t.length = m := by rw [ht, List.length_take, List.length_drop]; omega
              have hs3 := sharedSum_snoc (chunks a xs) (chunks b (ys.take k)) t
              have hch := chunks_take b ys hlt2
              rw [← HN.out, ← hm, ← ht] at hch
              rw [← hch, ← HM.out] at hs3
              have hbd : sharedSum (chunks a xs) (chunks b (ys.take (k + 1))) ≤ 2000000 := by
                have h1 := sharedSum_le (chunks a xs) (chunks b (ys.take (k + 1)))
                have h2 := sum_take_le ys (k + 1)
                have h3 := HY.out
                rw [chunks_lens _ _ (by omega)] at h1
                omega
              have hcount : sm + K.count t * t.length = sharedSum (chunks a xs) (chunks b (ys.take (k + 1))) := by
                rw [hs3, rising_count HKr.out, HK.out]
                by_cases hin : t ∈ chunks a xs
                · rw [if_pos ((mem_risen _ _).2 hin), if_pos hin]; omega
                · rw [if_neg (fun h => hin ((mem_risen _ _).1 h)), if_neg hin]; omega
              have HC := Lib.hid hcount
              have HSN := Lib.hid (sum_take ys hlt2)
              have HM2 := Lib.hid hm
              have hnn : ((n : Int) + (m : Int)).toNat = n + m := by omega
              have hnn2 : n + m - n = m := by omega
              have hbd2 : sm + K.count t * t.length ≤ 2000000 := by omega
              have HB := Lib.hid hbd2
              have HTL := Lib.hid htl
              clear hm ht hs3 hch hbd hcount hbd2 htl
              go_wp2_with fail
              go_loop [18, 21] (fun s j => ∃ (jj m2 : Nat), jj ≤ K.length ∧ j = .int .i64 jj ∧ s = .int .i64 m2 ∧ m2 ≤ 2000000 ∧ Hid (m2 = sm + (K.take jj).count t * t.length)) (fun _ j => K.length - (intOf j).toNat)
              case atStart => exact ⟨0, sm, Nat.zero_le _, rfl, rfl, hsm, Lib.hid (by simp)⟩
              case round =>
                obtain ⟨jj, m2, hjj, rfl, rfl, hm2, HM3⟩ := hrel
                by_cases hlt3 : jj < K.length
                · obtain ⟨kd, rfl, hkc⟩ := hKrow.at_ (scs_at K hlt3)
                  have hct := count_take K t hlt3
                  have hle : (K.take (jj + 1)).count t ≤ K.count t := List.Sublist.count_le t (List.take_sublist _ _)
                  have hle2 := Nat.mul_le_mul_right t.length hle
                  by_cases he : K[jj] = t
                  · have e1 : (K[jj] == t) = true := by rw [he]; simp
                    rw [if_pos he] at hct
                    have hm3 : m2 + t.length = sm + (K.take (jj + 1)).count t * t.length := by rw [HM3.out, hct, Nat.add_mul]; omega
                    have hm4 : m2 + t.length ≤ 2000000 := by have := HB.out; omega
                    have H3 := Lib.hid hm3
                    clear he hct hle hle2 hm3
                    go_wp2_with fail
                    go_round
                    case rel => exact ⟨jj + 1, m2 + t.length, by omega, by go_num, by go_num, hm4, H3⟩
                    case measure => simp [intOf]; omega
                  · have e1 : (K[jj] == t) = false := by simp [he]
                    rw [if_neg he] at hct
                    have H3 : Hid (m2 = sm + (K.take (jj + 1)).count t * t.length) := Lib.hid (by rw [hct, HM3.out]; simp)
                    clear he hct hle hle2
                    go_wp2_with fail
                    go_round
                    case rel => exact ⟨jj + 1, m2, by omega, by go_num, rfl, hm2, H3⟩
                    case measure => simp [intOf]; omega
                · obtain rfl : jj = K.length := by omega
                  rw [List.take_length] at HM3
                  go_wp2_with fail
                  go_round
                  case rel => exact ⟨k + 1, n + m, m2, by omega, by go_num, by go_num, rfl, hnm, hm2, Lib.hid (by rw [HN.out, HM2.out, HSN.out]), Lib.hid (by rw [HM3.out, HC.out])⟩
                  case measure => simp [intOf]; omega
            · obtain rfl : k = ys.length := by omega
              rw [List.take_length] at HM
              have HF : Hid (sharedOf a b least bits most = (sm, 0)) := Lib.hid (by rw [HS.out, HM.out]; rfl)
              go_wp2_with fail
              go_ret2
              exact ⟨by rw [HF.out]; rfl, (h1.trans h2).trans hE⟩
    · have HF : Hid (sharedOf a b least bits most = (0, f2)) := Lib.hid (by rw [HS.out]; simp [hf2])
      have t : ((f2 : Int) != 0) = true := by simp; omega
      go_wp2_with fail
      go_ret2
      exact ⟨by rw [HF.out]; rfl, h1.trans h2⟩
  · have HF : Hid (sharedOf a b least bits most = (0, f1)) := Lib.hid (by rw [HS.out]; simp [hf1])
    have t : ((f1 : Int) != 0) = true := by simp; omega
    go_wp2_with fail
    go_ret2
    exact ⟨by rw [HF.out]; rfl, h1⟩
end Go.Proofs.Ythlkidohpiebiaa
