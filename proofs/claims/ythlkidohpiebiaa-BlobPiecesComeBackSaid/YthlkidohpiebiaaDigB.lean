/- What smithyardref1.Digest computes: the same. -/
import Derived.Test.YthlkidohpiebiaaDig
namespace Go.Proofs.Ythlkidohpiebiaa
open Go Go.RowKit
theorem hexDigits_snoc (H j : Nat) (hj : j < 16) : (hexDigits H).take (j + 1) = (hexDigits H).take j ++ [hexAt (H / 16 ^ (15 - j))] := by
  have : j < (hexDigits H).length := by simpa [hexDigits] using hj
  rw [List.take_succ_eq_append_getElem this]
  simp [hexDigits]

theorem hexAt_all : ∀ r : Fin 16, ({ data := #[48, 49, 50, 51, 52, 53, 54, 55, 56, 57, 97, 98, 99, 100, 101, 102] } : ByteArray).extract r (r + 1) = ⟨#[hexAt r]⟩ := by decide
theorem hexAt_extract (n r : Nat) (h : r = n % 16) : ({ data := #[48, 49, 50, 51, 52, 53, 54, 55, 56, 57, 97, 98, 99, 100, 101, 102] } : ByteArray).extract r (r + 1) = ⟨#[hexAt n]⟩ := by
  have h1 : hexAt n = hexAt r := by subst h; simp [hexAt]
  rw [h1]
  exact hexAt_all ⟨r, by omega⟩

set_option maxHeartbeats 400000 in
theorem refDigest_calls (v : Value) (l : List UInt8) (w : World) (hv : Bs w v l) :
    Calls Try.prog 9 #[v] w fun e w' => e = .returned (.string ⟨(digest l).toArray⟩) ∧ w = w' := by
  obtain ⟨A, c, rfl, hlc, hcm, h⟩ := hv
  unfold maxLen at hcm
  go_enter Try.func9, Try.ntmps9
  go_wp2
  go_loop [3, 4] (fun s i => ∃ k : Nat, k ≤ l.length ∧ i = .int .i64 k ∧ s = .int .u64 (fnv (l.take k))) (fun _ i => l.length - (intOf i).toNat)
  case atStart => exact ⟨0, Nat.zero_le _, rfl, rfl⟩
  case round =>
    obtain ⟨k, hk, rfl, rfl⟩ := hrel
    by_cases hlt : k < l.length
    · obtain ⟨ad, rfl, hc⟩ := h.at_ (bcs_at l hlt)
      have HS := Lib.hid (fnv_snoc l k hlt)
      go_wp2
      go_round
      case rel => exact ⟨k + 1, by omega, by go_num, by rw [HS.out]; rfl⟩
      case measure => simp [intOf]; omega
    · obtain rfl : k = l.length := by omega
      rw [List.take_length]
      obtain ⟨hb0, hb1⟩ := fnv_bd l
      obtain ⟨H, hH⟩ := Int.eq_ofNat_of_zero_le hb0
      rw [hH]
      have hHb : H < 18446744073709551616 := by omega
      have HH := Lib.hid hH
      clear hH hb0 hb1
      go_wp2
      go_loop [5, 6, 7] (fun s i x => ∃ (j : Nat) (z : Int) (S : ByteArray), j ≤ 16 ∧ i = .int .i64 z ∧ s = .string S ∧ Hid (z = 60 - 4 * j) ∧ Hid (S = ⟨((hexDigits H).take j).toArray⟩)) (fun _ i _ => (4 + intOf i).toNat)
      case atStart => exact ⟨0, _, _, Nat.zero_le _, rfl, rfl, Lib.hid rfl, Lib.hid rfl⟩
      case round =>
        obtain ⟨j, z, S, hj, rfl, rfl, hz, hS⟩ := hrel
        by_cases hlt : j < 16
        · obtain ⟨e, rfl⟩ := Int.eq_ofNat_of_zero_le (show 0 ≤ z by have := hz.out; omega)
          have hSz : S.size ≤ 16 := by rw [hS.out]; simp [ByteArray.size, hexDigits]; omega
          obtain ⟨r, hr⟩ : ∃ r : Nat, r = H / 16 ^ (15 - j) % 16 := ⟨_, rfl⟩
          have hr16 : r < 16 := by omega
          have hpow : (2 : Int) ^ e = ((16 ^ (15 - j) : Nat) : Int) := by
            have h4 : e = 4 * (15 - j) := by have := hz.out; omega
            rw [h4, Int.pow_mul]; norm_cast
          have hmod : ((H : Int) / 2 ^ e).tmod 16 = (r : Int) := by
            rw [hpow, hr, Int.tmod_eq_emod_of_nonneg (Int.ediv_nonneg (by omega) (Int.natCast_nonneg _))]; norm_cast
          have HR := Lib.hid hr
          clear hr hpow
          have he : e ≤ 60 := by have := hz.out; omega
          go_wp2
          go_round
          case rel =>
            refine ⟨j + 1, _, _, by omega, rfl, rfl, Lib.hid (by have := hz.out; omega), Lib.hid ?_⟩
            rw [hexDigits_snoc H j hlt, hS.out, hexAt_extract _ _ HR.out]
            rfl
          case measure => simp [intOf]; omega
        · have : z < 0 := by have := hz.out; omega
          obtain rfl : j = 16 := by omega
          have hfin : S = ⟨(digest l).toArray⟩ := by rw [hS.out, List.take_of_length_le (by simp [hexDigits])]; simp [digest, HH.out]
          have HF := Lib.hid hfin
          clear hfin
          go_wp2
          go_ret
          exact ⟨by rw [HF.out]; rfl, rfl⟩
end Go.Proofs.Ythlkidohpiebiaa
