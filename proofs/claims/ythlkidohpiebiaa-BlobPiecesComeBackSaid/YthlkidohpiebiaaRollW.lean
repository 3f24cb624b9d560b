/- smithyardref1.rolled returns the number of the last sixteen bytes. -/
import Derived.Test.YthlkidohpiebiaaProg
import Derived.Test.YthlkidohpiebiaaBase
import Derived.Test.YthlkidohpiebiaaRoll
import Derived.WalkSpells
import Derived.WalkLawsBesides
import Derived.Outline
import Derived.IntWalk
namespace Go.Proofs.Ythlkidohpiebiaa
open Go Go.RowKit
theorem win_part (b : List UInt8) (k i : Nat) (hi : k - 16 ≤ i) (hik : i < k) (hk : k ≤ b.length) :
    (b.take (i + 1)).drop (k - 16) = (b.take i).drop (k - 16) ++ [b[i]'(by omega)] := by
  rw [List.take_succ_eq_append_getElem (by omega), List.drop_append_of_le_length (by simp; omega)]
theorem u32_step (q : Nat) (c : UInt8) : ((q : Int) * 31 % 4294967296 + (c.toNat : Int) % 4294967296) % 4294967296 = ((rollStep q c : Nat) : Int) := by
  unfold rollStep; omega
set_option maxHeartbeats 400000 in
theorem rolled_calls (v : Value) (b : List UInt8) (k : Nat) (w : World) (hk : k ≤ b.length) (hv : Bs w v b) :
    Calls Try.prog 25 #[v, .int .i64 k] w fun e w' => e = .returned (.int .u32 (rolled b k)) ∧ w = w' := by
  obtain ⟨A, c, rfl, hlc, hcm, hR⟩ := hv
  unfold maxLen at hcm
  go_enter Try.func25, Try.ntmps25
  go_wp2
  all_goals
    go_loop [5, 6] (fun s i => ∃ (j q : Nat), k - 16 ≤ j ∧ j ≤ k ∧ i = .int .i64 j ∧ s = .int .u32 q ∧ q < 4294967296 ∧ Hid (q = roll ((b.take j).drop (k - 16)))) (fun _ i => k - (intOf i).toNat)
    case atStart =>
      refine ⟨k - 16, 0, Nat.le_refl _, by omega, ?_, rfl, by omega, Lib.hid ?_⟩
      · congr 1; omega
      · rw [List.drop_eq_nil_of_le (by simp; omega)]; rfl
    case round =>
      obtain ⟨j, q, hj1, hj2, rfl, rfl, hq, HQ⟩ := hrel
      by_cases hlt : j < k
      · obtain ⟨ad, rfl, hc⟩ := hR.at_ (bcs_at b (show j < b.length by omega))
        have HW := Lib.hid (win_part b k j hj1 hlt hk)
        go_wp2
        go_round
        case rel => exact ⟨j + 1, rollStep q b[j], by omega, by omega, by go_num, by rw [u32_step], rollStep_lt _ _, Lib.hid (by rw [HW.out, roll_snoc, HQ.out])⟩
        case measure => simp [intOf]; omega
      · obtain rfl : j = k := by omega
        go_wp2
        go_ret
        exact ⟨by rw [HQ.out]; rfl, rfl⟩
end Go.Proofs.Ythlkidohpiebiaa
