/- slices.Equal at ints; bytes.Equal. -/
import Derived.Test.YthlkidohpiebiaaProg
import Derived.Test.YthlkidohpiebiaaBase
import Derived.WalkSpells
import Derived.WalkLawsBesides
import Derived.Outline
import Derived.IntWalk
import Derived.Deep.QuietTactic
import Derived.BigQuiet
namespace Go.Proofs.Ythlkidohpiebiaa
open Go Go.RowKit
set_option maxHeartbeats 400000 in
theorem equalInts_calls (u v : Value) (l m : List Int) (w : World) (hu : Vs w u (zcs l)) (hv : Vs w v (zcs m)) :
    Calls Try.prog 13 #[u, v] w fun e w' => e = .returned (.bool (decide (l = m))) ∧ Ext w w' := by
  obtain ⟨A, c, rfl, hlc, hcm, hR⟩ := hu
  obtain ⟨B, d, rfl, hld, hdm, hS⟩ := hv
  rw [zcs_len] at hlc hld
  rw [zcs_len, zcs_len]
  unfold maxLen at hcm hdm
  by_cases hlen : l.length = m.length
  · go_enter Try.func13, Try.ntmps13
    have hne : ((l.length : Int) != m.length) = false := by simp; omega
    have HL := Lib.hid hlen
    clear hlen
    go_wp2
    go_loopw [5, 13] (fun _ i wr => ∃ k : Nat, k ≤ l.length ∧ i = .int .i64 k ∧ Hid (l.take k = m.take k) ∧ Ext w wr) (fun _ i _ => l.length - (intOf i).toNat)
    case atStart => exact ⟨0, Nat.zero_le _, rfl, Lib.hid rfl, Ext.refl _⟩
    case round =>
      obtain ⟨k, hk, rfl, HT, hE⟩ := hrel
      by_cases hlt : k < l.length
      · have hlt2 : k < m.length := by have := HL.out; omega
        obtain ⟨ad, rfl, hc0⟩ := hR.at_ (zcs_at l hlt)
        obtain ⟨bd, rfl, hd0⟩ := hS.at_ (zcs_at m hlt2)
        have hc := hE.cell hc0
        have hd := hE.cell hd0
        have i1 : (k : Int) < l.length := by omega
        have i2 : (k : Int) < m.length := by omega
        clear hc0 hd0
        by_cases he : l[k] = m[k]
        · have t : (l[k] != m[k]) = false := by simp [he]
          have HN := Lib.hid (take_snoc_eq hlt hlt2 HT.out he)
          clear he
          go_wp2_with fail
          go_quiet (fail)
          go_wp2_with fail
          go_roundw
          case rel => exact ⟨k + 1, by omega, by go_num, HN, hE.drewN _⟩
          case measure => simp [intOf]; omega
        · have t : (l[k] != m[k]) = true := by simp [he]
          have hfin : decide (l = m) = false := by simp; exact take_snoc_ne hlt hlt2 he
          have HF := Lib.hid hfin
          clear he hfin
          go_wp2_with fail
          go_quiet (fail)
          go_wp2_with fail
          go_ret
          exact ⟨by rw [HF.out]; rfl, hE.drewN _⟩
      · obtain rfl : k = l.length := by omega
        have hfin : decide (l = m) = true := by
          have h1 := HT.out
          rw [List.take_length, HL.out, List.take_length] at h1
          simp [h1]
        have HF := Lib.hid hfin
        clear hfin
        go_wp2_with fail
        go_ret
        exact ⟨by rw [HF.out]; rfl, hE⟩
  · go_enter Try.func13, Try.ntmps13
    have hne : ((l.length : Int) != m.length) = true := by simp; omega
    have hfin : decide (l = m) = false := by simp; rintro rfl; exact hlen rfl
    have HF := Lib.hid hfin
    clear hfin hlen
    go_wp2
    go_ret
    exact ⟨by rw [HF.out]; rfl, Ext.refl _⟩
theorem bytesEqual_calls (u v : Value) (l m : List UInt8) (w : World) (hu : Bs w u l) (hv : Bs w v m) :
    Calls Try.prog 16 #[u, v] w fun e w' => e = .returned (.bool (decide (l = m))) ∧ w = w' := by
  obtain ⟨A, c, rfl, hlc, hcm, hR⟩ := hu
  obtain ⟨B, d, rfl, hld, hdm, hS⟩ := hv
  have h1 := run_bytes_str (P := Try.prog) w 22 9 5 A c l Try.underlying22 Try.underlying5 Try.underlying9 hR
  have h2 := run_bytes_str (P := Try.prog) w 22 9 5 B d m Try.underlying22 Try.underlying5 Try.underlying9 hS
  go_enter Try.func16, Try.ntmps16
  go_wp2
  go_ret
  exact ⟨by show Ending.returned (.bool (l == m)) = _; congr 2; rw [Bool.eq_iff_iff]; simp, rfl⟩
end Go.Proofs.Ythlkidohpiebiaa
