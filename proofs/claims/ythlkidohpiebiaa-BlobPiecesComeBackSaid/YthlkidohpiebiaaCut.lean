/- blob.cut returns the pieces. -/
import Derived.Test.YthlkidohpiebiaaProg
import Derived.Test.YthlkidohpiebiaaApp
import Derived.Test.YthlkidohpiebiaaPieces
import Derived.WalkSpells
import Derived.WalkLawsBesides
import Derived.Outline
import Derived.IntWalk
namespace Go.Proofs.Ythlkidohpiebiaa
open Go Go.RowKit
theorem et_int : ElemT Try.prog 26 3 1 8 := ElemT.mk_ Try.underlying26 (z := .int .i64 0) (by kernel_rfl) rfl (by decide) (by decide)
theorem pow31 (k : Nat) : ((31 ^ k % 4294967296 : Nat) : Int) * 31 % 4294967296 = ((31 ^ (k + 1) % 4294967296 : Nat) : Int) := by rw [Nat.pow_succ]; omega
theorem wraps_u32 (n : Int) (h0 : 0 ≤ n) (h1 : n < 2 ^ 32) : IntKind.u32.wrap n = n := by rw [IntKind.wrap_u32]; omega
theorem and_mask (g bits : Nat) (hg : g < 4294967296) (hb : bits ≤ 20) : Go.bits .and .u32 (g : Int) ((2 ^ bits - 1) % 4294967296) = ((g % 2 ^ bits : Nat) : Int) := by
  have h2 := bits_mask .u32 32 (by decide) wraps_u32 bits (by omega) (g : Int) (by omega) (by omega)
  have hp : (2 : Nat) ^ bits ≤ 2 ^ 20 := Nat.pow_le_pow_right (by decide) hb
  have hp0 : 0 < (2 : Nat) ^ bits := Nat.pow_pos (by decide)
  have e : ((2 : Int) ^ bits - 1) % 4294967296 = 2 ^ bits - 1 := by
    have : ((2 : Int) ^ bits) = ((2 ^ bits : Nat) : Int) := by norm_cast
    omega
  rw [e, h2]
  norm_cast
theorem cut_big (b : List UInt8) (k : Nat) (h16 : 16 ≤ k) (hlt : k < b.length) (q g : Nat) (hq : q = 31 ^ 15 % 4294967296) (hg : g = rolled b k) :
    ((31 * (((g : Int) - q * ((b[k - 16]'(by omega)).toNat % 4294967296)) % 4294967296) + b[k].toNat) % 4294967296) = (rolled b (k + 1) : Int) := by
  have hgl := roll_lt (win b k)
  change rolled b k < _ at hgl
  have hc0 := (b[k - 16]'(by omega)).toNat_lt
  have hm : (((b[k - 16]'(by omega)).toNat : Int) % 4294967296) = (b[k - 16]'(by omega)).toNat := by omega
  rw [hm]
  obtain ⟨s, hs⟩ : ∃ s : Nat, (((g : Int) - q * (b[k - 16]'(by omega)).toNat) % 4294967296) = s := ⟨_, (Int.toNat_of_nonneg (Int.emod_nonneg ((g : Int) - q * (b[k - 16]'(by omega)).toNat) (show (4294967296 : Int) ≠ 0 by decide))).symm⟩
  have hx : ((q : Int) * (b[k - 16]'(by omega)).toNat) = ((q * (b[k - 16]'(by omega)).toNat : Nat) : Int) := by norm_cast
  rw [hx] at hs
  have hs2 : (s + q * (b[k - 16]'(by omega)).toNat) % 4294967296 = rolled b k := by omega
  rw [hx, hs, rolled_succ_big b k h16 hlt q (by rw [hq]) s hs2]
  omega
theorem cut_small (b : List UInt8) (k : Nat) (h16 : k < 16) (hlt : k < b.length) (g : Nat) (hg : g = rolled b k) :
    ((31 * (g : Int) + b[k].toNat) % 4294967296) = (rolled b (k + 1) : Int) := by
  rw [rolled_succ_small b k h16 hlt, hg]; omega
theorem own_snoc {w w1 : World} {e : TypeId} {v : Value} {l : List Nat} {n : Nat} {z : Int} (h : w1.ownsRow w.heap.size e 1 v (l.length + 1) (ics l ++ #[.int .i64 z].toList)) (hz : (n : Int) = z) :
    w1.ownsRow w.heap.size e 1 v (l ++ [n]).length (ics (l ++ [n])) := by
  subst hz; simpa [ics] using h
set_option maxHeartbeats 1000000 in
theorem cut_calls (v : Value) (b : List UInt8) (least bits most : Nat) (w : World) (hb : b.length ≤ 2000000) (hl : 1 ≤ least) (hlm : least ≤ most) (hbi : bits ≤ 20) (hmo : most ≤ 100000) (hv : Bs w v b) :
    Calls Try.prog 19 #[v, .int .i64 least, .int .i64 bits, .int .i64 most] w fun e w' => ∃ u, e = .returned u ∧ w'.ownsRow w.heap.size 3 1 u (pieces b least bits most).length (ics (pieces b least bits most)) ∧ Ext w w' := by
  obtain ⟨A, c, rfl, hlc, hcm, hR⟩ := hv
  unfold maxLen at hcm
  go_enter Try.func19, Try.ntmps19
  go_wp2
  go_loop [9, 16] (fun p i => ∃ (j q : Nat), j ≤ 15 ∧ i = .int .i64 j ∧ p = .int .u32 q ∧ q < 4294967296 ∧ Hid (q = 31 ^ j % 4294967296)) (fun _ i => 15 - (intOf i).toNat)
  case atStart => exact ⟨0, 1, by omega, rfl, rfl, by omega, Lib.hid rfl⟩
  case round =>
    obtain ⟨j, q, hj, rfl, rfl, hq, HQ⟩ := hrel
    by_cases hlt : j < 15
    · go_wp2
      go_round
      case rel => exact ⟨j + 1, 31 ^ (j + 1) % 4294967296, by omega, by go_num, by rw [← pow31 j, ← HQ.out], by omega, Lib.hid rfl⟩
      case measure => simp [intOf]; omega
    · obtain rfl : j = 15 := by omega
      go_wp2
      go_loopw [10, 11, 12, 13, 14, 15, 23] (fun o h f _ _ _ i wr => ∃ (k g fr : Nat) (l : List Nat), k ≤ b.length ∧ i = .int .i64 k ∧ h = .int .u32 g ∧ g < 4294967296 ∧ f = .int .i64 fr ∧ fr ≤ k ∧ Hid (g = rolled b k) ∧ Hid ((l, fr) = cutSt b least bits most k) ∧ wr.ownsRow w.heap.size 3 1 o l.length (ics l) ∧ Ext w wr) (fun _ _ _ _ _ _ i _ => b.length - (intOf i).toNat)
      case atStart => exact ⟨0, 0, 0, [], Nat.zero_le _, rfl, rfl, by omega, rfl, by omega, Lib.hid rfl, Lib.hid rfl, (by exact World.ownsRow_nil _ _ _ _), Ext.refl _⟩
      case round =>
        obtain ⟨k, g, fr, l, hk, rfl, rfl, hg, rfl, hfr, HG, HL, hown, hE⟩ := hrel
        by_cases hlt : k < b.length
        · obtain ⟨ad, rfl, hc0⟩ := hR.at_ (bcs_at b hlt)
          have hc := hE.cell hc0
          have hB : (l.length + 1) * 8 ≤ 140737488355328 := by have h1 := (cutSt_le b least bits most k).2; rw [← HL.out] at h1; simp only at h1; omega
          have hg2 := roll_lt (win b (k + 1))
          obtain ⟨g2, hg2e⟩ : ∃ g2, g2 = rolled b (k + 1) := ⟨_, rfl⟩
          change rolled b (k + 1) < _ at hg2
          rw [← hg2e] at hg2
          obtain ⟨r, hre⟩ : ∃ r, r = g2 % 2 ^ bits := ⟨_, rfl⟩
          have hbit : Go.bits .and .u32 (g2 : Int) ((2 ^ bits - 1) % 4294967296) = (r : Int) := by rw [hre]; exact and_mask g2 bits hg2 hbi
          have HR := Lib.hid (show r = rolled b (k + 1) % 2 ^ bits by rw [hre, hg2e])
          have HG2 := Lib.hid hg2e
          clear hc0 hre
          have hnat : ((k + 1 - fr : Nat) : Int) = k + 1 - fr := by omega
          have HN := Lib.hid hnat
          clear hnat
          have hr01 : r = 0 ∨ ((r : Int) == 0) = false := by
            rcases Nat.eq_zero_or_pos r with h | h
            · exact .inl h
            · right; simp; omega
          by_cases h16 : 16 ≤ k
          · obtain ⟨ad', hA, hd0⟩ := hR.at_ (bcs_at b (show k - 16 < b.length by omega))
            injection hA with hA
            subst hA
            have hd := hE.cell hd0
            have hroll : ((31 * (((g : Int) - q * ((b[k - 16]'(by omega)).toNat % 4294967296)) % 4294967296) + b[k].toNat) % 4294967296) = (g2 : Int) := by
              rw [HG2.out]; exact cut_big b k h16 hlt q g HQ.out HG.out
            clear hd0 hg2e
            rcases hr01 with rfl | hr0
            all_goals
              go_wp2_with (at_builtin; refine wp_app1 (w0 := w) rfl et_int rfl hown hE rfl rfl rfl rfl hB ?_; intro v' w1 hown' hE' hg' hnn hb')
              all_goals
                go_roundw
                case rel =>
                  first
                  | exact ⟨k + 1, g2, k + 1, l ++ [k + 1 - fr], by omega, by go_num, rfl, hg2, by go_num, by omega, HG2, Lib.hid (cutSt_yes HL.out HR.out rfl (by omega)), own_snoc hown' HN.out, hE'⟩
                  | exact ⟨k + 1, g2, fr, l, by omega, by go_num, rfl, hg2, rfl, by omega, HG2, Lib.hid (cutSt_no HL.out HR.out rfl (by first | omega | (have hr2 : r ≠ 0 := (by rintro rfl; simp at hr0); omega))), hown, hE⟩
                case measure => simp [intOf]; omega
          · have hroll : ((31 * (g : Int) + b[k].toNat) % 4294967296) = (g2 : Int) := by
              rw [HG2.out]; exact cut_small b k (by omega) hlt g HG.out
            clear hg2e
            rcases hr01 with rfl | hr0
            all_goals
              go_wp2_with (at_builtin; refine wp_app1 (w0 := w) rfl et_int rfl hown hE rfl rfl rfl rfl hB ?_; intro v' w1 hown' hE' hg' hnn hb')
              all_goals
                go_roundw
                case rel =>
                  first
                  | exact ⟨k + 1, g2, k + 1, l ++ [k + 1 - fr], by omega, by go_num, rfl, hg2, by go_num, by omega, HG2, Lib.hid (cutSt_yes HL.out HR.out rfl (by omega)), own_snoc hown' HN.out, hE'⟩
                  | exact ⟨k + 1, g2, fr, l, by omega, by go_num, rfl, hg2, rfl, by omega, HG2, Lib.hid (cutSt_no HL.out HR.out rfl (by first | omega | (have hr2 : r ≠ 0 := (by rintro rfl; simp at hr0); omega))), hown, hE⟩
                case measure => simp [intOf]; omega
        · obtain rfl : k = b.length := by omega
          have hB : (l.length + 1) * 8 ≤ 140737488355328 := by have h1 := (cutSt_le b least bits most b.length).2; rw [← HL.out] at h1; simp only at h1; omega
          have hnat : ((b.length - fr : Nat) : Int) = b.length - fr := by omega
          have HN := Lib.hid hnat
          clear hnat
          go_wp2_with (at_builtin; refine wp_app1 (w0 := w) rfl et_int rfl hown hE rfl rfl rfl rfl hB ?_; intro v' w1 hown' hE' hg' hnn hb')
          all_goals
            go_ret
            first
            | exact ⟨_, rfl, by rw [pieces_yes HL.out (by omega)]; exact own_snoc hown' HN.out, hE'⟩
            | exact ⟨_, rfl, by rw [pieces_no HL.out (by omega)]; exact hown, hE⟩
end Go.Proofs.Ythlkidohpiebiaa
