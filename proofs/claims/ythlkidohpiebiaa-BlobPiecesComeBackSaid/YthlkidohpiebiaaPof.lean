/- smithyardref1.PiecesOf returns the same pieces. -/
import Derived.Test.YthlkidohpiebiaaCut
import Derived.Test.YthlkidohpiebiaaRollW
import Derived.Deep.QuietTactic
import Derived.BigQuiet
namespace Go.Proofs.Ythlkidohpiebiaa
open Go Go.RowKit
theorem pow_small (bits : Nat) (hb : bits ≤ 20) : ∃ p2 : Nat, p2 = 2 ^ bits ∧ 0 < p2 ∧ (2 : Int) ^ bits % 4294967296 = (p2 : Int) := by
  have hp : (2 : Nat) ^ bits ≤ 2 ^ 20 := Nat.pow_le_pow_right (by decide) hb
  have e : ((2 : Int) ^ bits) = ((2 ^ bits : Nat) : Int) := by norm_cast
  have hp0 : 0 < (2 : Nat) ^ bits := Nat.pow_pos (by decide)
  refine ⟨_, rfl, hp0, ?_⟩
  rw [e]; omega
theorem pieces_of_end {b : List UInt8} {least bits most k fr m : Nat} {l : List Nat} (h : (l, fr) = cutSt b least bits most k) (hn : m = k + 1 - fr) (hk : k + 1 = b.length) (a : Nat) :
    ((k + 1 < b.length ∧ Hid ((l ++ [m], a) = cutSt b least bits most (k + 1))) ∨ (k + 1 = b.length ∧ Hid (l ++ [m] = pieces b least bits most))) := by
  refine .inr ⟨hk, Lib.hid ?_⟩
  rw [pieces_last b least bits most k hk, ← h, hn]
theorem pieces_of_yes {b : List UInt8} {least bits most k fr r m : Nat} {l : List Nat} (h : (l, fr) = cutSt b least bits most k) (hr : r = rolled b (k + 1) % 2 ^ bits) (hn : m = k + 1 - fr) (hc : (least ≤ m ∧ r = 0) ∨ most ≤ m) :
    ((k + 1 < b.length ∧ Hid ((l ++ [m], k + 1) = cutSt b least bits most (k + 1))) ∨ (k + 1 = b.length ∧ Hid (l ++ [m] = pieces b least bits most))) ∨ ¬ k + 1 ≤ b.length := by
  rcases Nat.lt_trichotomy (k + 1) b.length with h1 | h1 | h1
  · exact .inl (.inl ⟨h1, Lib.hid (cutSt_yes h hr hn hc)⟩)
  · exact .inl (pieces_of_end h hn h1 _)
  · exact .inr (by omega)
set_option maxHeartbeats 2000000 in
theorem piecesOf_calls (v : Value) (b : List UInt8) (least bits most : Nat) (w : World) (hb : b.length ≤ 2000000) (hl : 1 ≤ least) (hlm : least ≤ most) (hbi : bits ≤ 20) (hmo : most ≤ 100000) (hv : Bs w v b) :
    Calls Try.prog 21 #[v, .int .i64 least, .int .i64 bits, .int .i64 most] w fun e w' => ∃ u, e = .returned u ∧ w'.ownsRow w.heap.size 3 1 u (pieces b least bits most).length (ics (pieces b least bits most)) ∧ Ext w w' := by
  have hv' := hv
  obtain ⟨A, c, rfl, hlc, hcm, hR⟩ := hv
  unfold maxLen at hcm
  go_enter Try.func21, Try.ntmps21
  go_wp2
  go_loopw [9, 10, 11, 12] (fun o f i _ wr => ∃ (k a fr : Nat) (l : List Nat), k ≤ b.length ∧ a ≤ 2000001 ∧ i = .int .i64 a ∧ f = .int .i64 fr ∧ fr ≤ a ∧ Hid (a = k + 1) ∧
      ((k < b.length ∧ Hid ((l, fr) = cutSt b least bits most k)) ∨ (k = b.length ∧ Hid (l = pieces b least bits most))) ∧ wr.ownsRow w.heap.size 3 1 o l.length (ics l) ∧ l.length ≤ k ∧ Ext w wr) (fun _ _ i _ _ => b.length + 1 - (intOf i).toNat)
  case atStart =>
    rcases Nat.eq_zero_or_pos b.length with h0 | h0
    · exact ⟨0, 1, 0, [], by omega, by omega, rfl, rfl, by omega, Lib.hid rfl, .inr ⟨h0.symm, Lib.hid (by rw [List.eq_nil_of_length_eq_zero h0, pieces_nil])⟩, (by exact World.ownsRow_nil _ _ _ _), by simp, Ext.refl _⟩
    · exact ⟨0, 1, 0, [], by omega, by omega, rfl, rfl, by omega, Lib.hid rfl, .inl ⟨h0, Lib.hid rfl⟩, (by exact World.ownsRow_nil _ _ _ _), by simp, Ext.refl _⟩
  case round =>
    obtain ⟨k, a, fr, l, hk, ha, rfl, rfl, hfr, HA, HL, hown, hll, hE⟩ := hrel
    rcases HL with ⟨hlt, HL⟩ | ⟨hke, HL⟩
    · have hB : (l.length + 1) * 8 ≤ 140737488355328 := by omega
      have haL : a ≤ b.length := by have := HA.out; omega
      obtain ⟨g2, hg2e⟩ : ∃ g2, g2 = rolled b (k + 1) := ⟨_, rfl⟩
      have hg2 := roll_lt (win b (k + 1))
      change rolled b (k + 1) < _ at hg2
      rw [← hg2e] at hg2
      obtain ⟨r, hre⟩ : ∃ r, r = g2 % 2 ^ bits := ⟨_, rfl⟩
      have HR := Lib.hid (show r = rolled b (k + 1) % 2 ^ bits by rw [hre, hg2e])
      obtain ⟨m, hm⟩ : ∃ m, m = k + 1 - fr := ⟨_, rfl⟩
      have hnat : (a : Int) - fr = (m : Int) := by have := HA.out; have := (cutSt_le b least bits most k).1; rw [← HL.out] at this; simp only at this; omega
      have HM := Lib.hid hm
      have hm1 : m ≤ most := by
        have := cutSt_most b least bits most k (by omega)
        rw [← HL.out] at this
        simp only at this
        omega
      clear hm
      by_cases h1 : m = most
      · have t1 : ((m : Int) == most) = true := by simp; omega
        have HF := Lib.hid (pieces_of_yes HL.out HR.out HM.out (.inr (by omega)))
        clear hg2e hre
        go_wp2_with fail
        go_quiet (fail)
        go_wp2_with (at_builtin; refine wp_app1 (w0 := w) rfl et_int rfl (Ext.own (Ext.drewN (Ext.refl _) _) hown) (hE.drewN _) rfl rfl rfl rfl hB ?_; intro v' w1 hown' hE' hg' hnn hb')
        go_roundw
        case rel => exact ⟨k + 1, a + 1, a, l ++ [m], by omega, by have := HA.out; omega, by go_num, rfl, by omega, Lib.hid (by rw [HA.out]), by rw [HA.out]; exact HF.out.resolve_right (by omega), own_snoc hown' (by omega), by simp; omega, hE'⟩
        case measure => simp [intOf]; omega
      · have t1 : ((m : Int) == most) = false := by simp; omega
        by_cases h2 : k + 1 = b.length
        · have t2 : ((a : Int) == b.length) = true := by have := HA.out; simp; omega
          have HF := Lib.hid (pieces_of_end HL.out HM.out h2 a)
          clear hg2e hre
          go_wp2_with fail
          go_quiet (fail)
          go_wp2_with (at_builtin; refine wp_app1 (w0 := w) rfl et_int rfl (Ext.own (Ext.drewN (Ext.refl _) _) hown) (hE.drewN _) rfl rfl rfl rfl hB ?_; intro v' w1 hown' hE' hg' hnn hb')
          go_roundw
          case rel => exact ⟨k + 1, a + 1, a, l ++ [m], by omega, by have := HA.out; omega, by go_num, rfl, by omega, Lib.hid (by rw [HA.out]), HF.out, own_snoc hown' (by omega), by simp; omega, hE'⟩
          case measure => simp [intOf]; omega
        · have t2 : ((a : Int) == b.length) = false := by have := HA.out; simp; omega
          by_cases h3 : least ≤ m
          · have t3 : decide ((least : Int) ≤ m) = true := by simp; omega
            have hrc := fun n => rolled_calls (.slice A b.length c) b (k + 1) (wr.drewN n) (by omega) (hv'.ext (hE.drewN n))
            rw [← hg2e, ← HA.out] at hrc
            obtain ⟨p2, hp2, hp0, he1⟩ := pow_small bits hbi
            have he2 : (g2 : Int) % (p2 : Int) = (r : Int) := by rw [hre, hp2]; norm_cast
            have hp3 : ¬ (p2 : Int) = 0 := by omega
            clear hg2e hre hp2
            by_cases h4 : r = 0
            · have t4 : ((r : Int) == 0) = true := by simp; omega
              have HF := Lib.hid (pieces_of_yes HL.out HR.out HM.out (.inl ⟨h3, h4⟩))
              go_wp2_with fail
              go_quiet ((go_at_call 25; exact Calls.quiet_of_same ((hrc _).mono (fun e w' ⟨h, h'⟩ => ⟨h, h'.symm⟩))))
              go_wp2_with (at_builtin; refine wp_app1 (w0 := w) rfl et_int rfl (Ext.own (Ext.drewN (Ext.refl _) _) hown) (hE.drewN _) rfl rfl rfl rfl hB ?_; intro v' w1 hown' hE' hg' hnn hb')
              go_roundw
              case rel => exact ⟨k + 1, a + 1, a, l ++ [m], by omega, by have := HA.out; omega, by go_num, rfl, by omega, Lib.hid (by rw [HA.out]), by rw [HA.out]; exact HF.out.resolve_right (by omega), own_snoc hown' (by omega), by simp; omega, hE'⟩
              case measure => simp [intOf]; omega
            · have t4 : ((r : Int) == 0) = false := by simp; omega
              have HF := Lib.hid (cutSt_no HL.out HR.out HM.out (by omega))
              go_wp2_with fail
              go_quiet ((go_at_call 25; exact Calls.quiet_of_same ((hrc _).mono (fun e w' ⟨h, h'⟩ => ⟨h, h'.symm⟩))))
              go_wp2_with fail
              go_roundw
              case rel => exact ⟨k + 1, a + 1, fr, l, by omega, by have := HA.out; omega, by go_num, rfl, by omega, Lib.hid (by rw [HA.out]), .inl ⟨by omega, HF⟩, Ext.own (Ext.drewN (Ext.refl _) _) hown, by omega, hE.drewN _⟩
              case measure => simp [intOf]; omega
          · have t3 : decide ((least : Int) ≤ m) = false := by simp; omega
            have HF := Lib.hid (cutSt_no HL.out HR.out HM.out (by omega))
            clear hg2e hre
            go_wp2_with fail
            go_quiet (fail)
            go_wp2_with fail
            go_roundw
            case rel => exact ⟨k + 1, a + 1, fr, l, by omega, by have := HA.out; omega, by go_num, rfl, by omega, Lib.hid (by rw [HA.out]), .inl ⟨by omega, HF⟩, Ext.own (Ext.drewN (Ext.refl _) _) hown, by omega, hE.drewN _⟩
            case measure => simp [intOf]; omega
    · have haL : b.length < a := by have := HA.out; omega
      go_wp2_with fail
      go_ret
      exact ⟨_, rfl, by rw [← HL.out]; exact hown, hE⟩
end Go.Proofs.Ythlkidohpiebiaa
