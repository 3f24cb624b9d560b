/- The walk of BlobPiecesComeBack. -/
import Derived.Test.YthlkidohpiebiaaCome
import Derived.Test.YthlkidohpiebiaaShared
import Derived.Test.YthlkidohpiebiaaCutA
import Derived.Test.YthlkidohpiebiaaTog
import Derived.Test.YthlkidohpiebiaaEqInt
import Derived.Test.YthlkidohpiebiaaAwake
import Derived.StillTailTactics
namespace Go.Proofs.Ythlkidohpiebiaa
open Go Go.RowKit
theorem et_bytes : ElemT Try.prog 35 22 1 24 := ElemT.mk_ Try.underlying35 (z := .slice none 0 0) (by kernel_rfl) rfl (by decide) (by decide)
/-- These cells read as these chunks. -/
def Cover (w : World) (cells : List Value) (C : List (List UInt8)) : Prop := cells.length = C.length ∧ ∀ j u, cells[j]? = some u → ∃ h : j < C.length, Bs w u C[j]
theorem Cover.nil (w : World) : Cover w [] [] := ⟨rfl, fun j u h => by simp at h⟩
theorem Cover.snoc {w : World} {cells : List Value} {C : List (List UInt8)} {u : Value} {l : List UInt8} (h : Cover w cells C) (hu : Bs w u l) : Cover w (cells ++ [u]) (C ++ [l]) := by
  refine ⟨by simp [h.1], fun j v hv => ?_⟩
  by_cases hj : j < cells.length
  · rw [List.getElem?_append_left hj] at hv
    obtain ⟨h1, h2⟩ := h.2 j v hv
    exact ⟨by simp; omega, by rw [List.getElem_append_left h1]; exact h2⟩
  · rw [List.getElem?_append_right (by omega)] at hv
    have hj2 : j = cells.length := by
      rcases Nat.eq_zero_or_pos (j - cells.length) with h3 | h3
      · omega
      · rw [List.getElem?_eq_none (by simp; omega)] at hv; cases hv
    subst hj2
    simp at hv
    subst hv
    refine ⟨by simp [h.1], ?_⟩
    have : (C ++ [l])[cells.length]'(by simp [h.1]) = l := by simp [h.1]
    rw [this]; exact hu
theorem Cover.bbs {w w' : World} {base : Nat} {e : TypeId} {v : Value} {cells : List Value} {C : List (List UInt8)} (h : Cover w cells C) (hE : Ext w w') (ho : w'.ownsRow base e 1 v C.length cells) : BBs w' v C :=
  SL.of_own ho fun i hi u hu => ⟨u, rfl, by obtain ⟨h1, h2⟩ := h.2 i u hu; exact h2.ext hE⟩
set_option maxRecDepth 100000 in
set_option maxHeartbeats 1000000 in
theorem lawComeBack_bad (v : Value) (b : List UInt8) (least bits most cut : Int) (n : Nat) (w : World) (hv : Bs w v b) (h : piecesOf b least bits most = ([], n + 1)) :
    Calls Try.prog 6 #[v, .int .i64 least, .int .i64 bits, .int .i64 most, .int .i64 cut] w fun e w' => e = .returned (.bool true) ∧ Ext w w' := by
  have hc1 := blobPieces_calls v b least bits most w hv
  rw [h] at hc1
  dsimp only at hc1
  obtain ⟨g, hg⟩ : ∃ g, g = n + 1 := ⟨_, rfl⟩
  rw [← hg] at hc1
  have t : ((g : Int) != 0) = true := by simp; omega
  clear hg h
  go_enter Try.func6, Try.ntmps6
  go_wp2_with fail
  refine hc1.mono ?_
  clear hc1
  rintro e w1 ⟨x, rfl, hxo, hE1⟩
  obtain ⟨A1, c1, rfl, hxl, hxm, hxr⟩ := Row.of_own' hxo
  go_wp2_with fail
  refine (awake_calls w1).mono ?_
  rintro e w2 ⟨rfl, h2⟩
  go_wp2_with fail
  go_ret
  exact ⟨rfl, hE1.trans h2⟩
set_option maxRecDepth 100000 in
set_option maxHeartbeats 4000000 in
theorem lawComeBack_calls (v : Value) (b : List UInt8) (least bits most cut : Int) (w : World) (hv : Bs w v b) :
    Calls Try.prog 6 #[v, .int .i64 least, .int .i64 bits, .int .i64 most, .int .i64 cut] w fun e w' => e = .returned (.bool true) ∧ Ext w w' := by
  have hc1 := blobPieces_calls v b least bits most w hv
  have hs1 := @piecesOf_sum b least bits most
  rcases cutFault_cases b least bits most with ⟨h1, hf⟩ | ⟨h1, hb, hf⟩ | ⟨h1, hb, hf⟩
  · exact lawComeBack_bad v b least bits most cut 1 w hv (piecesOf_bad hf)
  · exact lawComeBack_bad v b least bits most cut 0 w hv (piecesOf_bad hf)
  · obtain ⟨least, rfl⟩ := Int.eq_ofNat_of_zero_le (show 0 ≤ least by omega)
    obtain ⟨bits, rfl⟩ := Int.eq_ofNat_of_zero_le (show 0 ≤ bits by omega)
    obtain ⟨most, rfl⟩ := Int.eq_ofNat_of_zero_le (show 0 ≤ most by omega)
    by_cases h2 : 20000 < (pieces b least bits most).length
    · exact lawComeBack_bad v b least bits most cut 1 w hv (piecesOf_many hf h2)
    · rw [piecesOf_good hf h2] at hc1 hs1
      obtain ⟨hsx, hal⟩ := hs1 rfl
      obtain ⟨b1, b2, b3, b4, b5, b6⟩ := hb
      have hmem := pieces_mem b least bits most (by omega) (by omega)
      have hat := pieces_at' b least bits most (by omega) (by omega)
      dsimp only at hc1 hsx
      obtain ⟨xs, hx⟩ : ∃ xs, xs = pieces b least bits most := ⟨_, rfl⟩
      rw [← hx] at hc1 hsx hmem hat h2
      clear hs1 hf
      go_enter Try.func6, Try.ntmps6
      go_wp2_with fail
      refine hc1.mono ?_
      clear hc1
      rintro e w1 ⟨x, rfl, hxo, hE1⟩
      obtain ⟨A1, c1, rfl, hxl, hxm, hxr⟩ := Row.of_own' hxo
      have hv1 := hv.ext hE1
      obtain ⟨A, c, rfl, hlc, hcm, hR⟩ := hv1
      unfold maxLen at hxm hcm
      have HX := Lib.hid hx
      have HS := Lib.hid hsx
      have HM := Lib.hid hmem
      have HAT := Lib.hid hat
      clear hx hsx hmem hat
      go_wp2_with fail
      go_loopw [13, 14, 15] (fun q p i wr => ∃ (k n : Nat) (cells : List Value), k ≤ xs.length ∧ i = .int .i64 k ∧ p = .int .i64 n ∧ n ≤ b.length ∧ Hid (n = (xs.take k).sum) ∧ wr.ownsRow w1.heap.size 22 1 q k cells ∧ Hid (Cover w1 cells (chunks b (xs.take k))) ∧ Ext w1 wr) (fun _ _ i _ => xs.length - (intOf i).toNat)
      case atStart => exact ⟨0, 0, [], Nat.zero_le _, rfl, rfl, Nat.zero_le _, Lib.hid rfl, (by exact World.ownsRow_nil _ _ _ _), Lib.hid (Cover.nil w1), Ext.refl _⟩
      case round =>
        obtain ⟨k, n, cells, hk, rfl, rfl, hn, HN, hown, HC, hE⟩ := hrel
        by_cases hlt : k < xs.length
        · obtain ⟨m, hm⟩ : ∃ m, m = xs[k] := ⟨_, rfl⟩
          obtain ⟨ad, rfl, hc0⟩ := hxr.at_ (show (ics xs)[k]? = some (.int .i64 m) by unfold ics; rw [List.getElem?_map, List.getElem?_eq_getElem hlt, hm]; rfl)
          have hc := hE.cell hc0
          have hc1 := hc0
          have hnm : n + m ≤ b.length := by
            have := sum_take xs hlt
            have := sum_take_le xs (k + 1)
            have := HS.out
            rw [HN.out, hm]
            omega
          have hm1 : 1 ≤ m ∧ m ≤ most := by rw [hm]; exact HM.out _ (List.getElem_mem hlt)
          have hm2 : k + 1 < xs.length → least ≤ m := by exact fun h => HAT.out k m (by rw [hm, List.getElem?_eq_getElem hlt]) h
          have HX1 := Lib.hid (sum_take xs hlt)
          have HCH := Lib.hid (chunks_take b xs hlt)
          have hnc : n + m ≤ c := by omega
          have hnn2 : n + m - n = m := by omega
          have hB : (k + 1) * 24 ≤ 140737488355328 := by omega
          have HMM := Lib.hid hm
          have hm3 : (m : Int) < 1 → False := by omega
          have HC1 := Lib.hid hc1
          clear hc0 hm hc1
          have hlast : (k + 1 < xs.length ∧ least ≤ m) ∨ xs.length ≤ k + 1 := by omega
          clear hm2
          have hmid : Bs w1 (.slice (offA A n c 1) m (c - n)) ((b.drop n).take m) := Bs.mid hR hlc (by unfold maxLen; omega) hnm
          rcases hlast with ⟨hk1, hlm⟩ | hk1
          all_goals
            go_wp2_with (at_builtin; refine unstop ?_)
            refine stop (wp_app1 (w0 := w1) rfl et_bytes rfl hown hE rfl rfl rfl rfl hB ?_)
            intro v2 w2 ho2 hE2 hg2 hn2 hb2
            have hc2 := hE2.cell (show w1.cell? (ad.add k) = some (.int .i64 m) from HC1.out)
            go_wp2_with fail
            go_roundw
            case rel => exact ⟨k + 1, n + m, _, by omega, by go_num, by go_num, hnm, Lib.hid (by rw [HX1.out, HN.out, HMM.out]), ho2, Lib.hid (by rw [HCH.out, ← HN.out, ← HMM.out]; exact Cover.snoc HC.out hmid), hE2⟩
            case measure => simp [intOf]; omega
        · obtain rfl : k = xs.length := by omega
          have hnb : n = b.length := by have := HN.out; rw [List.take_length, HS.out] at this; exact this
          rw [List.take_length] at HC
          have hCl : (chunks b xs).length = xs.length := chunks_len xs b
          rw [← hCl] at hown
          have hBB := HC.out.bbs hE hown
          have hlens : ∀ z ∈ chunks b xs, z.length ≤ 140737488355328 := by
            intro z hz
            have h3 := chunks_lens xs b (by rw [HS.out]; exact Nat.le_refl _)
            have h4 : z.length ∈ xs := by rw [← h3]; exact List.mem_map.2 ⟨z, hz, rfl⟩
            have := (HM.out _ h4).2
            omega
          have htog : together (chunks b xs) = (b, 0) := by
            rw [together_good (by rw [hCl]; exact h2) (by unfold lens; rw [chunks_lens xs b (by rw [HS.out]; exact Nat.le_refl _), HS.out]; omega), chunks_flat xs b HS.out]
          have htc := blobTogether_calls u13 (chunks b xs) wr hlens hBB
          rw [htog] at htc
          dsimp only at htc
          clear htog hlens hBB hown hCl
          subst hnb
          go_wp2_with fail
          refine htc.mono ?_
          rintro e w2 ⟨u2, rfl, ho2, hE2⟩
          have hb2 : Bs w2 u2 b := Bs.of_vs (Vs.of_own ho2)
          have hE12 := hE.trans hE2
          have hbb : Bs w2 (.slice A b.length c) b := ⟨A, c, rfl, hlc, (by unfold maxLen; omega), hR.ext hE12⟩
          have heq := bytesEqual_calls u2 (.slice A b.length c) b b w2 hb2 hbb
          rw [decide_eq_true (rfl : b = b)] at heq
          by_cases hcut : 0 ≤ cut ∧ cut ≤ b.length
          · obtain ⟨hcu0, hcu1⟩ := hcut
            obtain ⟨cut, rfl⟩ := Int.eq_ofNat_of_zero_le hcu0
            have hcu : cut ≤ b.length := by omega
            have hbh : Bs w2 (.slice A cut cut) (b.take cut) := Bs.head (hR.ext hE12) (by unfold maxLen; omega) hcu
            have hpc := blobPieces_calls (.slice A cut cut) (b.take cut) least bits most w2 hbh
            obtain ⟨hbl, hbt⟩ := pieces_begin b least bits most cut hcu
            have hcf : cutFault (b.take cut) least bits most = 0 := by
              unfold cutFault
              rw [if_neg (by rw [List.length_take]; omega), if_pos ⟨b1, b2, b3, b4, b5, b6⟩]
            rw [← HX.out] at hbl hbt
            rw [piecesOf_good hcf (by omega)] at hpc
            dsimp only at hpc
            obtain ⟨ys, hys⟩ : ∃ ys, ys = pieces (b.take cut) least bits most := ⟨_, rfl⟩
            rw [← hys] at hpc hbl hbt
            have HBT := Lib.hid hbt
            clear hcf hys hbt
            go_wp2_with fail
            refine heq.mono ?_
            clear heq
            rintro e w3 ⟨rfl, rfl⟩
            go_wp2_with fail
            refine hpc.mono ?_
            clear hpc
            rintro e w3 ⟨y, rfl, hyo, hE3⟩
            obtain ⟨A4, c4, rfl, hyl, hym, hyr⟩ := Row.of_own' hyo
            unfold maxLen at hym
            go_wp2_with fail
            have hxr3 := hxr.ext (hE12.trans hE3)
            have part : ∀ (l : List Nat) (B : Option Addr) (d q : Nat), Row w3 B (ics l) → q ≤ l.length → l.length ≤ d → d ≤ 2 ^ 63 - 1 → Vs w3.drew (.slice B q d) (zcs ((l.take q).map fun n : Nat => (n : Int))) := by
              intro l B d q hB hq hd hdm
              refine ⟨B, d, by rw [zcs_len, List.length_map, List.length_take, Nat.min_eq_left hq], by rw [zcs_len, List.length_map, List.length_take]; omega, hdm, ?_⟩
              rw [← ics_zcs]
              unfold ics
              rw [List.map_take]
              exact (hB.ext ((Ext.refl _).drew)).take q
            rcases Nat.eq_zero_or_pos ys.length with hy0 | hy0
            · have hva := part ys A4 c4 0 hyr (by omega) (by omega) hym
              have hvb := part xs A1 c1 0 hxr3 (by omega) (by omega) hxm
              have HE := Lib.hid (show (ys.take 0).map (fun n : Nat => (n : Int)) = (xs.take 0).map (fun n : Nat => (n : Int)) by rfl)
              rw [hy0]
              clear part
              have q6 : IntKind.i64.wrap (-1) = -1 := by decide
              go_still_tail 22, (by kernel_rfl)
              change wpList _ _ _ _ _ w3.drew
              go_wp2_with fail
              refine (equalInts_calls _ _ _ _ w3.drew hva hvb).mono ?_
              rintro e w4 ⟨rfl, hE4⟩
              rw [decide_eq_true HE.out]
              go_wp2_with fail
              refine (awake_calls w4).mono ?_
              rintro e w5 ⟨rfl, hE5⟩
              go_wp2_with fail
              go_ret
              exact ⟨rfl, (((hE1.trans hE12).trans (hE3.trans ((Ext.refl _).drew.trans hE4))).trans hE5)⟩
            · obtain ⟨p, hp⟩ : ∃ p, ys.length = p + 1 := ⟨ys.length - 1, by omega⟩
              have hva := part ys A4 c4 p hyr (by omega) (by omega) hym
              have hvb := part xs A1 c1 p hxr3 (by omega) (by omega) hxm
              have HE := Lib.hid (show (ys.take p).map (fun n : Nat => (n : Int)) = (xs.take p).map (fun n : Nat => (n : Int)) by have := HBT.out; rw [hp, Nat.add_sub_cancel] at this; rw [this])
              rw [hp]
              clear part
              have q1 : p + 1 ≤ xs.length := by omega
              have q2 : (p : Int) + 1 ≤ (xs.length : Int) := by omega
              have q3 : p ≤ c4 := by omega
              have q4 : p ≤ c1 := by omega
              have q5 : ((p : Int) + 1 ≤ (xs.length : Int)) = True := by simp; omega
              have q6 : IntKind.i64.wrap (p : Int) = p := IntWalk.i64_in _ (by omega)
              have q7 : (if (0 : Int) < (p : Int) then (p : Int) else 0) = p := by split <;> omega
              have q8 : (if 0 < p then (p : Int) else 0) = p := by split <;> omega
              go_still_tail 22, (by kernel_rfl)
              change wpList _ _ _ _ _ w3.drew
              go_wp2_with fail
              refine (equalInts_calls _ _ _ _ w3.drew hva hvb).mono ?_
              rintro e w4 ⟨rfl, hE4⟩
              rw [decide_eq_true HE.out]
              go_wp2_with fail
              refine (awake_calls w4).mono ?_
              rintro e w5 ⟨rfl, hE5⟩
              go_wp2_with fail
              go_ret
              exact ⟨rfl, (((hE1.trans hE12).trans (hE3.trans ((Ext.refl _).drew.trans hE4))).trans hE5)⟩
          · go_wp2_with fail
            refine heq.mono ?_
            rintro e w3 ⟨rfl, rfl⟩
            go_wp2_with fail
            all_goals
              refine heq.mono ?_
              rintro e w3 ⟨rfl, rfl⟩
              go_wp2_with fail
              refine (awake_calls w2).mono ?_
              rintro e w3 ⟨rfl, h3⟩
              go_wp2_with fail
              go_ret
              exact ⟨rfl, (hE1.trans hE12).trans h3⟩
end Go.Proofs.Ythlkidohpiebiaa
