/- What blob.Digest and smithyardref1.Digest compute. The two walks. -/
import Derived.Test.YthlkidohpiebiaaProg
import Derived.Test.YthlkidohpiebiaaBase
import Derived.WalkSpells
import Derived.WalkLawsBesides
import Derived.Outline
import Derived.IntWalk
namespace Go.Proofs.Ythlkidohpiebiaa
open Go Go.RowKit

def fnvStep (h : Int) (c : UInt8) : Int := IntKind.u64.wrap (bits BinOp.xor IntKind.u64 h (IntKind.u64.wrap c.toNat) * 1099511628211)
def fnv (l : List UInt8) : Int := l.foldl fnvStep 14695981039346656037
theorem fnv_snoc (l : List UInt8) (k : Nat) (h : k < l.length) : fnv (l.take (k + 1)) = fnvStep (fnv (l.take k)) l[k] := by
  unfold fnv; rw [List.take_succ_eq_append_getElem h, List.foldl_append]; rfl
theorem fnvStep_bd (h : Int) (c : UInt8) : 0 ≤ fnvStep h c ∧ fnvStep h c < 18446744073709551616 := by
  unfold fnvStep; generalize bits BinOp.xor IntKind.u64 h (IntKind.u64.wrap ↑c.toNat) * 1099511628211 = z
  rw [IntKind.wrap_u64]; omega
theorem fnv_foldl_bd (l : List UInt8) : ∀ h : Int, 0 ≤ h → h < 18446744073709551616 → 0 ≤ l.foldl fnvStep h ∧ l.foldl fnvStep h < 18446744073709551616 := by
  induction l with
  | nil => exact fun h h0 h1 => ⟨h0, h1⟩
  | cons c l ih => exact fun h _ _ => ih _ (fnvStep_bd h c).1 (fnvStep_bd h c).2
theorem fnv_bd (l : List UInt8) : 0 ≤ fnv l ∧ fnv l < 18446744073709551616 := fnv_foldl_bd l _ (by decide) (by decide)
def hexAt (n : Nat) : UInt8 := ({ data := #[48, 49, 50, 51, 52, 53, 54, 55, 56, 57, 97, 98, 99, 100, 101, 102] } : ByteArray)[n % 16]'(by show n % 16 < 16; omega)
/-- The digest's sixteen letters. -/
def hexDigits (H : Nat) : List UInt8 := (List.range 16).map fun j => hexAt (H / 16 ^ (15 - j))
def digest (l : List UInt8) : List UInt8 := hexDigits (fnv l).toNat
theorem digest_len (l : List UInt8) : (digest l).length = 16 := by simp [digest, hexDigits]
def cellsAt (H k : Nat) : Array Value := ((List.range 16).map fun j => if 15 - j < k then .int .u8 (hexAt (H / 16 ^ (15 - j))).toNat else .int .u8 0).toArray
theorem cellsAt_zero (H : Nat) : cellsAt H 0 = Array.replicate 16 (.int .u8 0) := by
  simp only [cellsAt, Nat.not_lt_zero, if_false]; rfl
theorem size_cellsAt (H k : Nat) : (cellsAt H k).size = 16 := by simp [cellsAt]
theorem cellsAt_succ (H k : Nat) (hk : k < 16) : (cellsAt H k).setIfInBounds (15 - k) (.int .u8 (hexAt (H / 16 ^ k)).toNat) = cellsAt H (k + 1) := by
  apply Array.ext
  · simp [cellsAt]
  · intro i h1 h2
    have hi : i < 16 := by simpa [cellsAt] using h2
    rw [Array.getElem_setIfInBounds (by rw [size_cellsAt]; exact hi)]
    by_cases he : 15 - k = i
    · subst he
      simp [cellsAt, show 15 - (15 - k) = k from by omega]
    · rw [if_neg he]
      simp only [cellsAt, List.getElem_toArray, List.getElem_map, List.getElem_range]
      by_cases h3 : 15 - i < k
      · rw [if_pos h3, if_pos (by omega)]
      · rw [if_neg h3, if_neg (by omega)]
theorem cellsAt_16 (l : List UInt8) (H : Nat) (hH : fnv l = H) : cellsAt H 16 = (bcs (digest l)).toArray := by
  simp only [cellsAt, digest, hexDigits, bcs, List.map_map, hH, Int.toNat_natCast]
  congr 1
theorem and15 (H : Nat) (h : H < 18446744073709551616) : bits BinOp.and IntKind.u64 (H : Int) 15 = (H % 16 : Nat) := by
  have h2 := bits_mask .u64 64 (by decide) (fun n h0 h1 => by rw [IntKind.wrap_u64]; omega) 4 (by decide) (H : Int) (by omega) (by omega)
  exact h2
theorem div_pow (H k : Nat) : H / 16 ^ k / 16 = H / 16 ^ (k + 1) := by rw [Nat.div_div_eq_div_mul, Nat.pow_succ]

set_option maxHeartbeats 400000 in
theorem digest_calls (v : Value) (l : List UInt8) (w : World) (hv : Bs w v l) :
    Calls Try.prog 8 #[v] w fun e w' => e = .returned (.string ⟨(digest l).toArray⟩) ∧ Ext w w' := by
  obtain ⟨A, c, rfl, hlc, hcm, h⟩ := hv
  unfold maxLen at hcm
  go_enter Try.func8, Try.ntmps8
  go_wp2
  go_loop [3, 5, 10] (fun s x i => ∃ k : Nat, k ≤ l.length ∧ i = .int .i64 k ∧ s = .int .u64 (fnv (l.take k))) (fun _ _ i => l.length - (intOf i).toNat)
  case atStart => exact ⟨0, Nat.zero_le _, rfl, rfl⟩
  case round =>
    obtain ⟨k, hk, rfl, rfl⟩ := hrel
    by_cases hlt : k < l.length
    · obtain ⟨ad, rfl, hc⟩ := h.at_ (bcs_at l hlt)
      have HS := Lib.hid (fnv_snoc l k hlt)
      go_wp2
      go_round
      case rel => exact ⟨k + 1, by omega, by go_num, by rw [HS.out]; rfl⟩
      case measure => simp [intOf]; omega
    · obtain rfl : k = l.length := by omega
      have hmk : ∀ w, (Instr.makeSlice 22 (.int .i64 16) (.int .i64 16)).run Try.prog w = .ok (.slice (some ⟨w.heap.size, 0, none⟩) 16 16) (w.alloc (.cells (Array.replicate 16 (.int .u8 0)) 5)) := fun _ => by kernel_rfl
      rw [List.take_length]
      obtain ⟨hb0, hb1⟩ := fnv_bd l
      obtain ⟨H, hH⟩ := Int.eq_ofNat_of_zero_le hb0
      rw [hH]
      have hHb : H < 18446744073709551616 := by omega
      have HH := Lib.hid hH
      clear hH hb0 hb1
      go_wp2
      go_loopw [3, 7, 23] (fun s x i wr => ∃ (k q : Nat) (cs : Array Value), k ≤ 16 ∧ i = .int .i64 k ∧ s = .int .u64 q ∧ wr = w.alloc (.cells cs 5) ∧ Hid (q = H / 16 ^ k) ∧ Hid (cs = cellsAt H k)) (fun _ _ i _ => 16 - (intOf i).toNat)
      case atStart => exact ⟨0, _, _, Nat.zero_le _, rfl, rfl, rfl, Lib.hid (by simp), Lib.hid (cellsAt_zero H).symm⟩
      case round =>
        obtain ⟨k, q, cs, hk, rfl, rfl, rfl, hq, hcs⟩ := hrel
        have hqb : q < 18446744073709551616 := by have := Nat.div_le_self H (16 ^ k); rw [hq.out]; omega
        have hsz : cs.size = 16 := by rw [hcs.out]; exact size_cellsAt H k
        by_cases hlt : k < 16
        · have hc : cs[15 - k]? = some (cs[15-k]'(by omega)) := Array.getElem?_eq_getElem (by omega)
          have h15 := and15 q hqb
          have hm : ((q % 16 : Nat) : Int) < 16 := by omega
          go_wp2
          go_roundw
          case rel => exact ⟨k + 1, q / 16, cs.setIfInBounds (15 - k) (.int .u8 (hexAt q).toNat), by omega, by go_num, by go_num, rfl, Lib.hid (by rw [hq.out, div_pow]), Lib.hid (by rw [hcs.out, hq.out, cellsAt_succ _ _ hlt])⟩
          case measure => simp [intOf]; omega
        · obtain rfl : k = 16 := by omega
          obtain rfl := hcs.out.trans (cellsAt_16 l H HH.out)
          have hr : Row (w.alloc (.cells (bcs (digest l)).toArray 5)) (some ⟨w.heap.size, 0, none⟩) (bcs (digest l)) := fun _ => ⟨_, rfl, fun j u hu => by
            have : ((⟨w.heap.size, 0, none⟩ : Addr).add j) = ⟨w.heap.size, j, none⟩ := by unfold Addr.add; split <;> simp_all
            rw [this, World.cell?_alloc_new]
            simpa using hu⟩
          have hcv := run_bytes_str (P := Try.prog) _ 22 9 5 _ 16 (digest l) Try.underlying22 Try.underlying5 Try.underlying9 hr
          rw [digest_len] at hcv
          go_wp2
          go_ret
          exact ⟨rfl, (Ext.refl w).alloc _⟩
end Go.Proofs.Ythlkidohpiebiaa
