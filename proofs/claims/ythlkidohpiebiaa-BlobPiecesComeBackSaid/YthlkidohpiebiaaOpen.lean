/- The arguments of a law, as the statement's reading hands them over, in the words of Base. No program is in sight here. -/
import Derived.Test.YthlkidohpiebiaaBase
import Derived.ProofKit
import Derived.OpenShut
import Derived.ShutString
import Derived.ChangeOld
import Derived.Deep.Slices
namespace Go.Proofs.Ythlkidohpiebiaa
open Go Go.RowKit Go.ChangeShapes Go.WideShapes Go.ChangeAt
open Go.ChangeMaps (open_string shut_string)
section
variable {H : Type} {enc : TypeId × Value → H} {P : Program} {w : World} {spare : Nat → Bool} {held : Bool}
theorem Bs.of_trod0 {t e : TypeId} {fuel : Nat} {v : Value} {x : DataW H × List MemPlace} (ht : P.underlying t = some (.slice e)) (he : P.underlying e = some (.int .u8)) (hc : P.cellsOf e = 1)
    (h : DataW.trod enc P w 0 spare held fuel t [v] = some x) : ∃ l, Bs w v l := by
  rcases open_ints ht he hc h with ⟨hcs, _⟩ | ⟨a, len, cap, zs, hcs, _, hl, hm, hz, _, hcell, hwz⟩
  · simp only [List.cons.injEq, and_true] at hcs
    subst hcs
    exact ⟨[], Bs.nil w⟩
  · simp only [List.cons.injEq, and_true] at hcs
    subst hcs
    have hlz : len ≤ zs.length := by rw [hz]; split <;> omega
    refine ⟨(zs.take len).map fun n => UInt8.ofNat n.toNat, some a, cap, ?_, ?_, hm, fun _ => ⟨a, rfl, fun j u hu => ?_⟩⟩
    · simp [Nat.min_eq_left hlz]
    · simp only [List.length_map, List.length_take]; omega
    · have hj : j < len := by
        have : j < (bcs ((zs.take len).map fun n => UInt8.ofNat n.toNat)).length := by
          rcases Nat.lt_or_ge j (bcs ((zs.take len).map fun n => UInt8.ofNat n.toNat)).length with h' | h'
          · exact h'
          · rw [List.getElem?_eq_none h'] at hu; cases hu
        rw [bcs_len] at this
        simp only [List.length_map, List.length_take] at this
        omega
      rw [hcell j (by omega), ← hu]
      have hj2 : j < zs.length := by omega
      have hw := hwz zs[j] (List.getElem_mem hj2)
      simp [Lit.wf, IntKind.min, IntKind.max, IntKind.signed, IntKind.bits] at hw
      unfold bcs
      simp only [List.getElem?_map, List.getElem?_take, hj, if_true, List.getElem?_eq_getElem hj2, Option.map_some, List.getD_eq_getElem?_getD, Option.getD_some]
      congr 2
      have : (UInt8.ofNat zs[j].toNat).toNat = zs[j].toNat % 256 := by simp
      rw [this]
      omega
theorem Bs.of_trod {r : Reach} {base : Nat} {t e : TypeId} {v : Value} {d : DataW H} {p : List MemPlace} (ht : P.underlying t = some (.slice e)) (he : P.underlying e = some (.int .u8)) (hc : P.cellsOf e = 1)
    (hv : Value.okWide P w r base t v) (h : DataW.Trod enc P w 0 spare held t v d p) : ∃ l, Bs w v l := by
  obtain ⟨a, len, cap, rfl⟩ := okWide_slice ht hv
  obtain ⟨fuel, hf⟩ := h
  exact Bs.of_trod0 ht he hc (by simpa [Value.cells] using hf)
end
end Go.Proofs.Ythlkidohpiebiaa
