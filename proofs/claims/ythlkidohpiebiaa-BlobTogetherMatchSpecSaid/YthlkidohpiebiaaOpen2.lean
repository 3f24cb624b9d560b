/- The arguments of a law, with the form's reach. No program is in sight here. -/
import Derived.Test.YthlkidohpiebiaaOpen
import Derived.Test.YthlkidohpiebiaaBase2
import Derived.SizedLaws
namespace Go.Proofs.Ythlkidohpiebiaa
open Go Go.RowKit Go.ChangeShapes Go.WideShapes Go.ChangeAt Go.Deep
section
variable {H : Type} {enc : TypeId × Value → H} {P : Program} {w : World} {spare : Nat → Bool} {held : Bool}
/-- All slices and strings in a datum lie within the form's reach. -/
def SZ (P : Program) (t : TypeId) (d : DataW H) : Prop := ∀ n ∈ d.weights P t, n ≤ 140737488351232
theorem SZ.of_each {ts : List TypeId} {ds : List (DataW H)} (h : (DataW.weightsEach P ts ds).all (· ≤ reachBytes) = true) {j : Nat} {t : TypeId} {d : DataW H} (ht : ts[j]? = some t) (hd : ds[j]? = some d) : SZ P t d := fun n hn => by
  have := List.all_eq_true.1 h n (DataW.weights_mem_each ht hd n hn)
  exact of_decide_eq_true this
theorem SZ.slice {t e : TypeId} {elems sp : List (DataW H)} (ht : P.underlying t = some (.slice e)) (h : SZ P t (.slice elems sp)) : (elems.length + sp.length) * P.bytesOf e ≤ 140737488351232 ∧ ∀ d ∈ elems, SZ P e d := by
  refine ⟨h _ (by simp [DataW.weights, ht]), fun d hd n hn => h n ?_⟩
  simp only [DataW.weights, ht, List.mem_cons, List.mem_append]
  refine .inr (.inl ?_)
  have : ∀ l : List (DataW H), d ∈ l → n ∈ DataW.weightsAll P e l := by
    intro l
    induction l with
    | nil => simp
    | cons a l ih =>
      intro hm
      simp only [DataW.weightsAll, List.mem_append]
      rcases List.mem_cons.1 hm with rfl | hm
      · exact .inl hn
      · exact .inr (ih hm)
  exact this elems hd
theorem Bs.of_sized {t e : TypeId} {fuel : Nat} {v : Value} {x : DataW H × List MemPlace} (ht : P.underlying t = some (.slice e)) (he : P.underlying e = some (.int .u8)) (hc : P.cellsOf e = 1) (hb : P.bytesOf e = 1)
    (h : DataW.trod enc P w 0 spare held fuel t [v] = some x) (hs : SZ P t x.1) : ∃ l, Bs w v l ∧ l.length ≤ 140737488351232 := by
  obtain ⟨l, hl⟩ := Bs.of_trod0 ht he hc h
  refine ⟨l, hl, ?_⟩
  obtain ⟨A, c, e1, _⟩ := hl
  rcases open_ints ht he hc h with ⟨hcs, _⟩ | ⟨a, len, cap, zs, hcs, _, hle, hm, hz, hx, hcell, hwz⟩
  · simp only [List.cons.injEq, and_true] at hcs
    rw [e1] at hcs
    injection hcs with _ h2
    omega
  · simp only [List.cons.injEq, and_true] at hcs
    rw [e1] at hcs
    injection hcs with _ h2
    rw [hx] at hs
    have := (hs.slice ht).1
    rw [hb] at this
    simp only [lits, List.length_map, List.length_take, List.length_drop] at this
    have hlz : len ≤ zs.length := by rw [hz]; split <;> omega
    omega
theorem BBs.of_trod {r : Reach} {base : Nat} {t e e8 : TypeId} {v : Value} {d : DataW H} {p : List MemPlace} (ht : P.underlying t = some (.slice e)) (he : P.underlying e = some (.slice e8)) (h8 : P.underlying e8 = some (.int .u8)) (hc : P.cellsOf e = 1) (hc8 : P.cellsOf e8 = 1) (hb8 : P.bytesOf e8 = 1)
    (hv : Value.okWide P w r base t v) (h : DataW.Trod enc P w 0 spare held t v d p) (hs : SZ P t d) : ∃ L, BBs w v L ∧ ∀ x ∈ L, x.length ≤ 140737488355328 := by
  obtain ⟨a0, len0, cap0, rfl⟩ := okWide_slice ht hv
  obtain ⟨fuel, hf⟩ := h
  rcases open_slice ht hf with ⟨hcs, _⟩ | ⟨a, len, cap, m, n, D, Pl, hcs, _, hl, hm, hmm, hx, hel⟩
  · simp [Value.cells] at hcs
    obtain ⟨rfl, rfl, rfl⟩ := hcs
    exact ⟨[], SL.nil _ _ _, by simp⟩
  · simp [Value.cells] at hcs
    obtain ⟨rfl, rfl, rfl⟩ := hcs
    simp only [Prod.mk.injEq] at hx
    obtain ⟨hd, hp⟩ := hx
    rw [hd] at hs
    have hsz := (hs.slice ht).2
    have key : ∀ i, i < len0 → ∃ l u, w.cell? (a.add i) = some u ∧ Bs w u l ∧ l.length ≤ 140737488351232 := by
      intro i hi
      obtain ⟨cs', hc', ht'⟩ := hel i (by rw [hmm]; split <;> omega)
      rw [hc, Nat.mul_one] at hc'
      obtain ⟨hlen, hcl, hat⟩ := World.cells?_some hc'
      have hcell := hat 0 (by omega)
      rcases cs' with _ | ⟨u, _ | ⟨u2, cs'⟩⟩
      · simp at hcl
      · obtain ⟨l, h1, h2⟩ := Bs.of_sized he h8 hc8 hb8 ht' (hsz (D i) (List.mem_map.2 ⟨i, by simpa using hi, rfl⟩))
        refine ⟨l, u, ?_, h1, h2⟩
        simpa [Addr.add] using hcell
      · simp at hcl
    refine ⟨(List.range len0).map fun i => if h : i < len0 then (key i h).choose else [], ⟨some a, cap0, by simp, by simpa using hl, hm, fun i hi => ?_⟩, fun x hx => ?_⟩
    · have hi' : i < len0 := by simpa using hi
      obtain ⟨u, h1, h2, h3⟩ := (key i hi').choose_spec
      refine ⟨a, [u], rfl, rfl, ⟨u, rfl, by simpa [hi'] using h2⟩, fun j v hv => ?_⟩
      match j, hv with
      | 0, hv => simp at hv; subst hv; simpa using h1
    · obtain ⟨i, hi, rfl⟩ := List.mem_map.1 hx
      have hi' : i < len0 := by simpa using hi
      obtain ⟨u, h1, h2, h3⟩ := (key i hi').choose_spec
      simp only [hi', dif_pos]
      omega
end
end Go.Proofs.Ythlkidohpiebiaa
