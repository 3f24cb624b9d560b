/- append onto a row of the call's own: one element, or all of another slice. No program is in sight here. -/
import Derived.Test.YtbekhaioddmliaaDoorQBase
import Derived.Maps.AppendAt
import Derived.OwnWalk
namespace Go.Proofs.YtbekhaioddmliaaDoor
set_option linter.unusedVariables false
set_option linter.unusedSimpArgs false
open Go Go.RowKit
/-- t is the type of slices of e; an e has so many cells and bytes. -/
def ElemT (P : Program) (t e : TypeId) (size bytes : Nat) : Prop :=
  P.underlying t = some (.slice e) ∧ 0 < size ∧ 0 < bytes ∧ ∃ i z, P.info? e = some i ∧ i.zero = some z ∧ i.size = size ∧ i.bytes = bytes ∧ z.cells.size = size
theorem ElemT.mk_ {P : Program} {t e : TypeId} {z : Value} {size bytes : Nat} (ht : P.underlying t = some (.slice e)) (hi : (P.info? e).map (fun i => (i.zero, i.size, i.bytes)) = some (some z, size, bytes))
    (hz : z.cells.size = size) (h0 : 0 < size) (h1 : 0 < bytes) : ElemT P t e size bytes := by
  obtain ⟨i, a, b, c, d⟩ := info_parts hi
  exact ⟨ht, h0, h1, i, z, a, b, c, d, hz⟩
theorem run_append_none (P : Program) (w : World) (base : Nat) (t ty e : TypeId) (size bytes : Nat) (hT : ElemT P t e size bytes)
    (v : Value) (n : Nat) (xs : List Value) (hown : w.ownsRow base e size v n xs) (c : Nat) :
    (Builtin.append_ #[t, t] ty #[v, .slice none 0 c]).run P w = .ok v w := by
  obtain ⟨ht, hsz, hb, i, z, hi, hz, hsize, hby, hzs⟩ := hT
  rcases hown.2 with ⟨rfl, rfl⟩ | ⟨g, cap, cur, rfl, _, _, hnc, _⟩
  · simp [Builtin.append_, run_underlying ht, sizeOf, typeInfo, hi, Builtin.lenOf, Builtin.firstCells]
  · simp [Builtin.append_, run_underlying ht, sizeOf, typeInfo, hi, Builtin.lenOf, Builtin.firstCells, hnc, storeCells]
section
variable {P : Program} {w0 w : World}
/-- All of another slice behind a row of the call's own. -/
theorem run_app (t ty e : TypeId) (size bytes : Nat) (hT : ElemT P t e size bytes)
    (v : Value) (n : Nat) (xs : List Value) (hown : w.ownsRow w0.heap.size e size v n xs) (hE : Ext w0 w)
    (A : Option Addr) (m c : Nat) (news : List Value) (hl : news.length = m * size) (hr : Row w A news) (h1 : ∀ u ∈ news, u.oneCell' = true) (hb : (n + m) * bytes ≤ 140737488355328) :
    ∃ v' w', (Builtin.append_ #[t, t] ty #[v, .slice A m c]).run P w = .ok v' w' ∧ w'.ownsRow w0.heap.size e size v' (n + m) (xs ++ news) ∧ Ext w0 w' ∧ w.grownBy w' v.ownBlock ∧
      (v'.ownBlock = v.ownBlock ∨ v'.ownBlock = some w.heap.size) ∧ (m = 0 → v' = v) := by
  have hT' := hT
  obtain ⟨ht, hsz, hbp, i, z, hi, hz, hsize, hby, hzs⟩ := hT
  rcases A with _ | ad
  · have hn : news = [] := by
      rcases news with _ | ⟨x, l⟩
      · rfl
      · obtain ⟨ad, h, _⟩ := hr (by simp)
        cases h
    subst hn
    have hm : m = 0 := by
      rcases Nat.eq_zero_or_pos m with h | h
      · exact h
      · have := Nat.mul_pos h hsz; simp at hl; omega
    subst hm
    exact ⟨v, w, run_append_none P w _ t ty e size bytes hT' v n xs hown c, by simpa using hown, hE, World.grownBy.refl w _, .inl rfl, fun _ => rfl⟩
  · have hcells : ∀ j u, news[j]? = some u → w.cell? (ad.add j) = some u := by
      intro j u hu
      obtain ⟨ad', h, hc⟩ := hr.at_ hu
      injection h with h
      subst h
      exact hc
    have h63 : n + m ≤ maxLen := by
      have : n + m ≤ (n + m) * bytes := Nat.le_mul_of_pos_right _ hbp
      unfold maxLen; omega
    by_cases hm : m = 0
    · subst hm
      have hn : news = [] := List.eq_nil_of_length_eq_zero (by simpa using hl)
      subst hn
      refine ⟨v, w, ?_, by simpa using hown, hE, World.grownBy.refl w _, .inl rfl, fun _ => rfl⟩
      rcases hown.2 with ⟨rfl, rfl⟩ | ⟨g, cap, cur, rfl, _, _, hnc, _⟩
      · simp [Builtin.append_, run_underlying ht, sizeOf, typeInfo, hi, Builtin.lenOf, Builtin.firstCells, loadCells, loadCellsFrom]
      · simp [Builtin.append_, run_underlying ht, sizeOf, typeInfo, hi, Builtin.lenOf, Builtin.firstCells, hnc, storeCells, loadCells, loadCellsFrom]
    · obtain ⟨v', w', hrun, h2, h3, _, h5⟩ := run_append_own_at (P := P) w w0.heap.size t ty e i z size bytes ht hi hz hsize hby hzs hsz v n xs hown ad m c news hl hcells h1 h63 hb hE.size
      exact ⟨v', w', hrun, h2, hE.grown h3 (fun k hk => (hown.lt k hk).1), h3, h5, fun h => absurd h hm⟩
theorem wp_app {ops : Array Oper} {rest : List Oper} {o : Oper} {a : Act} {Q : Exit → Act → World → Prop} (hgd : o.guard = none) {s x : Operand}
    {t e : TypeId} {size bytes : Nat} (hT : ElemT P t e size bytes)
    (ho : o.op = .call { callee := .builtin .append, args := #[s, x], argTypes := #[t, t] })
    {v : Value} {n : Nat} {xs : List Value} (hown : w.ownsRow w0.heap.size e size v n xs) (hE : Ext w0 w) (hs : a.eval s = v)
    {A : Option Addr} {m c : Nat} {news : List Value} (hr : Row w A news) (hx : a.eval x = .slice A m c) (hl : news.length = m * size) (h1 : ∀ u ∈ news, u.oneCell' = true) (hb : (n + m) * bytes ≤ 140737488355328)
    (h : ∀ v' w', w'.ownsRow w0.heap.size e size v' (n + m) (xs ++ news) → Ext w0 w' → w.grownBy w' v.ownBlock → Hid (v'.ownBlock = v.ownBlock ∨ v'.ownBlock = some w.heap.size) → Hid (m = 0 → v' = v) → wpList P ops Q rest (a.put o.dst v') w') :
    wpList P ops Q (o :: rest) a w := by
  refine wpList_plain hgd fun K hK => ?_
  obtain ⟨v', w', hrun, h2, h3, h4, h5, h6⟩ := run_app (P := P) t o.type e size bytes hT v n xs hown hE A m c news hl hr h1 hb
  unfold Oper.wp execOp
  simp only [ho, resolve, invoke, builtin, Sem.run_bind, Sem.run_pure, Result.andThen_ok, List.map_toArray, List.map_cons, List.map_nil, hs, hx, hrun]
  exact hK _ _ (h v' w' h2 h3 h4 (Lib.hid h5) (Lib.hid h6))
/-- One element behind a row of the call's own: it lies in a block of its own first. -/
theorem wp_app1 {ops : Array Oper} {rest : List Oper} {o : Oper} {a : Act} {Q : Exit → Act → World → Prop} (hgd : o.guard = none) {s x : Operand}
    {t e : TypeId} {size bytes : Nat} (hT : ElemT P t e size bytes)
    (ho : o.op = .call { callee := .builtin .append, args := #[s, x], argTypes := #[t, t] })
    {v : Value} {n : Nat} {xs : List Value} (hown : w.ownsRow w0.heap.size e size v n xs) (hE : Ext w0 w) (hs : a.eval s = v)
    {cs : Array Value} (hx : a.eval x = .slice (some ⟨w.heap.size, 0, none⟩) 1 1) (hl : cs.size = size) (h1 : cs.toList.all Value.oneCell' = true) (hb : (n + 1) * bytes ≤ 140737488355328)
    (h : ∀ v' w', w'.ownsRow w0.heap.size e size v' (n + 1) (xs ++ cs.toList) → Ext w0 w' → w.grownBy w' v.ownBlock → Hid (v' ≠ .slice none 0 0) → Hid (v'.ownBlock = v.ownBlock ∨ ∃ k, v'.ownBlock = some k ∧ w.heap.size ≤ k) → wpList P ops Q rest (a.put o.dst v') w') :
    wpList P ops Q (o :: rest) a (w.alloc (.cells cs e)) := by
  refine wp_app (w0 := w0) hgd hT ho (hown.alloc _) (hE.alloc _) hs (A := some ⟨w.heap.size, 0, none⟩) (m := 1) (c := 1) (news := cs.toList) (fun _ => ⟨_, rfl, fun j u hu => ?_⟩) hx (by simpa using hl) (fun u hu => List.all_eq_true.1 h1 u hu) hb ?_
  · have : ((⟨w.heap.size, 0, none⟩ : Addr).add j) = ⟨w.heap.size, j, none⟩ := by unfold Addr.add; split <;> simp_all
    rw [this, World.cell?_alloc_new]
    simpa using hu
  · intro v' w' h2 h3 h4 h5 _
    refine h v' w' h2 h3 ?_ (Lib.hid ?_) (Lib.hid ?_)
    · exact (World.grownBy_alloc w _ _).trans h4
    · rintro rfl
      rcases h2.2 with ⟨_, h⟩ | ⟨g, cap, cur, h, _⟩
      · omega
      · cases h
    · rcases h5.out with h5 | h5
      · exact .inl h5
      · exact .inr ⟨_, h5, by simp⟩
end
/-- What is read of a slice value that owns a row. -/
theorem Row.of_own' {w : World} {base : Nat} {e : TypeId} {size : Nat} {v : Value} {n : Nat} {xs : List Value} (h : w.ownsRow base e size v n xs) : ∃ A c, v = .slice A n c ∧ n ≤ c ∧ c ≤ maxLen ∧ Row w A xs := by
  have h' := h
  rcases h.2 with ⟨rfl, rfl⟩ | ⟨g, cap, cur, rfl, _, _, h1, h2, _⟩
  · exact ⟨none, 0, rfl, Nat.le_refl _, Nat.zero_le _, Row.of_own h'⟩
  · exact ⟨_, cap, rfl, h1, h2, Row.of_own h'⟩
end Go.Proofs.YtbekhaioddmliaaDoor
