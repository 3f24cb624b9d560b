/- More words for memory: a slice whose elements are read by a relation; making room. No program is in sight here. -/
import Derived.Test.YthlkidohpiebiaaApp
namespace Go.Proofs.Ythlkidohpiebiaa
open Go Go.RowKit
/-- A place at which a walk is to stand still. -/
def Stop (p : Prop) : Prop := p
theorem unstop {p : Prop} (h : Stop p) : p := h
theorem stop {p : Prop} (h : p) : Stop p := h
/-- A slice value whose elements, of sz cells each, are the things of a list. -/
def SL {α : Type} (w : World) (sz : Nat) (R : List Value → α → Prop) (v : Value) (L : List α) : Prop :=
  ∃ A c, v = .slice A L.length c ∧ L.length ≤ c ∧ c ≤ maxLen ∧ ∀ i (h : i < L.length), ∃ ad vs, A = some ad ∧ vs.length = sz ∧ R vs L[i] ∧ ∀ j u, vs[j]? = some u → w.cell? (ad.add (i * sz + j)) = some u
theorem SL.ext {α : Type} {w w' : World} {sz : Nat} {R R' : List Value → α → Prop} {v : Value} {L : List α} (h : SL w sz R v L) (hE : Ext w w') (hR : ∀ vs x, R vs x → R' vs x) : SL w' sz R' v L := by
  obtain ⟨A, c, e, h1, h2, hr⟩ := h
  refine ⟨A, c, e, h1, h2, fun i hi => ?_⟩
  obtain ⟨ad, vs, a1, a2, a3, a4⟩ := hr i hi
  exact ⟨ad, vs, a1, a2, hR _ _ a3, fun j u hu => hE.cell (a4 j u hu)⟩
theorem SL.nil {α : Type} (w : World) (sz : Nat) (R : List Value → α → Prop) : SL w sz R (.slice none 0 0) [] := ⟨none, 0, rfl, Nat.le_refl _, Nat.zero_le _, fun i h => absurd h (by simp)⟩
/-- Bytes as an element. -/
def BsE (w : World) (vs : List Value) (l : List UInt8) : Prop := ∃ v, vs = [v] ∧ Bs w v l
theorem BsE.ext {w w' : World} {vs : List Value} {l : List UInt8} (h : BsE w vs l) (hE : Ext w w') : BsE w' vs l := let ⟨v, e, h⟩ := h; ⟨v, e, h.ext hE⟩
/-- A slice of slices of bytes. -/
def BBs (w : World) (v : Value) (L : List (List UInt8)) : Prop := SL w 1 (BsE w) v L
theorem BBs.ext {w w' : World} {v : Value} {L : List (List UInt8)} (h : BBs w v L) (hE : Ext w w') : BBs w' v L := SL.ext h hE fun _ _ h => h.ext hE
theorem SL.of_own {α : Type} {w : World} {base : Nat} {e : TypeId} {v : Value} {xs : List Value} {R : List Value → α → Prop} {L : List α} (h : w.ownsRow base e 1 v L.length xs) (hR : ∀ i (h : i < L.length) u, xs[i]? = some u → R [u] L[i]) : SL w 1 R v L := by
  have hn : xs.length = L.length := by have := h.1; omega
  obtain ⟨A, c, rfl, h1, h2, hr⟩ := Row.of_own' h
  refine ⟨A, c, rfl, h1, h2, fun i hi => ?_⟩
  obtain ⟨ad, rfl, hc⟩ := hr.at_ (List.getElem?_eq_getElem (show i < xs.length by omega))
  refine ⟨ad, [xs[i]'(by omega)], rfl, rfl, hR i hi _ (List.getElem?_eq_getElem _), fun j u hu => ?_⟩
  match j, hu with
  | 0, hu => simp at hu; subst hu; simpa using hc
theorem BBs.at_ {w : World} {A : Option Addr} {n c : Nat} {L : List (List UInt8)} (h : BBs w (.slice A n c) L) {i : Nat} (hi : i < L.length) : ∃ ad B d, A = some ad ∧ w.cell? (ad.add i) = some (.slice B (L[i]'hi).length d) ∧ (L[i]'hi).length ≤ d ∧ d ≤ maxLen ∧ Row w B (bcs (L[i]'hi)) := by
  obtain ⟨A', c', e, _, _, hr⟩ := h
  obtain ⟨ad, vs, a1, a2, ⟨v, rfl, ⟨B, d, rfl, h1, h2, h3⟩⟩, a4⟩ := hr i hi
  injection e with e1 e2 e3
  subst e1
  exact ⟨ad, B, d, a1, by simpa using a4 0 _ rfl, h1, h2, h3⟩
/-- append(nil, make([]E, n)..). -/
theorem run_app_make {P : Program} (w0 w : World) (t ti ty e : TypeId) (size bytes : Nat) (hT : ElemT P t e size bytes) (hti : P.underlying ti = some (.int .i64)) (hE : Ext w0 w) (n : Nat) (hn : 0 < n) (hb : n * bytes ≤ 140737488355328) :
    ∃ cap w', (Builtin.append_ #[t, ti] ty #[.slice none 0 0, .int .i64 n]).run P w = .ok (.slice (some ⟨w.heap.size, 0, none⟩) n cap) w' ∧ n ≤ cap ∧ w'.ownsRow w0.heap.size e size (.slice (some ⟨w.heap.size, 0, none⟩) 0 cap) 0 [] ∧ Ext w0 w' := by
  obtain ⟨ht, hsz, hbp, i, z, hi, hz, hsize, hby, hzs⟩ := hT
  subst hsize
  subst hby
  have hnb : n ≤ n * i.bytes := Nat.le_mul_of_pos_right _ hbp
  have hw : IntKind.i64.wrap (n : Int) = n := by rw [IntKind.wrap_i64]; omega
  have h1 : ¬ ((n : Int) < 0) := by omega
  have h2 : ¬ (((n : Int) * (i.bytes : Int)) > 2 ^ 48) := by
    have : ((n : Int) * (i.bytes : Int)) = ((n * i.bytes : Nat) : Int) := by norm_cast
    omega
  have h3 : ¬ (Builtin.nextslicecap n 0 * i.bytes > 2 ^ 48) := by
    have : Builtin.nextslicecap n 0 = n := by unfold Builtin.nextslicecap; rw [if_pos (by omega)]
    rw [this]; omega
  have hm63 : n ≤ maxLen := by unfold maxLen; omega
  have hn0 : n ≠ 0 := by omega
  have h63' : ¬ (9223372036854775807 < (n : Int)) := by omega
  have h2' : ¬ (281474976710656 < (n : Int) * (i.bytes : Int)) := h2
  have h48' : ¬ (281474976710656 < Builtin.nextslicecap n 0 * i.bytes) := h3
  have hge := grownCap_ge w n 0 e
  have hne : ¬ (n * i.size = 0) := by have := Nat.mul_pos hn hsz; omega
  refine ⟨grownCap w n 0 e, w.drew.alloc (.cells (Builtin.zeroCells z.cells n ++ Builtin.zeroCells z.cells (grownCap w n 0 e - n)) e), ?_, hge, ?_, hE.drew.alloc _⟩
  · simp [Builtin.append_, run_underlying ht, run_underlying hti, sizeOf, typeInfo, hi, asInt, asIntOf, hw, h1, h2', h48', Builtin.firstCells, hne, zeroValue, hz, hn0, h63', Question.forced, newRow, grownCap]
  · refine ⟨by simp, .inr ⟨_, _, _, rfl, hE.size, heap_alloc_new w.drew _, Nat.zero_le _, grownCap_le_maxLen w n 0 e hm63, ?_, by simp⟩⟩
    simp only [Array.size_append, size_zeroCells, hzs, ← Nat.add_mul]
    congr 1
    omega
theorem wp_app_make {P : Program} {w0 w : World} {ops : Array Oper} {rest : List Oper} {o : Oper} {a : Act} {Q : Exit → Act → World → Prop} (hgd : o.guard = none) {s x : Operand}
    {t ti e : TypeId} {size bytes : Nat} (hT : ElemT P t e size bytes) (hti : P.underlying ti = some (.int .i64))
    (ho : o.op = .call { callee := .builtin .append, args := #[s, x], argTypes := #[t, ti] })
    {n : Nat} (hs : a.eval s = .slice none 0 0) (hx : a.eval x = .int .i64 n) (hE : Ext w0 w) (hn : 0 < n) (hb : n * bytes ≤ 140737488355328)
    (h : ∀ cap w', n ≤ cap → w'.ownsRow w0.heap.size e size (.slice (some ⟨w.heap.size, 0, none⟩) 0 cap) 0 [] → Ext w0 w' → wpList P ops Q rest (a.put o.dst (.slice (some ⟨w.heap.size, 0, none⟩) n cap)) w') : wpList P ops Q (o :: rest) a w := by
  refine wpList_plain hgd fun K hK => ?_
  obtain ⟨cap, w', hrun, h2, h3, h4⟩ := run_app_make (P := P) w0 w t ti o.type e size bytes hT hti hE n hn hb
  unfold Oper.wp execOp
  simp only [ho, resolve, invoke, builtin, Sem.run_bind, Sem.run_pure, Result.andThen_ok, List.map_toArray, List.map_cons, List.map_nil, hs, hx, hrun]
  exact hK _ _ (h cap w' h2 h3 h4)
end Go.Proofs.Ythlkidohpiebiaa
