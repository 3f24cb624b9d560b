/- Maps keyed by strings that the call made: a store, a look-up, len. No program is in sight here. -/
import Derived.Test.YthlkidohpiebiaaBase
import Derived.Maps.OwnOps
import Derived.Carry
namespace Go.Proofs.Ythlkidohpiebiaa
open Go Go.RowKit
theorem ba_law : LawfulBEq ByteArray where
  eq_of_beq h := (MapKept.bytes_beq _ _).1 h
  rfl := (MapKept.bytes_beq _ _).2 rfl
attribute [local instance] ba_law
/-- What stands at a key in a list of pairs. -/
def aget (L : List (ByteArray × Value)) (s : ByteArray) : Option Value := (L.find? (fun p => s == p.1)).map (·.2)
def aput : List (ByteArray × Value) → ByteArray → Value → List (ByteArray × Value)
  | [], s, v => [(s, v)]
  | p :: L, s, v => if s == p.1 then (s, v) :: L else p :: aput L s v
theorem aget_aput (L : List (ByteArray × Value)) (s t : ByteArray) (v : Value) : aget (aput L s v) t = if t = s then some v else aget L t := by
  induction L with
  | nil =>
    by_cases h : t = s <;> simp [aput, aget, h]
  | cons p L ih =>
    unfold aput
    by_cases h1 : s = p.1
    · simp only [h1, beq_self_eq_true, if_true]
      by_cases h : t = p.1 <;> simp [aget, h]
    · have : (s == p.1) = false := by simp [h1]
      rw [this]
      simp only [Bool.false_eq_true, if_false]
      by_cases h : t = p.1
      · subst h
        rw [if_neg (fun e => h1 e.symm)]
        simp [aget]
      · have h2 : (t == p.1) = false := by simp [h]
        have e1 : aget (p :: aput L s v) t = aget (aput L s v) t := by simp [aget, h2]
        have e2 : aget (p :: L) t = aget L t := by simp [aget, h2]
        rw [e1, e2, ih]
theorem aput_keys (L : List (ByteArray × Value)) (s : ByteArray) (v : Value) : (s ∈ L.map (·.1) → (aput L s v).map (·.1) = L.map (·.1)) ∧ (s ∉ L.map (·.1) → (aput L s v).map (·.1) = L.map (·.1) ++ [s]) := by
  induction L with
  | nil => simp [aput]
  | cons p L ih =>
    unfold aput
    by_cases h1 : s = p.1
    · simp [h1]
    · have : (s == p.1) = false := by simp [h1]
      rw [this]
      simp only [Bool.false_eq_true, if_false, List.map_cons]
      constructor
      · intro h
        rw [ih.1 ((List.mem_cons.1 h).resolve_left h1)]
      · intro h
        rw [ih.2 (fun h2 => h (List.mem_cons_of_mem _ h2))]
        rfl
/-- Block r is a map that holds the pairs L, in the order of their coming. -/
def MapIs (w : World) (r : Nat) (L : List (ByteArray × Value)) : Prop :=
  ∃ es : Array MapEntry, w.heap[r]? = some (.map es es.size) ∧ es.toList.map (fun e => (e.key, e.val)) = L.map (fun p => (Value.string p.1, p.2)) ∧ (∀ i (h : i < es.size), es[i].born = i)
/-- .. that has f(s) at each key s. -/
def MapOf (w : World) (r : Nat) (f : ByteArray → Option Value) : Prop := ∃ L, MapIs w r L ∧ (L.map (·.1)).Nodup ∧ ∀ s, aget L s = f s
theorem MapIs.lt {w : World} {r : Nat} {L : List (ByteArray × Value)} (h : MapIs w r L) : r < w.heap.size := by
  obtain ⟨es, hb, _⟩ := h
  exact (Array.getElem?_eq_some_iff.1 hb).1
theorem MapIs.block {w w' : World} {r : Nat} {L : List (ByteArray × Value)} (h : MapIs w r L) (hb : w'.heap[r]? = w.heap[r]?) : MapIs w' r L := by
  obtain ⟨es, h1, h2⟩ := h
  exact ⟨es, hb.trans h1, h2⟩
theorem MapIs.ext {w w' : World} {r : Nat} {L : List (ByteArray × Value)} (h : MapIs w r L) (hE : Ext w w') : MapIs w' r L := h.block (Below.block hE r h.lt)
theorem MapIs.grown {w w' : World} {r : Nat} {L : List (ByteArray × Value)} {row : Option Nat} (h : MapIs w r L) (hg : w.grownBy w' row) (hne : some r ≠ row) : MapIs w' r L := h.block (hg.block r h.lt hne)
theorem MapOf.lt {w : World} {r : Nat} {f : ByteArray → Option Value} (h : MapOf w r f) : r < w.heap.size := let ⟨_, h, _⟩ := h; h.lt
theorem MapOf.ext {w w' : World} {r : Nat} {f : ByteArray → Option Value} (h : MapOf w r f) (hE : Ext w w') : MapOf w' r f := let ⟨L, h, k⟩ := h; ⟨L, h.ext hE, k⟩
theorem MapOf.grown {w w' : World} {r : Nat} {f : ByteArray → Option Value} {row : Option Nat} (h : MapOf w r f) (hg : w.grownBy w' row) (hne : some r ≠ row) : MapOf w' r f := let ⟨L, h, k⟩ := h; ⟨L, h.grown hg hne, k⟩
theorem MapIs.made (w : World) : MapIs (w.alloc (.map #[] 0)) w.heap.size [] := ⟨#[], heap_alloc_new w _, rfl, fun i h => absurd h (by simp)⟩
theorem MapOf.made (w : World) : MapOf (w.alloc (.map #[] 0)) w.heap.size (fun _ => none) := ⟨[], MapIs.made w, by simp, fun _ => rfl⟩
/-- Rows of cells do not see what happens in a map. -/
theorem Row.mapped {w w' : World} {A : Option Addr} {xs : List Value} {r : Nat} {f : ByteArray → Option Value} (hr : Row w A xs) (hm : MapOf w r f) (hg : w.grownBy w' (some r)) : Row w' A xs := fun hn => by
  obtain ⟨ad, e, hc⟩ := hr hn
  refine ⟨ad, e, fun j u hu => hg.cell (hc j u hu) ?_⟩
  intro he
  injection he with he
  obtain ⟨L, ⟨es, hb, _⟩, _⟩ := hm
  have := hc j u hu
  unfold World.cell? at this
  rw [he, hb] at this
  cases this
theorem findNow_string (s : ByteArray) : ∀ (es : List MapEntry) (L : List (ByteArray × Value)) (i : Nat), es.map (fun e => (e.key, e.val)) = L.map (fun p => (Value.string p.1, p.2)) →
    Instr.findNow .string (.string s) es i = some ((L.findIdx? (fun p => s == p.1)).map fun k => (i + k, (((L[k]?).map (·.2)).getD (.bool false)))) := by
  intro es
  induction es with
  | nil =>
    intro L i h
    rcases L with _ | ⟨p, L⟩
    · rfl
    · simp at h
  | cons e es ih =>
    intro L i h
    rcases L with _ | ⟨p, L⟩
    · simp at h
    · simp only [List.map_cons, List.cons.injEq, Prod.mk.injEq] at h
      obtain ⟨⟨h1, h2⟩, h3⟩ := h
      unfold Instr.findNow
      rw [h1, h2]
      simp only [Instr.sameNow]
      by_cases hs : s = p.1
      · subst hs
        rw [List.findIdx?_cons]
        simp
      · have hb : (s == p.1) = false := by simp [hs]
        rw [hb]
        simp only
        rw [ih L (i + 1) h3, List.findIdx?_cons, hb]
        simp only [Bool.false_eq_true, if_false, Option.map_map]
        congr 1
        cases List.findIdx? (fun p => s == p.1) L with
        | none => rfl
        | some k => simp; omega
theorem findIdx_none {L : List (ByteArray × Value)} {s : ByteArray} (h : L.findIdx? (fun p => s == p.1) = none) : aget L s = none ∧ s ∉ L.map (·.1) := by
  rw [List.findIdx?_eq_none_iff] at h
  constructor
  · unfold aget
    rw [List.find?_eq_none.2 (fun x hx => by simpa using h x hx)]
    rfl
  · intro hm
    obtain ⟨p, hp, rfl⟩ := List.mem_map.1 hm
    simpa using h p hp
theorem findIdx_some {s : ByteArray} : ∀ {L : List (ByteArray × Value)} {k : Nat}, L.findIdx? (fun p => s == p.1) = some k → ∃ h : k < L.length, L[k].1 = s ∧ aget L s = some L[k].2 ∧ ∀ v, aput L s v = L.set k (s, v) := by
  intro L
  induction L with
  | nil => intro k h; simp at h
  | cons p L ih =>
    intro k h
    rw [List.findIdx?_cons] at h
    by_cases hs : s = p.1
    · simp [hs] at h
      subst h
      refine ⟨by simp, hs.symm, by simp [aget, hs], fun v => by simp [aput, hs]⟩
    · have hb : (s == p.1) = false := by simp [hs]
      rw [hb] at h
      simp only [Bool.false_eq_true, if_false, Option.map_eq_some_iff] at h
      obtain ⟨j, hj, rfl⟩ := h
      obtain ⟨h1, h2, h3, h4⟩ := ih hj
      refine ⟨by simp; omega, by simpa using h2, ?_, fun v => ?_⟩
      · have : aget (p :: L) s = aget L s := by simp [aget, hb]
        rw [this, h3]; simp
      · unfold aput
        rw [hb]
        simp [h4 v]
theorem checkKey_string {P : Program} {w : World} {kt : TypeId} (hk : P.underlying kt = some .string) (b : Bool) (s : ByteArray) : (Instr.checkKey b 10000 kt (.string s)).run P w = .ok () w := by
  rw [show (10000 : Nat) = 9999 + 1 from rfl, Instr.checkKey]
  simp only [Sem.run_bind, run_underlying hk, Result.andThen_ok]
  rfl
section
variable {P : Program} {w : World} {r : Nat} {t kt et : TypeId}
theorem run_lookup_is {L : List (ByteArray × Value)} (h : MapIs w r L) (ht : P.underlying t = some (.map kt et)) (hk : P.underlying kt = some .string) {z : Value} (hz : (zeroValue et).run P w = .ok z w) (s : ByteArray) (ok : Bool) :
    (Instr.lookup t (.map (some r)) (.string s) ok).run P w = .ok (if ok then .tuple #[(aget L s).getD z, .bool (aget L s).isSome] else (aget L s).getD z) w := by
  obtain ⟨es, hb, hes, hborn⟩ := h
  have hf := findNow_string s es.toList L 0 hes
  unfold Instr.lookup
  simp only [Sem.run_bind, run_underlying ht, Result.andThen_ok, getObj, Sem.run, hb, checkKey_string hk, Sem.run_pure, Instr.findKey, run_underlying hk, hf]
  cases hi : L.findIdx? (fun p => s == p.1) with
  | none =>
    rw [(findIdx_none hi).1]
    simp [hz]
  | some k =>
    obtain ⟨h1, _, h3, _⟩ := findIdx_some hi
    rw [h3]
    simp [h1]
theorem run_update_is {L : List (ByteArray × Value)} (h : MapIs w r L) (ht : P.underlying t = some (.map kt et)) (hk : P.underlying kt = some .string) (s : ByteArray) (v : Value) :
    ∃ w', (Instr.mapUpdate t (.map (some r)) (.string s) v).run P w = .ok () w' ∧ MapIs w' r (aput L s v) ∧ w.grownBy w' (some r) := by
  have hlt := h.lt
  obtain ⟨es, hb, hes, hborn⟩ := h
  have hf := findNow_string s es.toList L 0 hes
  have hlen : es.size = L.length := by
    have := congrArg List.length hes
    simpa using this
  have grown : ∀ o : Obj, w.grownBy { w with heap := w.heap.setIfInBounds r o } (some r) := fun o => ⟨rfl, rfl, rfl, by simp, fun i _ hi => by
    simp only [Array.getElem?_setIfInBounds]
    rw [if_neg (fun e => hi (by rw [e]))]⟩
  unfold Instr.mapUpdate
  simp only [Sem.run_bind, run_underlying ht, Result.andThen_ok, getObj, Sem.run, hb, checkKey_string hk, Sem.run_pure, Instr.findKey, run_underlying hk, hf]
  cases hi : L.findIdx? (fun p => s == p.1) with
  | none =>
    have hap : ∀ L : List (ByteArray × Value), L.findIdx? (fun p => s == p.1) = none → aput L s v = L ++ [(s, v)] := by
      intro L
      induction L with
      | nil => intro _; rfl
      | cons p L ih =>
        intro h
        rw [List.findIdx?_cons] at h
        by_cases hs : (s == p.1) = true
        · rw [hs] at h; simp at h
        · have hb : (s == p.1) = false := by simpa using hs
          rw [hb] at h
          simp only [Bool.false_eq_true, if_false, Option.map_eq_none_iff] at h
          unfold aput
          rw [hb]
          simp [ih h]
    refine ⟨_, by simp [setObj, Sem.run, hb]; rfl, ⟨es.push { key := .string s, val := v, born := es.size }, by simp [hlt], ?_, ?_⟩, grown _⟩
    · rw [hap L hi]; simp [hes]
    · intro i h
      rw [Array.getElem_push]
      split
      · exact hborn i _
      · have : i = es.size := by simp at h; omega
        exact this.symm
  | some k =>
    obtain ⟨h1, h2, h3, h4⟩ := findIdx_some hi
    have hk' : k < es.size := by omega
    have hkey : es[k].key = .string s := by
      have := congrArg (fun l => l[k]?) hes
      simp only [List.getElem?_map, Array.getElem?_toList, Array.getElem?_eq_getElem hk', Option.map_some, List.getElem?_eq_getElem h1, Option.some.injEq, Prod.mk.injEq] at this
      rw [this.1, h2]
    refine ⟨_, by simp [setObj, Sem.run, hb, Array.getElem?_eq_getElem hk', hkey, Instr.keyThatStays, Instr.sameBits]; rfl, ⟨es.modify k fun e => { e with key := .string s, val := v }, by simp [hlt], ?_, ?_⟩, grown _⟩
    · rw [h4 v, Array.toList_modify, List.map_set, ← hes]
      apply List.ext_getElem?
      intro i
      simp only [List.getElem?_map, List.getElem?_modify, List.getElem?_set]
      by_cases hik : k = i
      · subst hik
        simp [hk']
      · simp [hik]
    · intro i h
      rw [Array.getElem_modify]
      split
      · exact hborn i _
      · exact hborn i _
theorem MapOf.put {w' : World} {r : Nat} {f : ByteArray → Option Value} {L : List (ByteArray × Value)} {s : ByteArray} {v : Value} (hN : (L.map (·.1)).Nodup) (hf : ∀ s, aget L s = f s) (h : MapIs w' r (aput L s v)) :
    MapOf w' r (fun t => if t = s then some v else f t) := by
  refine ⟨_, h, ?_, fun t => by rw [aget_aput, hf]⟩
  by_cases hs : s ∈ L.map (·.1)
  · rw [(aput_keys L s v).1 hs]; exact hN
  · rw [(aput_keys L s v).2 hs]
    rw [List.nodup_append]
    exact ⟨hN, by simp, fun a ha b hb => by simp at hb; subst hb; rintro rfl; exact hs ha⟩
/-- 'm[s] = v'. -/
theorem wp_mapput {ops : Array Oper} {rest : List Oper} {o : Oper} {a : Act} {Q : Exit → Act → World → Prop} {w0 : World} (hgd : o.guard = none) {m k x : Operand}
    (ho : o.op = .mapUpdate t m k x) (ht : P.underlying t = some (.map kt et)) (hk : P.underlying kt = some .string) {f : ByteArray → Option Value} {s : ByteArray} {v : Value}
    (hm : MapOf w r f) (hE : Ext w0 w) (hr : w0.heap.size ≤ r) (e1 : a.eval m = .map (some r)) (e2 : a.eval k = .string s) (e3 : a.eval x = v)
    (h : ∀ w', MapOf w' r (fun t => if t = s then some v else f t) → Ext w0 w' → w.grownBy w' (some r) → wpList P ops Q rest (a.put o.dst undef) w') : wpList P ops Q (o :: rest) a w := by
  obtain ⟨L, hL, hN, hf⟩ := hm
  obtain ⟨w', hrun, h2, h3⟩ := run_update_is hL ht hk s v
  refine wpList_plain hgd fun K hK => ?_
  unfold Oper.wp execOp
  simp only [ho, Sem.run_bind, Sem.run_pure, Result.andThen_ok, e1, e2, e3, hrun]
  exact hK _ _ (h w' (MapOf.put hN hf h2) (hE.grown h3 (fun k hk => by injection hk with hk; omega)) h3)
/-- 'm[s]', 'v, ok := m[s]'. -/
theorem wp_mapget {ops : Array Oper} {rest : List Oper} {o : Oper} {a : Act} {Q : Exit → Act → World → Prop} (hgd : o.guard = none) {m k : Operand} {ok : Bool}
    (ho : o.op = .lookup t m k ok) (ht : P.underlying t = some (.map kt et)) (hk : P.underlying kt = some .string) {z : Value} (hz : ∀ w, (zeroValue et).run P w = .ok z w) {f : ByteArray → Option Value} {s : ByteArray}
    (hm : MapOf w r f) (e1 : a.eval m = .map (some r)) (e2 : a.eval k = .string s)
    (h : wpList P ops Q rest (a.put o.dst (if ok then .tuple #[(f s).getD z, .bool (f s).isSome] else (f s).getD z)) w) : wpList P ops Q (o :: rest) a w := by
  obtain ⟨L, hL, hN, hf⟩ := hm
  have hrun := run_lookup_is hL ht hk (hz w) s ok
  rw [hf] at hrun
  refine wpList_plain hgd fun K hK => ?_
  unfold Oper.wp execOp
  simp only [ho, Sem.run_bind, Sem.run_pure, Result.andThen_ok, e1, e2, hrun]
  exact hK _ _ h
end
end Go.Proofs.Ythlkidohpiebiaa
