/- Words for memory that the walks of this seat share: what a later world keeps of an earlier one; a slice that reads as a list. No program is in sight here. -/
import Derived.WalkKit
import Derived.Lib.Hide
import Derived.Deep.Draws
namespace Go.Proofs.YtbekhaioddmliaaDoor
set_option linter.unusedVariables false
set_option linter.unusedSimpArgs false
open Go Go.RowKit

theorem add_of_add (a : Addr) (i j : Nat) : (a.add i).add j = a.add (i + j) := by
  unfold Addr.add
  by_cases hi : i = 0 <;> by_cases hj : j = 0 <;> simp [hi, hj, Nat.add_assoc]

/-- All that lay in memory lies there as it did. -/
def Ext (w w' : World) : Prop := Below w.heap.size w w'
theorem Ext.refl (w : World) : Ext w w := Below.refl _ _
theorem Ext.size {w w' : World} (h : Ext w w') : w.heap.size ≤ w'.heap.size := Below.size h
theorem Ext.trans {a b c : World} (h : Ext a b) (k : Ext b c) : Ext a c := Below.trans h (Below.mono k h.size)
theorem Ext.alloc {a w : World} (h : Ext a w) (o : Obj) : Ext a (w.alloc o) := Below.alloc h h.size o
theorem Ext.drew {a w : World} (h : Ext a w) : Ext a w.drew := Below.drew h
theorem Ext.drewN {a w : World} (h : Ext a w) (n : Nat) : Ext a (w.drewN n) := ⟨h.os, h.tape, h.output, h.size, h.block⟩
theorem Ext.grown {a w w' : World} {row : Option Nat} (h : Ext a w) (hg : w.grownBy w' row) (hr : ∀ k, row = some k → a.heap.size ≤ k) : Ext a w' := Below.grown h hg h.size hr
theorem Ext.cell {w w' : World} (h : Ext w w') {a : Addr} {v : Value} (hc : w.cell? a = some v) : w'.cell? a = some v :=
  (Below.cell h (World.block_lt_of_cell? w a hc)).trans hc
theorem Ext.own {w w' : World} (h : Ext w w') {base : Nat} {e : TypeId} {size : Nat} {v : Value} {n : Nat} {xs : List Value} (ho : w.ownsRow base e size v n xs) : w'.ownsRow base e size v n xs := by
  obtain ⟨h1, h2⟩ := ho
  refine ⟨h1, ?_⟩
  rcases h2 with h2 | ⟨g, cap, cur, hv, hg, hh, r⟩
  · exact Or.inl h2
  · have hlt : g < w.heap.size := by
      rcases Nat.lt_or_ge g w.heap.size with h' | h'
      · exact h'
      · rw [Array.getElem?_eq_none h'] at hh; cases hh
    exact Or.inr ⟨g, cap, cur, hv, hg, (h.block g hlt).trans hh, r⟩

/-- Behind the address lie the cells xs (where there are any). -/
def Row (w : World) (A : Option Addr) (xs : List Value) : Prop :=
  xs ≠ [] → ∃ ad, A = some ad ∧ ∀ j u, xs[j]? = some u → w.cell? (ad.add j) = some u
theorem Row.nil (w : World) (A : Option Addr) : Row w A [] := fun h => absurd rfl h
theorem Row.ext {w w' : World} {A : Option Addr} {xs : List Value} (hr : Row w A xs) (h : Ext w w') : Row w' A xs := fun hn =>
  let ⟨ad, e, hc⟩ := hr hn; ⟨ad, e, fun j u hu => h.cell (hc j u hu)⟩
theorem Row.at_ {w : World} {A : Option Addr} {xs : List Value} (hr : Row w A xs) {k : Nat} {u : Value} (hk : xs[k]? = some u) : ∃ ad, A = some ad ∧ w.cell? (ad.add k) = some u := by
  obtain ⟨ad, e, hc⟩ := hr (by rintro rfl; simp at hk)
  exact ⟨ad, e, hc k u hk⟩
theorem Row.drop {w : World} {A : Option Addr} {xs : List Value} (hr : Row w A xs) (k : Nat) : Row w (A.map (·.add k)) (xs.drop k) := fun hn => by
  obtain ⟨ad, rfl, hc⟩ := hr (by rintro rfl; simp at hn)
  exact ⟨ad.add k, rfl, fun j u hu => by rw [add_of_add]; exact hc _ u (by rw [← hu, List.getElem?_drop])⟩
theorem Row.take {w : World} {A : Option Addr} {xs : List Value} (hr : Row w A xs) (k : Nat) : Row w A (xs.take k) := fun hn => by
  obtain ⟨ad, rfl, hc⟩ := hr (by rintro rfl; simp at hn)
  refine ⟨ad, rfl, fun j u hu => hc _ u ?_⟩
  rw [List.getElem?_take] at hu
  split at hu
  · exact hu
  · cases hu
theorem Row.of_own {w : World} {base : Nat} {e : TypeId} {size : Nat} {A : Option Addr} {n c : Nat} {xs : List Value} (h : w.ownsRow base e size (.slice A n c) n xs) : Row w A xs := fun hn => by
  rcases h.2 with ⟨_, rfl⟩ | ⟨g, cap, cur, hv, _⟩
  · exact absurd (List.eq_nil_of_length_eq_zero (by simpa using h.1)) hn
  · injection hv with hA
    subst hA
    exact ⟨_, rfl, h.cells (g := g) rfl⟩

/-- The cells of bytes. -/
def bcs (l : List UInt8) : List Value := l.map fun x => .int .u8 x.toNat
theorem bcs_len (l : List UInt8) : (bcs l).length = l.length := by simp [bcs]
theorem bcs_at (l : List UInt8) {k : Nat} (h : k < l.length) : (bcs l)[k]? = some (.int .u8 l[k].toNat) := by
  unfold bcs; rw [List.getElem?_map, List.getElem?_eq_getElem h]; rfl

/-- A slice value that reads as bytes. -/
def Bs (w : World) (v : Value) (l : List UInt8) : Prop := ∃ A c, v = .slice A l.length c ∧ l.length ≤ c ∧ c ≤ maxLen ∧ Row w A (bcs l)
theorem Bs.ext {w w' : World} {v : Value} {l : List UInt8} (hb : Bs w v l) (h : Ext w w') : Bs w' v l :=
  let ⟨A, c, e, h1, h2, hr⟩ := hb; ⟨A, c, e, h1, h2, hr.ext h⟩
theorem Bs.nil (w : World) : Bs w (.slice none 0 0) [] := ⟨none, 0, rfl, Nat.le_refl _, Nat.zero_le _, Row.nil _ _⟩

/-- A slice value that reads as a list of one-cell values. -/
def Vs (w : World) (v : Value) (xs : List Value) : Prop := ∃ A c, v = .slice A xs.length c ∧ xs.length ≤ c ∧ c ≤ maxLen ∧ Row w A xs
theorem Vs.ext {w w' : World} {v : Value} {xs : List Value} (hb : Vs w v xs) (h : Ext w w') : Vs w' v xs :=
  let ⟨A, c, e, h1, h2, hr⟩ := hb; ⟨A, c, e, h1, h2, hr.ext h⟩
theorem Vs.nil (w : World) : Vs w (.slice none 0 0) [] := ⟨none, 0, rfl, Nat.le_refl _, Nat.zero_le _, Row.nil _ _⟩
theorem Vs.of_own {w : World} {base : Nat} {e : TypeId} {v : Value} {n : Nat} {xs : List Value} (h : w.ownsRow base e 1 v n xs) : Vs w v xs := by
  have hn : xs.length = n := by have := h.1; omega
  have h' := h
  rcases h.2 with ⟨rfl, rfl⟩ | ⟨g, cap, cur, rfl, _, _, h1, h2, _⟩
  · rw [List.eq_nil_of_length_eq_zero hn]; exact Vs.nil w
  · exact ⟨_, cap, by rw [hn], by omega, h2, Row.of_own h'⟩
/-- The cells of ints. -/
def zcs (l : List Int) : List Value := l.map fun z => .int .i64 z
theorem foldl_push (l : List UInt8) : ∀ s : ByteArray, (l.map fun x => (x.toNat : Int)).foldl (fun r n => r.push (UInt8.ofNat n.toNat)) s = ⟨s.data ++ l.toArray⟩ := by
  induction l with
  | nil => intro s; simp
  | cons x l ih =>
    intro s
    simp only [List.map_cons, List.foldl_cons]
    rw [ih]
    simp [ByteArray.push, UInt8.ofNat_toNat]
/-- 'string(b)'. -/
theorem run_bytes_str {P : Program} (w : World) (src dst e : TypeId) (A : Option Addr) (c : Nat) (l : List UInt8)
    (hs : P.underlying src = some (.slice e)) (he : P.underlying e = some (.int .u8)) (hd : P.underlying dst = some .string) (hr : Row w A (bcs l)) :
    (convert src dst (.slice A l.length c)).run P w = .ok (.string ⟨l.toArray⟩) w := by
  rw [run_convert_bytes_string w src dst e A l.length c hs he hd]
  rcases A with _ | ad
  · have : l = [] := by
      rcases l with _ | ⟨x, l⟩
      · rfl
      · obtain ⟨ad, h, _⟩ := hr (by simp [bcs])
        cases h
    subst this
    rfl
  · have hl := run_loadCells (P := P) w ad l.length (fun j => .int .u8 ((l[j]?.map UInt8.toNat).getD 0)) (fun j hj => by
      obtain ⟨ad', h, hc⟩ := hr.at_ (bcs_at l hj)
      injection h with h
      subst h
      rw [hc, List.getElem?_eq_getElem hj]
      rfl)
    have e1 : (List.range l.length).map (fun j => Value.int .u8 ((l[j]?.map UInt8.toNat).getD 0 : Nat)) = ((l.map fun x => (x.toNat : Int)).map (Value.int .u8)) := by
      apply List.ext_getElem
      · simp
      · intro i h1 h2
        have hi : i < l.length := by simpa using h1
        simp [List.getElem?_eq_getElem hi]
    rw [e1] at hl
    rw [run_bytesToString w ad l.length c _ hl, foldl_push]
    rw [show ByteArray.empty.data = #[] from rfl, Array.empty_append]
/-- 'b[n:]'. -/
theorem Bs.cut {w : World} {A : Option Addr} {c n : Nat} {l : List UInt8} (hr : Row w A (bcs l)) (hc : l.length ≤ c) (hm : c ≤ maxLen) (hn : n ≤ l.length) :
    Bs w (.slice (if c = n then A else Option.map (fun x => x.add n) A) (l.length - n) (c - n)) (l.drop n) := by
  refine ⟨_, c - n, by rw [List.length_drop], by rw [List.length_drop]; omega, by omega, ?_⟩
  by_cases h : c = n
  · rw [List.drop_eq_nil_of_le (by omega)]; exact Row.nil _ _
  · rw [if_neg h]
    unfold bcs
    rw [List.map_drop]
    exact hr.drop n
/-- 'string(b[:n])'. -/
theorem run_bytes_str_part {P : Program} (w : World) (src dst e : TypeId) (A : Option Addr) (c : Nat) (l : List UInt8) (n : Nat)
    (hs : P.underlying src = some (.slice e)) (he : P.underlying e = some (.int .u8)) (hd : P.underlying dst = some .string) (hn : n ≤ l.length) (hr : Row w A (bcs l)) :
    (convert src dst (.slice A n c)).run P w = .ok (.string ⟨(l.take n).toArray⟩) w := by
  have h := run_bytes_str (P := P) w src dst e A c (l.take n) hs he hd (by unfold bcs; rw [List.map_take]; exact hr.take n)
  rw [List.length_take, Nat.min_eq_left hn] at h
  exact h
end Go.Proofs.YtbekhaioddmliaaDoor
