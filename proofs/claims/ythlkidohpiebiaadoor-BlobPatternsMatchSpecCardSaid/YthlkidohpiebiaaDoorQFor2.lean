/- More words for memory: a slice whose elements are read by a relation; making room. No program is in sight here. -/
import Derived.Test.YthlkidohpiebiaaDoorQBm4
import Derived.Test.YthlkidohpiebiaaDoorQBm1
import Derived.Test.YthlkidohpiebiaaDoorQBmX
namespace Go.Proofs.YthlkidohpiebiaaDoor
open Go Go.RowKit
/-- A place at which a walk is to stand still. -/
def Stop (p : Prop) : Prop := p
/-- A slice value whose elements, of sz cells each, are the things of a list. -/
def SL {α : Type} (w : World) (sz : Nat) (R : List Value → α → Prop) (v : Value) (L : List α) : Prop :=
  ∃ A c, v = .slice A L.length c ∧ L.length ≤ c ∧ c ≤ maxLen ∧ ∀ i (h : i < L.length), ∃ ad vs, A = some ad ∧ vs.length = sz ∧ R vs L[i] ∧ ∀ j u, vs[j]? = some u → w.cell? (ad.add (i * sz + j)) = some u
theorem SL.ext {α : Type} {w w' : World} {sz : Nat} {R R' : List Value → α → Prop} {v : Value} {L : List α} (h : SL w sz R v L) (hE : Ext w w') (hR : ∀ vs x, R vs x → R' vs x) : SL w' sz R' v L := by
  obtain ⟨A, c, e, h1, h2, hr⟩ := h
  refine ⟨A, c, e, h1, h2, fun i hi => ?_⟩
  obtain ⟨ad, vs, a1, a2, a3, a4⟩ := hr i hi
  exact ⟨ad, vs, a1, a2, hR _ _ a3, fun j u hu => hE.cell (a4 j u hu)⟩
theorem SL.nil {α : Type} (w : World) (sz : Nat) (R : List Value → α → Prop) : SL w sz R (.slice none 0 0) [] := ⟨none, 0, rfl, Nat.le_refl _, Nat.zero_le _, fun i h => absurd h (by simp)⟩
/-- Bytes as an element. -/
def BsE (w : World) (vs : List Value) (l : List UInt8) : Prop := ∃ v, vs = [v] ∧ Bs w v l
theorem BsE.ext {w w' : World} {vs : List Value} {l : List UInt8} (h : BsE w vs l) (hE : Ext w w') : BsE w' vs l := let ⟨v, e, h⟩ := h; ⟨v, e, h.ext hE⟩
/-- A slice of slices of bytes. -/
def BBs (w : World) (v : Value) (L : List (List UInt8)) : Prop := SL w 1 (BsE w) v L
theorem BBs.ext {w w' : World} {v : Value} {L : List (List UInt8)} (h : BBs w v L) (hE : Ext w w') : BBs w' v L := SL.ext h hE fun _ _ h => h.ext hE
theorem SL.of_own {α : Type} {w : World} {base : Nat} {e : TypeId} {v : Value} {xs : List Value} {R : List Value → α → Prop} {L : List α} (h : w.ownsRow base e 1 v L.length xs) (hR : ∀ i (h : i < L.length) u, xs[i]? = some u → R [u] L[i]) : SL w 1 R v L := by
  have hn : xs.length = L.length := by have := h.1; omega
  obtain ⟨A, c, rfl, h1, h2, hr⟩ := Row.of_own' h
  refine ⟨A, c, rfl, h1, h2, fun i hi => ?_⟩
  obtain ⟨ad, rfl, hc⟩ := hr.at_ (List.getElem?_eq_getElem (show i < xs.length by omega))
  refine ⟨ad, [xs[i]'(by omega)], rfl, rfl, hR i hi _ (List.getElem?_eq_getElem _), fun j u hu => ?_⟩
  match j, hu with
  | 0, hu => simp at hu; subst hu; simpa using hc
theorem BBs.at_ {w : World} {A : Option Addr} {n c : Nat} {L : List (List UInt8)} (h : BBs w (.slice A n c) L) {i : Nat} (hi : i < L.length) : ∃ ad B d, A = some ad ∧ w.cell? (ad.add i) = some (.slice B (L[i]'hi).length d) ∧ (L[i]'hi).length ≤ d ∧ d ≤ maxLen ∧ Row w B (bcs (L[i]'hi)) := by
  obtain ⟨A', c', e, _, _, hr⟩ := h
  obtain ⟨ad, vs, a1, a2, ⟨v, rfl, ⟨B, d, rfl, h1, h2, h3⟩⟩, a4⟩ := hr i hi
  injection e with e1 e2 e3
  subst e1
  exact ⟨ad, B, d, a1, by simpa using a4 0 _ rfl, h1, h2, h3⟩
end Go.Proofs.YthlkidohpiebiaaDoor


/- How patterns fit, row by row (plain lists; no program in sight). -/
namespace Go.Proofs.YthlkidohpiebiaaDoor
set_option linter.unusedVariables false
set_option linter.unusedSimpArgs false
open Go
/-- The next row: 'st': the pattern's part stands for any number of things; else for one thing k with 'o k'. -/
def stepB (st : Bool) (o r : Nat → Bool) : Nat → Bool
  | 0 => st && r 0
  | k + 1 => if st = true then r (k + 1) || stepB st o r k else r k && o k
def rowB {α : Type} (many : α → Bool) (one : α → Nat → Bool) : List α → (Nat → Bool) → (Nat → Bool)
  | [], r => r
  | p :: l, r => rowB many one l (stepB (many p) (one p) r)
/-- The first row. -/
def row0B (k : Nat) : Bool := k == 0
theorem rowB_snoc {α : Type} (many : α → Bool) (one : α → Nat → Bool) (p : α) : ∀ (l : List α) (r : Nat → Bool), rowB many one (l ++ [p]) r = stepB (many p) (one p) (rowB many one l r)
  | [], r => rfl
  | q :: l, r => rowB_snoc many one p l _
theorem rowB_take {α : Type} (many : α → Bool) (one : α → Nat → Bool) (l : List α) (r : Nat → Bool) {k : Nat} (h : k < l.length) : rowB many one (l.take (k + 1)) r = stepB (many l[k]) (one l[k]) (rowB many one (l.take k) r) := by
  rw [List.take_succ_eq_append_getElem h, rowB_snoc]
theorem stepB_zero (st : Bool) (o r : Nat → Bool) : stepB st o r 0 = (st && r 0) := rfl
theorem stepB_many (o r : Nat → Bool) (k : Nat) : stepB true o r (k + 1) = (r (k + 1) || stepB true o r k) := rfl
theorem stepB_one (o r : Nat → Bool) (k : Nat) : stepB false o r (k + 1) = (r k && o k) := rfl
/-- A row of which the first k places are written. -/
def tab (r : Nat → Bool) (m k : Nat) : List Bool := (List.range (m + 1)).map fun j => decide (j < k) && r j
theorem tab_len (r : Nat → Bool) (m k : Nat) : (tab r m k).length = m + 1 := by simp [tab]
theorem tab_zero (r : Nat → Bool) (m : Nat) : tab r m 0 = List.replicate (m + 1) false := by
  apply List.ext_getElem (by simp [tab])
  intro i h1 h2
  simp [tab]
theorem tab_at (r : Nat → Bool) {m k j : Nat} (h : j ≤ m) : (tab r m k)[j]? = some (decide (j < k) && r j) := by
  unfold tab
  rw [List.getElem?_map, List.getElem?_range (by omega)]; rfl
theorem tab_get (r : Nat → Bool) {m k j : Nat} (h : j ≤ m) (hk : j < k) : geti (tab r m k) (j : Int) = some (r j) := by
  unfold geti
  rw [if_pos (by omega), show ((j : Int)).toNat = j from rfl, tab_at r h, decide_eq_true hk]; rfl
theorem tab_set (r : Nat → Bool) {m k : Nat} {b : Bool} (h : k ≤ m) (hb : b = r k) : seti (tab r m k) (k : Int) b = tab r m (k + 1) := by
  subst hb
  unfold seti
  rw [show ((k : Int)).toNat = k from rfl]
  apply List.ext_getElem? 
  intro i
  rw [List.getElem?_set]
  by_cases hi : k = i
  · subst hi
    rw [if_pos rfl, if_pos (by rw [tab_len]; omega), tab_at r h]; simp
  · rw [if_neg hi]
    by_cases him : i ≤ m
    · rw [tab_at r him, tab_at r him]
      congr 2
      by_cases h1 : i < k
      · simp [h1, show i < k + 1 from by omega]
      · simp [h1, show ¬ i < k + 1 from by omega]
    · rw [List.getElem?_eq_none (by rw [tab_len]; omega), List.getElem?_eq_none (by rw [tab_len]; omega)]
theorem tab_first (m : Nat) : seti (tab row0B m 0) (0 : Int) true = tab row0B m (m + 1) := by
  apply List.ext_getElem?
  intro i
  show ((tab row0B m 0).set 0 true)[i]? = _
  rw [List.getElem?_set]
  by_cases hi : 0 = i
  · subst hi
    rw [if_pos rfl, if_pos (by rw [tab_len]; omega), tab_at _ (by omega)]; simp [row0B]
  · rw [if_neg hi]
    by_cases him : i ≤ m
    · rw [tab_at _ him, tab_at _ him]
      have : row0B i = false := by simp [row0B]; omega
      rw [this]; simp
    · rw [List.getElem?_eq_none (by rw [tab_len]; omega), List.getElem?_eq_none (by rw [tab_len]; omega)]
theorem tab_mk0 (r : Nat → Bool) (m : Nat) {l : Int} (h : l = ((m + 1 : Nat) : Int)) : mk0 l false = tab r m 0 := by
  subst h
  rw [tab_zero]; rfl
/-- A part of a path fits a part of a pattern. -/
def partFitsB (p s : List UInt8) : Bool := rowB (fun c : UInt8 => c == 42) (fun c k => match s[k]? with | some x => c == 63 || c == x | none => false) p row0B s.length
/-- A path's parts fit those of a pattern. -/
def fitsB (p s : List (List UInt8)) : Bool := rowB (fun c => c == [42, 42]) (fun c k => match s[k]? with | some t => partFitsB c t | none => false) p row0B s.length
/-- A loop that goes from state to state. -/
theorem steps_loop {S R : Type} (n0 : Nat) (st : Nat → S) {f : Nat → S → Option R} {z : Option R} (hstep : ∀ n i, i < n0 → f (n + 1) (st i) = f n (st (i + 1))) (hend : ∀ n, f (n + 1) (st n0) = z) : ∀ n, n0 < n → f n (st 0) = z := by
  have gen : ∀ (j n i : Nat), i + j = n0 → j < n → f n (st i) = z := by
    intro j
    induction j with
    | zero =>
      intro n i h hn
      obtain rfl : i = n0 := by omega
      obtain ⟨n, rfl⟩ : ∃ k, n = k + 1 := ⟨n - 1, by omega⟩
      exact hend n
    | succ j ih =>
      intro n i h hn
      obtain ⟨n, rfl⟩ : ∃ k, n = k + 1 := ⟨n - 1, by omega⟩
      rw [hstep n i (by omega)]
      exact ih n (i + 1) (by omega) (by omega)
  exact fun n hn => gen n0 n 0 (Nat.zero_add _) hn
end Go.Proofs.YthlkidohpiebiaaDoor


/- Loops over a list, without fuel. No program in sight. -/
namespace Go.Proofs.YthlkidohpiebiaaDoor
set_option linter.unusedVariables false
set_option linter.unusedSimpArgs false
open Go Go.RowKit
/-- More rounds than any loop over a slice makes. -/
def big : Nat := 18446744073709551616
theorem geti_nat {α : Type} (xs : List α) (i : Nat) : geti xs (i : Int) = xs[i]? := by unfold geti; rw [if_pos (by omega)]; rfl
theorem geti_lt {α : Type} (xs : List α) {i : Nat} (h : i < xs.length) : geti xs (i : Int) = some xs[i] := by rw [geti_nat, List.getElem?_eq_getElem h]
theorem wrap_id {n : Int} (h0 : -9223372036854775808 ≤ n) (h : n ≤ 9223372036854775807) : IntKind.i64.wrap n = n := by
  simp [IntKind.wrap, IntKind.signed, IntKind.bits]
  omega
end Go.Proofs.YthlkidohpiebiaaDoor


/- More on loops over a list, without fuel. No program in sight. -/
namespace Go.Proofs.YthlkidohpiebiaaDoor
set_option linter.unusedVariables false
set_option linter.unusedSimpArgs false
open Go Go.RowKit
theorem br_pos {R : Type} {p : Prop} [Decidable p] {x y : Option R} (h : p) : br (decide p) x y = x := by rw [decide_eq_true h, br_true]
theorem br_neg {R : Type} {p : Prop} [Decidable p] {x y : Option R} (h : ¬ p) : br (decide p) x y = y := by rw [decide_eq_false h, br_false]
end Go.Proofs.YthlkidohpiebiaaDoor

