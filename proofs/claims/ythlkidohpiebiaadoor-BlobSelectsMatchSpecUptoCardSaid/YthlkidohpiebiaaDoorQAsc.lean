/- More words for memory: a slice whose elements are read by a relation; making room. No program is in sight here. -/
import Derived.Test.YthlkidohpiebiaaDoorQBm4
import Derived.Test.YthlkidohpiebiaaDoorQBm1
import Derived.Test.YthlkidohpiebiaaDoorQBmX
namespace Go.Proofs.YthlkidohpiebiaaDoor
open Go Go.RowKit
/-- A place at which a walk is to stand still. -/
def Stop (p : Prop) : Prop := p
/-- A slice value whose elements, of sz cells each, are the things of a list. -/
def SL {α : Type} (w : World) (sz : Nat) (R : List Value → α → Prop) (v : Value) (L : List α) : Prop :=
  ∃ A c, v = .slice A L.length c ∧ L.length ≤ c ∧ c ≤ maxLen ∧ ∀ i (h : i < L.length), ∃ ad vs, A = some ad ∧ vs.length = sz ∧ R vs L[i] ∧ ∀ j u, vs[j]? = some u → w.cell? (ad.add (i * sz + j)) = some u
theorem SL.ext {α : Type} {w w' : World} {sz : Nat} {R R' : List Value → α → Prop} {v : Value} {L : List α} (h : SL w sz R v L) (hE : Ext w w') (hR : ∀ vs x, R vs x → R' vs x) : SL w' sz R' v L := by
  obtain ⟨A, c, e, h1, h2, hr⟩ := h
  refine ⟨A, c, e, h1, h2, fun i hi => ?_⟩
  obtain ⟨ad, vs, a1, a2, a3, a4⟩ := hr i hi
  exact ⟨ad, vs, a1, a2, hR _ _ a3, fun j u hu => hE.cell (a4 j u hu)⟩
theorem SL.nil {α : Type} (w : World) (sz : Nat) (R : List Value → α → Prop) : SL w sz R (.slice none 0 0) [] := ⟨none, 0, rfl, Nat.le_refl _, Nat.zero_le _, fun i h => absurd h (by simp)⟩
/-- Bytes as an element. -/
def BsE (w : World) (vs : List Value) (l : List UInt8) : Prop := ∃ v, vs = [v] ∧ Bs w v l
theorem BsE.ext {w w' : World} {vs : List Value} {l : List UInt8} (h : BsE w vs l) (hE : Ext w w') : BsE w' vs l := let ⟨v, e, h⟩ := h; ⟨v, e, h.ext hE⟩
/-- A slice of slices of bytes. -/
def BBs (w : World) (v : Value) (L : List (List UInt8)) : Prop := SL w 1 (BsE w) v L
theorem BBs.ext {w w' : World} {v : Value} {L : List (List UInt8)} (h : BBs w v L) (hE : Ext w w') : BBs w' v L := SL.ext h hE fun _ _ h => h.ext hE
theorem SL.of_own {α : Type} {w : World} {base : Nat} {e : TypeId} {v : Value} {xs : List Value} {R : List Value → α → Prop} {L : List α} (h : w.ownsRow base e 1 v L.length xs) (hR : ∀ i (h : i < L.length) u, xs[i]? = some u → R [u] L[i]) : SL w 1 R v L := by
  have hn : xs.length = L.length := by have := h.1; omega
  obtain ⟨A, c, rfl, h1, h2, hr⟩ := Row.of_own' h
  refine ⟨A, c, rfl, h1, h2, fun i hi => ?_⟩
  obtain ⟨ad, rfl, hc⟩ := hr.at_ (List.getElem?_eq_getElem (show i < xs.length by omega))
  refine ⟨ad, [xs[i]'(by omega)], rfl, rfl, hR i hi _ (List.getElem?_eq_getElem _), fun j u hu => ?_⟩
  match j, hu with
  | 0, hu => simp at hu; subst hu; simpa using hc
theorem BBs.at_ {w : World} {A : Option Addr} {n c : Nat} {L : List (List UInt8)} (h : BBs w (.slice A n c) L) {i : Nat} (hi : i < L.length) : ∃ ad B d, A = some ad ∧ w.cell? (ad.add i) = some (.slice B (L[i]'hi).length d) ∧ (L[i]'hi).length ≤ d ∧ d ≤ maxLen ∧ Row w B (bcs (L[i]'hi)) := by
  obtain ⟨A', c', e, _, _, hr⟩ := h
  obtain ⟨ad, vs, a1, a2, ⟨v, rfl, ⟨B, d, rfl, h1, h2, h3⟩⟩, a4⟩ := hr i hi
  injection e with e1 e2 e3
  subst e1
  exact ⟨ad, B, d, a1, by simpa using a4 0 _ rfl, h1, h2, h3⟩
/-- append(nil, make([]E, n)..). -/
theorem run_app_make {P : Program} (w0 w : World) (t ti ty e : TypeId) (size bytes : Nat) (hT : ElemT P t e size bytes) (hti : P.underlying ti = some (.int .i64)) (hE : Ext w0 w) (n : Nat) (hn : 0 < n) (hb : n * bytes ≤ 140737488355328) :
    ∃ cap w', (Builtin.append_ #[t, ti] ty #[.slice none 0 0, .int .i64 n]).run P w = .ok (.slice (some ⟨w.heap.size, 0, none⟩) n cap) w' ∧ n ≤ cap ∧ w'.ownsRow w0.heap.size e size (.slice (some ⟨w.heap.size, 0, none⟩) 0 cap) 0 [] ∧ Ext w0 w' := by
  obtain ⟨ht, hsz, hbp, i, z, hi, hz, hsize, hby, hzs⟩ := hT
  subst hsize
  subst hby
  have hnb : n ≤ n * i.bytes := Nat.le_mul_of_pos_right _ hbp
  have hw : IntKind.i64.wrap (n : Int) = n := by rw [IntKind.wrap_i64]; omega
  have h1 : ¬ ((n : Int) < 0) := by omega
  have h2 : ¬ (((n : Int) * (i.bytes : Int)) > 2 ^ 48) := by
    have : ((n : Int) * (i.bytes : Int)) = ((n * i.bytes : Nat) : Int) := by norm_cast
    omega
  have h3 : ¬ (Builtin.nextslicecap n 0 * i.bytes > 2 ^ 48) := by
    have : Builtin.nextslicecap n 0 = n := by unfold Builtin.nextslicecap; rw [if_pos (by omega)]
    rw [this]; omega
  have hm63 : n ≤ maxLen := by unfold maxLen; omega
  have hn0 : n ≠ 0 := by omega
  have h63' : ¬ (9223372036854775807 < (n : Int)) := by omega
  have h2' : ¬ (281474976710656 < (n : Int) * (i.bytes : Int)) := h2
  have h48' : ¬ (281474976710656 < Builtin.nextslicecap n 0 * i.bytes) := h3
  have hge := grownCap_ge w n 0 e
  have hne : ¬ (n * i.size = 0) := by have := Nat.mul_pos hn hsz; omega
  refine ⟨grownCap w n 0 e, w.drew.alloc (.cells (Builtin.zeroCells z.cells n ++ Builtin.zeroCells z.cells (grownCap w n 0 e - n)) e), ?_, hge, ?_, hE.drew.alloc _⟩
  · simp [Builtin.append_, run_underlying ht, run_underlying hti, sizeOf, typeInfo, hi, asInt, asIntOf, hw, h1, h2', h48', Builtin.firstCells, hne, zeroValue, hz, hn0, h63', Question.forced, newRow, grownCap]
  · refine ⟨by simp, .inr ⟨_, _, _, rfl, hE.size, heap_alloc_new w.drew _, Nat.zero_le _, grownCap_le_maxLen w n 0 e hm63, ?_, by simp⟩⟩
    simp only [Array.size_append, size_zeroCells, hzs, ← Nat.add_mul]
    congr 1
    omega
theorem wp_app_make {P : Program} {w0 w : World} {ops : Array Oper} {rest : List Oper} {o : Oper} {a : Act} {Q : Exit → Act → World → Prop} (hgd : o.guard = none) {s x : Operand}
    {t ti e : TypeId} {size bytes : Nat} (hT : ElemT P t e size bytes) (hti : P.underlying ti = some (.int .i64))
    (ho : o.op = .call { callee := .builtin .append, args := #[s, x], argTypes := #[t, ti] })
    {n : Nat} (hs : a.eval s = .slice none 0 0) (hx : a.eval x = .int .i64 n) (hE : Ext w0 w) (hn : 0 < n) (hb : n * bytes ≤ 140737488355328)
    (h : ∀ cap w', n ≤ cap → w'.ownsRow w0.heap.size e size (.slice (some ⟨w.heap.size, 0, none⟩) 0 cap) 0 [] → Ext w0 w' → wpList P ops Q rest (a.put o.dst (.slice (some ⟨w.heap.size, 0, none⟩) n cap)) w') : wpList P ops Q (o :: rest) a w := by
  refine wpList_plain hgd fun K hK => ?_
  obtain ⟨cap, w', hrun, h2, h3, h4⟩ := run_app_make (P := P) w0 w t ti o.type e size bytes hT hti hE n hn hb
  unfold Oper.wp execOp
  simp only [ho, resolve, invoke, builtin, Sem.run_bind, Sem.run_pure, Result.andThen_ok, List.map_toArray, List.map_cons, List.map_nil, hs, hx, hrun]
  exact hK _ _ (h cap w' h2 h3 h4)
end Go.Proofs.YthlkidohpiebiaaDoor


/- How patterns fit, row by row (plain lists; no program in sight). -/
namespace Go.Proofs.YthlkidohpiebiaaDoor
set_option linter.unusedVariables false
set_option linter.unusedSimpArgs false
open Go
/-- The next row: 'st': the pattern's part stands for any number of things; else for one thing k with 'o k'. -/
def stepB (st : Bool) (o r : Nat → Bool) : Nat → Bool
  | 0 => st && r 0
  | k + 1 => if st = true then r (k + 1) || stepB st o r k else r k && o k
def rowB {α : Type} (many : α → Bool) (one : α → Nat → Bool) : List α → (Nat → Bool) → (Nat → Bool)
  | [], r => r
  | p :: l, r => rowB many one l (stepB (many p) (one p) r)
/-- The first row. -/
def row0B (k : Nat) : Bool := k == 0
theorem rowB_snoc {α : Type} (many : α → Bool) (one : α → Nat → Bool) (p : α) : ∀ (l : List α) (r : Nat → Bool), rowB many one (l ++ [p]) r = stepB (many p) (one p) (rowB many one l r)
  | [], r => rfl
  | q :: l, r => rowB_snoc many one p l _
theorem rowB_take {α : Type} (many : α → Bool) (one : α → Nat → Bool) (l : List α) (r : Nat → Bool) {k : Nat} (h : k < l.length) : rowB many one (l.take (k + 1)) r = stepB (many l[k]) (one l[k]) (rowB many one (l.take k) r) := by
  rw [List.take_succ_eq_append_getElem h, rowB_snoc]
theorem stepB_zero (st : Bool) (o r : Nat → Bool) : stepB st o r 0 = (st && r 0) := rfl
theorem stepB_many (o r : Nat → Bool) (k : Nat) : stepB true o r (k + 1) = (r (k + 1) || stepB true o r k) := rfl
theorem stepB_one (o r : Nat → Bool) (k : Nat) : stepB false o r (k + 1) = (r k && o k) := rfl
/-- A row of which the first k places are written. -/
def tab (r : Nat → Bool) (m k : Nat) : List Bool := (List.range (m + 1)).map fun j => decide (j < k) && r j
theorem tab_len (r : Nat → Bool) (m k : Nat) : (tab r m k).length = m + 1 := by simp [tab]
theorem tab_zero (r : Nat → Bool) (m : Nat) : tab r m 0 = List.replicate (m + 1) false := by
  apply List.ext_getElem (by simp [tab])
  intro i h1 h2
  simp [tab]
theorem tab_at (r : Nat → Bool) {m k j : Nat} (h : j ≤ m) : (tab r m k)[j]? = some (decide (j < k) && r j) := by
  unfold tab
  rw [List.getElem?_map, List.getElem?_range (by omega)]; rfl
theorem tab_get (r : Nat → Bool) {m k j : Nat} (h : j ≤ m) (hk : j < k) : geti (tab r m k) (j : Int) = some (r j) := by
  unfold geti
  rw [if_pos (by omega), show ((j : Int)).toNat = j from rfl, tab_at r h, decide_eq_true hk]; rfl
theorem tab_set (r : Nat → Bool) {m k : Nat} {b : Bool} (h : k ≤ m) (hb : b = r k) : seti (tab r m k) (k : Int) b = tab r m (k + 1) := by
  subst hb
  unfold seti
  rw [show ((k : Int)).toNat = k from rfl]
  apply List.ext_getElem? 
  intro i
  rw [List.getElem?_set]
  by_cases hi : k = i
  · subst hi
    rw [if_pos rfl, if_pos (by rw [tab_len]; omega), tab_at r h]; simp
  · rw [if_neg hi]
    by_cases him : i ≤ m
    · rw [tab_at r him, tab_at r him]
      congr 2
      by_cases h1 : i < k
      · simp [h1, show i < k + 1 from by omega]
      · simp [h1, show ¬ i < k + 1 from by omega]
    · rw [List.getElem?_eq_none (by rw [tab_len]; omega), List.getElem?_eq_none (by rw [tab_len]; omega)]
theorem tab_first (m : Nat) : seti (tab row0B m 0) (0 : Int) true = tab row0B m (m + 1) := by
  apply List.ext_getElem?
  intro i
  show ((tab row0B m 0).set 0 true)[i]? = _
  rw [List.getElem?_set]
  by_cases hi : 0 = i
  · subst hi
    rw [if_pos rfl, if_pos (by rw [tab_len]; omega), tab_at _ (by omega)]; simp [row0B]
  · rw [if_neg hi]
    by_cases him : i ≤ m
    · rw [tab_at _ him, tab_at _ him]
      have : row0B i = false := by simp [row0B]; omega
      rw [this]; simp
    · rw [List.getElem?_eq_none (by rw [tab_len]; omega), List.getElem?_eq_none (by rw [tab_len]; omega)]
theorem tab_mk0 (r : Nat → Bool) (m : Nat) {l : Int} (h : l = ((m + 1 : Nat) : Int)) : mk0 l false = tab r m 0 := by
  subst h
  rw [tab_zero]; rfl
/-- A part of a path fits a part of a pattern. -/
def partFitsB (p s : List UInt8) : Bool := rowB (fun c : UInt8 => c == 42) (fun c k => match s[k]? with | some x => c == 63 || c == x | none => false) p row0B s.length
/-- A path's parts fit those of a pattern. -/
def fitsB (p s : List (List UInt8)) : Bool := rowB (fun c => c == [42, 42]) (fun c k => match s[k]? with | some t => partFitsB c t | none => false) p row0B s.length
/-- A loop that goes from state to state. -/
theorem steps_loop {S R : Type} (n0 : Nat) (st : Nat → S) {f : Nat → S → Option R} {z : Option R} (hstep : ∀ n i, i < n0 → f (n + 1) (st i) = f n (st (i + 1))) (hend : ∀ n, f (n + 1) (st n0) = z) : ∀ n, n0 < n → f n (st 0) = z := by
  have gen : ∀ (j n i : Nat), i + j = n0 → j < n → f n (st i) = z := by
    intro j
    induction j with
    | zero =>
      intro n i h hn
      obtain rfl : i = n0 := by omega
      obtain ⟨n, rfl⟩ : ∃ k, n = k + 1 := ⟨n - 1, by omega⟩
      exact hend n
    | succ j ih =>
      intro n i h hn
      obtain ⟨n, rfl⟩ : ∃ k, n = k + 1 := ⟨n - 1, by omega⟩
      rw [hstep n i (by omega)]
      exact ih n (i + 1) (by omega) (by omega)
  exact fun n hn => gen n0 n 0 (Nat.zero_add _) hn
end Go.Proofs.YthlkidohpiebiaaDoor


/- Loops over a list, without fuel. No program in sight. -/
namespace Go.Proofs.YthlkidohpiebiaaDoor
set_option linter.unusedVariables false
set_option linter.unusedSimpArgs false
open Go Go.RowKit
/-- More rounds than any loop over a slice makes. -/
def big : Nat := 18446744073709551616
theorem geti_nat {α : Type} (xs : List α) (i : Nat) : geti xs (i : Int) = xs[i]? := by unfold geti; rw [if_pos (by omega)]; rfl
theorem geti_lt {α : Type} (xs : List α) {i : Nat} (h : i < xs.length) : geti xs (i : Int) = some xs[i] := by rw [geti_nat, List.getElem?_eq_getElem h]
theorem wrap_id {n : Int} (h0 : -9223372036854775808 ≤ n) (h : n ≤ 9223372036854775807) : IntKind.i64.wrap n = n := by
  simp [IntKind.wrap, IntKind.signed, IntKind.bits]
  omega
theorem wrap_succ {α : Type} {xs : List α} (hx : xs.length ≤ maxLen) {i : Nat} (h : i < xs.length) : IntKind.i64.wrap ((i : Int) + 1) = ((i + 1 : Nat) : Int) := by
  unfold maxLen at hx
  rw [wrap_id (by omega) (by omega)]; rfl
theorem slc_take {α : Type} (xs : List α) {i : Nat} (h : i ≤ xs.length) : slc xs 0 (i : Int) = some (xs.take i) := by
  unfold slc; rw [if_pos ⟨by omega, by omega, by omega⟩]; simp
theorem lt_tt {α : Type} {xs : List α} {i : Nat} (h : i < xs.length) : decide ((i : Int) < (xs.length : Int)) = true := decide_eq_true (by omega)
theorem lt_ff {α : Type} {xs : List α} : decide ((xs.length : Int) < (xs.length : Int)) = false := decide_eq_false (by omega)
def forT {α R : Type} (body : Nat → α → R → R) (k : R) : List α → Nat → R
  | [], _ => k
  | x :: xs, i => body i x (forT body k xs (i + 1))
theorem loop_from {α R : Type} {f : Nat → Int → Option R} {T : (Int → Option R) → Int → Option R} (hf : ∀ n s, f (n + 1) s = T (f n) s) (xs : List α) {body : Nat → α → R → R} {k : R}
    (hT : ∀ (self : Int → Option R) (i : Nat) (h : i < xs.length) (r : R), self ((i + 1 : Nat) : Int) = some r → T self (i : Int) = some (body i xs[i] r))
    (hE : ∀ self : Int → Option R, T self (xs.length : Int) = some k) :
    ∀ (m n i : Nat), i + m = xs.length → m < n → f n (i : Int) = some (forT body k (xs.drop i) i)
  | 0, n, i, hi, hn => by
    obtain ⟨n, rfl⟩ : ∃ j, n = j + 1 := ⟨n - 1, by omega⟩
    have : i = xs.length := by omega
    subst this
    rw [hf, hE, List.drop_length]; rfl
  | m + 1, n, i, hi, hn => by
    obtain ⟨n, rfl⟩ : ∃ j, n = j + 1 := ⟨n - 1, by omega⟩
    have hlt : i < xs.length := by omega
    have ih := loop_from hf xs hT hE m n (i + 1) (by omega) (by omega)
    rw [hf, hT _ i hlt _ ih, List.drop_eq_getElem_cons hlt]; rfl
/-- A loop over a list that looks at each element. -/
theorem loop_for {α R : Type} {f : Nat → Int → Option R} {T : (Int → Option R) → Int → Option R} (hf : ∀ n s, f (n + 1) s = T (f n) s) (xs : List α) (hx : xs.length ≤ maxLen) {body : Nat → α → R → R} {k : R}
    (hT : ∀ (self : Int → Option R) (i : Nat) (h : i < xs.length) (r : R), self ((i + 1 : Nat) : Int) = some r → T self (i : Int) = some (body i xs[i] r))
    (hE : ∀ self : Int → Option R, T self (xs.length : Int) = some k) {N : Nat} (hN : big ≤ N) : f N 0 = some (forT body k xs 0) := by
  have := loop_from hf xs hT hE xs.length N 0 (by omega) (by unfold maxLen at hx; unfold big at hN; omega)
  simpa using this
end Go.Proofs.YthlkidohpiebiaaDoor


/- More on loops over a list, without fuel. No program in sight. -/
namespace Go.Proofs.YthlkidohpiebiaaDoor
set_option linter.unusedVariables false
set_option linter.unusedSimpArgs false
open Go Go.RowKit
theorem loop_st_from {S R : Type} {f : Nat → Int → S → Option R} {T : (Int → S → Option R) → Int → S → Option R} (hf : ∀ n i s, f (n + 1) i s = T (f n) i s) (m : Nat) (st : Nat → S) {r : Option R}
    (hT : ∀ (self : Int → S → Option R) (i : Nat), i < m → self ((i + 1 : Nat) : Int) (st (i + 1)) = r → T self (i : Int) (st i) = r)
    (hE : ∀ self : Int → S → Option R, T self (m : Int) (st m) = r) :
    ∀ (d n i : Nat), i + d = m → d < n → f n (i : Int) (st i) = r
  | 0, n, i, hi, hn => by
    obtain ⟨n, rfl⟩ : ∃ j, n = j + 1 := ⟨n - 1, by omega⟩
    have : i = m := by omega
    subst this
    rw [hf, hE]
  | d + 1, n, i, hi, hn => by
    obtain ⟨n, rfl⟩ : ∃ j, n = j + 1 := ⟨n - 1, by omega⟩
    rw [hf]
    exact hT _ i (by omega) (loop_st_from hf m st hT hE d n (i + 1) (by omega) (by omega))
/-- A loop whose state is known at each round. -/
theorem loop_st {S R : Type} {f : Nat → Int → S → Option R} {T : (Int → S → Option R) → Int → S → Option R} (hf : ∀ n i s, f (n + 1) i s = T (f n) i s) {m : Nat} (hm : m ≤ maxLen) (st : Nat → S) {r : Option R}
    (hT : ∀ (self : Int → S → Option R) (i : Nat), i < m → self ((i + 1 : Nat) : Int) (st (i + 1)) = r → T self (i : Int) (st i) = r)
    (hE : ∀ self : Int → S → Option R, T self (m : Int) (st m) = r) {N : Nat} (hN : big ≤ N) : f N 0 (st 0) = r := by
  have := loop_st_from hf m st hT hE m N 0 (by omega) (by unfold maxLen at hm; unfold big at hN; omega)
  simpa using this
theorem br_pos {R : Type} {p : Prop} [Decidable p] {x y : Option R} (h : p) : br (decide p) x y = x := by rw [decide_eq_true h, br_true]
theorem br_neg {R : Type} {p : Prop} [Decidable p] {x y : Option R} (h : ¬ p) : br (decide p) x y = y := by rw [decide_eq_false h, br_false]
theorem lt_tn {i m : Nat} (h : i < m) : decide ((i : Int) < (m : Int)) = true := decide_eq_true (by omega)
theorem lt_fn {m : Nat} : decide ((m : Int) < (m : Int)) = false := decide_eq_false (by omega)
theorem wrap_s {m : Nat} (hm : m ≤ maxLen) {i : Nat} (h : i < m) : IntKind.i64.wrap ((i : Int) + 1) = ((i + 1 : Nat) : Int) := by
  unfold maxLen at hm
  rw [wrap_id (by omega) (by omega)]; rfl
end Go.Proofs.YthlkidohpiebiaaDoor


/- Names in order, loops that are left early, maps of names. No program in sight. -/
namespace Go.Proofs.YthlkidohpiebiaaDoor
set_option linter.unusedVariables false
set_option linter.unusedSimpArgs false
open Go Go.RowKit
theorem less_eq : ∀ (x y : List UInt8), Op.bytesLess x y = decide (x < y)
  | [], [] => by simp [Op.bytesLess]
  | _ :: _, [] => by simp [Op.bytesLess]
  | [], _ :: _ => by simp [Op.bytesLess]
  | a :: x, b :: y => by
    rw [Op.bytesLess, less_eq x y]
    simp only [List.cons_lt_cons_iff]
    by_cases h1 : a < b <;> by_cases h2 : a = b <;> by_cases h3 : x < y <;> simp [h1, h2, h3]
theorem lt_tri (a b : Str) : a < b ∨ a = b ∨ b < a := by
  rcases Classical.em (a < b) with h | h
  · exact .inl h
  · rcases List.le_iff_lt_or_eq.1 (List.not_lt.1 h) with h | h
    · exact .inr (.inr h)
    · exact .inr (.inl h.symm)
theorem le_not (n y : Str) : (Op.bytesLess n y || n == y) = !decide (y < n) := by
  rw [less_eq]
  rcases lt_tri n y with h | h | h
  · rw [decide_eq_true h, decide_eq_false (List.lt_asymm h)]; rfl
  · subst h
    rw [decide_eq_false (List.lt_irrefl n), beq_self_eq_true]; rfl
  · rw [decide_eq_false (List.lt_asymm h), decide_eq_true h]
    have : n ≠ y := fun e => List.lt_irrefl n (by rw [e] at h ⊢; exact h)
    simp [this]
/-- Names in order. -/
def Asc {α : Type} (l : List (Str × α)) : Prop := l.Pairwise fun a b => a.1 < b.1
theorem asc_iff {α : Type} (l : List (Str × α)) : (∀ i (hi : i < l.length), ∀ y, i ≠ 0 → l[i - 1]? = some y → y.1 < l[i].1) ↔ Asc l := by
  constructor
  · intro h
    have step : ∀ i (hi : i + 1 < l.length), l[i].1 < l[i + 1].1 := fun i hi => h (i + 1) hi _ (by omega) (by rw [show i + 1 - 1 = i from rfl, List.getElem?_eq_getElem (by omega)])
    refine List.pairwise_iff_getElem.2 fun i j hi hj hij => ?_
    have : ∀ d (hd : i + 1 + d < l.length), l[i].1 < l[i + 1 + d].1 := by
      intro d
      induction d with
      | zero => intro hd; exact step i hd
      | succ d ih => intro hd; exact List.lt_trans (ih (by omega)) (step (i + 1 + d) hd)
    have := this (j - (i + 1)) (by omega)
    have e : i + 1 + (j - (i + 1)) = j := by omega
    simpa only [e] using this
  · intro h i hi y h0 hy
    obtain ⟨hl, rfl⟩ := List.getElem?_eq_some_iff.1 hy
    exact List.pairwise_iff_getElem.1 h (i - 1) i hl hi (by omega)
theorem Asc.find {α : Type} {l : List (Str × α)} (h : Asc l) {s : Str × α} (hs : s ∈ l) : l.find? (fun x => x.1 == s.1) = some s := by
  induction l with
  | nil => cases hs
  | cons x l ih =>
    have hx := List.pairwise_cons.1 h
    rcases List.mem_cons.1 hs with rfl | hs
    · simp
    · have : x.1 < s.1 := hx.1 s hs
      have hne : x.1 ≠ s.1 := fun e => by rw [e] at this; exact List.lt_irrefl _ this
      rw [List.find?_cons_of_neg (by simpa using hne)]
      exact ih hx.2 hs
theorem Asc.inj {α : Type} {l : List (Str × α)} (h : Asc l) {s t : Str × α} (hs : s ∈ l) (ht : t ∈ l) (e : s.1 = t.1) : s = t := by
  have h1 := h.find hs
  rw [e, h.find ht] at h1
  exact (Option.some.inj h1).symm
theorem Asc.ext {α : Type} : ∀ {a b : List (Str × α)}, Asc a → Asc b → (∀ p, p ∈ a ↔ p ∈ b) → a = b
  | [], [], _, _, _ => rfl
  | [], y :: b, _, _, h => by have := (h y).2 (by simp); cases this
  | x :: a, [], _, _, h => by have := (h x).1 (by simp); cases this
  | x :: a, y :: b, ha, hb, h => by
    have ha' := List.pairwise_cons.1 ha
    have hb' := List.pairwise_cons.1 hb
    have hxy : x = y := by
      rcases List.mem_cons.1 ((h x).1 (by simp)) with e | h1
      · exact e
      · rcases List.mem_cons.1 ((h y).2 (by simp)) with e | h2
        · exact e.symm
        · exact absurd (ha'.1 y h2) (List.lt_asymm (hb'.1 x h1))
    subst hxy
    refine congrArg _ (Asc.ext ha'.2 hb'.2 fun p => ⟨fun hp => ?_, fun hp => ?_⟩)
    · rcases List.mem_cons.1 ((h p).1 (List.mem_cons_of_mem _ hp)) with rfl | h1
      · exact absurd (ha'.1 p hp) (List.lt_irrefl _)
      · exact h1
    · rcases List.mem_cons.1 ((h p).2 (List.mem_cons_of_mem _ hp)) with rfl | h1
      · exact absurd (hb'.1 p hp) (List.lt_irrefl _)
      · exact h1
theorem Asc.nodup {α : Type} {l : List (Str × α)} (h : Asc l) : (l.map (·.1)).Nodup := by
  rw [List.Nodup, List.pairwise_map]
  exact h.imp fun {a b} hab e => by
    have e : a.1 = b.1 := e
    rw [e] at hab; exact List.lt_irrefl _ hab
theorem Asc.len {α β : Type} {c : List (Str × α)} {l : List (Str × β)} (h : Asc c) (hm : ∀ p ∈ c, ∃ s ∈ l, s.1 = p.1) : c.length ≤ l.length := by
  have := h.nodup.length_le_of_subset (l₂ := l.map (·.1)) (fun n hn => by
    obtain ⟨p, hp, rfl⟩ := List.mem_map.1 hn
    obtain ⟨s, hs, e⟩ := hm p hp
    exact List.mem_map.2 ⟨s, hs, e⟩)
  simpa using this
/-- The first of some rounds that is left early, and with what. -/
def exits {α : Type} (ex : Nat → Option α) : Nat → Nat → Option α
  | 0, _ => none
  | d + 1, i => match ex i with | some z => some z | none => exits ex d (i + 1)
theorem exits_succ {α : Type} (ex : Nat → Option α) (d i : Nat) : exits ex (d + 1) i = match ex i with | some z => some z | none => exits ex d (i + 1) := by rw [exits]
theorem exits_none {α : Type} {ex : Nat → Option α} : ∀ {d i : Nat}, exits ex d i = none ↔ ∀ j, i ≤ j → j < i + d → ex j = none
  | 0, i => ⟨fun _ j h1 h2 => absurd h2 (by omega), fun _ => rfl⟩
  | d + 1, i => by
    unfold exits
    cases h : ex i with
    | some z => exact ⟨fun e => (by cases e), fun e => by rw [e i (Nat.le_refl _) (by omega)] at h; cases h⟩
    | none =>
      show exits ex d (i + 1) = none ↔ _
      rw [exits_none]
      constructor
      · intro e j h1 h2
        rcases Nat.eq_or_lt_of_le h1 with rfl | h1
        · exact h
        · exact e j (by omega) (by omega)
      · intro e j h1 h2
        exact e j (by omega) (by omega)
theorem exits_some {α : Type} {ex : Nat → Option α} {z : α} : ∀ {d i : Nat}, exits ex d i = some z → ∃ j, i ≤ j ∧ j < i + d ∧ ex j = some z ∧ ∀ k, i ≤ k → k < j → ex k = none
  | 0, i, h => by cases h
  | d + 1, i, h => by
    unfold exits at h
    cases hx : ex i with
    | some y =>
      rw [hx] at h
      exact ⟨i, Nat.le_refl _, by omega, by rw [hx]; exact h, fun k h1 h2 => absurd h2 (by omega)⟩
    | none =>
      rw [hx] at h
      obtain ⟨j, h1, h2, h3, h4⟩ := exits_some (i := i + 1) h
      refine ⟨j, by omega, by omega, h3, fun k h5 h6 => ?_⟩
      rcases Nat.eq_or_lt_of_le h5 with rfl | h5
      · exact hx
      · exact h4 k h5 h6
/-- A loop whose state is known at each round, and that may be left early. -/
theorem exit_loop {S R : Type} {f : Nat → S → Option R} (m : Nat) (st : Nat → S) (ex : Nat → Option (Option R)) {r : Option R}
    (hT : ∀ n i, i < m → f (n + 1) (st i) = (ex i).getD (f n (st (i + 1)))) (hE : ∀ n, f (n + 1) (st m) = r) : ∀ n, m < n → f n (st 0) = (exits ex m 0).getD r := by
  have gen : ∀ (d n i : Nat), i + d = m → d < n → f n (st i) = (exits ex d i).getD r := by
    intro d
    induction d with
    | zero =>
      intro n i h hn
      obtain ⟨n, rfl⟩ : ∃ j, n = j + 1 := ⟨n - 1, by omega⟩
      obtain rfl : i = m := by omega
      rw [hE]; rfl
    | succ d ih =>
      intro n i h hn
      obtain ⟨n, rfl⟩ : ∃ j, n = j + 1 := ⟨n - 1, by omega⟩
      rw [hT n i (by omega), ih n (i + 1) (by omega) (by omega)]
      rw [exits_succ]
      cases ex i <;> rfl
  intro n hn
  exact gen m n 0 (by omega) hn
/-- The search in the middle. -/
theorem bsearch {R : Type} {f : Nat → Int → Int → Option R} (m : Nat) (lt : Nat → Bool) (mono : ∀ i j, i ≤ j → j < m → lt j = true → lt i = true) {k : Nat → Option R}
    (hT : ∀ n lo hi : Nat, lo < hi → hi ≤ m → f (n + 1) (lo : Int) (hi : Int) = if lt ((lo + hi) / 2) = true then f n (((lo + hi) / 2 + 1 : Nat) : Int) (hi : Int) else f n (lo : Int) (((lo + hi) / 2 : Nat) : Int))
    (hE : ∀ n lo : Nat, lo ≤ m → f (n + 1) (lo : Int) (lo : Int) = k lo) :
    ∃ c, c ≤ m ∧ (∀ j, j < c → lt j = true) ∧ (∀ j, c ≤ j → j < m → lt j = false) ∧ ∀ n, m < n → f n 0 (m : Int) = k c := by
  have hc : ∃ c, c ≤ m ∧ (∀ j, j < c → lt j = true) ∧ (∀ j, c ≤ j → j < m → lt j = false) := by
    have : ∀ d, d ≤ m → ∃ c, c ≤ d ∧ (∀ j, j < c → lt j = true) ∧ (∀ j, c ≤ j → j < d → lt j = false) := by
      intro d
      induction d with
      | zero => intro _; exact ⟨0, Nat.le_refl _, fun j h => absurd h (by omega), fun j h1 h2 => absurd h2 (by omega)⟩
      | succ d ih =>
        intro hd
        obtain ⟨c, h1, h2, h3⟩ := ih (by omega)
        cases h : lt d with
        | true => exact ⟨d + 1, Nat.le_refl _, fun j hj => mono j d (by omega) (by omega) h, fun j h4 h5 => absurd h5 (by omega)⟩
        | false =>
          refine ⟨c, by omega, h2, fun j h4 h5 => ?_⟩
          rcases Nat.eq_or_lt_of_le (Nat.le_of_lt_succ h5) with rfl | h5
          · exact h
          · exact h3 j h4 h5
    exact this m (Nat.le_refl _)
  obtain ⟨c, h1, h2, h3⟩ := hc
  refine ⟨c, h1, h2, h3, ?_⟩
  have gen : ∀ (d n lo hi : Nat), lo ≤ c → c ≤ hi → hi ≤ m → hi - lo ≤ d → d < n → f n (lo : Int) (hi : Int) = k c := by
    intro d
    induction d with
    | zero =>
      intro n lo hi h4 h5 h6 h7 h8
      obtain ⟨n, rfl⟩ : ∃ j, n = j + 1 := ⟨n - 1, by omega⟩
      obtain rfl : lo = c := by omega
      obtain rfl : hi = lo := by omega
      exact hE n _ h6
    | succ d ih =>
      intro n lo hi h4 h5 h6 h7 h8
      obtain ⟨n, rfl⟩ : ∃ j, n = j + 1 := ⟨n - 1, by omega⟩
      by_cases hl : lo = hi
      · subst hl
        obtain rfl : lo = c := by omega
        exact hE n _ h6
      · rw [hT n lo hi (by omega) h6]
        cases h : lt ((lo + hi) / 2) with
        | true =>
          rw [if_pos rfl]
          refine ih n _ hi ?_ h5 h6 (by omega) (by omega)
          apply Classical.byContradiction
          intro hn
          have := h3 ((lo + hi) / 2) (by omega) (by omega)
          rw [h] at this; cases this
        | false =>
          rw [if_neg (by simp)]
          refine ih n lo _ h4 ?_ (by omega) (by omega) (by omega)
          apply Classical.byContradiction
          intro hn
          have := h2 ((lo + hi) / 2) (by omega)
          rw [h] at this; cases this
  intro n hn
  exact gen m n 0 m (by omega) h1 (Nat.le_refl _) (by omega) hn
theorem mget_mset {α : Type} (m : List (Str × α)) (k : Str) (x : α) (p : Str) : mget (mset m k x) p = if (p == k) = true then some x else mget m p := by
  induction m with
  | nil => simp only [mset, mget]
  | cons q m ih =>
    obtain ⟨j, y⟩ := q
    unfold mset
    cases h : k == j with
    | true =>
      have e := eq_of_beq h
      subst e
      simp only [if_true, mget]
      cases p == k <;> simp
    | false =>
      simp only [Bool.false_eq_true, if_false, mget, ih]
      cases h1 : p == j with
      | true =>
        have e := eq_of_beq h1
        subst e
        have : (p == k) = false := by
          cases h2 : p == k with
          | false => rfl
          | true => have e := eq_of_beq h2; subst e; simp at h
        simp [this]
      | false => simp
/-- The map of some names, each with true. -/
def keysM (l : List Str) (m : List (Str × Bool)) : List (Str × Bool) := l.foldl (fun m x => mset m x true) m
theorem keysM_get : ∀ (l : List Str) (m : List (Str × Bool)) (p : Str), mget (keysM l m) p = if l.any (p == ·) = true then some true else mget m p
  | [], m, p => by simp [keysM]
  | x :: l, m, p => by
    show mget (keysM l (mset m x true)) p = _
    rw [keysM_get l, mget_mset, List.any_cons]
    cases l.any (p == ·) <;> cases p == x <;> simp
theorem keysM_snoc (l : List Str) (x : Str) (m : List (Str × Bool)) : keysM (l ++ [x]) m = mset (keysM l m) x true := by unfold keysM; rw [List.foldl_append]; rfl
end Go.Proofs.YthlkidohpiebiaaDoor

