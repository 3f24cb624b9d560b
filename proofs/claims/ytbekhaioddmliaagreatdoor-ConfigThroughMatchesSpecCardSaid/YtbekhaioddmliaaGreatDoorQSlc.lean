/- Structs of plain fields are compared as the machine compares them. -/
import Derived.Test.YtbekhaioddmliaaGreatDoorQBmX
import Derived.Laws.StructEq
import Derived.Lib.Bytealg
import Derived.Test.YtbekhaioddmliaaGreatDoorQBm4
namespace Go.Proofs.YtbekhaioddmliaaGreatDoor
set_option linter.unusedVariables false
set_option linter.unusedSimpArgs false
open Go Go.RowKit
/-- A plain type of one cell. -/
inductive Sc (P : Program) : Ty → TypeId → Prop where
  | u8 {T : TypeId} : P.underlying T = some (.int .u8) → Sc P .u8 T
  | int {T : TypeId} {k : IntKind} : P.underlying T = some (.int k) → Sc P (.int k) T
  | bool {T : TypeId} : P.underlying T = some .bool → Sc P .bool T
  | str {T : TypeId} : P.underlying T = some .string → Sc P .str T
inductive FlatF (P : Program) : Ty → List Field → Nat → Prop where
  | nil {o : Nat} : FlatF P .un [] o
  | one {t : Ty} {f : Field} {o : Nat} : f.offset = o → f.name ≠ "_" → Sc P t f.type → FlatF P t [f] o
  | single {t : Ty} {f : Field} {o : Nat} : f.offset = o → f.name ≠ "_" → Sc P t f.type → FlatF P (.pr t .un) [f] o
  | cons {a b : Ty} {f : Field} {fs : List Field} {o : Nat} : f.offset = o → f.name ≠ "_" → Sc P a f.type → FlatF P b fs (o + 1) → FlatF P (.pr a b) (f :: fs) o
section
variable {P : Program} {w : World}
theorem Sc.sz {t : Ty} {T : TypeId} (h : Sc P t T) : t.sz = 1 := by cases h <;> rfl
theorem Sc.cell {t : Ty} {T : TypeId} (h : Sc P t T) (x : t.den) : ∃ c, cellsOf t x = [c] := by cases h <;> exact ⟨_, rfl⟩
theorem Sc.isAgg {t : Ty} {T : TypeId} (h : Sc P t T) : (Go.isAgg T).run P w = .ok false w := by
  cases h <;> rename_i hu <;> simp [Go.isAgg, run_underlying hu]
theorem Sc.eq {t : Ty} {T : TypeId} (h : Sc P t T) (d : Nat) {x y : t.den} {a b : Value} (ha : cellsOf t x = [a]) (hb : cellsOf t y = [b]) : (Op.equalIn (d + 1) T a b).run P w = .ok (eqb t x y) w := by
  cases h with
  | u8 hu =>
    have ha' : [Value.int .u8 (UInt8.toNat x)] = [a] := ha
    have hb' : [Value.int .u8 (UInt8.toNat y)] = [b] := hb
    injection ha' with ha'; injection hb' with hb'
    subst ha'; subst hb'
    rw [run_equalIn_int w d _ _ _ _ _ hu]
    congr 1
    show decide _ = decide _
    exact decide_eq_decide.2 ⟨fun h => UInt8.toNat_inj.1 (by omega), fun h => by rw [h]⟩
  | int hu =>
    have ha' : [Value.int _ x] = [a] := ha
    have hb' : [Value.int _ y] = [b] := hb
    injection ha' with ha'; injection hb' with hb'
    subst ha'; subst hb'
    rw [run_equalIn_int w d _ _ _ _ _ hu]
    rfl
  | bool hu =>
    have ha' : [Value.bool x] = [a] := ha
    have hb' : [Value.bool y] = [b] := hb
    injection ha' with ha'; injection hb' with hb'
    subst ha'; subst hb'
    rw [run_equalIn_bool' w d _ _ _ hu]
    rfl
  | str hu =>
    have ha' : [Value.string ⟨List.toArray x⟩] = [a] := ha
    have hb' : [Value.string ⟨List.toArray y⟩] = [b] := hb
    injection ha' with ha'; injection hb' with hb'
    subst ha'; subst hb'
    rw [run_equalIn_string w d _ _ _ hu, Lib.toList_data, Lib.toList_data]
    rfl
theorem run_part_at {T : TypeId} {xs : Array Value} {o : Nat} {c : Value} (h : (Go.isAgg T).run P w = .ok false w) (hc : xs[o]? = some c) : (part T xs o).run P w = .ok c w := by
  simp [part, h, hc]
theorem flat_eq (d : Nat) : ∀ (fs : List Field) (t : Ty) (o : Nat) (xs ys : Array Value) (x y : t.den), FlatF P t fs o → (xs.toList.drop o).take t.sz = cellsOf t x → (ys.toList.drop o).take t.sz = cellsOf t y →
    (Op.eqFields (d + 1) xs ys fs).run P w = .ok (eqb t x y) w := by
  have hone : ∀ (xs : Array Value) (o : Nat) (c : Value) (n : Nat) (l : List Value), (xs.toList.drop o).take (1 + n) = c :: l → xs[o]? = some c ∧ (xs.toList.drop (o + 1)).take n = l := fun xs o c n l h => by
    have hc : xs.toList.drop o = c :: xs.toList.drop (o + 1) := by
      cases hd : xs.toList.drop o with
      | nil => rw [hd] at h; simp at h
      | cons e r =>
        rw [hd, Nat.add_comm, List.take_succ_cons] at h
        injection h with h1 h2
        rw [h1]
        congr 1
        have := congrArg (List.drop 1) hd
        rw [List.drop_drop] at this
        simpa [Nat.add_comm] using this.symm
    refine ⟨?_, ?_⟩
    · have := congrArg (fun l => l[0]?) hc
      simpa using this
    · rw [hc, Nat.add_comm, List.take_succ_cons] at h
      injection h
  intro fs
  induction fs with
  | nil =>
    intro t o xs ys x y hf _ _
    cases hf
    simp [Op.eqFields, eqb]
  | cons f fs ih =>
    intro t o xs ys x y hf hx hy
    have hstep : ∀ (a : Ty) (xa ya : a.den) (ca cb : Value) (r : Bool), f.offset = o → f.name ≠ "_" → Sc P a f.type → cellsOf a xa = [ca] → cellsOf a ya = [cb] → xs[o]? = some ca → ys[o]? = some cb →
        (Op.eqFields (d + 1) xs ys fs).run P w = .ok r w → (Op.eqFields (d + 1) xs ys (f :: fs)).run P w = .ok (eqb a xa ya && r) w := fun a xa ya ca cb r ho hn hs h1 h2 h3 h4 h5 => by
      subst ho
      simp only [Op.eqFields, hn, ne_eq, not_false_eq_true, if_true, Sem.run_bind, run_part_at hs.isAgg h3, run_part_at hs.isAgg h4, hs.eq d h1 h2, Result.andThen_ok]
      cases eqb a xa ya with
      | true => simpa using h5
      | false => simp
    cases hf with
    | one ho hn hs =>
      obtain ⟨ca, h1⟩ := hs.cell x
      obtain ⟨cb, h2⟩ := hs.cell y
      rw [hs.sz, h1] at hx
      rw [hs.sz, h2] at hy
      have := hstep t x y ca cb true ho hn hs h1 h2 (hone xs o ca 0 [] hx).1 (hone ys o cb 0 [] hy).1 (by simp [Op.eqFields])
      simpa using this
    | single ho hn hs =>
      rename_i a
      obtain ⟨xa, u⟩ := x
      obtain ⟨ya, v⟩ := y
      obtain ⟨ca, h1⟩ := hs.cell xa
      obtain ⟨cb, h2⟩ := hs.cell ya
      have hx' : (xs.toList.drop o).take (a.sz + 0) = cellsOf a xa ++ [] := hx
      have hy' : (ys.toList.drop o).take (a.sz + 0) = cellsOf a ya ++ [] := hy
      rw [hs.sz, h1] at hx'
      rw [hs.sz, h2] at hy'
      exact hstep a xa ya ca cb true ho hn hs h1 h2 (hone xs o ca 0 [] hx').1 (hone ys o cb 0 [] hy').1 (by simp [Op.eqFields])
    | @cons a b _ _ _ ho hn hs hr =>
      obtain ⟨xa, xb⟩ := x
      obtain ⟨ya, yb⟩ := y
      obtain ⟨ca, h1⟩ := hs.cell xa
      obtain ⟨cb, h2⟩ := hs.cell ya
      have hx' : (xs.toList.drop o).take (a.sz + b.sz) = cellsOf a xa ++ cellsOf b xb := hx
      have hy' : (ys.toList.drop o).take (a.sz + b.sz) = cellsOf a ya ++ cellsOf b yb := hy
      rw [hs.sz, h1] at hx'
      rw [hs.sz, h2] at hy'
      obtain ⟨k1, k2⟩ := hone xs o ca b.sz _ hx'
      obtain ⟨k3, k4⟩ := hone ys o cb b.sz _ hy'
      exact hstep a xa ya ca cb _ ho hn hs h1 h2 k1 k3 (ih b (o + 1) xs ys xb yb hr k2 k4)
theorem FlatF.len {t : Ty} {fs : List Field} {o : Nat} (h : FlatF P t fs o) (x : t.den) : (cellsOf t x).length = t.sz := by
  induction h with
  | nil => rfl
  | one _ _ hs => obtain ⟨c, hc⟩ := hs.cell x; rw [hc, hs.sz]; rfl
  | single _ _ hs =>
    obtain ⟨xa, u⟩ := x
    obtain ⟨c, hc⟩ := hs.cell xa
    show (cellsOf _ xa ++ []).length = _ + 0
    rw [hc, hs.sz]; rfl
  | cons _ _ hs _ ih =>
    obtain ⟨xa, xb⟩ := x
    obtain ⟨c, hc⟩ := hs.cell xa
    show (cellsOf _ xa ++ cellsOf _ xb).length = _ + _
    rw [List.length_append, hc, hs.sz, ih xb]; rfl
theorem CmpOk.flat {T : TypeId} {t : Ty} {fs : Array Field} (hc : flatCmp t = true) (ha : t.isAgg = true) (hu : P.underlying T = some (.struct fs)) (hp : P.stoodInHeld T = false) (hg : P.eqGuardType P.depth T = false) (hf : FlatF P t fs.toList 0) : CmpOk P T t := by
  have hfo : P.fieldsOf T = fs := by unfold Program.fieldsOf; rw [hu]
  have heq : ∀ (x y : t.den) (w : World), (Op.equalIn 10000 T (.agg (cellsOf t x).toArray) (.agg (cellsOf t y).toArray)).run P w = .ok (eqb t x y) w := fun x y w => by
    rw [run_equalIn_agg w 9999 T _ _ (by rw [hfo]; exact hu) hp, hfo]
    refine flat_eq 9998 fs.toList t 0 _ _ x y hf ?_ ?_
    · rw [List.drop_zero, List.take_of_length_le (by simp [hf.len x])]
    · rw [List.drop_zero, List.take_of_length_le (by simp [hf.len y])]
  refine ⟨hc, ha, fun x y ox oy w => ⟨?_, ?_⟩⟩
  · simp only [Sem.run_bind, run_eqGuard_agg w _ _ _ _ _ _ hg, Result.andThen_ok, run_eql_struct, heq]
  · simp only [Sem.run_bind, run_eqGuard_agg w _ _ _ _ _ _ hg, Result.andThen_ok, run_neq_struct, heq]
end
end Go.Proofs.YtbekhaioddmliaaGreatDoor


/- More words for memory: a slice whose elements are read by a relation; making room. No program is in sight here. -/
namespace Go.Proofs.YtbekhaioddmliaaGreatDoor
open Go Go.RowKit
/-- A place at which a walk is to stand still. -/
def Stop (p : Prop) : Prop := p
/-- A slice value whose elements, of sz cells each, are the things of a list. -/
def SL {α : Type} (w : World) (sz : Nat) (R : List Value → α → Prop) (v : Value) (L : List α) : Prop :=
  ∃ A c, v = .slice A L.length c ∧ L.length ≤ c ∧ c ≤ maxLen ∧ ∀ i (h : i < L.length), ∃ ad vs, A = some ad ∧ vs.length = sz ∧ R vs L[i] ∧ ∀ j u, vs[j]? = some u → w.cell? (ad.add (i * sz + j)) = some u
theorem SL.ext {α : Type} {w w' : World} {sz : Nat} {R R' : List Value → α → Prop} {v : Value} {L : List α} (h : SL w sz R v L) (hE : Ext w w') (hR : ∀ vs x, R vs x → R' vs x) : SL w' sz R' v L := by
  obtain ⟨A, c, e, h1, h2, hr⟩ := h
  refine ⟨A, c, e, h1, h2, fun i hi => ?_⟩
  obtain ⟨ad, vs, a1, a2, a3, a4⟩ := hr i hi
  exact ⟨ad, vs, a1, a2, hR _ _ a3, fun j u hu => hE.cell (a4 j u hu)⟩
theorem SL.nil {α : Type} (w : World) (sz : Nat) (R : List Value → α → Prop) : SL w sz R (.slice none 0 0) [] := ⟨none, 0, rfl, Nat.le_refl _, Nat.zero_le _, fun i h => absurd h (by simp)⟩
/-- Bytes as an element. -/
def BsE (w : World) (vs : List Value) (l : List UInt8) : Prop := ∃ v, vs = [v] ∧ Bs w v l
theorem BsE.ext {w w' : World} {vs : List Value} {l : List UInt8} (h : BsE w vs l) (hE : Ext w w') : BsE w' vs l := let ⟨v, e, h⟩ := h; ⟨v, e, h.ext hE⟩
/-- A slice of slices of bytes. -/
def BBs (w : World) (v : Value) (L : List (List UInt8)) : Prop := SL w 1 (BsE w) v L
theorem BBs.ext {w w' : World} {v : Value} {L : List (List UInt8)} (h : BBs w v L) (hE : Ext w w') : BBs w' v L := SL.ext h hE fun _ _ h => h.ext hE
theorem SL.of_own {α : Type} {w : World} {base : Nat} {e : TypeId} {v : Value} {xs : List Value} {R : List Value → α → Prop} {L : List α} (h : w.ownsRow base e 1 v L.length xs) (hR : ∀ i (h : i < L.length) u, xs[i]? = some u → R [u] L[i]) : SL w 1 R v L := by
  have hn : xs.length = L.length := by have := h.1; omega
  obtain ⟨A, c, rfl, h1, h2, hr⟩ := Row.of_own' h
  refine ⟨A, c, rfl, h1, h2, fun i hi => ?_⟩
  obtain ⟨ad, rfl, hc⟩ := hr.at_ (List.getElem?_eq_getElem (show i < xs.length by omega))
  refine ⟨ad, [xs[i]'(by omega)], rfl, rfl, hR i hi _ (List.getElem?_eq_getElem _), fun j u hu => ?_⟩
  match j, hu with
  | 0, hu => simp at hu; subst hu; simpa using hc
theorem BBs.at_ {w : World} {A : Option Addr} {n c : Nat} {L : List (List UInt8)} (h : BBs w (.slice A n c) L) {i : Nat} (hi : i < L.length) : ∃ ad B d, A = some ad ∧ w.cell? (ad.add i) = some (.slice B (L[i]'hi).length d) ∧ (L[i]'hi).length ≤ d ∧ d ≤ maxLen ∧ Row w B (bcs (L[i]'hi)) := by
  obtain ⟨A', c', e, _, _, hr⟩ := h
  obtain ⟨ad, vs, a1, a2, ⟨v, rfl, ⟨B, d, rfl, h1, h2, h3⟩⟩, a4⟩ := hr i hi
  injection e with e1 e2 e3
  subst e1
  exact ⟨ad, B, d, a1, by simpa using a4 0 _ rfl, h1, h2, h3⟩
end Go.Proofs.YtbekhaioddmliaaGreatDoor


/- Lists in order, each name once. No program in sight. -/
namespace Go.Proofs.YtbekhaioddmliaaGreatDoor
set_option linter.unusedVariables false
open Go
def leName (a b : Str × Str) : Bool := decide (a.1 ≤ b.1)
theorem perm_strict {α : Type} {R : α → α → Prop} (hirr : ∀ a b, R a b → R b a → False) : ∀ (l1 l2 : List α), l1.Perm l2 → l1.Pairwise R → l2.Pairwise R → l1 = l2
  | [], l2, h, _, _ => (List.nil_perm.1 h).symm
  | a :: l1, [], h, _, _ => by have := h.length_eq; simp at this
  | a :: l1, b :: l2, h, h1, h2 => by
    have hab : a = b := by
      apply Classical.byContradiction
      intro hne
      have ha : a ∈ b :: l2 := h.subset (List.mem_cons_self ..)
      have hb : b ∈ a :: l1 := h.symm.subset (List.mem_cons_self ..)
      rcases List.mem_cons.1 ha with e | ha
      · exact hne e
      · rcases List.mem_cons.1 hb with e | hb
        · exact hne e.symm
        · exact hirr a b ((List.pairwise_cons.1 h1).1 b hb) ((List.pairwise_cons.1 h2).1 a ha)
    subst hab
    rw [perm_strict hirr l1 l2 (List.Perm.cons_inv h) (List.pairwise_cons.1 h1).2 (List.pairwise_cons.1 h2).2]
theorem str_lt_irrefl (a : Str) : ¬ a < a := List.lt_irrefl a
theorem str_lt_trans {a b c : Str} (h1 : a < b) (h2 : b < c) : a < c := List.lt_trans h1 h2
theorem str_tri (a b : Str) (h1 : ¬ a < b) (h2 : ¬ b < a) : a = b := List.le_antisymm h2 h1
theorem sorted_strict {l : List (Str × Str)} (hn : (l.map (·.1)).Nodup) (hs : l.Pairwise fun a b => ¬ b.1 < a.1) : l.Pairwise fun a b => a.1 < b.1 := by
  induction l with
  | nil => exact List.Pairwise.nil
  | cons a l ih =>
    rw [List.map_cons, List.nodup_cons] at hn
    obtain ⟨h1, h2⟩ := List.pairwise_cons.1 hs
    refine List.pairwise_cons.2 ⟨fun b hb => ?_, ih hn.2 h2⟩
    apply Classical.byContradiction
    intro hlt
    have := str_tri _ _ hlt (h1 b hb)
    exact hn.1 (this ▸ List.mem_map.2 ⟨b, hb, rfl⟩)
theorem mergeSort_name (l : List (Str × Str)) : (l.mergeSort leName).Pairwise fun a b => ¬ b.1 < a.1 := by
  have := List.pairwise_mergeSort (le := leName) (fun a b c h1 h2 => by
    simp only [leName, decide_eq_true_eq] at *
    exact List.le_trans h1 h2) (fun a b => by
    simp only [leName, Bool.or_eq_true, decide_eq_true_eq]
    exact List.le_total _ _) l
  exact this.imp fun h => by simpa [leName] using h
/-- What is in order, and has the same things, each name once, is what the merge sort gives. -/
theorem sort_unique {l d : List (Str × Str)} (hn : (l.map (·.1)).Nodup) (hp : d.Perm l) (hs : d.Pairwise fun a b => ¬ b.1 < a.1) : d = l.mergeSort leName := by
  have hp2 : d.Perm (l.mergeSort leName) := hp.trans (List.mergeSort_perm l leName).symm
  have hn1 : (d.map (·.1)).Nodup := (hp.map _).nodup_iff.2 hn
  have hn2 : ((l.mergeSort leName).map (·.1)).Nodup := ((List.mergeSort_perm l leName).map _).nodup_iff.2 hn
  exact perm_strict (R := fun a b => a.1 < b.1) (fun a b h1 h2 => str_lt_irrefl _ (str_lt_trans h1 h2)) d _ hp2 (sorted_strict hn1 hs) (sorted_strict hn2 (mergeSort_name l))
end Go.Proofs.YtbekhaioddmliaaGreatDoor


/- Loops over a list, without fuel. No program in sight. -/
namespace Go.Proofs.YtbekhaioddmliaaGreatDoor
set_option linter.unusedVariables false
set_option linter.unusedSimpArgs false
open Go Go.RowKit
/-- More rounds than any loop over a slice makes. -/
def big : Nat := 18446744073709551616
theorem geti_nat {α : Type} (xs : List α) (i : Nat) : geti xs (i : Int) = xs[i]? := by unfold geti; rw [if_pos (by omega)]; rfl
theorem geti_zero {α : Type} (xs : List α) : geti xs 0 = xs[0]? := geti_nat xs 0
theorem geti_lt {α : Type} (xs : List α) {i : Nat} (h : i < xs.length) : geti xs (i : Int) = some xs[i] := by rw [geti_nat, List.getElem?_eq_getElem h]
theorem wrap_id {n : Int} (h0 : -9223372036854775808 ≤ n) (h : n ≤ 9223372036854775807) : IntKind.i64.wrap n = n := by
  simp [IntKind.wrap, IntKind.signed, IntKind.bits]
  omega
theorem wrap_succ {α : Type} {xs : List α} (hx : xs.length ≤ maxLen) {i : Nat} (h : i < xs.length) : IntKind.i64.wrap ((i : Int) + 1) = ((i + 1 : Nat) : Int) := by
  unfold maxLen at hx
  rw [wrap_id (by omega) (by omega)]; rfl
theorem wrap_pred {i : Nat} (h : i ≤ 9223372036854775807) : IntKind.i64.wrap ((i : Int) - 1) = (i : Int) - 1 := wrap_id (by omega) (by omega)
theorem slc_take {α : Type} (xs : List α) {i : Nat} (h : i ≤ xs.length) : slc xs 0 (i : Int) = some (xs.take i) := by
  unfold slc; rw [if_pos ⟨by omega, by omega, by omega⟩]; simp
theorem v8_lt (a b : UInt8) : decide (a < b) = decide (a.toNat < b.toNat) := decide_eq_decide.2 UInt8.lt_iff_toNat_lt
theorem v8_gt (a b : UInt8) : decide (a > b) = decide (b.toNat < a.toNat) := decide_eq_decide.2 UInt8.lt_iff_toNat_lt
theorem v8_beq (a b : UInt8) : (a == b) = decide (a.toNat = b.toNat) := by
  show decide (a = b) = _
  exact decide_eq_decide.2 UInt8.toNat_inj.symm
theorem v8_bne (a b : UInt8) : (a != b) = !decide (a.toNat = b.toNat) := by rw [bne, v8_beq]
theorem not_dec {p q : Prop} [Decidable p] [Decidable q] (h : p ↔ ¬ q) : decide p = !decide q := by
  cases hq : decide q with
  | true => exact decide_eq_false fun hp => h.1 hp (of_decide_eq_true hq)
  | false => exact decide_eq_true (h.2 (of_decide_eq_false hq))
theorem lt_tt {α : Type} {xs : List α} {i : Nat} (h : i < xs.length) : decide ((i : Int) < (xs.length : Int)) = true := decide_eq_true (by omega)
theorem lt_ff {α : Type} {xs : List α} : decide ((xs.length : Int) < (xs.length : Int)) = false := decide_eq_false (by omega)
def forT {α R : Type} (body : Nat → α → R → R) (k : R) : List α → Nat → R
  | [], _ => k
  | x :: xs, i => body i x (forT body k xs (i + 1))
theorem loop_from {α R : Type} {f : Nat → Int → Option R} {T : (Int → Option R) → Int → Option R} (hf : ∀ n s, f (n + 1) s = T (f n) s) (xs : List α) {body : Nat → α → R → R} {k : R}
    (hT : ∀ (self : Int → Option R) (i : Nat) (h : i < xs.length) (r : R), self ((i + 1 : Nat) : Int) = some r → T self (i : Int) = some (body i xs[i] r))
    (hE : ∀ self : Int → Option R, T self (xs.length : Int) = some k) :
    ∀ (m n i : Nat), i + m = xs.length → m < n → f n (i : Int) = some (forT body k (xs.drop i) i)
  | 0, n, i, hi, hn => by
    obtain ⟨n, rfl⟩ : ∃ j, n = j + 1 := ⟨n - 1, by omega⟩
    have : i = xs.length := by omega
    subst this
    rw [hf, hE, List.drop_length]; rfl
  | m + 1, n, i, hi, hn => by
    obtain ⟨n, rfl⟩ : ∃ j, n = j + 1 := ⟨n - 1, by omega⟩
    have hlt : i < xs.length := by omega
    have ih := loop_from hf xs hT hE m n (i + 1) (by omega) (by omega)
    rw [hf, hT _ i hlt _ ih, List.drop_eq_getElem_cons hlt]; rfl
/-- A loop over a list that looks at each element. -/
theorem loop_for {α R : Type} {f : Nat → Int → Option R} {T : (Int → Option R) → Int → Option R} (hf : ∀ n s, f (n + 1) s = T (f n) s) (xs : List α) (hx : xs.length ≤ maxLen) {body : Nat → α → R → R} {k : R}
    (hT : ∀ (self : Int → Option R) (i : Nat) (h : i < xs.length) (r : R), self ((i + 1 : Nat) : Int) = some r → T self (i : Int) = some (body i xs[i] r))
    (hE : ∀ self : Int → Option R, T self (xs.length : Int) = some k) {N : Nat} (hN : big ≤ N) : f N 0 = some (forT body k xs 0) := by
  have := loop_from hf xs hT hE xs.length N 0 (by omega) (by unfold maxLen at hx; unfold big at hN; omega)
  simpa using this
/-- Where the first element lies of which something is true; -1: nowhere. -/
def idxP {α : Type} (p : α → Bool) (xs : List α) : Int := forT (fun i x r => if p x = true then (i : Int) else r) (-1) xs 0
theorem idxP_from {α : Type} (p : α → Bool) : ∀ (xs : List α) (j : Nat), let r := forT (fun i x r => if p x = true then (i : Int) else r) (-1) xs j
    (xs.find? p = none ∧ r = -1) ∨ ∃ i x, xs.find? p = some x ∧ xs[i]? = some x ∧ p x = true ∧ r = ((j + i : Nat) : Int)
  | [], _ => .inl ⟨rfl, rfl⟩
  | x :: xs, j => by
    cases hp : p x with
    | true => exact .inr ⟨0, x, by simp [hp], rfl, hp, by simp [forT, hp]⟩
    | false =>
      rcases idxP_from p xs (j + 1) with ⟨h1, h2⟩ | ⟨i, y, h1, h2, h3, h4⟩
      · exact .inl ⟨by simp [hp, h1], by simp only [forT, hp]; simpa using h2⟩
      · exact .inr ⟨i + 1, y, by simp [hp, h1], by simpa using h2, h3, by simp only [forT, hp]; rw [if_neg (by simp), h4]; congr 1; omega⟩
theorem idxP_cases {α : Type} (p : α → Bool) (xs : List α) : (xs.find? p = none ∧ idxP p xs = -1) ∨ ∃ (i : Nat) (x : α), xs.find? p = some x ∧ xs[i]? = some x ∧ p x = true ∧ idxP p xs = (i : Int) := by
  rcases idxP_from p xs 0 with h | ⟨i, x, h1, h2, h3, h4⟩
  · exact .inl h
  · exact .inr ⟨i, x, h1, h2, h3, by rw [idxP, h4]; simp⟩
theorem idxP_nonneg {α : Type} (p : α → Bool) (xs : List α) : decide (idxP p xs ≥ 0) = xs.any p := by
  rcases idxP_cases p xs with ⟨h1, h2⟩ | ⟨i, x, h1, h2, h3, h4⟩
  · rw [h2]
    have : xs.any p = false := by rw [List.any_eq_false]; intro x hx; have := List.find?_eq_none.1 h1 x hx; simpa using this
    rw [this]; rfl
  · rw [h4]
    have : xs.any p = true := List.any_eq_true.2 ⟨x, List.mem_of_getElem? h2, h3⟩
    rw [this]; exact decide_eq_true (by omega)
end Go.Proofs.YtbekhaioddmliaaGreatDoor


/- More on loops over a list, without fuel. No program in sight. -/
namespace Go.Proofs.YtbekhaioddmliaaGreatDoor
set_option linter.unusedVariables false
set_option linter.unusedSimpArgs false
open Go Go.RowKit
theorem loop_st_from {S R : Type} {f : Nat → Int → S → Option R} {T : (Int → S → Option R) → Int → S → Option R} (hf : ∀ n i s, f (n + 1) i s = T (f n) i s) (m : Nat) (st : Nat → S) {r : Option R}
    (hT : ∀ (self : Int → S → Option R) (i : Nat), i < m → self ((i + 1 : Nat) : Int) (st (i + 1)) = r → T self (i : Int) (st i) = r)
    (hE : ∀ self : Int → S → Option R, T self (m : Int) (st m) = r) :
    ∀ (d n i : Nat), i + d = m → d < n → f n (i : Int) (st i) = r
  | 0, n, i, hi, hn => by
    obtain ⟨n, rfl⟩ : ∃ j, n = j + 1 := ⟨n - 1, by omega⟩
    have : i = m := by omega
    subst this
    rw [hf, hE]
  | d + 1, n, i, hi, hn => by
    obtain ⟨n, rfl⟩ : ∃ j, n = j + 1 := ⟨n - 1, by omega⟩
    rw [hf]
    exact hT _ i (by omega) (loop_st_from hf m st hT hE d n (i + 1) (by omega) (by omega))
/-- A loop whose state is known at each round. -/
theorem loop_st {S R : Type} {f : Nat → Int → S → Option R} {T : (Int → S → Option R) → Int → S → Option R} (hf : ∀ n i s, f (n + 1) i s = T (f n) i s) {m : Nat} (hm : m ≤ maxLen) (st : Nat → S) {r : Option R}
    (hT : ∀ (self : Int → S → Option R) (i : Nat), i < m → self ((i + 1 : Nat) : Int) (st (i + 1)) = r → T self (i : Int) (st i) = r)
    (hE : ∀ self : Int → S → Option R, T self (m : Int) (st m) = r) {N : Nat} (hN : big ≤ N) : f N 0 (st 0) = r := by
  have := loop_st_from hf m st hT hE m N 0 (by omega) (by unfold maxLen at hm; unfold big at hN; omega)
  simpa using this
theorem br_pos {R : Type} {p : Prop} [Decidable p] {x y : Option R} (h : p) : br (decide p) x y = x := by rw [decide_eq_true h, br_true]
theorem br_neg {R : Type} {p : Prop} [Decidable p] {x y : Option R} (h : ¬ p) : br (decide p) x y = y := by rw [decide_eq_false h, br_false]
end Go.Proofs.YtbekhaioddmliaaGreatDoor


/- What Go's slices.Clone, DeleteFunc and BinarySearchFunc compute, as printed. No program in sight. -/
namespace Go.Proofs.YtbekhaioddmliaaGreatDoor
set_option linter.unusedVariables false
set_option linter.unusedSimpArgs false
open Go Go.RowKit
theorem clone_eq {α : Type} (sz : Nat) (xs : List α) (h : xs.length * sz ≤ 140737488355328) :
    br xs.isEmpty (both (some ([] : List α)) (br (decide ((([] : List α).length + xs.length) * sz ≤ 140737488355328)) (some (([] : List α) ++ xs)) none)) (br (decide ((([] : List α).length + xs.length) * sz ≤ 140737488355328)) (some (([] : List α) ++ xs)) none) = some xs := by
  have e : br (decide ((([] : List α).length + xs.length) * sz ≤ 140737488355328)) (some (([] : List α) ++ xs)) none = some xs := by
    rw [br_pos (by rw [List.length_nil, Nat.zero_add]; exact h), List.nil_append]
  rw [e]
  cases xs with
  | nil => rw [both_self]; simp
  | cons x xs => simp
/-- The first place. -/
theorem idxP_full {α : Type} (p : α → Bool) (xs : List α) : (idxP p xs = -1 ∧ ∀ x ∈ xs, p x = false) ∨ ∃ (i : Nat) (h : i < xs.length), idxP p xs = (i : Int) ∧ p xs[i] = true ∧ ∀ k (hk : k < i), p (xs[k]'(by omega)) = false := by
  have gen : ∀ (xs : List α) (j : Nat), (forT (fun i x r => if p x = true then (i : Int) else r) (-1) xs j = -1 ∧ ∀ x ∈ xs, p x = false) ∨
      ∃ (i : Nat) (h : i < xs.length), forT (fun i x r => if p x = true then (i : Int) else r) (-1) xs j = ((j + i : Nat) : Int) ∧ p xs[i] = true ∧ ∀ k (hk : k < i), p (xs[k]'(by omega)) = false := by
    intro xs
    induction xs with
    | nil => intro j; exact .inl ⟨rfl, by simp⟩
    | cons x xs ih =>
      intro j
      cases hp : p x with
      | true => exact .inr ⟨0, by simp, by simp [forT, hp], hp, fun k hk => absurd hk (Nat.not_lt_zero k)⟩
      | false =>
        rcases ih (j + 1) with ⟨h1, h2⟩ | ⟨i, h, h1, h2, h3⟩
        · refine .inl ⟨by simp only [forT, hp]; simpa using h1, fun y hy => ?_⟩
          rcases List.mem_cons.1 hy with rfl | hy
          · exact hp
          · exact h2 y hy
        · refine .inr ⟨i + 1, by simpa using h, by simp only [forT, hp]; rw [if_neg (by simp), h1]; congr 1; omega, by simpa using h2, fun k hk => ?_⟩
          cases k with
          | zero => exact hp
          | succ k => simpa using h3 k (by omega)
  rcases gen xs 0 with h | ⟨i, h, h1, h2⟩
  · exact .inl h
  · exact .inr ⟨i, h, by unfold idxP; rw [h1]; simp, h2⟩
theorem filter_take_succ {α : Type} (q : α → Bool) (xs : List α) {j : Nat} (h : j < xs.length) : (xs.take (j + 1)).filter q = (xs.take j).filter q ++ if q xs[j] then [xs[j]] else [] := by
  rw [List.take_succ_eq_append_getElem h, List.filter_append]
  congr 1
  cases hq : q xs[j] <;> simp [hq]
/-- One round of slices.DeleteFunc. -/
def delT {α R : Type} (P : α → Option Bool) (k0 : Int → List α → Option R) (self : Int → Int → List α → Option R) (s5 s6 : Int) (w : List α) : Option R :=
  br (decide (s6 < (w.length : Int)))
    (br (decide (0 ≤ s6 ∧ s6 < (w.length : Int)))
      (bnd (geti w s6) fun t25 =>
      bnd (P t25) fun t28 =>
      br (!t28)
        (br (decide (0 ≤ s5 ∧ s5 < (w.length : Int)))
          (bnd (geti w s5) fun _ =>
          self (IntKind.i64.wrap (s5 + (1 : Int))) (IntKind.i64.wrap (s6 + (1 : Int))) (seti w s5 t25))
          none)
        (self s5 (IntKind.i64.wrap (s6 + (1 : Int))) w))
      none)
    (k0 s5 w)
theorem del_loop {α R : Type} {w0 : List α} (hx : w0.length ≤ maxLen) (p : α → Bool) {P : α → Option Bool} (hP : ∀ t ∈ w0, P t = some (p t)) {k0 : Int → List α → Option R} {f : Nat → Int → Int → List α → Option R}
    (hf : ∀ n a b w, f (n + 1) a b w = delT P k0 (f n) a b w) : ∀ (m n i j : Nat) (w : List α), j + m = w0.length → m < n → i ≤ j → w.length = w0.length → w.drop j = w0.drop j → i = ((w0.take j).filter fun x => !p x).length → w.take i = (w0.take j).filter (fun x => !p x) →
    ∃ w' : List α, w'.length = w0.length ∧ w'.take (w0.filter fun x => !p x).length = w0.filter (fun x => !p x) ∧ f n (i : Int) (j : Int) w = k0 ((w0.filter fun x => !p x).length : Int) w'
  | 0, n, i, j, w, hj, hn, hij, hl, hd, hi, ht => by
    obtain ⟨n, rfl⟩ : ∃ q, n = q + 1 := ⟨n - 1, by omega⟩
    have hjl : j = w0.length := by omega
    rw [hjl, List.take_length] at hi ht
    refine ⟨w, hl, by rw [← hi]; exact ht, ?_⟩
    rw [hf, delT, br_neg (by rw [hl]; omega), hi]
  | m + 1, n, i, j, w, hj, hn, hij, hl, hd, hi, ht => by
    obtain ⟨n, rfl⟩ : ∃ q, n = q + 1 := ⟨n - 1, by omega⟩
    have hjw : j < w.length := by omega
    have hj0 : j < w0.length := by omega
    have hwj : w[j] = w0[j] := by
      have := congrArg (fun l => l[0]?) hd
      simp only [List.getElem?_drop, Nat.add_zero] at this
      rw [List.getElem?_eq_getElem hjw, List.getElem?_eq_getElem hj0] at this
      exact Option.some.inj this
    have hwj1 : IntKind.i64.wrap ((j : Int) + 1) = ((j + 1 : Nat) : Int) := by unfold maxLen at hx; rw [wrap_id (by omega) (by omega)]; rfl
    have hwi1 : IntKind.i64.wrap ((i : Int) + 1) = ((i + 1 : Nat) : Int) := by unfold maxLen at hx; rw [wrap_id (by omega) (by omega)]; rfl
    have hd1 : w.drop (j + 1) = w0.drop (j + 1) := by
      have := congrArg (List.drop 1) hd
      simpa [List.drop_drop] using this
    rw [hf, delT, br_pos (by omega), br_pos (by omega), geti_lt w hjw, bnd_some, hwj, hP _ (List.getElem_mem hj0), bnd_some, hwj1]
    have hfs := filter_take_succ (fun x => !p x) w0 hj0
    cases hp : p w0[j] with
    | false =>
      have hiw : i < w.length := by omega
      rw [Bool.not_false, br_true, br_pos (by omega), geti_lt w hiw, bnd_some, hwi1]
      rw [hp] at hfs
      simp only [Bool.not_false, if_true] at hfs
      refine del_loop hx p hP hf m n (i + 1) (j + 1) (seti w (i : Int) w0[j]) (by omega) (by omega) (by omega) (by unfold seti; rw [List.length_set]; exact hl) ?_ ?_ ?_
      · unfold seti
        rw [Int.toNat_natCast, List.drop_set_of_lt (by omega), hd1]
      · rw [hfs, List.length_append, ← hi]; rfl
      · unfold seti
        rw [hfs, ← ht, Int.toNat_natCast, List.take_succ_eq_append_getElem (by rw [List.length_set]; exact hiw), List.getElem_set_self, List.take_set_of_le (Nat.le_refl i)]
    | true =>
      rw [Bool.not_true, br_false]
      rw [hp] at hfs
      simp only [Bool.not_true, Bool.false_eq_true, if_false, List.append_nil] at hfs
      exact del_loop hx p hP hf m n i (j + 1) w (by omega) (by omega) (by omega) hl hd1 (by rw [hfs]; exact hi) (by rw [hfs]; exact ht)
theorem deleteFunc_eq {α : Type} {N : Nat} (hN : big ≤ N) {w0 : List α} (hx : w0.length ≤ maxLen) (p : α → Bool) {P : α → Option Bool} (hP : ∀ t ∈ w0, P t = some (p t)) (z : α) {f : Nat → Int → Int → List α → Option (List α)}
    (hf : ∀ n a b w, f (n + 1) a b w = delT P (fun o0_5 o0_w0 =>
        br (decide (0 ≤ o0_5 ∧ o0_5 ≤ (o0_w0.length : Int) ∧ 0 < o0_w0.length))
          (br (decide (0 ≤ o0_5 ∧ o0_5 ≤ ((clr o0_w0 o0_5 z).length : Int)))
            (some (cut (clr o0_w0 o0_5 z) o0_5))
            none)
          none) (f n) a b w) :
    br (idxP p w0 == (-1 : Int)) (some w0) (f N (idxP p w0) (IntKind.i64.wrap (idxP p w0 + (1 : Int))) w0) = some (w0.filter fun x => !p x) := by
  rcases idxP_full p w0 with ⟨h1, h2⟩ | ⟨i, h, h1, h2, h3⟩
  · rw [h1]
    have : w0.filter (fun x => !p x) = w0 := List.filter_eq_self.2 fun x hx => by rw [h2 x hx]; rfl
    rw [this]
    simp
  · have hne : ((i : Int) == -1) = false := beq_eq_false_iff_ne.2 (by omega)
    have hw : IntKind.i64.wrap ((i : Int) + 1) = ((i + 1 : Nat) : Int) := by unfold maxLen at hx; rw [wrap_id (by omega) (by omega)]; rfl
    have hall : (w0.take i).filter (fun x => !p x) = w0.take i := List.filter_eq_self.2 fun x hx => by
      obtain ⟨k, hk, rfl⟩ := List.getElem_of_mem hx
      rw [List.length_take] at hk
      rw [List.getElem_take, h3 k (by omega)]; rfl
    have hfs := filter_take_succ (fun x => !p x) w0 h
    rw [h2] at hfs
    simp only [Bool.not_true, Bool.false_eq_true, if_false, List.append_nil] at hfs
    rw [hall] at hfs
    obtain ⟨w', hl', ht', he⟩ := del_loop hx p hP hf (w0.length - (i + 1)) N i (i + 1) w0 (by omega) (by unfold maxLen at hx; unfold big at hN; omega) (by omega) rfl rfl (by rw [hfs, List.length_take]; omega) (by rw [hfs])
    rw [h1, hne, br_false, hw, he]
    have hle : (w0.filter fun x => !p x).length ≤ w0.length := List.length_filter_le _ _
    have hcl : (clr w' ((w0.filter fun x => !p x).length : Int) z).length = w'.length := by
      unfold clr; rw [Int.toNat_natCast, List.length_append, List.length_take, List.length_replicate]; omega
    rw [br_pos ⟨by omega, by omega, by omega⟩, br_pos ⟨by omega, by rw [hcl]; omega⟩]
    congr 1
    unfold cut clr
    rw [Int.toNat_natCast, List.take_append_of_le_length (by rw [List.length_take]; omega), List.take_take, Nat.min_self, ht']
/-- One round of slices.BinarySearchFunc; 'lt x': x comes before what is looked for. -/
def binT {α R : Type} (xs : List α) (C : α → Option Int) (k0 : Int → Option R) (self : Int → Int → Option R) (s9 s10 : Int) : Option R :=
  br (decide (s9 < s10))
    (br (decide (0 ≤ (1 : Int)))
      (bnd (geti xs (IntKind.i64.wrap (shrI .u64 (IntKind.u64.wrap (IntKind.i64.wrap (s9 + s10))) (1 : Int)))) fun t27 =>
      bnd (C t27) fun t30 =>
      br (decide (t30 < (0 : Int)))
        (self (IntKind.i64.wrap ((IntKind.i64.wrap (shrI .u64 (IntKind.u64.wrap (IntKind.i64.wrap (s9 + s10))) (1 : Int))) + (1 : Int))) s10)
        (self s9 (IntKind.i64.wrap (shrI .u64 (IntKind.u64.wrap (IntKind.i64.wrap (s9 + s10))) (1 : Int)))))
      none)
    (k0 s9)
theorem shr_mid {i j : Nat} (h : i + j ≤ 9223372036854775807) : IntKind.i64.wrap (shrI .u64 (IntKind.u64.wrap (IntKind.i64.wrap ((i : Int) + (j : Int)))) (1 : Int)) = (((i + j) / 2 : Nat) : Int) := by
  have e1 : IntKind.i64.wrap ((i : Int) + (j : Int)) = ((i + j : Nat) : Int) := by rw [wrap_id (by omega) (by omega)]; omega
  have e2 : IntKind.u64.wrap ((i + j : Nat) : Int) = ((i + j : Nat) : Int) := by
    simp [IntKind.wrap, IntKind.signed, IntKind.bits]
    omega
  have e3 : shrI .u64 ((i + j : Nat) : Int) 1 = (((i + j) / 2 : Nat) : Int) := by
    unfold shrI
    have : (2 : Int) ^ (min (1 : Int).toNat IntKind.u64.bits) = 2 := by decide
    rw [this, Int.fdiv_eq_ediv_of_nonneg _ (by omega)]
    omega
  rw [e1, e2, e3, wrap_id (by omega) (by omega)]
/-- Where the first elements end that come before. -/
def lowN {α : Type} (lt : α → Bool) (xs : List α) : Nat := (xs.takeWhile lt).length
theorem lowN_le {α : Type} (lt : α → Bool) (xs : List α) : lowN lt xs ≤ xs.length := (List.takeWhile_sublist lt).length_le
theorem lowN_eq {α : Type} (lt : α → Bool) : ∀ (xs : List α) (i : Nat), i ≤ xs.length → (∀ k (h : k < xs.length), k < i → lt xs[k] = true) → (∀ h : i < xs.length, lt xs[i] = false) → lowN lt xs = i
  | [], i, hi, _, _ => by
    have : i = 0 := by simpa using hi
    rw [this]; rfl
  | x :: xs, 0, _, _, h => by
    have := h (by simp)
    simp only [List.getElem_cons_zero] at this
    unfold lowN; rw [List.takeWhile_cons_of_neg (by simp [this])]; rfl
  | x :: xs, i + 1, hi, h1, h2 => by
    have h0 := h1 0 (by simp) (by omega)
    simp only [List.getElem_cons_zero] at h0
    have ih := lowN_eq lt xs i (by simpa using hi) (fun k hk hki => by have := h1 (k + 1) (by simpa using hk) (by omega); simpa using this) (fun h => by have := h2 (by simpa using h); simpa using this)
    unfold lowN at ih ⊢
    rw [List.takeWhile_cons_of_pos h0, List.length_cons, ih]
theorem bin_loop {α R : Type} {xs : List α} (hx : xs.length ≤ 1000000) (lt : α → Bool) {C : α → Option Int} (hC : ∀ t ∈ xs, ∃ c, C t = some c ∧ decide (c < 0) = lt t) (hmono : ∀ a b (ha : a < xs.length) (hb : b < xs.length), a ≤ b → lt xs[b] = true → lt xs[a] = true)
    {k0 : Int → Option R} {f : Nat → Int → Int → Option R} (hf : ∀ n a b, f (n + 1) a b = binT xs C k0 (f n) a b) :
    ∀ (m n i j : Nat), j - i ≤ m → m < n → i ≤ j → j ≤ xs.length → (∀ k (h : k < xs.length), k < i → lt xs[k] = true) → (∀ k (h : k < xs.length), j ≤ k → lt xs[k] = false) → f n (i : Int) (j : Int) = k0 (lowN lt xs : Int)
  | m, n, i, j, hm, hn, hij, hj, h1, h2 => by
    obtain ⟨n, rfl⟩ : ∃ q, n = q + 1 := ⟨n - 1, by omega⟩
    rw [hf, binT]
    by_cases hlt : i < j
    · rw [br_pos (by omega), br_pos (by omega), shr_mid (by omega)]
      have hmid : (i + j) / 2 < xs.length := by omega
      obtain ⟨c, hc1, hc2⟩ := hC _ (List.getElem_mem hmid)
      rw [geti_lt xs hmid, bnd_some, hc1, bnd_some, hc2]
      obtain ⟨m, rfl⟩ : ∃ q, m = q + 1 := ⟨m - 1, by omega⟩
      have hw : IntKind.i64.wrap ((((i + j) / 2 : Nat) : Int) + 1) = (((i + j) / 2 + 1 : Nat) : Int) := by rw [wrap_id (by omega) (by omega)]; rfl
      cases hl : lt xs[(i + j) / 2] with
      | true =>
        rw [br_true, hw]
        exact bin_loop hx lt hC hmono hf m n ((i + j) / 2 + 1) j (by omega) (by omega) (by omega) hj (fun k hk hki => hmono k _ hk hmid (by omega) hl) h2
      | false =>
        rw [br_false]
        refine bin_loop hx lt hC hmono hf m n i ((i + j) / 2) (by omega) (by omega) (by omega) (by omega) h1 (fun k hk hjk => ?_)
        cases hk2 : lt xs[k] with
        | false => rfl
        | true => rw [hmono _ k hmid hk hjk hk2] at hl; cases hl
    · rw [br_neg (by omega)]
      have : i = j := by omega
      subst this
      rw [lowN_eq lt xs i hj h1 (fun h => h2 i h (Nat.le_refl i))]
theorem cmp_lt : ∀ (a b : List UInt8), decide (Lib.compareBytes a b < 0) = decide (a < b)
  | [], [] => by simp [Lib.compareBytes]
  | [], _ :: _ => by simp [Lib.compareBytes]
  | _ :: _, [] => by simp [Lib.compareBytes]
  | a :: x, b :: y => by
    rw [Lib.compareBytes]
    simp only [List.cons_lt_cons_iff]
    by_cases h1 : a < b
    · simp [h1]
    · by_cases h2 : b < a
      · have : ¬ a = b := fun e => by subst e; exact h1 h2
        simp [h1, h2, this]
      · have : a = b := UInt8.le_antisymm (UInt8.not_lt.1 h2) (UInt8.not_lt.1 h1)
        subst this
        have := cmp_lt x y
        simp only [h1, if_false, false_or, true_and]
        exact this
end Go.Proofs.YtbekhaioddmliaaGreatDoor

