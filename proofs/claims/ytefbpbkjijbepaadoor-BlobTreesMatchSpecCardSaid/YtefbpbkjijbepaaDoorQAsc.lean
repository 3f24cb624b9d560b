/- More words for memory: a slice whose elements are read by a relation; making room. No program is in sight here. -/
import Derived.Test.YtefbpbkjijbepaaDoorQBm4
import Derived.Test.YtefbpbkjijbepaaDoorQBmX
import Derived.Laws.StructEq
import Derived.Lib.Bytealg
import Derived.Test.YtefbpbkjijbepaaDoorQBm1
namespace Go.Proofs.YtefbpbkjijbepaaDoor
open Go Go.RowKit
/-- A place at which a walk is to stand still. -/
def Stop (p : Prop) : Prop := p
/-- A slice value whose elements, of sz cells each, are the things of a list. -/
def SL {α : Type} (w : World) (sz : Nat) (R : List Value → α → Prop) (v : Value) (L : List α) : Prop :=
  ∃ A c, v = .slice A L.length c ∧ L.length ≤ c ∧ c ≤ maxLen ∧ ∀ i (h : i < L.length), ∃ ad vs, A = some ad ∧ vs.length = sz ∧ R vs L[i] ∧ ∀ j u, vs[j]? = some u → w.cell? (ad.add (i * sz + j)) = some u
theorem SL.ext {α : Type} {w w' : World} {sz : Nat} {R R' : List Value → α → Prop} {v : Value} {L : List α} (h : SL w sz R v L) (hE : Ext w w') (hR : ∀ vs x, R vs x → R' vs x) : SL w' sz R' v L := by
  obtain ⟨A, c, e, h1, h2, hr⟩ := h
  refine ⟨A, c, e, h1, h2, fun i hi => ?_⟩
  obtain ⟨ad, vs, a1, a2, a3, a4⟩ := hr i hi
  exact ⟨ad, vs, a1, a2, hR _ _ a3, fun j u hu => hE.cell (a4 j u hu)⟩
theorem SL.nil {α : Type} (w : World) (sz : Nat) (R : List Value → α → Prop) : SL w sz R (.slice none 0 0) [] := ⟨none, 0, rfl, Nat.le_refl _, Nat.zero_le _, fun i h => absurd h (by simp)⟩
/-- Bytes as an element. -/
def BsE (w : World) (vs : List Value) (l : List UInt8) : Prop := ∃ v, vs = [v] ∧ Bs w v l
theorem BsE.ext {w w' : World} {vs : List Value} {l : List UInt8} (h : BsE w vs l) (hE : Ext w w') : BsE w' vs l := let ⟨v, e, h⟩ := h; ⟨v, e, h.ext hE⟩
/-- A slice of slices of bytes. -/
def BBs (w : World) (v : Value) (L : List (List UInt8)) : Prop := SL w 1 (BsE w) v L
theorem BBs.ext {w w' : World} {v : Value} {L : List (List UInt8)} (h : BBs w v L) (hE : Ext w w') : BBs w' v L := SL.ext h hE fun _ _ h => h.ext hE
theorem SL.of_own {α : Type} {w : World} {base : Nat} {e : TypeId} {v : Value} {xs : List Value} {R : List Value → α → Prop} {L : List α} (h : w.ownsRow base e 1 v L.length xs) (hR : ∀ i (h : i < L.length) u, xs[i]? = some u → R [u] L[i]) : SL w 1 R v L := by
  have hn : xs.length = L.length := by have := h.1; omega
  obtain ⟨A, c, rfl, h1, h2, hr⟩ := Row.of_own' h
  refine ⟨A, c, rfl, h1, h2, fun i hi => ?_⟩
  obtain ⟨ad, rfl, hc⟩ := hr.at_ (List.getElem?_eq_getElem (show i < xs.length by omega))
  refine ⟨ad, [xs[i]'(by omega)], rfl, rfl, hR i hi _ (List.getElem?_eq_getElem _), fun j u hu => ?_⟩
  match j, hu with
  | 0, hu => simp at hu; subst hu; simpa using hc
theorem BBs.at_ {w : World} {A : Option Addr} {n c : Nat} {L : List (List UInt8)} (h : BBs w (.slice A n c) L) {i : Nat} (hi : i < L.length) : ∃ ad B d, A = some ad ∧ w.cell? (ad.add i) = some (.slice B (L[i]'hi).length d) ∧ (L[i]'hi).length ≤ d ∧ d ≤ maxLen ∧ Row w B (bcs (L[i]'hi)) := by
  obtain ⟨A', c', e, _, _, hr⟩ := h
  obtain ⟨ad, vs, a1, a2, ⟨v, rfl, ⟨B, d, rfl, h1, h2, h3⟩⟩, a4⟩ := hr i hi
  injection e with e1 e2 e3
  subst e1
  exact ⟨ad, B, d, a1, by simpa using a4 0 _ rfl, h1, h2, h3⟩
end Go.Proofs.YtefbpbkjijbepaaDoor


/- Structs of plain fields are compared as the machine compares them. -/
namespace Go.Proofs.YtefbpbkjijbepaaDoor
set_option linter.unusedVariables false
set_option linter.unusedSimpArgs false
open Go Go.RowKit
/-- A plain type of one cell. -/
inductive Sc (P : Program) : Ty → TypeId → Prop where
  | u8 {T : TypeId} : P.underlying T = some (.int .u8) → Sc P .u8 T
  | int {T : TypeId} {k : IntKind} : P.underlying T = some (.int k) → Sc P (.int k) T
  | bool {T : TypeId} : P.underlying T = some .bool → Sc P .bool T
  | str {T : TypeId} : P.underlying T = some .string → Sc P .str T
inductive FlatF (P : Program) : Ty → List Field → Nat → Prop where
  | nil {o : Nat} : FlatF P .un [] o
  | one {t : Ty} {f : Field} {o : Nat} : f.offset = o → f.name ≠ "_" → Sc P t f.type → FlatF P t [f] o
  | single {t : Ty} {f : Field} {o : Nat} : f.offset = o → f.name ≠ "_" → Sc P t f.type → FlatF P (.pr t .un) [f] o
  | cons {a b : Ty} {f : Field} {fs : List Field} {o : Nat} : f.offset = o → f.name ≠ "_" → Sc P a f.type → FlatF P b fs (o + 1) → FlatF P (.pr a b) (f :: fs) o
section
variable {P : Program} {w : World}
theorem Sc.sz {t : Ty} {T : TypeId} (h : Sc P t T) : t.sz = 1 := by cases h <;> rfl
theorem Sc.cell {t : Ty} {T : TypeId} (h : Sc P t T) (x : t.den) : ∃ c, cellsOf t x = [c] := by cases h <;> exact ⟨_, rfl⟩
theorem Sc.isAgg {t : Ty} {T : TypeId} (h : Sc P t T) : (Go.isAgg T).run P w = .ok false w := by
  cases h <;> rename_i hu <;> simp [Go.isAgg, run_underlying hu]
theorem Sc.eq {t : Ty} {T : TypeId} (h : Sc P t T) (d : Nat) {x y : t.den} {a b : Value} (ha : cellsOf t x = [a]) (hb : cellsOf t y = [b]) : (Op.equalIn (d + 1) T a b).run P w = .ok (eqb t x y) w := by
  cases h with
  | u8 hu =>
    have ha' : [Value.int .u8 (UInt8.toNat x)] = [a] := ha
    have hb' : [Value.int .u8 (UInt8.toNat y)] = [b] := hb
    injection ha' with ha'; injection hb' with hb'
    subst ha'; subst hb'
    rw [run_equalIn_int w d _ _ _ _ _ hu]
    congr 1
    show decide _ = decide _
    exact decide_eq_decide.2 ⟨fun h => UInt8.toNat_inj.1 (by omega), fun h => by rw [h]⟩
  | int hu =>
    have ha' : [Value.int _ x] = [a] := ha
    have hb' : [Value.int _ y] = [b] := hb
    injection ha' with ha'; injection hb' with hb'
    subst ha'; subst hb'
    rw [run_equalIn_int w d _ _ _ _ _ hu]
    rfl
  | bool hu =>
    have ha' : [Value.bool x] = [a] := ha
    have hb' : [Value.bool y] = [b] := hb
    injection ha' with ha'; injection hb' with hb'
    subst ha'; subst hb'
    rw [run_equalIn_bool' w d _ _ _ hu]
    rfl
  | str hu =>
    have ha' : [Value.string ⟨List.toArray x⟩] = [a] := ha
    have hb' : [Value.string ⟨List.toArray y⟩] = [b] := hb
    injection ha' with ha'; injection hb' with hb'
    subst ha'; subst hb'
    rw [run_equalIn_string w d _ _ _ hu, Lib.toList_data, Lib.toList_data]
    rfl
theorem run_part_at {T : TypeId} {xs : Array Value} {o : Nat} {c : Value} (h : (Go.isAgg T).run P w = .ok false w) (hc : xs[o]? = some c) : (part T xs o).run P w = .ok c w := by
  simp [part, h, hc]
theorem flat_eq (d : Nat) : ∀ (fs : List Field) (t : Ty) (o : Nat) (xs ys : Array Value) (x y : t.den), FlatF P t fs o → (xs.toList.drop o).take t.sz = cellsOf t x → (ys.toList.drop o).take t.sz = cellsOf t y →
    (Op.eqFields (d + 1) xs ys fs).run P w = .ok (eqb t x y) w := by
  have hone : ∀ (xs : Array Value) (o : Nat) (c : Value) (n : Nat) (l : List Value), (xs.toList.drop o).take (1 + n) = c :: l → xs[o]? = some c ∧ (xs.toList.drop (o + 1)).take n = l := fun xs o c n l h => by
    have hc : xs.toList.drop o = c :: xs.toList.drop (o + 1) := by
      cases hd : xs.toList.drop o with
      | nil => rw [hd] at h; simp at h
      | cons e r =>
        rw [hd, Nat.add_comm, List.take_succ_cons] at h
        injection h with h1 h2
        rw [h1]
        congr 1
        have := congrArg (List.drop 1) hd
        rw [List.drop_drop] at this
        simpa [Nat.add_comm] using this.symm
    refine ⟨?_, ?_⟩
    · have := congrArg (fun l => l[0]?) hc
      simpa using this
    · rw [hc, Nat.add_comm, List.take_succ_cons] at h
      injection h
  intro fs
  induction fs with
  | nil =>
    intro t o xs ys x y hf _ _
    cases hf
    simp [Op.eqFields, eqb]
  | cons f fs ih =>
    intro t o xs ys x y hf hx hy
    have hstep : ∀ (a : Ty) (xa ya : a.den) (ca cb : Value) (r : Bool), f.offset = o → f.name ≠ "_" → Sc P a f.type → cellsOf a xa = [ca] → cellsOf a ya = [cb] → xs[o]? = some ca → ys[o]? = some cb →
        (Op.eqFields (d + 1) xs ys fs).run P w = .ok r w → (Op.eqFields (d + 1) xs ys (f :: fs)).run P w = .ok (eqb a xa ya && r) w := fun a xa ya ca cb r ho hn hs h1 h2 h3 h4 h5 => by
      subst ho
      simp only [Op.eqFields, hn, ne_eq, not_false_eq_true, if_true, Sem.run_bind, run_part_at hs.isAgg h3, run_part_at hs.isAgg h4, hs.eq d h1 h2, Result.andThen_ok]
      cases eqb a xa ya with
      | true => simpa using h5
      | false => simp
    cases hf with
    | one ho hn hs =>
      obtain ⟨ca, h1⟩ := hs.cell x
      obtain ⟨cb, h2⟩ := hs.cell y
      rw [hs.sz, h1] at hx
      rw [hs.sz, h2] at hy
      have := hstep t x y ca cb true ho hn hs h1 h2 (hone xs o ca 0 [] hx).1 (hone ys o cb 0 [] hy).1 (by simp [Op.eqFields])
      simpa using this
    | single ho hn hs =>
      rename_i a
      obtain ⟨xa, u⟩ := x
      obtain ⟨ya, v⟩ := y
      obtain ⟨ca, h1⟩ := hs.cell xa
      obtain ⟨cb, h2⟩ := hs.cell ya
      have hx' : (xs.toList.drop o).take (a.sz + 0) = cellsOf a xa ++ [] := hx
      have hy' : (ys.toList.drop o).take (a.sz + 0) = cellsOf a ya ++ [] := hy
      rw [hs.sz, h1] at hx'
      rw [hs.sz, h2] at hy'
      exact hstep a xa ya ca cb true ho hn hs h1 h2 (hone xs o ca 0 [] hx').1 (hone ys o cb 0 [] hy').1 (by simp [Op.eqFields])
    | @cons a b _ _ _ ho hn hs hr =>
      obtain ⟨xa, xb⟩ := x
      obtain ⟨ya, yb⟩ := y
      obtain ⟨ca, h1⟩ := hs.cell xa
      obtain ⟨cb, h2⟩ := hs.cell ya
      have hx' : (xs.toList.drop o).take (a.sz + b.sz) = cellsOf a xa ++ cellsOf b xb := hx
      have hy' : (ys.toList.drop o).take (a.sz + b.sz) = cellsOf a ya ++ cellsOf b yb := hy
      rw [hs.sz, h1] at hx'
      rw [hs.sz, h2] at hy'
      obtain ⟨k1, k2⟩ := hone xs o ca b.sz _ hx'
      obtain ⟨k3, k4⟩ := hone ys o cb b.sz _ hy'
      exact hstep a xa ya ca cb _ ho hn hs h1 h2 k1 k3 (ih b (o + 1) xs ys xb yb hr k2 k4)
theorem FlatF.len {t : Ty} {fs : List Field} {o : Nat} (h : FlatF P t fs o) (x : t.den) : (cellsOf t x).length = t.sz := by
  induction h with
  | nil => rfl
  | one _ _ hs => obtain ⟨c, hc⟩ := hs.cell x; rw [hc, hs.sz]; rfl
  | single _ _ hs =>
    obtain ⟨xa, u⟩ := x
    obtain ⟨c, hc⟩ := hs.cell xa
    show (cellsOf _ xa ++ []).length = _ + 0
    rw [hc, hs.sz]; rfl
  | cons _ _ hs _ ih =>
    obtain ⟨xa, xb⟩ := x
    obtain ⟨c, hc⟩ := hs.cell xa
    show (cellsOf _ xa ++ cellsOf _ xb).length = _ + _
    rw [List.length_append, hc, hs.sz, ih xb]; rfl
theorem CmpOk.flat {T : TypeId} {t : Ty} {fs : Array Field} (hc : flatCmp t = true) (ha : t.isAgg = true) (hu : P.underlying T = some (.struct fs)) (hp : P.stoodInHeld T = false) (hg : P.eqGuardType P.depth T = false) (hf : FlatF P t fs.toList 0) : CmpOk P T t := by
  have hfo : P.fieldsOf T = fs := by unfold Program.fieldsOf; rw [hu]
  have heq : ∀ (x y : t.den) (w : World), (Op.equalIn 10000 T (.agg (cellsOf t x).toArray) (.agg (cellsOf t y).toArray)).run P w = .ok (eqb t x y) w := fun x y w => by
    rw [run_equalIn_agg w 9999 T _ _ (by rw [hfo]; exact hu) hp, hfo]
    refine flat_eq 9998 fs.toList t 0 _ _ x y hf ?_ ?_
    · rw [List.drop_zero, List.take_of_length_le (by simp [hf.len x])]
    · rw [List.drop_zero, List.take_of_length_le (by simp [hf.len y])]
  refine ⟨hc, ha, fun x y ox oy w => ⟨?_, ?_⟩⟩
  · simp only [Sem.run_bind, run_eqGuard_agg w _ _ _ _ _ _ hg, Result.andThen_ok, run_eql_struct, heq]
  · simp only [Sem.run_bind, run_eqGuard_agg w _ _ _ _ _ _ hg, Result.andThen_ok, run_neq_struct, heq]
end
end Go.Proofs.YtefbpbkjijbepaaDoor


/- Lists in order, each name once. No program in sight. -/
namespace Go.Proofs.YtefbpbkjijbepaaDoor
set_option linter.unusedVariables false
open Go
theorem perm_strict {α : Type} {R : α → α → Prop} (hirr : ∀ a b, R a b → R b a → False) : ∀ (l1 l2 : List α), l1.Perm l2 → l1.Pairwise R → l2.Pairwise R → l1 = l2
  | [], l2, h, _, _ => (List.nil_perm.1 h).symm
  | a :: l1, [], h, _, _ => by have := h.length_eq; simp at this
  | a :: l1, b :: l2, h, h1, h2 => by
    have hab : a = b := by
      apply Classical.byContradiction
      intro hne
      have ha : a ∈ b :: l2 := h.subset (List.mem_cons_self ..)
      have hb : b ∈ a :: l1 := h.symm.subset (List.mem_cons_self ..)
      rcases List.mem_cons.1 ha with e | ha
      · exact hne e
      · rcases List.mem_cons.1 hb with e | hb
        · exact hne e.symm
        · exact hirr a b ((List.pairwise_cons.1 h1).1 b hb) ((List.pairwise_cons.1 h2).1 a ha)
    subst hab
    rw [perm_strict hirr l1 l2 (List.Perm.cons_inv h) (List.pairwise_cons.1 h1).2 (List.pairwise_cons.1 h2).2]
theorem str_lt_irrefl (a : Str) : ¬ a < a := List.lt_irrefl a
theorem str_lt_trans {a b c : Str} (h1 : a < b) (h2 : b < c) : a < c := List.lt_trans h1 h2
theorem str_tri (a b : Str) (h1 : ¬ a < b) (h2 : ¬ b < a) : a = b := List.le_antisymm h2 h1
end Go.Proofs.YtefbpbkjijbepaaDoor


/- Things in order by a name that each has but once: what stands for them is in order with them. No program in sight. -/
namespace Go.Proofs.YtefbpbkjijbepaaDoor
set_option linter.unusedVariables false
open Go
def leKey {α : Type} (key : α → Str) (a b : α) : Bool := decide (key a ≤ key b)
theorem sorted_strictK {α : Type} {key : α → Str} {l : List α} (hn : (l.map key).Nodup) (hs : l.Pairwise fun a b => ¬ key b < key a) : l.Pairwise fun a b => key a < key b := by
  induction l with
  | nil => exact List.Pairwise.nil
  | cons a l ih =>
    rw [List.map_cons, List.nodup_cons] at hn
    obtain ⟨h1, h2⟩ := List.pairwise_cons.1 hs
    refine List.pairwise_cons.2 ⟨fun b hb => ?_, ih hn.2 h2⟩
    apply Classical.byContradiction
    intro hlt
    have := str_tri _ _ hlt (h1 b hb)
    exact hn.1 (this ▸ List.mem_map.2 ⟨b, hb, rfl⟩)
theorem mergeSort_key {α : Type} (key : α → Str) (l : List α) : (l.mergeSort (leKey key)).Pairwise fun a b => ¬ key b < key a := by
  have := List.pairwise_mergeSort (le := leKey key) (fun a b c h1 h2 => by
    simp only [leKey, decide_eq_true_eq] at *
    exact List.le_trans h1 h2) (fun a b => by
    simp only [leKey, Bool.or_eq_true, decide_eq_true_eq]
    exact List.le_total _ _) l
  exact this.imp fun h => by simpa [leKey] using h
/-- What is in order, and has the same things, each name once, is what the merge sort gives. -/
theorem sort_uniqueK {α : Type} {key : α → Str} {l d : List α} (hn : (l.map key).Nodup) (hp : d.Perm l) (hs : d.Pairwise fun a b => ¬ key b < key a) : d = l.mergeSort (leKey key) := by
  have hp2 : d.Perm (l.mergeSort (leKey key)) := hp.trans (List.mergeSort_perm l (leKey key)).symm
  have hn1 : (d.map key).Nodup := (hp.map _).nodup_iff.2 hn
  have hn2 : ((l.mergeSort (leKey key)).map key).Nodup := ((List.mergeSort_perm l (leKey key)).map _).nodup_iff.2 hn
  exact perm_strict (R := fun a b => key a < key b) (fun a b h1 h2 => str_lt_irrefl _ (str_lt_trans h1 h2)) d _ hp2 (sorted_strictK hn1 hs) (sorted_strictK hn2 (mergeSort_key key l))
theorem perm_lift {α β : Type} (f : α → β) {d m : List β} (h : d.Perm m) : ∀ {l : List α}, l.map f = m → ∃ l' : List α, l'.Perm l ∧ l'.map f = d := by
  induction h with
  | nil => intro l e; exact ⟨[], by rw [List.map_eq_nil_iff.1 e], rfl⟩
  | cons x _ ih =>
    intro l e
    cases l with
    | nil => cases e
    | cons a l =>
      injection e with e1 e2
      obtain ⟨l', h1, h2⟩ := ih e2
      exact ⟨a :: l', h1.cons a, by rw [List.map_cons, h2, e1]⟩
  | swap x y r =>
    intro l e
    match l, e with
    | a :: b :: l, e =>
      injection e with e1 e2
      injection e2 with e2 e3
      exact ⟨b :: a :: l, List.Perm.swap .., by rw [List.map_cons, List.map_cons, e1, e2, e3]⟩
  | trans _ _ ih1 ih2 =>
    intro l e
    obtain ⟨l2, h1, h2⟩ := ih2 e
    obtain ⟨l1, h3, h4⟩ := ih1 h2
    exact ⟨l1, h3.trans h1, h4⟩
theorem All2.zip {α β : Type} {R : α → β → Prop} : ∀ {l : List α} {m : List β}, All2 R l m → (l.zip m).map (·.1) = l ∧ (l.zip m).map (·.2) = m ∧ ∀ p ∈ l.zip m, R p.1 p.2
  | [], [], _ => ⟨rfl, rfl, fun p h => by cases h⟩
  | a :: l, b :: m, h => by
    obtain ⟨h1, h2, h3⟩ := All2.zip h.2
    refine ⟨by rw [List.zip_cons_cons, List.map_cons, h1], by rw [List.zip_cons_cons, List.map_cons, h2], fun p hp => ?_⟩
    rcases List.mem_cons.1 hp with rfl | hp
    · exact h.1
    · exact h3 p hp
  | [], _ :: _, h => h.elim
  | _ :: _, [], h => h.elim
theorem All2.of_pairs {α β : Type} {R : α → β → Prop} : ∀ {l : List (α × β)}, (∀ p ∈ l, R p.1 p.2) → All2 R (l.map (·.1)) (l.map (·.2))
  | [], _ => trivial
  | p :: l, h => ⟨h p (List.mem_cons_self ..), All2.of_pairs fun q hq => h q (List.mem_cons_of_mem _ hq)⟩
/-- Things, and what stands for them: if the latter have been put in order by name, they stand for the former in order. -/
theorem sort_rel {α γ : Type} {key : α → Str} {key' : γ → Str} {R : α → γ → Prop} {xs : List α} {cs d : List γ} (h : All2 R xs cs) (hk : ∀ x c, R x c → key' c = key x) (hn : (xs.map key).Nodup) (hp : d.Perm cs)
    (hs : d.Pairwise fun a b => ¬ key' b < key' a) : All2 R (xs.mergeSort (leKey key)) d := by
  obtain ⟨h1, h2, h3⟩ := h.zip
  obtain ⟨qs, hq, rfl⟩ := perm_lift (fun p : α × γ => p.2) hp h2
  have hR : ∀ p ∈ qs, R p.1 p.2 := fun p hp => h3 p (hq.subset hp)
  have e : qs.map (·.1) = xs.mergeSort (leKey key) := by
    refine sort_uniqueK hn ?_ ?_
    · have := hq.map (·.1)
      rw [h1] at this
      exact this
    · rw [List.pairwise_map] at hs ⊢
      refine List.Pairwise.imp_of_mem (fun {a b} ha hb hlt => ?_) hs
      rw [← hk _ _ (hR a ha), ← hk _ _ (hR b hb)]
      exact hlt
  rw [← e]
  exact All2.of_pairs hR
end Go.Proofs.YtefbpbkjijbepaaDoor


/- How patterns fit, row by row (plain lists; no program in sight). -/
namespace Go.Proofs.YtefbpbkjijbepaaDoor
set_option linter.unusedVariables false
set_option linter.unusedSimpArgs false
open Go
end Go.Proofs.YtefbpbkjijbepaaDoor


/- Loops over a list, without fuel. No program in sight. -/
namespace Go.Proofs.YtefbpbkjijbepaaDoor
set_option linter.unusedVariables false
set_option linter.unusedSimpArgs false
open Go Go.RowKit
/-- More rounds than any loop over a slice makes. -/
def big : Nat := 18446744073709551616
theorem geti_nat {α : Type} (xs : List α) (i : Nat) : geti xs (i : Int) = xs[i]? := by unfold geti; rw [if_pos (by omega)]; rfl
theorem geti_lt {α : Type} (xs : List α) {i : Nat} (h : i < xs.length) : geti xs (i : Int) = some xs[i] := by rw [geti_nat, List.getElem?_eq_getElem h]
theorem wrap_id {n : Int} (h0 : -9223372036854775808 ≤ n) (h : n ≤ 9223372036854775807) : IntKind.i64.wrap n = n := by
  simp [IntKind.wrap, IntKind.signed, IntKind.bits]
  omega
theorem slc_take {α : Type} (xs : List α) {i : Nat} (h : i ≤ xs.length) : slc xs 0 (i : Int) = some (xs.take i) := by
  unfold slc; rw [if_pos ⟨by omega, by omega, by omega⟩]; simp
end Go.Proofs.YtefbpbkjijbepaaDoor


/- More on loops over a list, without fuel. No program in sight. -/
namespace Go.Proofs.YtefbpbkjijbepaaDoor
set_option linter.unusedVariables false
set_option linter.unusedSimpArgs false
open Go Go.RowKit
theorem br_pos {R : Type} {p : Prop} [Decidable p] {x y : Option R} (h : p) : br (decide p) x y = x := by rw [decide_eq_true h, br_true]
theorem br_neg {R : Type} {p : Prop} [Decidable p] {x y : Option R} (h : ¬ p) : br (decide p) x y = y := by rw [decide_eq_false h, br_false]
end Go.Proofs.YtefbpbkjijbepaaDoor


/- Names in order, loops that are left early, maps of names. No program in sight. -/
namespace Go.Proofs.YtefbpbkjijbepaaDoor
set_option linter.unusedVariables false
set_option linter.unusedSimpArgs false
open Go Go.RowKit
theorem less_eq : ∀ (x y : List UInt8), Op.bytesLess x y = decide (x < y)
  | [], [] => by simp [Op.bytesLess]
  | _ :: _, [] => by simp [Op.bytesLess]
  | [], _ :: _ => by simp [Op.bytesLess]
  | a :: x, b :: y => by
    rw [Op.bytesLess, less_eq x y]
    simp only [List.cons_lt_cons_iff]
    by_cases h1 : a < b <;> by_cases h2 : a = b <;> by_cases h3 : x < y <;> simp [h1, h2, h3]
theorem lt_tri (a b : Str) : a < b ∨ a = b ∨ b < a := by
  rcases Classical.em (a < b) with h | h
  · exact .inl h
  · rcases List.le_iff_lt_or_eq.1 (List.not_lt.1 h) with h | h
    · exact .inr (.inr h)
    · exact .inr (.inl h.symm)
theorem le_not (n y : Str) : (Op.bytesLess n y || n == y) = !decide (y < n) := by
  rw [less_eq]
  rcases lt_tri n y with h | h | h
  · rw [decide_eq_true h, decide_eq_false (List.lt_asymm h)]; rfl
  · subst h
    rw [decide_eq_false (List.lt_irrefl n), beq_self_eq_true]; rfl
  · rw [decide_eq_false (List.lt_asymm h), decide_eq_true h]
    have : n ≠ y := fun e => List.lt_irrefl n (by rw [e] at h ⊢; exact h)
    simp [this]
/-- Names in order. -/
def Asc {α : Type} (l : List (Str × α)) : Prop := l.Pairwise fun a b => a.1 < b.1
theorem asc_iff {α : Type} (l : List (Str × α)) : (∀ i (hi : i < l.length), ∀ y, i ≠ 0 → l[i - 1]? = some y → y.1 < l[i].1) ↔ Asc l := by
  constructor
  · intro h
    have step : ∀ i (hi : i + 1 < l.length), l[i].1 < l[i + 1].1 := fun i hi => h (i + 1) hi _ (by omega) (by rw [show i + 1 - 1 = i from rfl, List.getElem?_eq_getElem (by omega)])
    refine List.pairwise_iff_getElem.2 fun i j hi hj hij => ?_
    have : ∀ d (hd : i + 1 + d < l.length), l[i].1 < l[i + 1 + d].1 := by
      intro d
      induction d with
      | zero => intro hd; exact step i hd
      | succ d ih => intro hd; exact List.lt_trans (ih (by omega)) (step (i + 1 + d) hd)
    have := this (j - (i + 1)) (by omega)
    have e : i + 1 + (j - (i + 1)) = j := by omega
    simpa only [e] using this
  · intro h i hi y h0 hy
    obtain ⟨hl, rfl⟩ := List.getElem?_eq_some_iff.1 hy
    exact List.pairwise_iff_getElem.1 h (i - 1) i hl hi (by omega)
theorem Asc.find {α : Type} {l : List (Str × α)} (h : Asc l) {s : Str × α} (hs : s ∈ l) : l.find? (fun x => x.1 == s.1) = some s := by
  induction l with
  | nil => cases hs
  | cons x l ih =>
    have hx := List.pairwise_cons.1 h
    rcases List.mem_cons.1 hs with rfl | hs
    · simp
    · have : x.1 < s.1 := hx.1 s hs
      have hne : x.1 ≠ s.1 := fun e => by rw [e] at this; exact List.lt_irrefl _ this
      rw [List.find?_cons_of_neg (by simpa using hne)]
      exact ih hx.2 hs
theorem Asc.inj {α : Type} {l : List (Str × α)} (h : Asc l) {s t : Str × α} (hs : s ∈ l) (ht : t ∈ l) (e : s.1 = t.1) : s = t := by
  have h1 := h.find hs
  rw [e, h.find ht] at h1
  exact (Option.some.inj h1).symm
theorem Asc.ext {α : Type} : ∀ {a b : List (Str × α)}, Asc a → Asc b → (∀ p, p ∈ a ↔ p ∈ b) → a = b
  | [], [], _, _, _ => rfl
  | [], y :: b, _, _, h => by have := (h y).2 (by simp); cases this
  | x :: a, [], _, _, h => by have := (h x).1 (by simp); cases this
  | x :: a, y :: b, ha, hb, h => by
    have ha' := List.pairwise_cons.1 ha
    have hb' := List.pairwise_cons.1 hb
    have hxy : x = y := by
      rcases List.mem_cons.1 ((h x).1 (by simp)) with e | h1
      · exact e
      · rcases List.mem_cons.1 ((h y).2 (by simp)) with e | h2
        · exact e.symm
        · exact absurd (ha'.1 y h2) (List.lt_asymm (hb'.1 x h1))
    subst hxy
    refine congrArg _ (Asc.ext ha'.2 hb'.2 fun p => ⟨fun hp => ?_, fun hp => ?_⟩)
    · rcases List.mem_cons.1 ((h p).1 (List.mem_cons_of_mem _ hp)) with rfl | h1
      · exact absurd (ha'.1 p hp) (List.lt_irrefl _)
      · exact h1
    · rcases List.mem_cons.1 ((h p).2 (List.mem_cons_of_mem _ hp)) with rfl | h1
      · exact absurd (hb'.1 p hp) (List.lt_irrefl _)
      · exact h1
theorem Asc.nodup {α : Type} {l : List (Str × α)} (h : Asc l) : (l.map (·.1)).Nodup := by
  rw [List.Nodup, List.pairwise_map]
  exact h.imp fun {a b} hab e => by
    have e : a.1 = b.1 := e
    rw [e] at hab; exact List.lt_irrefl _ hab
theorem Asc.len {α β : Type} {c : List (Str × α)} {l : List (Str × β)} (h : Asc c) (hm : ∀ p ∈ c, ∃ s ∈ l, s.1 = p.1) : c.length ≤ l.length := by
  have := h.nodup.length_le_of_subset (l₂ := l.map (·.1)) (fun n hn => by
    obtain ⟨p, hp, rfl⟩ := List.mem_map.1 hn
    obtain ⟨s, hs, e⟩ := hm p hp
    exact List.mem_map.2 ⟨s, hs, e⟩)
  simpa using this
/-- The first of some rounds that is left early, and with what. -/
def exits {α : Type} (ex : Nat → Option α) : Nat → Nat → Option α
  | 0, _ => none
  | d + 1, i => match ex i with | some z => some z | none => exits ex d (i + 1)
theorem exits_succ {α : Type} (ex : Nat → Option α) (d i : Nat) : exits ex (d + 1) i = match ex i with | some z => some z | none => exits ex d (i + 1) := by rw [exits]
theorem exits_none {α : Type} {ex : Nat → Option α} : ∀ {d i : Nat}, exits ex d i = none ↔ ∀ j, i ≤ j → j < i + d → ex j = none
  | 0, i => ⟨fun _ j h1 h2 => absurd h2 (by omega), fun _ => rfl⟩
  | d + 1, i => by
    unfold exits
    cases h : ex i with
    | some z => exact ⟨fun e => (by cases e), fun e => by rw [e i (Nat.le_refl _) (by omega)] at h; cases h⟩
    | none =>
      show exits ex d (i + 1) = none ↔ _
      rw [exits_none]
      constructor
      · intro e j h1 h2
        rcases Nat.eq_or_lt_of_le h1 with rfl | h1
        · exact h
        · exact e j (by omega) (by omega)
      · intro e j h1 h2
        exact e j (by omega) (by omega)
theorem exits_some {α : Type} {ex : Nat → Option α} {z : α} : ∀ {d i : Nat}, exits ex d i = some z → ∃ j, i ≤ j ∧ j < i + d ∧ ex j = some z ∧ ∀ k, i ≤ k → k < j → ex k = none
  | 0, i, h => by cases h
  | d + 1, i, h => by
    unfold exits at h
    cases hx : ex i with
    | some y =>
      rw [hx] at h
      exact ⟨i, Nat.le_refl _, by omega, by rw [hx]; exact h, fun k h1 h2 => absurd h2 (by omega)⟩
    | none =>
      rw [hx] at h
      obtain ⟨j, h1, h2, h3, h4⟩ := exits_some (i := i + 1) h
      refine ⟨j, by omega, by omega, h3, fun k h5 h6 => ?_⟩
      rcases Nat.eq_or_lt_of_le h5 with rfl | h5
      · exact hx
      · exact h4 k h5 h6
/-- A loop whose state is known at each round, and that may be left early. -/
theorem exit_loop {S R : Type} {f : Nat → S → Option R} (m : Nat) (st : Nat → S) (ex : Nat → Option (Option R)) {r : Option R}
    (hT : ∀ n i, i < m → f (n + 1) (st i) = (ex i).getD (f n (st (i + 1)))) (hE : ∀ n, f (n + 1) (st m) = r) : ∀ n, m < n → f n (st 0) = (exits ex m 0).getD r := by
  have gen : ∀ (d n i : Nat), i + d = m → d < n → f n (st i) = (exits ex d i).getD r := by
    intro d
    induction d with
    | zero =>
      intro n i h hn
      obtain ⟨n, rfl⟩ : ∃ j, n = j + 1 := ⟨n - 1, by omega⟩
      obtain rfl : i = m := by omega
      rw [hE]; rfl
    | succ d ih =>
      intro n i h hn
      obtain ⟨n, rfl⟩ : ∃ j, n = j + 1 := ⟨n - 1, by omega⟩
      rw [hT n i (by omega), ih n (i + 1) (by omega) (by omega)]
      rw [exits_succ]
      cases ex i <;> rfl
  intro n hn
  exact gen m n 0 (by omega) hn
/-- The search in the middle. -/
theorem bsearch {R : Type} {f : Nat → Int → Int → Option R} (m : Nat) (lt : Nat → Bool) (mono : ∀ i j, i ≤ j → j < m → lt j = true → lt i = true) {k : Nat → Option R}
    (hT : ∀ n lo hi : Nat, lo < hi → hi ≤ m → f (n + 1) (lo : Int) (hi : Int) = if lt ((lo + hi) / 2) = true then f n (((lo + hi) / 2 + 1 : Nat) : Int) (hi : Int) else f n (lo : Int) (((lo + hi) / 2 : Nat) : Int))
    (hE : ∀ n lo : Nat, lo ≤ m → f (n + 1) (lo : Int) (lo : Int) = k lo) :
    ∃ c, c ≤ m ∧ (∀ j, j < c → lt j = true) ∧ (∀ j, c ≤ j → j < m → lt j = false) ∧ ∀ n, m < n → f n 0 (m : Int) = k c := by
  have hc : ∃ c, c ≤ m ∧ (∀ j, j < c → lt j = true) ∧ (∀ j, c ≤ j → j < m → lt j = false) := by
    have : ∀ d, d ≤ m → ∃ c, c ≤ d ∧ (∀ j, j < c → lt j = true) ∧ (∀ j, c ≤ j → j < d → lt j = false) := by
      intro d
      induction d with
      | zero => intro _; exact ⟨0, Nat.le_refl _, fun j h => absurd h (by omega), fun j h1 h2 => absurd h2 (by omega)⟩
      | succ d ih =>
        intro hd
        obtain ⟨c, h1, h2, h3⟩ := ih (by omega)
        cases h : lt d with
        | true => exact ⟨d + 1, Nat.le_refl _, fun j hj => mono j d (by omega) (by omega) h, fun j h4 h5 => absurd h5 (by omega)⟩
        | false =>
          refine ⟨c, by omega, h2, fun j h4 h5 => ?_⟩
          rcases Nat.eq_or_lt_of_le (Nat.le_of_lt_succ h5) with rfl | h5
          · exact h
          · exact h3 j h4 h5
    exact this m (Nat.le_refl _)
  obtain ⟨c, h1, h2, h3⟩ := hc
  refine ⟨c, h1, h2, h3, ?_⟩
  have gen : ∀ (d n lo hi : Nat), lo ≤ c → c ≤ hi → hi ≤ m → hi - lo ≤ d → d < n → f n (lo : Int) (hi : Int) = k c := by
    intro d
    induction d with
    | zero =>
      intro n lo hi h4 h5 h6 h7 h8
      obtain ⟨n, rfl⟩ : ∃ j, n = j + 1 := ⟨n - 1, by omega⟩
      obtain rfl : lo = c := by omega
      obtain rfl : hi = lo := by omega
      exact hE n _ h6
    | succ d ih =>
      intro n lo hi h4 h5 h6 h7 h8
      obtain ⟨n, rfl⟩ : ∃ j, n = j + 1 := ⟨n - 1, by omega⟩
      by_cases hl : lo = hi
      · subst hl
        obtain rfl : lo = c := by omega
        exact hE n _ h6
      · rw [hT n lo hi (by omega) h6]
        cases h : lt ((lo + hi) / 2) with
        | true =>
          rw [if_pos rfl]
          refine ih n _ hi ?_ h5 h6 (by omega) (by omega)
          apply Classical.byContradiction
          intro hn
          have := h3 ((lo + hi) / 2) (by omega) (by omega)
          rw [h] at this; cases this
        | false =>
          rw [if_neg (by simp)]
          refine ih n lo _ h4 ?_ (by omega) (by omega) (by omega)
          apply Classical.byContradiction
          intro hn
          have := h2 ((lo + hi) / 2) (by omega)
          rw [h] at this; cases this
  intro n hn
  exact gen m n 0 m (by omega) h1 (Nat.le_refl _) (by omega) hn
theorem mget_mset {α : Type} (m : List (Str × α)) (k : Str) (x : α) (p : Str) : mget (mset m k x) p = if (p == k) = true then some x else mget m p := by
  induction m with
  | nil => simp only [mset, mget]
  | cons q m ih =>
    obtain ⟨j, y⟩ := q
    unfold mset
    cases h : k == j with
    | true =>
      have e := eq_of_beq h
      subst e
      simp only [if_true, mget]
      cases p == k <;> simp
    | false =>
      simp only [Bool.false_eq_true, if_false, mget, ih]
      cases h1 : p == j with
      | true =>
        have e := eq_of_beq h1
        subst e
        have : (p == k) = false := by
          cases h2 : p == k with
          | false => rfl
          | true => have e := eq_of_beq h2; subst e; simp at h
        simp [this]
      | false => simp
/-- The map of some names, each with true. -/
def keysM (l : List Str) (m : List (Str × Bool)) : List (Str × Bool) := l.foldl (fun m x => mset m x true) m
theorem keysM_get : ∀ (l : List Str) (m : List (Str × Bool)) (p : Str), mget (keysM l m) p = if l.any (p == ·) = true then some true else mget m p
  | [], m, p => by simp [keysM]
  | x :: l, m, p => by
    show mget (keysM l (mset m x true)) p = _
    rw [keysM_get l, mget_mset, List.any_cons]
    cases l.any (p == ·) <;> cases p == x <;> simp
theorem keysM_snoc (l : List Str) (x : Str) (m : List (Str × Bool)) : keysM (l ++ [x]) m = mset (keysM l m) x true := by unfold keysM; rw [List.foldl_append]; rfl
end Go.Proofs.YtefbpbkjijbepaaDoor

