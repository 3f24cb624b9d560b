/- Facts on right settings and configurations. No program in sight. -/
import Derived.Test.YtbekhaioddmliaaDoorQLHolds
namespace Go.Proofs.YtbekhaioddmliaaDoor
set_option linter.unusedVariables false
set_option linter.unusedSimpArgs false
open Go Go.RowKit
theorem less_eq : ∀ (x y : List UInt8), Op.bytesLess x y = decide (x < y)
  | [], [] => by simp [Op.bytesLess]
  | _ :: _, [] => by simp [Op.bytesLess]
  | [], _ :: _ => by simp [Op.bytesLess]
  | a :: x, b :: y => by
    rw [Op.bytesLess, less_eq x y]
    simp only [List.cons_lt_cons_iff]
    by_cases h1 : a < b <;> by_cases h2 : a = b <;> by_cases h3 : x < y <;> simp [h1, h2, h3]
theorem lt_tri (a b : Str) : a < b ∨ a = b ∨ b < a := by
  rcases Classical.em (a < b) with h | h
  · exact .inl h
  · rcases List.le_iff_lt_or_eq.1 (List.not_lt.1 h) with h | h
    · exact .inr (.inr h)
    · exact .inr (.inl h.symm)
theorem le_not (n y : Str) : (Op.bytesLess n y || n == y) = !decide (y < n) := by
  rw [less_eq]
  rcases lt_tri n y with h | h | h
  · rw [decide_eq_true h, decide_eq_false (List.lt_asymm h)]; rfl
  · subst h
    rw [decide_eq_false (List.lt_irrefl n), beq_self_eq_true]; rfl
  · rw [decide_eq_false (List.lt_asymm h), decide_eq_true h]
    have : n ≠ y := fun e => List.lt_irrefl n (by rw [e] at h ⊢; exact h)
    simp [this]
/-- Names in order. -/
def Asc {α : Type} (l : List (Str × α)) : Prop := l.Pairwise fun a b => a.1 < b.1
theorem forT_zero {α : Type} {q : Nat → α → Prop} {body : Nat → α → Int → Int} (h : ∀ i x r, body i x r = 0 ↔ q i x ∧ r = 0) : ∀ (xs : List α) (j : Nat), forT body 0 xs j = 0 ↔ ∀ i (hi : i < xs.length), q (j + i) xs[i]
  | [], _ => by simp [forT]
  | x :: xs, j => by
    show body j x (forT body 0 xs (j + 1)) = 0 ↔ _
    rw [h, forT_zero h xs (j + 1)]
    constructor
    · rintro ⟨h0, h1⟩ i hi
      cases i with
      | zero => exact h0
      | succ i => have := h1 i (by simpa using hi); simpa [Nat.add_assoc, Nat.add_comm 1] using this
    · intro h'
      refine ⟨h' 0 (by simp), fun i hi => ?_⟩
      have := h' (i + 1) (by simpa using hi)
      simpa [Nat.add_assoc, Nat.add_comm 1] using this
theorem asc_iff {α : Type} (l : List (Str × α)) : (∀ i (hi : i < l.length), ∀ y, i ≠ 0 → l[i - 1]? = some y → y.1 < l[i].1) ↔ Asc l := by
  constructor
  · intro h
    have step : ∀ i (hi : i + 1 < l.length), l[i].1 < l[i + 1].1 := fun i hi => h (i + 1) hi _ (by omega) (by rw [show i + 1 - 1 = i from rfl, List.getElem?_eq_getElem (by omega)])
    refine List.pairwise_iff_getElem.2 fun i j hi hj hij => ?_
    have : ∀ d (hd : i + 1 + d < l.length), l[i].1 < l[i + 1 + d].1 := by
      intro d
      induction d with
      | zero => intro hd; exact step i hd
      | succ d ih => intro hd; exact List.lt_trans (ih (by omega)) (step (i + 1 + d) hd)
    have := this (j - (i + 1)) (by omega)
    have e : i + 1 + (j - (i + 1)) = j := by omega
    simpa only [e] using this
  · intro h i hi y h0 hy
    obtain ⟨hl, rfl⟩ := List.getElem?_eq_some_iff.1 hy
    exact List.pairwise_iff_getElem.1 h (i - 1) i hl hi (by omega)
theorem Asc.find {α : Type} {l : List (Str × α)} (h : Asc l) {s : Str × α} (hs : s ∈ l) : l.find? (fun x => x.1 == s.1) = some s := by
  induction l with
  | nil => cases hs
  | cons x l ih =>
    have hx := List.pairwise_cons.1 h
    rcases List.mem_cons.1 hs with rfl | hs
    · simp
    · have : x.1 < s.1 := hx.1 s hs
      have hne : x.1 ≠ s.1 := fun e => by rw [e] at this; exact List.lt_irrefl _ this
      rw [List.find?_cons_of_neg (by simpa using hne)]
      exact ih hx.2 hs
theorem find_mem {α : Type} {l : List (Str × α)} {n : Str} {s : Str × α} (h : l.find? (fun x => x.1 == n) = some s) : s ∈ l ∧ s.1 = n :=
  ⟨List.mem_of_find?_eq_some h, by simpa using List.find?_some h⟩
theorem Asc.inj {α : Type} {l : List (Str × α)} (h : Asc l) {s t : Str × α} (hs : s ∈ l) (ht : t ∈ l) (e : s.1 = t.1) : s = t := by
  have h1 := h.find hs
  rw [e, h.find ht] at h1
  exact (Option.some.inj h1).symm
theorem Asc.ext {α : Type} : ∀ {a b : List (Str × α)}, Asc a → Asc b → (∀ p, p ∈ a ↔ p ∈ b) → a = b
  | [], [], _, _, _ => rfl
  | [], y :: b, _, _, h => by have := (h y).2 (by simp); cases this
  | x :: a, [], _, _, h => by have := (h x).1 (by simp); cases this
  | x :: a, y :: b, ha, hb, h => by
    have ha' := List.pairwise_cons.1 ha
    have hb' := List.pairwise_cons.1 hb
    have hxy : x = y := by
      rcases List.mem_cons.1 ((h x).1 (by simp)) with e | h1
      · exact e
      · rcases List.mem_cons.1 ((h y).2 (by simp)) with e | h2
        · exact e.symm
        · exact absurd (ha'.1 y h2) (List.lt_asymm (hb'.1 x h1))
    subst hxy
    refine congrArg _ (Asc.ext ha'.2 hb'.2 fun p => ⟨fun hp => ?_, fun hp => ?_⟩)
    · rcases List.mem_cons.1 ((h p).1 (List.mem_cons_of_mem _ hp)) with rfl | h1
      · exact absurd (ha'.1 p hp) (List.lt_irrefl _)
      · exact h1
    · rcases List.mem_cons.1 ((h p).2 (List.mem_cons_of_mem _ hp)) with rfl | h1
      · exact absurd (hb'.1 p hp) (List.lt_irrefl _)
      · exact h1
theorem Asc.nodup {α : Type} {l : List (Str × α)} (h : Asc l) : (l.map (·.1)).Nodup := by
  rw [List.Nodup, List.pairwise_map]
  exact h.imp fun {a b} hab e => by
    have e : a.1 = b.1 := e
    rw [e] at hab; exact List.lt_irrefl _ hab
theorem Asc.len {α β : Type} {c : List (Str × α)} {l : List (Str × β)} (h : Asc c) (hm : ∀ p ∈ c, ∃ s ∈ l, s.1 = p.1) : c.length ≤ l.length := by
  have := h.nodup.length_le_of_subset (l₂ := l.map (·.1)) (fun n hn => by
    obtain ⟨p, hp, rfl⟩ := List.mem_map.1 hn
    obtain ⟨s, hs, e⟩ := hm p hp
    exact List.mem_map.2 ⟨s, hs, e⟩)
  simpa using this
/-- Right settings. -/
structure SetOk (l : List (Str × List Str)) : Prop where
  len : l.length ≤ 30
  asc : Asc l
  name : ∀ s ∈ l, isWordS s.1 = true
  some : ∀ s ∈ l, s.2 ≠ []
  few : ∀ s ∈ l, s.2.length ≤ 20
  word : ∀ s ∈ l, ∀ v ∈ s.2, isWordS v = true
  once : ∀ s ∈ l, s.2.Nodup
/-- A pair that says a value of a setting; 'strict': not the default. -/
def PairOk (l : List (Str × List Str)) (strict : Bool) (p : Str × Str) : Prop := ∃ s, l.find? (fun s => s.1 == p.1) = some s ∧ p.2 ∈ s.2 ∧ (strict = true → s.2.head? ≠ some p.2)
/-- A right configuration of right settings. -/
structure CfgOk (l : List (Str × List Str)) (c : List (Str × Str)) : Prop where
  set : SetOk l
  pair : ∀ p ∈ c, PairOk l true p
  asc : Asc c
theorem PairOk.mem {l : List (Str × List Str)} {strict : Bool} {p : Str × Str} (h : PairOk l strict p) : ∃ s ∈ l, s.1 = p.1 ∧ p.2 ∈ s.2 := by
  obtain ⟨s, h1, h2, _⟩ := h
  exact ⟨s, (find_mem h1).1, (find_mem h1).2, h2⟩
theorem CfgOk.len {l : List (Str × List Str)} {c : List (Str × Str)} (h : CfgOk l c) : c.length ≤ 30 :=
  Nat.le_trans (h.asc.len fun p hp => by obtain ⟨s, h1, h2, _⟩ := (h.pair p hp).mem; exact ⟨s, h1, h2⟩) h.set.len
end Go.Proofs.YtbekhaioddmliaaDoor
