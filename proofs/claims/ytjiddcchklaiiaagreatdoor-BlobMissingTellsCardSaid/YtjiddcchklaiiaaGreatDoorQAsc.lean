/- Names in order, loops that are left early, maps of names. No program in sight. -/
import Derived.Test.YtjiddcchklaiiaaGreatDoorQFor2
namespace Go.Proofs.YtjiddcchklaiiaaGreatDoor
set_option linter.unusedVariables false
set_option linter.unusedSimpArgs false
open Go Go.RowKit
theorem less_eq : ∀ (x y : List UInt8), Op.bytesLess x y = decide (x < y)
 | [], [] => by simp [Op.bytesLess]
 | _ :: _, [] => by simp [Op.bytesLess]
 | [], _ :: _ => by simp [Op.bytesLess]
 | a :: x, b :: y => by
   rw [Op.bytesLess, less_eq x y]
   simp only [List.cons_lt_cons_iff]
   by_cases h1 : a < b <;> by_cases h2 : a = b <;> by_cases h3 : x < y <;> simp [h1, h2, h3]
theorem lt_tri (a b : Str) : a < b ∨ a = b ∨ b < a := by
 rcases Classical.em (a < b) with h | h
 · exact .inl h
 · rcases List.le_iff_lt_or_eq.1 (List.not_lt.1 h) with h | h
   · exact .inr (.inr h)
   · exact .inr (.inl h.symm)
theorem le_not (n y : Str) : (Op.bytesLess n y || n == y) = !decide (y < n) := by
 rw [less_eq]
 rcases lt_tri n y with h | h | h
 · rw [decide_eq_true h, decide_eq_false (List.lt_asymm h)]; rfl
 · subst h
   rw [decide_eq_false (List.lt_irrefl n), beq_self_eq_true]; rfl
 · rw [decide_eq_false (List.lt_asymm h), decide_eq_true h]
   have : n ≠ y := fun e => List.lt_irrefl n (by rw [e] at h ⊢; exact h)
   simp [this]
def Asc {α : Type} (l : List (Str × α)) : Prop := l.Pairwise fun a b => a.1 < b.1
theorem asc_iff {α : Type} (l : List (Str × α)) : (∀ i (hi : i < l.length), ∀ y, i ≠ 0 → l[i - 1]? = some y → y.1 < l[i].1) ↔ Asc l := by
 constructor
 · intro h
   have step : ∀ i (hi : i + 1 < l.length), l[i].1 < l[i + 1].1 := fun i hi => h (i + 1) hi _ (by omega) (by rw [show i + 1 - 1 = i from rfl, List.getElem?_eq_getElem (by omega)])
   refine List.pairwise_iff_getElem.2 fun i j hi hj hij => ?_
   have : ∀ d (hd : i + 1 + d < l.length), l[i].1 < l[i + 1 + d].1 := by
     intro d
     induction d with
     | zero => intro hd; exact step i hd
     | succ d ih => intro hd; exact List.lt_trans (ih (by omega)) (step (i + 1 + d) hd)
   have := this (j - (i + 1)) (by omega)
   have e : i + 1 + (j - (i + 1)) = j := by omega
   simpa only [e] using this
 · intro h i hi y h0 hy
   obtain ⟨hl, rfl⟩ := List.getElem?_eq_some_iff.1 hy
   exact List.pairwise_iff_getElem.1 h (i - 1) i hl hi (by omega)
theorem Asc.find {α : Type} {l : List (Str × α)} (h : Asc l) {s : Str × α} (hs : s ∈ l) : l.find? (fun x => x.1 == s.1) = some s := by
 induction l with
 | nil => cases hs
 | cons x l ih =>
   have hx := List.pairwise_cons.1 h
   rcases List.mem_cons.1 hs with rfl | hs
   · simp
   · have : x.1 < s.1 := hx.1 s hs
     have hne : x.1 ≠ s.1 := fun e => by rw [e] at this; exact List.lt_irrefl _ this
     rw [List.find?_cons_of_neg (by simpa using hne)]
     exact ih hx.2 hs
theorem Asc.inj {α : Type} {l : List (Str × α)} (h : Asc l) {s t : Str × α} (hs : s ∈ l) (ht : t ∈ l) (e : s.1 = t.1) : s = t := by
 have h1 := h.find hs
 rw [e, h.find ht] at h1
 exact (Option.some.inj h1).symm
theorem Asc.ext {α : Type} : ∀ {a b : List (Str × α)}, Asc a → Asc b → (∀ p, p ∈ a ↔ p ∈ b) → a = b
 | [], [], _, _, _ => rfl
 | [], y :: b, _, _, h => by have := (h y).2 (by simp); cases this
 | x :: a, [], _, _, h => by have := (h x).1 (by simp); cases this
 | x :: a, y :: b, ha, hb, h => by
   have ha' := List.pairwise_cons.1 ha
   have hb' := List.pairwise_cons.1 hb
   have hxy : x = y := by
     rcases List.mem_cons.1 ((h x).1 (by simp)) with e | h1
     · exact e
     · rcases List.mem_cons.1 ((h y).2 (by simp)) with e | h2
       · exact e.symm
       · exact absurd (ha'.1 y h2) (List.lt_asymm (hb'.1 x h1))
   subst hxy
   refine congrArg _ (Asc.ext ha'.2 hb'.2 fun p => ⟨fun hp => ?_, fun hp => ?_⟩)
   · rcases List.mem_cons.1 ((h p).1 (List.mem_cons_of_mem _ hp)) with rfl | h1
     · exact absurd (ha'.1 p hp) (List.lt_irrefl _)
     · exact h1
   · rcases List.mem_cons.1 ((h p).2 (List.mem_cons_of_mem _ hp)) with rfl | h1
     · exact absurd (hb'.1 p hp) (List.lt_irrefl _)
     · exact h1
theorem Asc.nodup {α : Type} {l : List (Str × α)} (h : Asc l) : (l.map (·.1)).Nodup := by
 rw [List.Nodup, List.pairwise_map]
 exact h.imp fun {a b} hab e => by
   have e : a.1 = b.1 := e
   rw [e] at hab; exact List.lt_irrefl _ hab
theorem Asc.len {α β : Type} {c : List (Str × α)} {l : List (Str × β)} (h : Asc c) (hm : ∀ p ∈ c, ∃ s ∈ l, s.1 = p.1) : c.length ≤ l.length := by
 have := h.nodup.length_le_of_subset (l₂ := l.map (·.1)) (fun n hn => by
   obtain ⟨p, hp, rfl⟩ := List.mem_map.1 hn
   obtain ⟨s, hs, e⟩ := hm p hp
   exact List.mem_map.2 ⟨s, hs, e⟩)
 simpa using this
def exits {α : Type} (ex : Nat → Option α) : Nat → Nat → Option α
 | 0, _ => none
 | d + 1, i => match ex i with | some z => some z | none => exits ex d (i + 1)
theorem exits_succ {α : Type} (ex : Nat → Option α) (d i : Nat) : exits ex (d + 1) i = match ex i with | some z => some z | none => exits ex d (i + 1) := by rw [exits]
theorem exits_none {α : Type} {ex : Nat → Option α} : ∀ {d i : Nat}, exits ex d i = none ↔ ∀ j, i ≤ j → j < i + d → ex j = none
 | 0, i => ⟨fun _ j h1 h2 => absurd h2 (by omega), fun _ => rfl⟩
 | d + 1, i => by
   unfold exits
   cases h : ex i with
   | some z => exact ⟨fun e => (by cases e), fun e => by rw [e i (Nat.le_refl _) (by omega)] at h; cases h⟩
   | none =>
     show exits ex d (i + 1) = none ↔ _
     rw [exits_none]
     constructor
     · intro e j h1 h2
       rcases Nat.eq_or_lt_of_le h1 with rfl | h1
       · exact h
       · exact e j (by omega) (by omega)
     · intro e j h1 h2
       exact e j (by omega) (by omega)
theorem exits_some {α : Type} {ex : Nat → Option α} {z : α} : ∀ {d i : Nat}, exits ex d i = some z → ∃ j, i ≤ j ∧ j < i + d ∧ ex j = some z ∧ ∀ k, i ≤ k → k < j → ex k = none
 | 0, i, h => by cases h
 | d + 1, i, h => by
   unfold exits at h
   cases hx : ex i with
   | some y =>
     rw [hx] at h
     exact ⟨i, Nat.le_refl _, by omega, by rw [hx]; exact h, fun k h1 h2 => absurd h2 (by omega)⟩
   | none =>
     rw [hx] at h
     obtain ⟨j, h1, h2, h3, h4⟩ := exits_some (i := i + 1) h
     refine ⟨j, by omega, by omega, h3, fun k h5 h6 => ?_⟩
     rcases Nat.eq_or_lt_of_le h5 with rfl | h5
     · exact hx
     · exact h4 k h5 h6
theorem exit_loop {S R : Type} {f : Nat → S → Option R} (m : Nat) (st : Nat → S) (ex : Nat → Option (Option R)) {r : Option R}
   (hT : ∀ n i, i < m → f (n + 1) (st i) = (ex i).getD (f n (st (i + 1)))) (hE : ∀ n, f (n + 1) (st m) = r) : ∀ n, m < n → f n (st 0) = (exits ex m 0).getD r := by
 have gen : ∀ (d n i : Nat), i + d = m → d < n → f n (st i) = (exits ex d i).getD r := by
   intro d
   induction d with
   | zero =>
     intro n i h hn
     obtain ⟨n, rfl⟩ : ∃ j, n = j + 1 := ⟨n - 1, by omega⟩
     obtain rfl : i = m := by omega
     rw [hE]; rfl
   | succ d ih =>
     intro n i h hn
     obtain ⟨n, rfl⟩ : ∃ j, n = j + 1 := ⟨n - 1, by omega⟩
     rw [hT n i (by omega), ih n (i + 1) (by omega) (by omega)]
     rw [exits_succ]
     cases ex i <;> rfl
 intro n hn
 exact gen m n 0 (by omega) hn
theorem bsearch {R : Type} {f : Nat → Int → Int → Option R} (m : Nat) (lt : Nat → Bool) (mono : ∀ i j, i ≤ j → j < m → lt j = true → lt i = true) {k : Nat → Option R}
   (hT : ∀ n lo hi : Nat, lo < hi → hi ≤ m → f (n + 1) (lo : Int) (hi : Int) = if lt ((lo + hi) / 2) = true then f n (((lo + hi) / 2 + 1 : Nat) : Int) (hi : Int) else f n (lo : Int) (((lo + hi) / 2 : Nat) : Int))
   (hE : ∀ n lo : Nat, lo ≤ m → f (n + 1) (lo : Int) (lo : Int) = k lo) :
   ∃ c, c ≤ m ∧ (∀ j, j < c → lt j = true) ∧ (∀ j, c ≤ j → j < m → lt j = false) ∧ ∀ n, m < n → f n 0 (m : Int) = k c := by
 have hc : ∃ c, c ≤ m ∧ (∀ j, j < c → lt j = true) ∧ (∀ j, c ≤ j → j < m → lt j = false) := by
   have : ∀ d, d ≤ m → ∃ c, c ≤ d ∧ (∀ j, j < c → lt j = true) ∧ (∀ j, c ≤ j → j < d → lt j = false) := by
     intro d
     induction d with
     | zero => intro _; exact ⟨0, Nat.le_refl _, fun j h => absurd h (by omega), fun j h1 h2 => absurd h2 (by omega)⟩
     | succ d ih =>
       intro hd
       obtain ⟨c, h1, h2, h3⟩ := ih (by omega)
       cases h : lt d with
       | true => exact ⟨d + 1, Nat.le_refl _, fun j hj => mono j d (by omega) (by omega) h, fun j h4 h5 => absurd h5 (by omega)⟩
       | false =>
         refine ⟨c, by omega, h2, fun j h4 h5 => ?_⟩
         rcases Nat.eq_or_lt_of_le (Nat.le_of_lt_succ h5) with rfl | h5
         · exact h
         · exact h3 j h4 h5
   exact this m (Nat.le_refl _)
 obtain ⟨c, h1, h2, h3⟩ := hc
 refine ⟨c, h1, h2, h3, ?_⟩
 have gen : ∀ (d n lo hi : Nat), lo ≤ c → c ≤ hi → hi ≤ m → hi - lo ≤ d → d < n → f n (lo : Int) (hi : Int) = k c := by
   intro d
   induction d with
   | zero =>
     intro n lo hi h4 h5 h6 h7 h8
     obtain ⟨n, rfl⟩ : ∃ j, n = j + 1 := ⟨n - 1, by omega⟩
     obtain rfl : lo = c := by omega
     obtain rfl : hi = lo := by omega
     exact hE n _ h6
   | succ d ih =>
     intro n lo hi h4 h5 h6 h7 h8
     obtain ⟨n, rfl⟩ : ∃ j, n = j + 1 := ⟨n - 1, by omega⟩
     by_cases hl : lo = hi
     · subst hl
       obtain rfl : lo = c := by omega
       exact hE n _ h6
     · rw [hT n lo hi (by omega) h6]
       cases h : lt ((lo + hi) / 2) with
       | true =>
         rw [if_pos rfl]
         refine ih n _ hi ?_ h5 h6 (by omega) (by omega)
         apply Classical.byContradiction
         intro hn
         have := h3 ((lo + hi) / 2) (by omega) (by omega)
         rw [h] at this; cases this
       | false =>
         rw [if_neg (by simp)]
         refine ih n lo _ h4 ?_ (by omega) (by omega) (by omega)
         apply Classical.byContradiction
         intro hn
         have := h2 ((lo + hi) / 2) (by omega)
         rw [h] at this; cases this
 intro n hn
 exact gen m n 0 m (by omega) h1 (Nat.le_refl _) (by omega) hn
theorem mget_mset {α : Type} (m : List (Str × α)) (k : Str) (x : α) (p : Str) : mget (mset m k x) p = if (p == k) = true then some x else mget m p := by
 induction m with
 | nil => simp only [mset, mget]
 | cons q m ih =>
   obtain ⟨j, y⟩ := q
   unfold mset
   cases h : k == j with
   | true =>
     have e := eq_of_beq h
     subst e
     simp only [if_true, mget]
     cases p == k <;> simp
   | false =>
     simp only [Bool.false_eq_true, if_false, mget, ih]
     cases h1 : p == j with
     | true =>
       have e := eq_of_beq h1
       subst e
       have : (p == k) = false := by
         cases h2 : p == k with
         | false => rfl
         | true => have e := eq_of_beq h2; subst e; simp at h
       simp [this]
     | false => simp
def keysM (l : List Str) (m : List (Str × Bool)) : List (Str × Bool) := l.foldl (fun m x => mset m x true) m
theorem keysM_get : ∀ (l : List Str) (m : List (Str × Bool)) (p : Str), mget (keysM l m) p = if l.any (p == ·) = true then some true else mget m p
 | [], m, p => by simp [keysM]
 | x :: l, m, p => by
   show mget (keysM l (mset m x true)) p = _
   rw [keysM_get l, mget_mset, List.any_cons]
   cases l.any (p == ·) <;> cases p == x <;> simp
theorem keysM_snoc (l : List Str) (x : Str) (m : List (Str × Bool)) : keysM (l ++ [x]) m = mset (keysM l m) x true := by unfold keysM; rw [List.foldl_append]; rfl
end Go.Proofs.YtjiddcchklaiiaaGreatDoor

