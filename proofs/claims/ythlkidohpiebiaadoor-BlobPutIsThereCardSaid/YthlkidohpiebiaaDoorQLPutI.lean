/- What CheckFiles says in the program and in its reference, in plain Lean. -/
import Derived.Test.YthlkidohpiebiaaDoorQLPat
import Derived.Test.YthlkidohpiebiaaDoorQSlc
import Derived.Test.YthlkidohpiebiaaDoorQBnF6
namespace Go.Proofs.YthlkidohpiebiaaDoor
set_option linter.unusedVariables false
set_option linter.unusedSimpArgs false
open Go Go.RowKit
abbrev FileT := Str × Bool × List UInt8
theorem exits_map {α β : Type} (g : α → β) (ex : Nat → Option α) : ∀ d i, exits (fun i => (ex i).map g) d i = (exits ex d i).map g
  | 0, _ => rfl
  | d + 1, i => by
    unfold exits
    cases ex i with
    | some z => rfl
    | none => exact exits_map g ex d (i + 1)
theorem exits_any {α : Type} (c : Nat → Bool) (z r : α) (m : Nat) : (exits (fun i => if c i = true then some z else none) m 0).getD r = if (List.range m).any c = true then z else r := by
  cases h : exits (fun i => if c i = true then some z else none) m 0 with
  | none =>
    have h' := exits_none.1 h
    have : (List.range m).any c = false := by
      rw [List.any_eq_false]
      intro j hj hc
      have := h' j (Nat.zero_le _) (by simpa using hj)
      rw [if_pos hc] at this; cases this
    rw [this]; rfl
  | some y =>
    obtain ⟨j, _, h2, h3, _⟩ := exits_some h
    by_cases hc : c j = true
    · rw [if_pos hc] at h3
      have : (List.range m).any c = true := List.any_eq_true.2 ⟨j, by simpa using h2, hc⟩
      rw [this, if_pos rfl]
      exact (Option.some.inj h3).symm
    · rw [if_neg hc] at h3; cases h3
/-- Whether a path lies within one that is there. -/
def clashB (has : Str → Bool) (x : Str) : Bool := (List.range x.length).any fun i => x[i]? == some 47 && has (x.take i)
theorem clash_blob {N : Nat} (hN : big ≤ N) {m : List (Str × Bool)} {has : Str → Bool} (hm : ∀ p, (mget m p).getD (zero .bool) = has p) {x : Str} (hx : x.length ≤ 1000000) : blob_clashes N m x = some (clashB has x) := by
  have hb : (18446744073709551616 : Nat) ≤ N := hN
  unfold blob_clashes clashB
  refine (exit_loop (S := Int) x.length (fun i => (i : Int)) (fun i => if (x[i]? == some 47 && has (x.take i)) = true then some (some true) else none) (f := fun n s => blob_clashes_L0 N m x (x.length : Int) (some false) n s) (r := some false) (fun n i hi => ?_) (fun n => ?_) N (by omega)).trans ?_
  · show blob_clashes_L0T N m x _ _ (blob_clashes_L0 N m x _ _ n) (i : Int) = _
    have hw : IntKind.i64.wrap ((i : Int) + 1) = ((i + 1 : Nat) : Int) := by rw [wrap_id (by omega) (by omega)]; omega
    unfold blob_clashes_L0T
    rw [br_pos (by omega : (i : Int) < (x.length : Int)), geti_lt x hi, bnd_some, hw, slc_take x (Nat.le_of_lt hi), bnd_some, hm, List.getElem?_eq_getElem hi]
    show _ = Option.getD (if ((x[i] == 47) && has (x.take i)) = true then some (some true) else none) _
    cases x[i] == 47 <;> cases has (x.take i) <;> simp
  · show blob_clashes_L0T N m x _ _ _ (x.length : Int) = _
    unfold blob_clashes_L0T
    rw [br_neg (by omega)]
  · rw [exits_any]
    split
    · rename_i h; rw [h]
    · rename_i h; rw [Bool.not_eq_true] at h; rw [h]
def hasB {α : Type} (l : List (Str × α)) (p : Str) : Bool := l.any fun x => p == x.1
/-- What is wrong at the i-th file. -/
def scanX (l : List FileT) (i : Nat) : Option Int := match l[i]? with
  | some x => if pathB x.1 = true then (if x.2.2.length ≤ 100000 then (if i = 0 then none else match l[i - 1]? with
    | some y => if y.1 < x.1 then none else some 8
    | none => none) else some 2) else some 3
  | none => none
/-- How many bytes the first i files have. -/
def totF (l : List FileT) : Nat → Int
  | 0 => 0
  | i + 1 => IntKind.i64.wrap (totF l i + match l[i]? with | some x => (x.2.2.length : Int) | none => 0)
theorem totF_succ {l : List FileT} {i : Nat} (h : i < l.length) : totF l (i + 1) = IntKind.i64.wrap (totF l i + (l[i].2.2.length : Int)) := by
  show IntKind.i64.wrap (totF l i + match l[i]? with | some x => (x.2.2.length : Int) | none => 0) = _
  rw [List.getElem?_eq_getElem h]
/-- What CheckFiles says. -/
def filesS (l : List FileT) : Int := if l.length ≤ 1000 then ((exits (scanX l) l.length 0).getD (if l.all (fun x => !clashB (hasB l) x.1) = true then (if totF l l.length > 2000000 then 2 else 0) else 12)) else 2
structure OkF (l : List FileT) : Prop where
  path : ∀ x ∈ l, pathB x.1 = true
  few : ∀ x ∈ l, x.2.2.length ≤ 100000
  asc : Asc l
theorem pathB_len {x : Str} (h : pathB x = true) : 1 ≤ x.length ∧ x.length ≤ 200 := by
  unfold pathB at h
  simp only [Bool.and_eq_true, decide_eq_true_eq] at h
  exact ⟨h.1, h.2.1⟩
theorem scan_ok (l : List FileT) : exits (scanX l) l.length 0 = none ↔ OkF l := by
  rw [exits_none]
  have key : ∀ i (hi : i < l.length), scanX l i = none ↔ pathB l[i].1 = true ∧ l[i].2.2.length ≤ 100000 ∧ ∀ y, i ≠ 0 → l[i - 1]? = some y → y.1 < l[i].1 := by
    intro i hi
    unfold scanX
    rw [List.getElem?_eq_getElem hi]
    show (if pathB l[i].1 = true then _ else _) = none ↔ _
    by_cases h1 : pathB l[i].1 = true
    · rw [if_pos h1]
      by_cases h2 : l[i].2.2.length ≤ 100000
      · rw [if_pos h2]
        by_cases h3 : i = 0
        · rw [if_pos h3]
          exact ⟨fun _ => ⟨h1, h2, fun y h _ => absurd h3 h⟩, fun _ => rfl⟩
        · rw [if_neg h3, List.getElem?_eq_getElem (by omega : i - 1 < l.length)]
          show (if _ then _ else _) = none ↔ _
          by_cases h4 : l[i - 1].1 < l[i].1
          · rw [if_pos h4]
            exact ⟨fun _ => ⟨h1, h2, fun y _ h => by rw [← Option.some.inj h]; exact h4⟩, fun _ => rfl⟩
          · rw [if_neg h4]
            exact ⟨fun h => (by cases h), fun h => absurd (h.2.2 _ h3 rfl) h4⟩
      · rw [if_neg h2]
        exact ⟨fun h => (by cases h), fun h => absurd h.2.1 h2⟩
    · rw [if_neg h1]
      exact ⟨fun h => (by cases h), fun h => absurd h.1 h1⟩
  constructor
  · intro h
    have h' : ∀ i (hi : i < l.length), _ := fun i hi => (key i hi).1 (h i (Nat.zero_le _) (by omega))
    refine ⟨fun x hx => ?_, fun x hx => ?_, (asc_iff l).1 fun i hi => (h' i hi).2.2⟩
    · obtain ⟨i, hi, rfl⟩ := List.getElem_of_mem hx; exact (h' i hi).1
    · obtain ⟨i, hi, rfl⟩ := List.getElem_of_mem hx; exact (h' i hi).2.1
  · intro h i _ hi
    have hi : i < l.length := by omega
    exact (key i hi).2 ⟨h.path _ (List.getElem_mem _), h.few _ (List.getElem_mem _), (asc_iff l).2 h.asc i hi⟩
theorem blob_CheckFiles_eq {N : Nat} (hN : big ≤ N) (l : List FileT) : blob_CheckFiles N l = some (filesS l) := by
  have hb : (18446744073709551616 : Nat) ≤ N := hN
  unfold blob_CheckFiles filesS
  by_cases h0 : l.length ≤ 1000
  case neg => rw [br_pos (by omega : (l.length : Int) > 1000), if_neg h0]
  rw [br_neg (by omega : ¬ (l.length : Int) > 1000), if_pos h0]
  refine (exit_loop (S := Int × Int × List (Str × Bool)) l.length (fun i => (totF l i, (i : Int), keysM ((l.take i).map (·.1)) [])) (fun i => (scanX l i).map some) (f := fun n s => blob_CheckFiles_L0 N l l (l.length : Int) _ n s.1 s.2.1 s.2.2) (r := blob_CheckFiles_L1 N l (l.length : Int) (keysM ((l.take l.length).map (·.1)) []) (br (decide (totF l l.length > 2000000)) (some 2) (some 0)) N 0) (fun n i hi => ?_) (fun n => ?_) N (by omega)).trans ?_
  · show blob_CheckFiles_L0T N l l _ _ (blob_CheckFiles_L0 N l l _ _ n) (totF l i) (i : Int) _ = _
    have hw : IntKind.i64.wrap ((i : Int) + 1) = ((i + 1 : Nat) : Int) := by rw [wrap_id (by omega) (by omega)]; omega
    have e2 : keysM ((l.take (i + 1)).map (·.1)) [] = mset (keysM ((l.take i).map (·.1)) []) l[i].1 true := by rw [List.take_succ_eq_append_getElem hi, List.map_append]; exact keysM_snoc _ _ _
    show _ = (Option.map some (scanX l i)).getD (blob_CheckFiles_L0 N l l _ _ n (totF l (i + 1)) ((i + 1 : Nat) : Int) (keysM ((l.take (i + 1)).map (·.1)) []))
    unfold blob_CheckFiles_L0T
    rw [br_pos (by omega : (i : Int) < (l.length : Int)), geti_lt l hi, bnd_some, isPath_eq, isPath_all hN, bnd_some, hw, e2, totF_succ hi]
    unfold scanX
    rw [List.getElem?_eq_getElem hi]
    dsimp only
    by_cases h1 : pathB l[i].1 = true
    · rw [h1, if_pos rfl, Bool.not_true, br_false]
      by_cases h2 : l[i].2.2.length ≤ 100000
      · rw [br_neg (by omega : ¬ (l[i].2.2.length : Int) > 100000), if_pos h2]
        by_cases h3 : i = 0
        · rw [br_neg (by omega : ¬ (i : Int) > 0), if_pos h3]; rfl
        · have hp : IntKind.i64.wrap ((i : Int) - 1) = ((i - 1 : Nat) : Int) := by rw [wrap_id (by omega) (by omega)]; omega
          rw [br_pos (by omega : (i : Int) > 0), if_neg h3, hp, geti_lt l (by omega : i - 1 < l.length), bnd_some, List.getElem?_eq_getElem (by omega : i - 1 < l.length), le_not]
          dsimp only
          by_cases h4 : l[i - 1].1 < l[i].1
          · rw [if_pos h4, decide_eq_true h4]; simp
          · rw [if_neg h4, decide_eq_false h4]; simp
      · rw [br_pos (by omega : (l[i].2.2.length : Int) > 100000), if_neg h2]; simp
    · rw [if_neg h1]
      rw [Bool.not_eq_true] at h1
      rw [h1]; simp
  · show blob_CheckFiles_L0T N l l _ _ _ _ (l.length : Int) _ = _
    unfold blob_CheckFiles_L0T
    rw [br_neg (by omega)]
  · rw [exits_map]
    cases h : exits (scanX l) l.length 0 with
    | some z => rfl
    | none =>
      have ok := (scan_ok l).1 h
      show blob_CheckFiles_L1 N l _ _ _ N 0 = some (if _ then _ else _)
      rw [scan_loop (xs := l) (fun x => !clashB (hasB l) x.1) (k := br (decide (totF l l.length > 2000000)) (some 2) (some 0)) (bad := some 12) (f := fun n i => blob_CheckFiles_L1 N l _ _ _ n i) (fun n i hi => ?_) (fun n => ?_) N (by omega)]
      · by_cases h5 : totF l l.length > 2000000
        · rw [br_pos h5, if_pos h5]; split <;> rfl
        · rw [br_neg h5, if_neg h5]; split <;> rfl
      · show blob_CheckFiles_L1T N l _ _ _ (blob_CheckFiles_L1 N l _ _ _ n) (i : Int) = _
        have hw : IntKind.i64.wrap ((i : Int) + 1) = ((i + 1 : Nat) : Int) := by rw [wrap_id (by omega) (by omega)]; omega
        have hlen := pathB_len (ok.path l[i] (List.getElem_mem _))
        unfold blob_CheckFiles_L1T
        rw [br_pos (by omega : (i : Int) < (l.length : Int)), geti_lt l hi, bnd_some, clash_blob hN (has := hasB l) (fun p => ?_) (by omega), bnd_some, hw]
        · cases clashB (hasB l) l[i].1 <;> simp
        · rw [keysM_get, List.take_length, List.any_map]
          show _ = l.any _
          cases h6 : l.any ((fun x => p == x) ∘ fun x => x.1) with
          | true => exact h6.symm
          | false => exact h6.symm
      · show blob_CheckFiles_L1T N l _ _ _ _ (l.length : Int) = _
        unfold blob_CheckFiles_L1T
        rw [br_neg (by omega)]
/-- What is known of right files. -/
structure FilesOk (l : List FileT) : Prop where
  len : l.length ≤ 1000
  ok : OkF l
  calm : ∀ x ∈ l, clashB (hasB l) x.1 = false
  tot : ¬ totF l l.length > 2000000
theorem files_iff (l : List FileT) : filesS l = 0 ↔ FilesOk l := by
  unfold filesS
  constructor
  · intro h
    by_cases h0 : l.length ≤ 1000
    case neg => rw [if_neg h0] at h; cases h
    rw [if_pos h0] at h
    cases hx : exits (scanX l) l.length 0 with
    | some z =>
      rw [hx] at h
      obtain ⟨j, _, h2, h3, _⟩ := exits_some hx
      have h : z = 0 := h
      subst h
      unfold scanX at h3
      split at h3
      · split at h3
        · split at h3
          · split at h3
            · cases h3
            · split at h3
              · split at h3 <;> cases h3
              · cases h3
          · cases h3
        · cases h3
      · cases h3
    | none =>
      rw [hx] at h
      have ok := (scan_ok l).1 hx
      have h : (if l.all (fun x => !clashB (hasB l) x.1) = true then (if totF l l.length > 2000000 then (2 : Int) else 0) else 12) = 0 := h
      split at h
      · rename_i h1
        split at h
        · cases h
        · rename_i h2
          exact ⟨h0, ok, fun x hx => by have := List.all_eq_true.1 h1 x hx; simpa using this, h2⟩
      · cases h
  · intro h
    rw [if_pos h.len, (scan_ok l).2 h.ok, if_pos (List.all_eq_true.2 fun x hx => by simp [h.calm x hx]), if_neg h.tot]; rfl
end Go.Proofs.YthlkidohpiebiaaDoor


/- Names in order, each once; things put into order one by one. No program in sight. -/
namespace Go.Proofs.YthlkidohpiebiaaDoor
set_option linter.unusedVariables false
set_option linter.unusedSimpArgs false
open Go Go.RowKit
/-- Where a row of truths ends. -/
theorem mono_split (m : Nat) (lt : Nat → Bool) (mono : ∀ i j, i ≤ j → j < m → lt j = true → lt i = true) : ∃ c, c ≤ m ∧ (∀ j, j < c → lt j = true) ∧ (∀ j, c ≤ j → j < m → lt j = false) := by
  have : ∀ d, d ≤ m → ∃ c, c ≤ d ∧ (∀ j, j < c → lt j = true) ∧ (∀ j, c ≤ j → j < d → lt j = false) := by
    intro d
    induction d with
    | zero => intro _; exact ⟨0, Nat.le_refl _, fun j h => absurd h (by omega), fun j h1 h2 => absurd h2 (by omega)⟩
    | succ d ih =>
      intro hd
      obtain ⟨c, h1, h2, h3⟩ := ih (by omega)
      cases h : lt d with
      | true => exact ⟨d + 1, Nat.le_refl _, fun j hj => mono j d (by omega) (by omega) h, fun j h4 h5 => absurd h5 (by omega)⟩
      | false =>
        refine ⟨c, by omega, h2, fun j h4 h5 => ?_⟩
        rcases Nat.eq_or_lt_of_le (Nat.le_of_lt_succ h5) with rfl | h5
        · exact h
        · exact h3 j h4 h5
  exact this m (Nat.le_refl _)
/-- The place of a name in things in order. -/
theorem place {α : Type} (key : α → Str) {l : List α} (hs : l.Pairwise fun a b => key a < key b) (s : Str) : ∃ c, c ≤ l.length ∧ (∀ j (h : j < l.length), j < c → ¬ s < key l[j]) ∧ (∀ j (h : j < l.length), c ≤ j → s < key l[j]) := by
  let lt : Nat → Bool := fun j => match l[j]? with | some x => !decide (s < key x) | none => false
  have ltv : ∀ j (h : j < l.length), lt j = !decide (s < key l[j]) := fun j h => by show (match l[j]? with | some x => !decide (s < key x) | none => false) = _; rw [List.getElem?_eq_getElem h]
  obtain ⟨c, h1, h2, h3⟩ := mono_split l.length lt fun i j hij hj h => by
    rw [ltv j hj] at h
    rw [ltv i (by omega)]
    simp only [Bool.not_eq_true', decide_eq_false_iff_not] at h ⊢
    intro h'
    rcases Nat.eq_or_lt_of_le hij with rfl | hij
    · exact h h'
    · exact h (List.lt_trans h' (List.pairwise_iff_getElem.1 hs i j (by omega) hj hij))
  refine ⟨c, h1, fun j h hj => ?_, fun j h hj => ?_⟩
  · have := h2 j hj
    rw [ltv j h] at this
    simpa using this
  · have := h3 j hj h
    rw [ltv j h] at this
    simpa using this
end Go.Proofs.YthlkidohpiebiaaDoor


/- Paths of lists, files by path, and Changes, in the program and in its reference (law 23), in plain Lean. -/
namespace Go.Proofs.YthlkidohpiebiaaDoor
set_option linter.unusedVariables false
set_option linter.unusedSimpArgs false
open Go Go.RowKit
def findF (l : List FileT) (p : Str) : Option FileT := l.find? fun x => x.1 == p
/-- How a path's file differs. -/
def chg (a b : List FileT) (p : Str) : Option (Str × Int) := match findF a p with
  | none => some (p, 1)
  | some x => match findF b p with
    | none => some (p, 2)
    | some y => if x.2.2 = y.2.2 then (if x.2.1 = y.2.1 then none else some (p, 4)) else some (p, 3)
end Go.Proofs.YthlkidohpiebiaaDoor


/- Changes the other way round (law 22), in plain Lean. -/
namespace Go.Proofs.YthlkidohpiebiaaDoor
set_option linter.unusedVariables false
set_option linter.unusedSimpArgs false
open Go Go.RowKit
theorem SameFile_eq {N : Nat} (x y : FileT) : ref1_SameFile N x y = some (decide (x = y)) := by
  obtain ⟨x1, x2, x3⟩ := x
  obtain ⟨y1, y2, y3⟩ := y
  unfold ref1_SameFile bytes_Equal
  dsimp only
  rw [bnd_some]
  by_cases h1 : x1 = y1
  · by_cases h2 : x2 = y2
    · by_cases h3 : x3 = y3
      · subst h1 h2 h3; simp
      · rw [beq_iff_eq.2 h1, beq_iff_eq.2 h2, beq_eq_false_iff_ne.2 h3, decide_eq_false (by simp [h3])]; simp
    · rw [beq_iff_eq.2 h1, beq_eq_false_iff_ne.2 h2, decide_eq_false (by simp [h2])]; simp
  · rw [beq_eq_false_iff_ne.2 h1, decide_eq_false (by simp [h1])]; simp
theorem SameFiles_eq {N : Nat} (hN : big ≤ N) (a b : List FileT) (ha : a.length ≤ 1000000) : ref1_SameFiles N a b = some (decide (a = b)) := by
  have hb : (18446744073709551616 : Nat) ≤ N := hN
  unfold ref1_SameFiles
  by_cases hl : a.length = b.length
  case neg =>
    rw [show ((a.length : Int) != (b.length : Int)) = true from by rw [bne_iff_ne]; omega, br_true, decide_eq_false (fun e => hl (by rw [e]))]
  rw [show ((a.length : Int) != (b.length : Int)) = false from by simp [hl], br_false]
  refine (exit_loop (S := Int) a.length (fun i => (i : Int)) (fun i => if (!decide (a[i]? = b[i]?)) = true then some (some false) else none) (f := fun n s => ref1_SameFiles_L0 N a b (some true) n s) (r := some true) (fun n i hi => ?_) (fun n => ?_) N (by omega)).trans ?_
  · show ref1_SameFiles_L0T N a b _ (ref1_SameFiles_L0 N a b _ n) (i : Int) = _
    have hw : IntKind.i64.wrap ((i : Int) + 1) = ((i + 1 : Nat) : Int) := by rw [wrap_id (by omega) (by omega)]; omega
    have hi2 : i < b.length := by omega
    unfold ref1_SameFiles_L0T
    rw [br_pos (by omega : (i : Int) < (a.length : Int)), geti_lt a hi, bnd_some, geti_lt b hi2, bnd_some, SameFile_eq, bnd_some, hw, List.getElem?_eq_getElem hi, List.getElem?_eq_getElem hi2]
    by_cases e : a[i] = b[i]
    · simp [e]
    · simp [e]
  · show ref1_SameFiles_L0T N a b _ _ (a.length : Int) = _
    unfold ref1_SameFiles_L0T
    rw [br_neg (by omega)]
  · rw [exits_any]
    by_cases e : a = b
    · subst e
      rw [if_neg (by simp), decide_eq_true rfl]
    · rw [if_pos, decide_eq_false e]
      rw [List.any_eq_true]
      apply Classical.byContradiction
      intro hno
      apply e
      apply List.ext_getElem?
      intro i
      by_cases hi : i < a.length
      · apply Classical.byContradiction
        intro h
        exact hno ⟨i, by simpa using hi, by simp [h]⟩
      · rw [List.getElem?_eq_none (by omega), List.getElem?_eq_none (by omega)]
end Go.Proofs.YthlkidohpiebiaaDoor


/- At and Put, in the program and in its reference (law 24), in plain Lean. -/
namespace Go.Proofs.YthlkidohpiebiaaDoor
set_option linter.unusedVariables false
set_option linter.unusedSimpArgs false
open Go Go.RowKit
theorem filterMap_take {α β : Type} (g : α → Option β) {l : List α} {i : Nat} (h : i < l.length) : (l.take (i + 1)).filterMap g = (l.take i).filterMap g ++ (g l[i]).toList := by
  rw [List.take_succ_eq_append_getElem h, List.filterMap_append]
  congr 1
theorem len_filterMap_take {α β : Type} (g : α → Option β) (l : List α) (i : Nat) : ((l.take i).filterMap g).length ≤ l.length := by
  have := List.length_filterMap_le g (l.take i)
  rw [List.length_take] at this
  omega
/-- A path lies within another one. -/
def liesB (x p : Str) : Bool := x.take (p.length + 1) == p ++ [47]
theorem liesB_iff {x p : Str} : liesB x p = true ↔ ∃ r, x = p ++ 47 :: r := by
  unfold liesB
  rw [beq_iff_eq]
  constructor
  · intro h
    refine ⟨x.drop (p.length + 1), ?_⟩
    conv => lhs; rw [← List.take_append_drop (p.length + 1) x, h]
    rw [List.append_assoc]; rfl
  · rintro ⟨r, rfl⟩
    rw [List.take_append, List.take_of_length_le (by omega)]
    rw [show p.length + 1 - p.length = 1 by omega]
    rfl
theorem hasPrefix_eq (N : Nat) (x p : Str) : strings_HasPrefix N x (p ++ [47]) = some (liesB x p) := by
  unfold strings_HasPrefix stringslite_HasPrefix liesB
  have hl : (p ++ [47]).length = p.length + 1 := by simp
  by_cases h : x.length ≥ (p ++ [47]).length
  · have h' : (x.length : Int) ≥ ((p ++ [47] : Str).length : Int) := by omega
    rw [br_pos h', slc_take x h, bnd_some, bnd_some, hl]
  · have h' : ¬ (x.length : Int) ≥ ((p ++ [47] : Str).length : Int) := by omega
    rw [br_neg h', bnd_some]
    congr 1
    symm
    rw [beq_eq_false_iff_ne]
    intro e
    have := congrArg List.length e
    rw [List.length_take] at this
    omega
theorem within_eq (N : Nat) {x p : Str} (hp : p.length ≤ 1000) : blob_Within N x p = some (liesB x p) := by
  unfold blob_Within
  rw [br_pos (by show p.length + 1 ≤ _; omega), hasPrefix_eq, bnd_some]
theorem lies_eq (N : Nat) {x p : Str} (hp : p.length ≤ 1000) : ref1_Lies N x p = some (liesB x p) := by
  unfold ref1_Lies
  rw [br_pos (by show p.length + 1 ≤ _; omega), hasPrefix_eq, bnd_some]
theorem lies_len {x p : Str} (h : liesB x p = true) : p.length + 1 ≤ x.length := by
  obtain ⟨r, rfl⟩ := liesB_iff.1 h
  simp
theorem slc_drop {α : Type} (xs : List α) {i : Nat} (h : i ≤ xs.length) : slc xs (i : Int) (xs.length : Int) = some (xs.drop i) := by
  unfold slc; rw [if_pos ⟨by omega, by omega, by omega⟩]; simp
theorem Clone_files (N : Nat) {l : List FileT} (h : l.length ≤ 1000000) : slices_Clone_api_File N l = some l := by
  unfold slices_Clone_api_File
  exact clone_eq (24 * Ty.sz (.pr .str (.pr .bool (.sl .u8)))) l (by show l.length * 72 ≤ _; omega)
theorem Clone_bytes (N : Nat) {l : List UInt8} (h : l.length ≤ 10000000) : slices_Clone_byte_byte N l = some l := by
  unfold slices_Clone_byte_byte
  exact clone_eq (24 * Ty.sz .u8) l (by show l.length * 24 ≤ _; omega)
theorem seti_self {α : Type} {l : List α} {i : Nat} (h : i < l.length) : seti l (i : Int) l[i] = l := by
  unfold seti
  exact List.set_getElem_self h
theorem Own_eq {N : Nat} (hN : big ≤ N) {l : List FileT} (hl : l.length ≤ 1000000) (hb : ∀ x ∈ l, x.2.2.length ≤ 10000000) : blob_Own N l = some l := by
  have hbN : (18446744073709551616 : Nat) ≤ N := hN
  unfold blob_Own
  rw [Clone_files N hl, bnd_some]
  refine steps_loop (S := Int × List FileT) l.length (fun i => ((i : Int), l)) (f := fun n s => blob_Own_L0 N (l.length : Int) (fun o => some o) n s.1 s.2) (z := some l) (fun n i hi => ?_) (fun n => ?_) N (by omega)
  · show blob_Own_L0T N _ _ (blob_Own_L0 N _ _ n) (i : Int) l = blob_Own_L0 N _ _ n ((i + 1 : Nat) : Int) l
    have hw : IntKind.i64.wrap ((i : Int) + 1) = ((i + 1 : Nat) : Int) := by rw [wrap_id (by omega) (by omega)]; omega
    have hd : 0 ≤ (i : Int) ∧ (i : Int) < (l.length : Int) := ⟨by omega, by omega⟩
    unfold blob_Own_L0T
    rw [br_pos (by omega : (i : Int) < (l.length : Int)), br_pos hd, geti_lt l hi, bnd_some, Clone_bytes N (hb _ (List.getElem_mem _)), bnd_some, br_pos hd, bnd_some, hw]
    congr 1
    exact seti_self hi
  · show blob_Own_L0T N _ _ _ (l.length : Int) l = _
    unfold blob_Own_L0T
    rw [br_neg (by omega)]
theorem FilesOk.bytes {l : List FileT} (h : FilesOk l) : ∀ x ∈ l, x.2.2.length ≤ 10000000 := fun x hx => by have := h.ok.few x hx; omega
/-- A file within a path, seen from there. -/
def atF (p : Str) (x : FileT) : Option FileT := if liesB x.1 p = true then some (x.1.drop (p.length + 1), x.2) else none
def atL (l : List FileT) (p : Str) : List FileT := l.filterMap (atF p)
/-- What At says. -/
def atS (l : List FileT) (p : Str) : Int × List FileT := if filesS l = 0 then (if pathB p = true then (0, atL l p) else (3, [])) else (filesS l, [])
theorem szF {n : Nat} (h : n ≤ 100000) (z : FileT) : (n + [z].length) * (24 * Ty.sz (.pr .str (.pr .bool (.sl .u8)))) ≤ 140737488355328 := by rw [List.length_singleton]; show _ * 72 ≤ _; omega
theorem blob_At_eq {N : Nat} (hN : big ≤ N) (l : List FileT) (p : Str) : blob_At N l p = some ((atS l p).1, (atS l p).2) := by
  have hbN : (18446744073709551616 : Nat) ≤ N := hN
  unfold blob_At atS
  rw [blob_CheckFiles_eq hN, bnd_some, isPath_eq, isPath_all hN, bnd_some]
  by_cases h0 : filesS l = 0
  case neg => rw [if_neg h0, bne_iff_ne.2 h0, br_true]
  rw [if_pos h0, h0, show ((0 : Int) != 0) = false from rfl, br_false]
  by_cases hp : pathB p = true
  case neg => rw [if_neg hp, show pathB p = false from by simpa using hp]; simp
  rw [if_pos hp, hp, Bool.not_true, br_false]
  have ok := (files_iff l).1 h0
  have hlen := ok.len
  have hpl := (pathB_len hp).2
  rw [Own_eq hN (by omega) ok.bytes, bnd_some]
  refine steps_loop (S := Int × List FileT) l.length (fun i => ((i : Int), (l.take i).filterMap (atF p))) (f := fun n s => blob_At_L0 N p (l.length : Int) l (fun o => some (0, o)) n s.1 s.2) (z := some (0, atL l p)) (fun n i hi => ?_) (fun n => ?_) N (by omega)
  · show blob_At_L0T N p _ l _ (blob_At_L0 N p _ l _ n) (i : Int) ((l.take i).filterMap (atF p)) = blob_At_L0 N p _ l _ n ((i + 1 : Nat) : Int) ((l.take (i + 1)).filterMap (atF p))
    have hw : IntKind.i64.wrap ((i : Int) + 1) = ((i + 1 : Nat) : Int) := by rw [wrap_id (by omega) (by omega)]; omega
    have hw2 : IntKind.i64.wrap ((p.length : Int) + 1) = ((p.length + 1 : Nat) : Int) := by rw [wrap_id (by omega) (by omega)]; omega
    have hd : 0 ≤ (i : Int) ∧ (i : Int) < (l.length : Int) := ⟨by omega, by omega⟩
    have hs := len_filterMap_take (atF p) l i
    unfold blob_At_L0T
    rw [br_pos (by omega : (i : Int) < (l.length : Int)), br_pos hd, geti_lt l hi, bnd_some, within_eq N (by omega), bnd_some, hw, hw2, filterMap_take _ hi]
    by_cases h : liesB l[i].1 p = true
    · rw [h, br_true, slc_drop _ (lies_len h), bnd_some, br_pos (szF (by omega) _), show atF p l[i] = some (l[i].1.drop (p.length + 1), l[i].2) from if_pos h]; rfl
    · rw [show atF p l[i] = none from if_neg h, show liesB l[i].1 p = false from by simpa using h, br_false]; simp
  · show blob_At_L0T N p _ l _ _ (l.length : Int) _ = _
    unfold blob_At_L0T
    rw [br_neg (by omega), List.take_length]; rfl
/-- What stays of a tree into which something is put. -/
def stayB (p : Str) (x : FileT) : Bool := !(x.1 == p || liesB x.1 p)
def moveF (p : Str) (x : FileT) : FileT := ((p ++ [47]) ++ x.1, x.2)
def fkey (x : FileT) : Str := x.1
def putL (l : List FileT) (p : Str) (m : List FileT) : List FileT := (l.filter (stayB p) ++ m.map (moveF p)).mergeSort (leKey fkey)
/-- What Put says. -/
def putS (l : List FileT) (p : Str) (m : List FileT) : List FileT × Int :=
  if filesS l = 0 then (if filesS m = 0 then (if pathB p = true then (if filesS (putL l p m) = 0 then (putL l p m, 0) else ([], filesS (putL l p m))) else ([], 3)) else ([], filesS m)) else ([], filesS l)
theorem lt_append (p : Str) {a b : Str} : p ++ a < p ++ b ↔ a < b := by
  induction p with
  | nil => rfl
  | cons c p ih =>
    rw [List.cons_append, List.cons_append, List.cons_lt_cons_iff]
    constructor
    · rintro (h | ⟨_, h⟩)
      · exact absurd h (UInt8.lt_irrefl c)
      · exact ih.1 h
    · intro h
      exact .inr ⟨rfl, ih.2 h⟩
theorem moved_asc {m : List FileT} (h : Asc m) (p : Str) : Asc (m.map (moveF p)) := by
  unfold Asc
  rw [List.pairwise_map]
  exact h.imp fun {a b} hab => (lt_append _).2 hab
theorem moved_lies (p : Str) (x : FileT) : liesB (moveF p x).1 p = true := liesB_iff.2 ⟨x.1, by unfold moveF; simp⟩
theorem kept_lies {p : Str} {x : FileT} (h : stayB p x = true) : liesB x.1 p = false := by
  unfold stayB at h
  simp only [Bool.not_eq_true', Bool.or_eq_false_iff] at h
  exact h.2
theorem put_nodup {l m : List FileT} (hl : Asc l) (hm : Asc m) (p : Str) : ((l.filter (stayB p) ++ m.map (moveF p)).map fkey).Nodup := by
  rw [List.map_append, List.nodup_append]
  have h1 : Asc (l.filter (stayB p)) := hl.sublist List.filter_sublist
  refine ⟨h1.nodup, (moved_asc hm p).nodup, fun a ha b hb e => ?_⟩
  obtain ⟨x, hx, rfl⟩ := List.mem_map.1 ha
  obtain ⟨y, hy, rfl⟩ := List.mem_map.1 hb
  obtain ⟨z, hz, rfl⟩ := List.mem_map.1 hy
  have h2 := kept_lies (List.mem_filter.1 hx).2
  have h3 := moved_lies p z
  unfold fkey at e
  rw [← e, h2] at h3
  cases h3
theorem putL_perm (l m : List FileT) (p : Str) : (putL l p m).Perm (l.filter (stayB p) ++ m.map (moveF p)) := List.mergeSort_perm _ _
theorem putL_asc {l m : List FileT} (hl : Asc l) (hm : Asc m) (p : Str) : Asc (putL l p m) :=
  sorted_strictK (key := fkey) (((putL_perm l m p).map fkey).nodup_iff.2 (put_nodup hl hm p)) (mergeSort_key fkey _)
theorem put_len {l m : List FileT} (hl : l.length ≤ 1000) (hm : m.length ≤ 1000) (p : Str) : (l.filter (stayB p) ++ m.map (moveF p)).length ≤ 2000 := by
  have := List.length_filter_le (stayB p) l
  rw [List.length_append, List.length_map]; omega
theorem Put_1_eq (N : Nat) {p : Str} (hp : p.length ≤ 1000) (x : FileT) : blob_Put_1 N x p = some (x.1 == p || liesB x.1 p) := by
  unfold blob_Put_1
  rw [within_eq N hp, bnd_some]
  cases x.1 == p <;> simp
theorem IndexFunc_file {N : Nat} (hN : big ≤ N) {l : List FileT} (hl : l.length ≤ maxLen) {p : Str} (hp : p.length ≤ 1000) : slices_IndexFunc_api_File N l (p, ()) = some (idxP (fun x => x.1 == p || liesB x.1 p) l) := by
  unfold slices_IndexFunc_api_File
  refine loop_for (fun _ _ => rfl) l hl (fun self i h r hr => ?_) (fun self => ?_) hN
  · simp only [slices_IndexFunc_api_File_L0T, geti_lt l h, wrap_succ hl h, hr, bnd_some, Put_1_eq N hp]
    rw [lt_tt h, br_true, br_eq_ite]
    split <;> rfl
  · simp only [slices_IndexFunc_api_File_L0T, lt_ff, br_false]
theorem DeleteFunc_file {N : Nat} (hN : big ≤ N) {l : List FileT} (hl : l.length ≤ maxLen) {p : Str} (hp : p.length ≤ 1000) : slices_DeleteFunc_api_File N (p, ()) l = some (l.filter (stayB p)) := by
  unfold slices_DeleteFunc_api_File
  rw [IndexFunc_file hN hl hp, bnd_some]
  exact deleteFunc_eq hN hl (fun x : FileT => x.1 == p || liesB x.1 p) (P := fun t => blob_Put_1 N t p) (fun t _ => Put_1_eq N hp t) (zero (.pr .str (.pr .bool (.sl .u8)))) (f := fun m a b w => slices_DeleteFunc_api_File_L0 N (p, ()) _ m a b w) (fun _ _ _ _ => rfl)
theorem map_take_succ {α β : Type} (f : α → β) (c : List α) {i : Nat} (h : i < c.length) : (c.take (i + 1)).map f = (c.take i).map f ++ [f c[i]] := by
  rw [List.take_succ_eq_append_getElem h, List.map_append]; rfl
theorem blob_Put_eq {N : Nat} (hN : big ≤ N) (l : List FileT) (p : Str) (m : List FileT) : blob_Put N l p m = some ((putS l p m).1, (putS l p m).2) := by
  have hbN : (18446744073709551616 : Nat) ≤ N := hN
  unfold blob_Put putS
  rw [blob_CheckFiles_eq hN, bnd_some, blob_CheckFiles_eq hN, bnd_some, isPath_eq, isPath_all hN, bnd_some]
  by_cases h0 : filesS l = 0
  case neg => rw [if_neg h0, bne_iff_ne.2 h0, br_true]
  rw [if_pos h0, h0, show ((0 : Int) != 0) = false from rfl, br_false]
  by_cases h1 : filesS m = 0
  case neg => rw [if_neg h1, bne_iff_ne.2 h1, br_true]
  rw [if_pos h1, h1, show ((0 : Int) != 0) = false from rfl, br_false]
  by_cases hp : pathB p = true
  case neg => rw [if_neg hp, show pathB p = false from by simpa using hp]; simp
  rw [if_pos hp, hp, Bool.not_true, br_false]
  have ok := (files_iff l).1 h0
  have okm := (files_iff m).1 h1
  have hlen := ok.len
  have hmlen := okm.len
  have hpl := (pathB_len hp).2
  have hkl := List.length_filter_le (stayB p) l
  rw [Own_eq hN (by omega) ok.bytes, bnd_some, DeleteFunc_file hN (Nat.le_trans hlen (by decide)) (by omega), bnd_some, Own_eq hN (by omega) okm.bytes, bnd_some]
  have hend : bnd (blob_sorted_2 N (l.filter (stayB p) ++ m.map (moveF p))) (fun t49 => some t49) = some ((if filesS (putL l p m) = 0 then (putL l p m, (0 : Int)) else ([], filesS (putL l p m))).1, (if filesS (putL l p m) = 0 then (putL l p m, (0 : Int)) else ([], filesS (putL l p m))).2) := by
    have hso : slices_SortFunc_file () (l.filter (stayB p) ++ m.map (moveF p)) = some (putL l p m) := by
      unfold slices_SortFunc_file sortK
      have hl2 := put_len hlen hmlen p
      rw [if_pos ⟨by omega, put_nodup ok.ok.asc okm.ok.asc p⟩]
      rfl
    unfold blob_sorted_2
    rw [hso, bnd_some, blob_CheckFiles_eq hN, bnd_some]
    by_cases h2 : filesS (putL l p m) = 0
    · rw [if_pos h2, h2, show ((0 : Int) != 0) = false from rfl, br_false, bnd_some]
    · rw [if_neg h2, bne_iff_ne.2 h2, br_true, bnd_some]
  rw [← hend]
  have main := steps_loop (S := Int × List FileT) m.length (fun i => ((i : Int), l.filter (stayB p) ++ (m.take i).map (moveF p))) (f := fun n s => blob_Put_L0 N p (m.length : Int) m (fun o => bnd (blob_sorted_2 N o) fun t49 => some t49) n s.1 s.2) (z := bnd (blob_sorted_2 N (l.filter (stayB p) ++ m.map (moveF p))) fun t49 => some t49) (fun n i hi => ?_) (fun n => ?_) N (by omega)
  · simpa using main
  · show blob_Put_L0T N p _ m _ (blob_Put_L0 N p _ m _ n) (i : Int) (l.filter (stayB p) ++ (m.take i).map (moveF p)) = blob_Put_L0 N p _ m _ n ((i + 1 : Nat) : Int) (l.filter (stayB p) ++ (m.take (i + 1)).map (moveF p))
    have hw : IntKind.i64.wrap ((i : Int) + 1) = ((i + 1 : Nat) : Int) := by rw [wrap_id (by omega) (by omega)]; omega
    have hd : 0 ≤ (i : Int) ∧ (i : Int) < (m.length : Int) := ⟨by omega, by omega⟩
    have hx := (pathB_len (okm.ok.path m[i] (List.getElem_mem _))).2
    have hs : (l.filter (stayB p) ++ (m.take i).map (moveF p)).length ≤ 2000 := by rw [List.length_append, List.length_map, List.length_take]; omega
    unfold blob_Put_L0T
    rw [br_pos (by omega : (i : Int) < (m.length : Int)), br_pos hd, geti_lt m hi, bnd_some, br_pos (by show p.length + 1 ≤ _; omega), br_pos (by rw [List.length_append]; show p.length + 1 + _ ≤ _; omega), br_pos (szF (by omega) _), hw, map_take_succ _ _ hi, ← List.append_assoc]
    rfl
  · show blob_Put_L0T N p _ m _ _ (m.length : Int) _ = _
    unfold blob_Put_L0T
    rw [br_neg (by omega), List.take_length]
end Go.Proofs.YthlkidohpiebiaaDoor


/- What was put into a tree is there (law 25), in plain Lean. -/
namespace Go.Proofs.YthlkidohpiebiaaDoor
set_option linter.unusedVariables false
set_option linter.unusedSimpArgs false
open Go Go.RowKit
theorem putS_cases (l : List FileT) (p : Str) (m : List FileT) : ((putS l p m).2 ≠ 0 ∧ (putS l p m).1 = []) ∨ (filesS l = 0 ∧ filesS m = 0 ∧ pathB p = true ∧ filesS (putL l p m) = 0 ∧ putS l p m = (putL l p m, 0)) := by
  unfold putS
  by_cases h1 : filesS l = 0
  case neg => rw [if_neg h1]; exact .inl ⟨h1, rfl⟩
  by_cases h2 : filesS m = 0
  case neg => rw [if_pos h1, if_neg h2]; exact .inl ⟨h2, rfl⟩
  by_cases h3 : pathB p = true
  case neg => rw [if_pos h1, if_pos h2, if_neg h3]; exact .inl ⟨by decide, rfl⟩
  by_cases h4 : filesS (putL l p m) = 0
  case neg => rw [if_pos h1, if_pos h2, if_pos h3, if_neg h4]; exact .inl ⟨h4, rfl⟩
  rw [if_pos h1, if_pos h2, if_pos h3, if_pos h4]; exact .inr ⟨h1, h2, h3, h4, rfl⟩
def stripF (p : Str) (x : FileT) : FileT := (x.1.drop (p.length + 1), x.2)
theorem atL_filter (l : List FileT) (p : Str) : atL l p = (l.filter fun x => liesB x.1 p).map (stripF p) := by
  unfold atL
  induction l with
  | nil => rfl
  | cons x l ih =>
    by_cases h : liesB x.1 p = true
    · rw [List.filter_cons_of_pos (by simpa using h), List.map_cons, ← ih, List.filterMap_cons_some (show atF p x = some (stripF p x) from if_pos h)]
    · rw [List.filter_cons_of_neg (by simpa using h), ← ih, List.filterMap_cons_none (show atF p x = none from if_neg h)]
theorem strip_move (p : Str) (x : FileT) : stripF p (moveF p x) = x := by
  unfold stripF moveF
  have : ((p ++ [47]) ++ x.1).drop (p.length + 1) = x.1 := by
    rw [List.drop_append_of_le_length (by simp)]
    simp
  dsimp only
  rw [this]
theorem mem_putL {l m : List FileT} {p : Str} {x : FileT} : x ∈ putL l p m ↔ x ∈ l.filter (stayB p) ∨ x ∈ m.map (moveF p) := by
  rw [(putL_perm l m p).mem_iff, List.mem_append]
theorem put_lies {l m : List FileT} (hl : Asc l) (hm : Asc m) (p : Str) : (putL l p m).filter (fun x => liesB x.1 p) = m.map (moveF p) := by
  refine Asc.ext ((putL_asc hl hm p).sublist List.filter_sublist) (moved_asc hm p) fun x => ?_
  rw [List.mem_filter, mem_putL]
  constructor
  · rintro ⟨h | h, h2⟩
    · rw [kept_lies (List.mem_filter.1 h).2] at h2; cases h2
    · exact h
  · intro h
    refine ⟨.inr h, ?_⟩
    obtain ⟨y, _, rfl⟩ := List.mem_map.1 h
    exact moved_lies p y
theorem put_stays {l m : List FileT} (hl : Asc l) (hm : Asc m) (p : Str) : (putL l p m).filter (fun x => !liesB x.1 p) = l.filter (stayB p) := by
  refine Asc.ext ((putL_asc hl hm p).sublist List.filter_sublist) (hl.sublist List.filter_sublist) fun x => ?_
  rw [List.mem_filter, mem_putL]
  constructor
  · rintro ⟨h | h, h2⟩
    · exact h
    · obtain ⟨y, _, rfl⟩ := List.mem_map.1 h
      rw [moved_lies p y] at h2; cases h2
  · intro h
    exact ⟨.inl h, by rw [kept_lies (List.mem_filter.1 h).2]; rfl⟩
theorem put_at {l m : List FileT} (hl : Asc l) (hm : Asc m) (p : Str) : atL (putL l p m) p = m := by
  rw [atL_filter, put_lies hl hm, List.map_map]
  have : (stripF p ∘ moveF p) = id := funext fun x => strip_move p x
  rw [this, List.map_id]
theorem filter_len_take {α : Type} (q : α → Bool) (l : List α) (i : Nat) : ((l.take i).filter q).length ≤ l.length := by
  have := List.length_filter_le q (l.take i)
  rw [List.length_take] at this
  omega
theorem plain_BlobPutIsThere (l : List FileT) (p : Str) (m : List FileT) (_ : Fit (.sl (.pr .str (.pr .bool (.sl .u8)))) l) (_ : Fit .str p) (_ : Fit (.sl (.pr .str (.pr .bool (.sl .u8)))) m) : ∃ N, law1_BlobPutIsThere N l p m = some true := by
  obtain ⟨N, hN⟩ : ∃ N, big ≤ N := ⟨big, Nat.le_refl _⟩
  refine ⟨N, ?_⟩
  have hbN : (18446744073709551616 : Nat) ≤ N := hN
  unfold law1_BlobPutIsThere
  rw [blob_Put_eq hN, bnd_some]
  dsimp only
  rcases putS_cases l p m with ⟨h1, h2⟩ | ⟨h1, h2, hp, h3, e⟩
  · rw [bne_iff_ne.2 h1, br_true, h2, awake_ok hN]
    simp
  rw [e]
  have ok := (files_iff l).1 h1
  have okm := (files_iff m).1 h2
  have okx := (files_iff _).1 h3
  have hpl := (pathB_len hp).2
  have hl := ok.len
  have hm := okm.len
  have hx := okx.len
  have ea : atS (putL l p m) p = (0, m) := by
    unfold atS
    rw [if_pos h3, if_pos hp, put_at ok.ok.asc okm.ok.asc]
  have es := put_stays ok.ok.asc okm.ok.asc p
  rw [blob_At_eq hN, ea]
  generalize putL l p m = x at hx es
  dsimp only
  rw [show ((0 : Int) != 0) = false from rfl, br_false, bnd_some]
  dsimp only
  rw [show ((0 : Int) != 0) = false from rfl, br_false, SameFiles_eq hN _ _ (by omega), bnd_some, decide_eq_true rfl, Bool.not_true, br_false]
  -- what does not lie there
  have step : ∀ (n i : Nat), n ≤ 1000 → i < n → IntKind.i64.wrap ((i : Int) + 1) = ((i + 1 : Nat) : Int) := fun n i h1 h2 => by rw [wrap_id (by omega) (by omega)]; omega
  have e0 : ∀ k : List FileT → Option Bool, law1_BlobPutIsThere_L0 N p x k N 0 [] = k (x.filter fun z => !liesB z.1 p) := fun k => by
    have main := steps_loop (S := Int × List FileT) x.length (fun i => ((i : Int), (x.take i).filter fun z => !liesB z.1 p)) (f := fun n s => law1_BlobPutIsThere_L0 N p x k n s.1 s.2) (z := k (x.filter fun z => !liesB z.1 p)) (fun n i hi => ?_) (fun n => ?_) N (by omega)
    · simpa using main
    · show law1_BlobPutIsThere_L0T N p x k (law1_BlobPutIsThere_L0 N p x k n) (i : Int) ((x.take i).filter fun z => !liesB z.1 p) = law1_BlobPutIsThere_L0 N p x k n ((i + 1 : Nat) : Int) ((x.take (i + 1)).filter fun z => !liesB z.1 p)
      have hs := filter_len_take (fun z : FileT => !liesB z.1 p) x i
      unfold law1_BlobPutIsThere_L0T
      simp only [geti_lt x hi, bnd_some]
      rw [br_pos (by omega : (i : Int) < (x.length : Int)), lies_eq N (by omega), bnd_some, br_pos (szF (Nat.le_trans hs (by omega)) _), step _ i hx hi, filter_take_succ _ _ hi]
      cases liesB x[i].1 p <;> simp
    · show law1_BlobPutIsThere_L0T N p x k _ (x.length : Int) _ = _
      unfold law1_BlobPutIsThere_L0T
      rw [br_neg (by omega), List.take_length]
  have e1 : ∀ k : List FileT → Option Bool, law1_BlobPutIsThere_L1 N l p k N 0 [] = k (l.filter (stayB p)) := fun k => by
    have main := steps_loop (S := Int × List FileT) l.length (fun i => ((i : Int), (l.take i).filter (stayB p))) (f := fun n s => law1_BlobPutIsThere_L1 N l p k n s.1 s.2) (z := k (l.filter (stayB p))) (fun n i hi => ?_) (fun n => ?_) N (by omega)
    · simpa using main
    · show law1_BlobPutIsThere_L1T N l p k (law1_BlobPutIsThere_L1 N l p k n) (i : Int) ((l.take i).filter (stayB p)) = law1_BlobPutIsThere_L1 N l p k n ((i + 1 : Nat) : Int) ((l.take (i + 1)).filter (stayB p))
      have hs := filter_len_take (stayB p) l i
      unfold law1_BlobPutIsThere_L1T
      simp only [geti_lt l hi, bnd_some]
      rw [br_pos (by omega : (i : Int) < (l.length : Int)), lies_eq N (by omega), bnd_some, br_pos (szF (Nat.le_trans hs (by omega)) _), step _ i hl hi, filter_take_succ _ _ hi]
      unfold stayB
      cases liesB l[i].1 p <;> cases l[i].1 == p <;> simp
    · show law1_BlobPutIsThere_L1T N l p k _ (l.length : Int) _ = _
      unfold law1_BlobPutIsThere_L1T
      rw [br_neg (by omega), List.take_length]
  rw [e0, e1, es, SameFiles_eq hN _ _ (by have := List.length_filter_le (stayB p) l; omega), bnd_some, decide_eq_true rfl, br_true, awake_ok hN, bnd_some]
end Go.Proofs.YthlkidohpiebiaaDoor

