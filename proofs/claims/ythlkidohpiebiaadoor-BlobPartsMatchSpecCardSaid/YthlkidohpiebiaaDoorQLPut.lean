/- Names in order, each once; things put into order one by one. No program in sight. -/
import Derived.Test.YthlkidohpiebiaaDoorQSlc
import Derived.Test.YthlkidohpiebiaaDoorQBnF5
import Derived.Test.YthlkidohpiebiaaDoorQFil
namespace Go.Proofs.YthlkidohpiebiaaDoor
set_option linter.unusedVariables false
set_option linter.unusedSimpArgs false
open Go Go.RowKit
/-- Where a row of truths ends. -/
theorem mono_split (m : Nat) (lt : Nat → Bool) (mono : ∀ i j, i ≤ j → j < m → lt j = true → lt i = true) : ∃ c, c ≤ m ∧ (∀ j, j < c → lt j = true) ∧ (∀ j, c ≤ j → j < m → lt j = false) := by
  have : ∀ d, d ≤ m → ∃ c, c ≤ d ∧ (∀ j, j < c → lt j = true) ∧ (∀ j, c ≤ j → j < d → lt j = false) := by
    intro d
    induction d with
    | zero => intro _; exact ⟨0, Nat.le_refl _, fun j h => absurd h (by omega), fun j h1 h2 => absurd h2 (by omega)⟩
    | succ d ih =>
      intro hd
      obtain ⟨c, h1, h2, h3⟩ := ih (by omega)
      cases h : lt d with
      | true => exact ⟨d + 1, Nat.le_refl _, fun j hj => mono j d (by omega) (by omega) h, fun j h4 h5 => absurd h5 (by omega)⟩
      | false =>
        refine ⟨c, by omega, h2, fun j h4 h5 => ?_⟩
        rcases Nat.eq_or_lt_of_le (Nat.le_of_lt_succ h5) with rfl | h5
        · exact h
        · exact h3 j h4 h5
  exact this m (Nat.le_refl _)
/-- The place of a name in things in order. -/
theorem place {α : Type} (key : α → Str) {l : List α} (hs : l.Pairwise fun a b => key a < key b) (s : Str) : ∃ c, c ≤ l.length ∧ (∀ j (h : j < l.length), j < c → ¬ s < key l[j]) ∧ (∀ j (h : j < l.length), c ≤ j → s < key l[j]) := by
  let lt : Nat → Bool := fun j => match l[j]? with | some x => !decide (s < key x) | none => false
  have ltv : ∀ j (h : j < l.length), lt j = !decide (s < key l[j]) := fun j h => by show (match l[j]? with | some x => !decide (s < key x) | none => false) = _; rw [List.getElem?_eq_getElem h]
  obtain ⟨c, h1, h2, h3⟩ := mono_split l.length lt fun i j hij hj h => by
    rw [ltv j hj] at h
    rw [ltv i (by omega)]
    simp only [Bool.not_eq_true', decide_eq_false_iff_not] at h ⊢
    intro h'
    rcases Nat.eq_or_lt_of_le hij with rfl | hij
    · exact h h'
    · exact h (List.lt_trans h' (List.pairwise_iff_getElem.1 hs i j (by omega) hj hij))
  refine ⟨c, h1, fun j h hj => ?_, fun j h hj => ?_⟩
  · have := h2 j hj
    rw [ltv j h] at this
    simpa using this
  · have := h3 j hj h
    rw [ltv j h] at this
    simpa using this
/-- A thing put at its place. -/
theorem put_asc {α : Type} (key : α → Str) {l : List α} (hs : l.Pairwise fun a b => key a < key b) {x : α} {c : Nat} (hc : c ≤ l.length) (h1 : ∀ j (h : j < l.length), j < c → key l[j] < key x) (h2 : ∀ j (h : j < l.length), c ≤ j → key x < key l[j]) :
    (l.take c ++ [x] ++ l.drop c).Pairwise fun a b => key a < key b := by
  have hsplit : (l.take c ++ l.drop c).Pairwise fun a b => key a < key b := by rw [List.take_append_drop]; exact hs
  obtain ⟨p1, p2, p3⟩ := List.pairwise_append.1 hsplit
  have ht : ∀ a ∈ l.take c, key a < key x := fun a ha => by
    obtain ⟨j, hj, rfl⟩ := List.getElem_of_mem ha
    rw [List.length_take] at hj
    rw [List.getElem_take]
    exact h1 j (by omega) (by omega)
  have hd : ∀ b ∈ l.drop c, key x < key b := fun b hb => by
    obtain ⟨j, hj, rfl⟩ := List.getElem_of_mem hb
    rw [List.length_drop] at hj
    rw [List.getElem_drop]
    exact h2 _ (by omega) (by omega)
  refine List.pairwise_append.2 ⟨List.pairwise_append.2 ⟨p1, List.pairwise_singleton _ _, fun a ha b hb => by rw [List.mem_singleton.1 hb]; exact ht a ha⟩, p2, fun a ha b hb => ?_⟩
  rcases List.mem_append.1 ha with ha | ha
  · exact p3 a ha b hb
  · rw [List.mem_singleton.1 ha]; exact hd b hb
theorem put_perm {α : Type} (l : List α) (x : α) (c : Nat) : (l.take c ++ [x] ++ l.drop c).Perm (x :: l) := by
  rw [List.append_assoc]
  show (l.take c ++ x :: l.drop c).Perm (x :: l)
  refine List.perm_middle.trans ?_
  rw [List.take_append_drop]
end Go.Proofs.YthlkidohpiebiaaDoor


/- Paths of lists, files by path, and Changes, in the program and in its reference (law 23), in plain Lean. -/
namespace Go.Proofs.YthlkidohpiebiaaDoor
set_option linter.unusedVariables false
set_option linter.unusedSimpArgs false
open Go Go.RowKit
def pathsOf (l : List FileT) : List Str := l.map (·.1)
def findF (l : List FileT) (p : Str) : Option FileT := l.find? fun x => x.1 == p
/-- How a path's file differs. -/
def chg (a b : List FileT) (p : Str) : Option (Str × Int) := match findF a p with
  | none => some (p, 1)
  | some x => match findF b p with
    | none => some (p, 2)
    | some y => if x.2.2 = y.2.2 then (if x.2.1 = y.2.1 then none else some (p, 4)) else some (p, 3)
end Go.Proofs.YthlkidohpiebiaaDoor


/- Changes the other way round (law 22), in plain Lean. -/
namespace Go.Proofs.YthlkidohpiebiaaDoor
set_option linter.unusedVariables false
set_option linter.unusedSimpArgs false
open Go Go.RowKit
theorem SameFile_eq {N : Nat} (x y : FileT) : ref1_SameFile N x y = some (decide (x = y)) := by
  obtain ⟨x1, x2, x3⟩ := x
  obtain ⟨y1, y2, y3⟩ := y
  unfold ref1_SameFile bytes_Equal
  dsimp only
  rw [bnd_some]
  by_cases h1 : x1 = y1
  · by_cases h2 : x2 = y2
    · by_cases h3 : x3 = y3
      · subst h1 h2 h3; simp
      · rw [beq_iff_eq.2 h1, beq_iff_eq.2 h2, beq_eq_false_iff_ne.2 h3, decide_eq_false (by simp [h3])]; simp
    · rw [beq_iff_eq.2 h1, beq_eq_false_iff_ne.2 h2, decide_eq_false (by simp [h2])]; simp
  · rw [beq_eq_false_iff_ne.2 h1, decide_eq_false (by simp [h1])]; simp
theorem SameFiles_eq {N : Nat} (hN : big ≤ N) (a b : List FileT) (ha : a.length ≤ 1000000) : ref1_SameFiles N a b = some (decide (a = b)) := by
  have hb : (18446744073709551616 : Nat) ≤ N := hN
  unfold ref1_SameFiles
  by_cases hl : a.length = b.length
  case neg =>
    rw [show ((a.length : Int) != (b.length : Int)) = true from by rw [bne_iff_ne]; omega, br_true, decide_eq_false (fun e => hl (by rw [e]))]
  rw [show ((a.length : Int) != (b.length : Int)) = false from by simp [hl], br_false]
  refine (exit_loop (S := Int) a.length (fun i => (i : Int)) (fun i => if (!decide (a[i]? = b[i]?)) = true then some (some false) else none) (f := fun n s => ref1_SameFiles_L0 N a b (some true) n s) (r := some true) (fun n i hi => ?_) (fun n => ?_) N (by omega)).trans ?_
  · show ref1_SameFiles_L0T N a b _ (ref1_SameFiles_L0 N a b _ n) (i : Int) = _
    have hw : IntKind.i64.wrap ((i : Int) + 1) = ((i + 1 : Nat) : Int) := by rw [wrap_id (by omega) (by omega)]; omega
    have hi2 : i < b.length := by omega
    unfold ref1_SameFiles_L0T
    rw [br_pos (by omega : (i : Int) < (a.length : Int)), geti_lt a hi, bnd_some, geti_lt b hi2, bnd_some, SameFile_eq, bnd_some, hw, List.getElem?_eq_getElem hi, List.getElem?_eq_getElem hi2]
    by_cases e : a[i] = b[i]
    · simp [e]
    · simp [e]
  · show ref1_SameFiles_L0T N a b _ _ (a.length : Int) = _
    unfold ref1_SameFiles_L0T
    rw [br_neg (by omega)]
  · rw [exits_any]
    by_cases e : a = b
    · subst e
      rw [if_neg (by simp), decide_eq_true rfl]
    · rw [if_pos, decide_eq_false e]
      rw [List.any_eq_true]
      apply Classical.byContradiction
      intro hno
      apply e
      apply List.ext_getElem?
      intro i
      by_cases hi : i < a.length
      · apply Classical.byContradiction
        intro h
        exact hno ⟨i, by simpa using hi, by simp [h]⟩
      · rw [List.getElem?_eq_none (by omega), List.getElem?_eq_none (by omega)]
end Go.Proofs.YthlkidohpiebiaaDoor


/- At and Put, in the program and in its reference (law 24), in plain Lean. -/
namespace Go.Proofs.YthlkidohpiebiaaDoor
set_option linter.unusedVariables false
set_option linter.unusedSimpArgs false
open Go Go.RowKit
theorem filterMap_take {α β : Type} (g : α → Option β) {l : List α} {i : Nat} (h : i < l.length) : (l.take (i + 1)).filterMap g = (l.take i).filterMap g ++ (g l[i]).toList := by
  rw [List.take_succ_eq_append_getElem h, List.filterMap_append]
  congr 1
theorem len_filterMap_take {α β : Type} (g : α → Option β) (l : List α) (i : Nat) : ((l.take i).filterMap g).length ≤ l.length := by
  have := List.length_filterMap_le g (l.take i)
  rw [List.length_take] at this
  omega
/-- A path lies within another one. -/
def liesB (x p : Str) : Bool := x.take (p.length + 1) == p ++ [47]
theorem liesB_iff {x p : Str} : liesB x p = true ↔ ∃ r, x = p ++ 47 :: r := by
  unfold liesB
  rw [beq_iff_eq]
  constructor
  · intro h
    refine ⟨x.drop (p.length + 1), ?_⟩
    conv => lhs; rw [← List.take_append_drop (p.length + 1) x, h]
    rw [List.append_assoc]; rfl
  · rintro ⟨r, rfl⟩
    rw [List.take_append, List.take_of_length_le (by omega)]
    rw [show p.length + 1 - p.length = 1 by omega]
    rfl
theorem hasPrefix_eq (N : Nat) (x p : Str) : strings_HasPrefix N x (p ++ [47]) = some (liesB x p) := by
  unfold strings_HasPrefix stringslite_HasPrefix liesB
  have hl : (p ++ [47]).length = p.length + 1 := by simp
  by_cases h : x.length ≥ (p ++ [47]).length
  · have h' : (x.length : Int) ≥ ((p ++ [47] : Str).length : Int) := by omega
    rw [br_pos h', slc_take x h, bnd_some, bnd_some, hl]
  · have h' : ¬ (x.length : Int) ≥ ((p ++ [47] : Str).length : Int) := by omega
    rw [br_neg h', bnd_some]
    congr 1
    symm
    rw [beq_eq_false_iff_ne]
    intro e
    have := congrArg List.length e
    rw [List.length_take] at this
    omega
theorem within_eq (N : Nat) {x p : Str} (hp : p.length ≤ 1000) : blob_Within N x p = some (liesB x p) := by
  unfold blob_Within
  rw [br_pos (by show p.length + 1 ≤ _; omega), hasPrefix_eq, bnd_some]
theorem lies_eq (N : Nat) {x p : Str} (hp : p.length ≤ 1000) : ref1_Lies N x p = some (liesB x p) := by
  unfold ref1_Lies
  rw [br_pos (by show p.length + 1 ≤ _; omega), hasPrefix_eq, bnd_some]
theorem lies_len {x p : Str} (h : liesB x p = true) : p.length + 1 ≤ x.length := by
  obtain ⟨r, rfl⟩ := liesB_iff.1 h
  simp
theorem slc_drop {α : Type} (xs : List α) {i : Nat} (h : i ≤ xs.length) : slc xs (i : Int) (xs.length : Int) = some (xs.drop i) := by
  unfold slc; rw [if_pos ⟨by omega, by omega, by omega⟩]; simp
theorem Clone_files (N : Nat) {l : List FileT} (h : l.length ≤ 1000000) : slices_Clone_api_File N l = some l := by
  unfold slices_Clone_api_File
  exact clone_eq (24 * Ty.sz (.pr .str (.pr .bool (.sl .u8)))) l (by show l.length * 72 ≤ _; omega)
theorem Clone_bytes (N : Nat) {l : List UInt8} (h : l.length ≤ 10000000) : slices_Clone_byte_byte N l = some l := by
  unfold slices_Clone_byte_byte
  exact clone_eq (24 * Ty.sz .u8) l (by show l.length * 24 ≤ _; omega)
theorem seti_self {α : Type} {l : List α} {i : Nat} (h : i < l.length) : seti l (i : Int) l[i] = l := by
  unfold seti
  exact List.set_getElem_self h
theorem Own_eq {N : Nat} (hN : big ≤ N) {l : List FileT} (hl : l.length ≤ 1000000) (hb : ∀ x ∈ l, x.2.2.length ≤ 10000000) : blob_Own N l = some l := by
  have hbN : (18446744073709551616 : Nat) ≤ N := hN
  unfold blob_Own
  rw [Clone_files N hl, bnd_some]
  refine steps_loop (S := Int × List FileT) l.length (fun i => ((i : Int), l)) (f := fun n s => blob_Own_L0 N (l.length : Int) (fun o => some o) n s.1 s.2) (z := some l) (fun n i hi => ?_) (fun n => ?_) N (by omega)
  · show blob_Own_L0T N _ _ (blob_Own_L0 N _ _ n) (i : Int) l = blob_Own_L0 N _ _ n ((i + 1 : Nat) : Int) l
    have hw : IntKind.i64.wrap ((i : Int) + 1) = ((i + 1 : Nat) : Int) := by rw [wrap_id (by omega) (by omega)]; omega
    have hd : 0 ≤ (i : Int) ∧ (i : Int) < (l.length : Int) := ⟨by omega, by omega⟩
    unfold blob_Own_L0T
    rw [br_pos (by omega : (i : Int) < (l.length : Int)), br_pos hd, geti_lt l hi, bnd_some, Clone_bytes N (hb _ (List.getElem_mem _)), bnd_some, br_pos hd, bnd_some, hw]
    congr 1
    exact seti_self hi
  · show blob_Own_L0T N _ _ _ (l.length : Int) l = _
    unfold blob_Own_L0T
    rw [br_neg (by omega)]
theorem FilesOk.bytes {l : List FileT} (h : FilesOk l) : ∀ x ∈ l, x.2.2.length ≤ 10000000 := fun x hx => by have := h.ok.few x hx; omega
/-- A file within a path, seen from there. -/
def atF (p : Str) (x : FileT) : Option FileT := if liesB x.1 p = true then some (x.1.drop (p.length + 1), x.2) else none
def atL (l : List FileT) (p : Str) : List FileT := l.filterMap (atF p)
/-- What At says. -/
def atS (l : List FileT) (p : Str) : Int × List FileT := if filesS l = 0 then (if pathB p = true then (0, atL l p) else (3, [])) else (filesS l, [])
theorem szF {n : Nat} (h : n ≤ 100000) (z : FileT) : (n + [z].length) * (24 * Ty.sz (.pr .str (.pr .bool (.sl .u8)))) ≤ 140737488355328 := by rw [List.length_singleton]; show _ * 72 ≤ _; omega
theorem blob_At_eq {N : Nat} (hN : big ≤ N) (l : List FileT) (p : Str) : blob_At N l p = some ((atS l p).1, (atS l p).2) := by
  have hbN : (18446744073709551616 : Nat) ≤ N := hN
  unfold blob_At atS
  rw [blob_CheckFiles_eq hN, bnd_some, isPath_eq, isPath_all hN, bnd_some]
  by_cases h0 : filesS l = 0
  case neg => rw [if_neg h0, bne_iff_ne.2 h0, br_true]
  rw [if_pos h0, h0, show ((0 : Int) != 0) = false from rfl, br_false]
  by_cases hp : pathB p = true
  case neg => rw [if_neg hp, show pathB p = false from by simpa using hp]; simp
  rw [if_pos hp, hp, Bool.not_true, br_false]
  have ok := (files_iff l).1 h0
  have hlen := ok.len
  have hpl := (pathB_len hp).2
  rw [Own_eq hN (by omega) ok.bytes, bnd_some]
  refine steps_loop (S := Int × List FileT) l.length (fun i => ((i : Int), (l.take i).filterMap (atF p))) (f := fun n s => blob_At_L0 N p (l.length : Int) l (fun o => some (0, o)) n s.1 s.2) (z := some (0, atL l p)) (fun n i hi => ?_) (fun n => ?_) N (by omega)
  · show blob_At_L0T N p _ l _ (blob_At_L0 N p _ l _ n) (i : Int) ((l.take i).filterMap (atF p)) = blob_At_L0 N p _ l _ n ((i + 1 : Nat) : Int) ((l.take (i + 1)).filterMap (atF p))
    have hw : IntKind.i64.wrap ((i : Int) + 1) = ((i + 1 : Nat) : Int) := by rw [wrap_id (by omega) (by omega)]; omega
    have hw2 : IntKind.i64.wrap ((p.length : Int) + 1) = ((p.length + 1 : Nat) : Int) := by rw [wrap_id (by omega) (by omega)]; omega
    have hd : 0 ≤ (i : Int) ∧ (i : Int) < (l.length : Int) := ⟨by omega, by omega⟩
    have hs := len_filterMap_take (atF p) l i
    unfold blob_At_L0T
    rw [br_pos (by omega : (i : Int) < (l.length : Int)), br_pos hd, geti_lt l hi, bnd_some, within_eq N (by omega), bnd_some, hw, hw2, filterMap_take _ hi]
    by_cases h : liesB l[i].1 p = true
    · rw [h, br_true, slc_drop _ (lies_len h), bnd_some, br_pos (szF (by omega) _), show atF p l[i] = some (l[i].1.drop (p.length + 1), l[i].2) from if_pos h]; rfl
    · rw [show atF p l[i] = none from if_neg h, show liesB l[i].1 p = false from by simpa using h, br_false]; simp
  · show blob_At_L0T N p _ l _ _ (l.length : Int) _ = _
    unfold blob_At_L0T
    rw [br_neg (by omega), List.take_length]; rfl
theorem copied_eq (N : Nat) {x : FileT} (h : x.2.2.length ≤ 10000000) (p : Str) : ref1_copied N x p = some (p, x.2) := by
  unfold ref1_copied
  rw [br_pos (by show x.2.2.length * 24 ≤ _; omega)]
theorem ref_At_eq {N : Nat} (hN : big ≤ N) (l : List FileT) (p : Str) : ref1_At N l p = some ((atS l p).1, (atS l p).2) := by
  have hbN : (18446744073709551616 : Nat) ≤ N := hN
  unfold ref1_At atS
  rw [ref_CheckFiles_eq hN, bnd_some, isPath_all hN, bnd_some]
  by_cases h0 : filesS l = 0
  case neg => rw [if_neg h0, bne_iff_ne.2 h0, br_true]
  rw [if_pos h0, h0, show ((0 : Int) != 0) = false from rfl, br_false]
  by_cases hp : pathB p = true
  case neg => rw [if_neg hp, show pathB p = false from by simpa using hp]; simp
  rw [if_pos hp, hp, Bool.not_true, br_false]
  have ok := (files_iff l).1 h0
  have hlen := ok.len
  have hpl := (pathB_len hp).2
  have e : ref1_AtOf N l p = some (atL l p) := by
    unfold ref1_AtOf
    refine steps_loop (S := Int × List FileT) l.length (fun i => ((i : Int), (l.take i).filterMap (atF p))) (f := fun n s => ref1_AtOf_L0 N l p (fun o => some o) n s.1 s.2) (z := some (atL l p)) (fun n i hi => ?_) (fun n => ?_) N (by omega)
    · show ref1_AtOf_L0T N l p _ (ref1_AtOf_L0 N l p _ n) (i : Int) ((l.take i).filterMap (atF p)) = ref1_AtOf_L0 N l p _ n ((i + 1 : Nat) : Int) ((l.take (i + 1)).filterMap (atF p))
      have hw : IntKind.i64.wrap ((i : Int) + 1) = ((i + 1 : Nat) : Int) := by rw [wrap_id (by omega) (by omega)]; omega
      have hw2 : IntKind.i64.wrap ((p.length : Int) + 1) = ((p.length + 1 : Nat) : Int) := by rw [wrap_id (by omega) (by omega)]; omega
      have hs := len_filterMap_take (atF p) l i
      unfold ref1_AtOf_L0T
      simp only [geti_lt l hi, bnd_some]
      rw [br_pos (by omega : (i : Int) < (l.length : Int)), lies_eq N (by omega), bnd_some, hw, hw2, filterMap_take _ hi]
      by_cases h : liesB l[i].1 p = true
      · rw [h, br_true, slc_drop _ (lies_len h), bnd_some, copied_eq N (ok.bytes _ (List.getElem_mem _)), bnd_some, br_pos (szF (by omega) _), show atF p l[i] = some (l[i].1.drop (p.length + 1), l[i].2) from if_pos h]; rfl
      · rw [show atF p l[i] = none from if_neg h, show liesB l[i].1 p = false from by simpa using h, br_false]; simp
    · show ref1_AtOf_L0T N l p _ _ (l.length : Int) _ = _
      unfold ref1_AtOf_L0T
      rw [br_neg (by omega), List.take_length]; rfl
  rw [e, bnd_some]
/-- What stays of a tree into which something is put. -/
def stayB (p : Str) (x : FileT) : Bool := !(x.1 == p || liesB x.1 p)
def moveF (p : Str) (x : FileT) : FileT := ((p ++ [47]) ++ x.1, x.2)
def fkey (x : FileT) : Str := x.1
def putL (l : List FileT) (p : Str) (m : List FileT) : List FileT := (l.filter (stayB p) ++ m.map (moveF p)).mergeSort (leKey fkey)
/-- What Put says. -/
def putS (l : List FileT) (p : Str) (m : List FileT) : List FileT × Int :=
  if filesS l = 0 then (if filesS m = 0 then (if pathB p = true then (if filesS (putL l p m) = 0 then (putL l p m, 0) else ([], filesS (putL l p m))) else ([], 3)) else ([], filesS m)) else ([], filesS l)
theorem lt_append (p : Str) {a b : Str} : p ++ a < p ++ b ↔ a < b := by
  induction p with
  | nil => rfl
  | cons c p ih =>
    rw [List.cons_append, List.cons_append, List.cons_lt_cons_iff]
    constructor
    · rintro (h | ⟨_, h⟩)
      · exact absurd h (UInt8.lt_irrefl c)
      · exact ih.1 h
    · intro h
      exact .inr ⟨rfl, ih.2 h⟩
theorem moved_asc {m : List FileT} (h : Asc m) (p : Str) : Asc (m.map (moveF p)) := by
  unfold Asc
  rw [List.pairwise_map]
  exact h.imp fun {a b} hab => (lt_append _).2 hab
theorem moved_lies (p : Str) (x : FileT) : liesB (moveF p x).1 p = true := liesB_iff.2 ⟨x.1, by unfold moveF; simp⟩
theorem kept_lies {p : Str} {x : FileT} (h : stayB p x = true) : liesB x.1 p = false := by
  unfold stayB at h
  simp only [Bool.not_eq_true', Bool.or_eq_false_iff] at h
  exact h.2
theorem put_nodup {l m : List FileT} (hl : Asc l) (hm : Asc m) (p : Str) : ((l.filter (stayB p) ++ m.map (moveF p)).map fkey).Nodup := by
  rw [List.map_append, List.nodup_append]
  have h1 : Asc (l.filter (stayB p)) := hl.sublist List.filter_sublist
  refine ⟨h1.nodup, (moved_asc hm p).nodup, fun a ha b hb e => ?_⟩
  obtain ⟨x, hx, rfl⟩ := List.mem_map.1 ha
  obtain ⟨y, hy, rfl⟩ := List.mem_map.1 hb
  obtain ⟨z, hz, rfl⟩ := List.mem_map.1 hy
  have h2 := kept_lies (List.mem_filter.1 hx).2
  have h3 := moved_lies p z
  unfold fkey at e
  rw [← e, h2] at h3
  cases h3
theorem put_len {l m : List FileT} (hl : l.length ≤ 1000) (hm : m.length ≤ 1000) (p : Str) : (l.filter (stayB p) ++ m.map (moveF p)).length ≤ 2000 := by
  have := List.length_filter_le (stayB p) l
  rw [List.length_append, List.length_map]; omega
theorem Put_1_eq (N : Nat) {p : Str} (hp : p.length ≤ 1000) (x : FileT) : blob_Put_1 N x p = some (x.1 == p || liesB x.1 p) := by
  unfold blob_Put_1
  rw [within_eq N hp, bnd_some]
  cases x.1 == p <;> simp
theorem IndexFunc_file {N : Nat} (hN : big ≤ N) {l : List FileT} (hl : l.length ≤ maxLen) {p : Str} (hp : p.length ≤ 1000) : slices_IndexFunc_api_File N l (p, ()) = some (idxP (fun x => x.1 == p || liesB x.1 p) l) := by
  unfold slices_IndexFunc_api_File
  refine loop_for (fun _ _ => rfl) l hl (fun self i h r hr => ?_) (fun self => ?_) hN
  · simp only [slices_IndexFunc_api_File_L0T, geti_lt l h, wrap_succ hl h, hr, bnd_some, Put_1_eq N hp]
    rw [lt_tt h, br_true, br_eq_ite]
    split <;> rfl
  · simp only [slices_IndexFunc_api_File_L0T, lt_ff, br_false]
theorem DeleteFunc_file {N : Nat} (hN : big ≤ N) {l : List FileT} (hl : l.length ≤ maxLen) {p : Str} (hp : p.length ≤ 1000) : slices_DeleteFunc_api_File N (p, ()) l = some (l.filter (stayB p)) := by
  unfold slices_DeleteFunc_api_File
  rw [IndexFunc_file hN hl hp, bnd_some]
  exact deleteFunc_eq hN hl (fun x : FileT => x.1 == p || liesB x.1 p) (P := fun t => blob_Put_1 N t p) (fun t _ => Put_1_eq N hp t) (zero (.pr .str (.pr .bool (.sl .u8)))) (f := fun m a b w => slices_DeleteFunc_api_File_L0 N (p, ()) _ m a b w) (fun _ _ _ _ => rfl)
theorem map_take_succ {α β : Type} (f : α → β) (c : List α) {i : Nat} (h : i < c.length) : (c.take (i + 1)).map f = (c.take i).map f ++ [f c[i]] := by
  rw [List.take_succ_eq_append_getElem h, List.map_append]; rfl
theorem blob_Put_eq {N : Nat} (hN : big ≤ N) (l : List FileT) (p : Str) (m : List FileT) : blob_Put N l p m = some ((putS l p m).1, (putS l p m).2) := by
  have hbN : (18446744073709551616 : Nat) ≤ N := hN
  unfold blob_Put putS
  rw [blob_CheckFiles_eq hN, bnd_some, blob_CheckFiles_eq hN, bnd_some, isPath_eq, isPath_all hN, bnd_some]
  by_cases h0 : filesS l = 0
  case neg => rw [if_neg h0, bne_iff_ne.2 h0, br_true]
  rw [if_pos h0, h0, show ((0 : Int) != 0) = false from rfl, br_false]
  by_cases h1 : filesS m = 0
  case neg => rw [if_neg h1, bne_iff_ne.2 h1, br_true]
  rw [if_pos h1, h1, show ((0 : Int) != 0) = false from rfl, br_false]
  by_cases hp : pathB p = true
  case neg => rw [if_neg hp, show pathB p = false from by simpa using hp]; simp
  rw [if_pos hp, hp, Bool.not_true, br_false]
  have ok := (files_iff l).1 h0
  have okm := (files_iff m).1 h1
  have hlen := ok.len
  have hmlen := okm.len
  have hpl := (pathB_len hp).2
  have hkl := List.length_filter_le (stayB p) l
  rw [Own_eq hN (by omega) ok.bytes, bnd_some, DeleteFunc_file hN (Nat.le_trans hlen (by decide)) (by omega), bnd_some, Own_eq hN (by omega) okm.bytes, bnd_some]
  have hend : bnd (blob_sorted_2 N (l.filter (stayB p) ++ m.map (moveF p))) (fun t49 => some t49) = some ((if filesS (putL l p m) = 0 then (putL l p m, (0 : Int)) else ([], filesS (putL l p m))).1, (if filesS (putL l p m) = 0 then (putL l p m, (0 : Int)) else ([], filesS (putL l p m))).2) := by
    have hso : slices_SortFunc_file () (l.filter (stayB p) ++ m.map (moveF p)) = some (putL l p m) := by
      unfold slices_SortFunc_file sortK
      have hl2 := put_len hlen hmlen p
      rw [if_pos ⟨by omega, put_nodup ok.ok.asc okm.ok.asc p⟩]
      rfl
    unfold blob_sorted_2
    rw [hso, bnd_some, blob_CheckFiles_eq hN, bnd_some]
    by_cases h2 : filesS (putL l p m) = 0
    · rw [if_pos h2, h2, show ((0 : Int) != 0) = false from rfl, br_false, bnd_some]
    · rw [if_neg h2, bne_iff_ne.2 h2, br_true, bnd_some]
  rw [← hend]
  have main := steps_loop (S := Int × List FileT) m.length (fun i => ((i : Int), l.filter (stayB p) ++ (m.take i).map (moveF p))) (f := fun n s => blob_Put_L0 N p (m.length : Int) m (fun o => bnd (blob_sorted_2 N o) fun t49 => some t49) n s.1 s.2) (z := bnd (blob_sorted_2 N (l.filter (stayB p) ++ m.map (moveF p))) fun t49 => some t49) (fun n i hi => ?_) (fun n => ?_) N (by omega)
  · simpa using main
  · show blob_Put_L0T N p _ m _ (blob_Put_L0 N p _ m _ n) (i : Int) (l.filter (stayB p) ++ (m.take i).map (moveF p)) = blob_Put_L0 N p _ m _ n ((i + 1 : Nat) : Int) (l.filter (stayB p) ++ (m.take (i + 1)).map (moveF p))
    have hw : IntKind.i64.wrap ((i : Int) + 1) = ((i + 1 : Nat) : Int) := by rw [wrap_id (by omega) (by omega)]; omega
    have hd : 0 ≤ (i : Int) ∧ (i : Int) < (m.length : Int) := ⟨by omega, by omega⟩
    have hx := (pathB_len (okm.ok.path m[i] (List.getElem_mem _))).2
    have hs : (l.filter (stayB p) ++ (m.take i).map (moveF p)).length ≤ 2000 := by rw [List.length_append, List.length_map, List.length_take]; omega
    unfold blob_Put_L0T
    rw [br_pos (by omega : (i : Int) < (m.length : Int)), br_pos hd, geti_lt m hi, bnd_some, br_pos (by show p.length + 1 ≤ _; omega), br_pos (by rw [List.length_append]; show p.length + 1 + _ ≤ _; omega), br_pos (szF (by omega) _), hw, map_take_succ _ _ hi, ← List.append_assoc]
    rfl
  · show blob_Put_L0T N p _ m _ _ (m.length : Int) _ = _
    unfold blob_Put_L0T
    rw [br_neg (by omega), List.take_length]
theorem ref_sorted {N : Nat} (hN : big ≤ N) {w : List FileT} (hw : w.length ≤ 1000000) (hs : Asc w) (x : FileT) (hx : x.1 ∉ pathsOf w) : ∃ r, ref1_sorted N w x = some r ∧ Asc r ∧ r.Perm (x :: w) := by
  have hb : (18446744073709551616 : Nat) ≤ N := hN
  obtain ⟨c, hc, h1, h2⟩ := place fkey hs x.1
  unfold ref1_sorted
  have key : ∀ k : Int → Option (List FileT), ref1_sorted_L0 N w x.1 k N (w.length : Int) = k (c : Int) := fun k => by
    refine steps_loop (S := Int) (w.length - c) (fun i => ((w.length - i : Nat) : Int)) (f := fun n y => ref1_sorted_L0 N w x.1 k n y) (z := k (c : Int)) (fun n i hi => ?_) (fun n => ?_) N (by omega)
    · show ref1_sorted_L0T N w x.1 k (ref1_sorted_L0 N w x.1 k n) ((w.length - i : Nat) : Int) = _
      have hw : IntKind.i64.wrap (((w.length - i : Nat) : Int) - 1) = ((w.length - (i + 1) : Nat) : Int) := by rw [wrap_id (by omega) (by omega)]; omega
      have hlt : x.1 < w[w.length - (i + 1)].1 := h2 (w.length - (i + 1)) (by omega) (by omega)
      unfold ref1_sorted_L0T
      rw [br_pos (by omega : ((w.length - i : Nat) : Int) > 0), hw, geti_lt w (by omega : w.length - (i + 1) < w.length), bnd_some, le_not, decide_eq_true hlt]
      simp
    · show ref1_sorted_L0T N w x.1 k _ ((w.length - (w.length - c) : Nat) : Int) = _
      have e : w.length - (w.length - c) = c := by omega
      rw [e]
      unfold ref1_sorted_L0T
      by_cases h0 : c = 0
      · rw [br_neg (by omega)]
      · have hw : IntKind.i64.wrap ((c : Int) - 1) = ((c - 1 : Nat) : Int) := by rw [wrap_id (by omega) (by omega)]; omega
        have hlt : ¬ x.1 < w[c - 1].1 := h1 (c - 1) (by omega) (by omega)
        rw [br_pos (by omega : (c : Int) > 0), hw, geti_lt w (by omega : c - 1 < w.length), bnd_some, le_not, decide_eq_false hlt]
        simp
  rw [key]
  have t1 : slc w 0 (c : Int) = some (w.take c) := slc_take w hc
  have t2 : slc w (c : Int) (w.length : Int) = some (w.drop c) := slc_drop w hc
  have z1 : (([] : List FileT).length + (w.take c).length) * (24 * Ty.sz (.pr .str (.pr .bool (.sl .u8)))) ≤ 140737488355328 := by rw [List.length_take]; show (0 + _) * 72 ≤ _; omega
  have z2 : ((([] : List FileT) ++ w.take c).length + [x].length) * (24 * Ty.sz (.pr .str (.pr .bool (.sl .u8)))) ≤ 140737488355328 := by rw [List.nil_append, List.length_take]; show (_ + 1) * 72 ≤ _; omega
  have z3 : (((([] : List FileT) ++ w.take c) ++ [x]).length + (w.drop c).length) * (24 * Ty.sz (.pr .str (.pr .bool (.sl .u8)))) ≤ 140737488355328 := by rw [List.nil_append, List.length_append, List.length_take, List.length_drop]; show (_ + 1 + _) * 72 ≤ _; omega
  rw [t1, t2]
  simp only [bnd_some, br_pos z1, br_pos z2, br_pos z3]
  refine ⟨_, rfl, ?_, ?_⟩
  · rw [List.nil_append]
    refine put_asc fkey hs hc (fun j h hj => ?_) h2
    rcases lt_tri w[j].1 x.1 with h3 | h3 | h3
    · exact h3
    · exact absurd (List.mem_map.2 ⟨w[j], List.getElem_mem _, h3⟩) hx
    · exact absurd h3 (h1 j h hj)
  · rw [List.nil_append]; exact put_perm w x c
theorem ref_Put_eq {N : Nat} (hN : big ≤ N) (l : List FileT) (p : Str) (m : List FileT) : ref1_Put N l p m = some ((putS l p m).1, (putS l p m).2) := by
  have hbN : (18446744073709551616 : Nat) ≤ N := hN
  unfold ref1_Put putS
  rw [ref_CheckFiles_eq hN, bnd_some, ref_CheckFiles_eq hN, bnd_some, isPath_all hN, bnd_some]
  by_cases h0 : filesS l = 0
  case neg => rw [if_neg h0, bne_iff_ne.2 h0, br_true]
  rw [if_pos h0, h0, show ((0 : Int) != 0) = false from rfl, br_false]
  by_cases h1 : filesS m = 0
  case neg => rw [if_neg h1, bne_iff_ne.2 h1, br_true]
  rw [if_pos h1, h1, show ((0 : Int) != 0) = false from rfl, br_false]
  by_cases hp : pathB p = true
  case neg => rw [if_neg hp, show pathB p = false from by simpa using hp]; simp
  rw [if_pos hp, hp, Bool.not_true, br_false]
  have ok := (files_iff l).1 h0
  have okm := (files_iff m).1 h1
  have hlen := ok.len
  have hmlen := okm.len
  have hpl := (pathB_len hp).2
  have hkl := List.length_filter_le (stayB p) l
  generalize hK : (fun o1_10 : List FileT => bnd (ref1_CheckFiles N o1_10) fun t85 => br (t85 != (0 : Int)) (some (([] : List FileT), t85)) (some (o1_10, (0 : Int)))) = K
  have hKp : K (putL l p m) = some ((if filesS (putL l p m) = 0 then (putL l p m, (0 : Int)) else ([], filesS (putL l p m))).1, (if filesS (putL l p m) = 0 then (putL l p m, (0 : Int)) else ([], filesS (putL l p m))).2) := by
    rw [← hK]
    dsimp only
    rw [ref_CheckFiles_eq hN, bnd_some]
    by_cases h2 : filesS (putL l p m) = 0
    · rw [if_pos h2, h2, show ((0 : Int) != 0) = false from rfl, br_false]
    · rw [if_neg h2, bne_iff_ne.2 h2, br_true]
  rw [← hKp]
  -- the files that stay
  have e0 : ref1_Put_L0 N l p (fun o0_w1010 => ref1_Put_L1 N p m K N o0_w1010 0) N 0 [] = ref1_Put_L1 N p m K N (l.filter (stayB p)) 0 := by
    have main := steps_loop (S := Int × List FileT) l.length (fun i => ((i : Int), (l.take i).filter (stayB p))) (f := fun n s => ref1_Put_L0 N l p (fun o0_w1010 => ref1_Put_L1 N p m K N o0_w1010 0) n s.1 s.2) (z := ref1_Put_L1 N p m K N (l.filter (stayB p)) 0) (fun n i hi => ?_) (fun n => ?_) N (by omega)
    · simpa using main
    · show ref1_Put_L0T N l p _ (ref1_Put_L0 N l p _ n) (i : Int) ((l.take i).filter (stayB p)) = ref1_Put_L0 N l p _ n ((i + 1 : Nat) : Int) ((l.take (i + 1)).filter (stayB p))
      have hw : IntKind.i64.wrap ((i : Int) + 1) = ((i + 1 : Nat) : Int) := by rw [wrap_id (by omega) (by omega)]; omega
      have hs : ((l.take i).filter (stayB p)).length ≤ 1000 := by
        have := List.length_filter_le (stayB p) (l.take i)
        rw [List.length_take] at this
        omega
      unfold ref1_Put_L0T
      simp only [geti_lt l hi, bnd_some]
      rw [br_pos (by omega : (i : Int) < (l.length : Int)), lies_eq N (by omega), bnd_some, hw, copied_eq N (ok.bytes _ (List.getElem_mem _)), bnd_some, br_pos (szF (by omega) _), filter_take_succ _ _ hi]
      unfold stayB
      cases h3 : l[i].1 == p <;> cases h4 : liesB l[i].1 p <;> simp
    · show ref1_Put_L0T N l p _ _ (l.length : Int) _ = _
      unfold ref1_Put_L0T
      rw [br_neg (by omega), List.take_length]
  rw [e0]
  -- the files that are put, one by one
  have nd := put_nodup ok.ok.asc okm.ok.asc p
  have gen : ∀ (d n i : Nat) (w : List FileT), i + d = m.length → d < n → Asc w → w.Perm (l.filter (stayB p) ++ (m.take i).map (moveF p)) → ∃ r, ref1_Put_L1 N p m K n w (i : Int) = K r ∧ Asc r ∧ r.Perm (l.filter (stayB p) ++ m.map (moveF p)) := by
    intro d
    induction d with
    | zero =>
      intro n i w hi hn hs hp
      obtain ⟨n, rfl⟩ : ∃ q, n = q + 1 := ⟨n - 1, by omega⟩
      obtain rfl : i = m.length := by omega
      refine ⟨w, ?_, hs, by rw [List.take_length] at hp; exact hp⟩
      show ref1_Put_L1T N p m K _ w (m.length : Int) = _
      unfold ref1_Put_L1T
      rw [br_neg (by omega)]
    | succ d ih =>
      intro n i w hi hn hs hp
      obtain ⟨n, rfl⟩ : ∃ q, n = q + 1 := ⟨n - 1, by omega⟩
      have hlt : i < m.length := by omega
      have hw : IntKind.i64.wrap ((i : Int) + 1) = ((i + 1 : Nat) : Int) := by rw [wrap_id (by omega) (by omega)]; omega
      have hx := (pathB_len (okm.ok.path m[i] (List.getElem_mem _))).2
      have hwl : w.length ≤ 2000 := by
        rw [hp.length_eq, List.length_append, List.length_map, List.length_take]; omega
      have hnew : (moveF p m[i]).1 ∉ pathsOf w := fun hm => by
        have h5 : (moveF p m[i]).1 ∈ (l.filter (stayB p) ++ (m.take i).map (moveF p)).map fkey := (hp.map fkey).mem_iff.1 hm
        have e : m.map (moveF p) = (m.take i).map (moveF p) ++ moveF p m[i] :: (m.drop (i + 1)).map (moveF p) := by
          conv => lhs; rw [← List.take_append_drop i m, List.drop_eq_getElem_cons hlt]
          rw [List.map_append, List.map_cons]
        rw [e, ← List.append_assoc, List.map_append, List.map_cons, List.nodup_append] at nd
        exact nd.2.2 _ h5 _ (List.mem_cons_self ..) rfl
      obtain ⟨r, e1, h3, h4⟩ := ref_sorted hN (by omega) hs (moveF p m[i]) hnew
      obtain ⟨r', e2, h5, h6⟩ := ih n (i + 1) r (by omega) (by omega) h3 (by
        rw [map_take_succ _ _ hlt, ← List.append_assoc]
        exact h4.trans ((hp.cons _).trans (List.perm_append_singleton _ _).symm))
      refine ⟨r', ?_, h5, h6⟩
      rw [← e2]
      show ref1_Put_L1T N p m K (ref1_Put_L1 N p m K n) w (i : Int) = _
      unfold ref1_Put_L1T
      simp only [geti_lt m hlt, bnd_some]
      rw [br_pos (by omega : (i : Int) < (m.length : Int)), br_pos (by show p.length + 1 ≤ _; omega), br_pos (by rw [List.length_append]; show p.length + 1 + _ ≤ _; omega), copied_eq N (okm.bytes _ (List.getElem_mem _)), bnd_some, hw]
      rw [show ref1_sorted N w ((p ++ [47]) ++ m[i].1, m[i].2) = some r from e1, bnd_some]
  obtain ⟨r, e1, h3, h4⟩ := gen m.length N 0 (l.filter (stayB p)) (by omega) (by omega) (ok.ok.asc.sublist List.filter_sublist) (by simp)
  rw [show ref1_Put_L1 N p m K N (l.filter (stayB p)) 0 = K r from e1]
  congr 1
  exact sort_uniqueK nd h4 (h3.imp fun h h' => List.lt_asymm h h')
theorem atS_len (l : List FileT) (p : Str) : (atS l p).2.length ≤ 1000 := by
  unfold atS
  split
  · rename_i h
    split
    · exact Nat.le_trans (List.length_filterMap_le _ _) ((files_iff l).1 h).len
    · exact Nat.zero_le _
  · exact Nat.zero_le _
theorem putS_len (l : List FileT) (p : Str) (m : List FileT) : (putS l p m).1.length ≤ 1000 := by
  unfold putS
  split
  · split
    · split
      · split
        · rename_i h; exact ((files_iff _).1 h).len
        · exact Nat.zero_le _
      · exact Nat.zero_le _
    · exact Nat.zero_le _
  · exact Nat.zero_le _
theorem plain_BlobPartsMatchSpec (l : List FileT) (p : Str) (m : List FileT) (_ : Fit (.sl (.pr .str (.pr .bool (.sl .u8)))) l) (_ : Fit .str p) (_ : Fit (.sl (.pr .str (.pr .bool (.sl .u8)))) m) : ∃ N, law1_BlobPartsMatchSpec N l p m = some true := by
  have hN : big ≤ big := Nat.le_refl _
  refine ⟨big, ?_⟩
  unfold law1_BlobPartsMatchSpec
  have h1 : (atS l p).2.length ≤ 1000000 := Nat.le_trans (atS_len l p) (by decide)
  have h2 : (putS l p m).1.length ≤ 1000000 := Nat.le_trans (putS_len l p m) (by decide)
  rw [blob_At_eq hN, ref_At_eq hN, blob_Put_eq hN, ref_Put_eq hN, bnd_some, bnd_some, bnd_some, bnd_some]
  dsimp only
  rw [SameFiles_eq hN _ _ h1, SameFiles_eq hN _ _ h2, bnd_some, bnd_some, decide_eq_true rfl, decide_eq_true rfl, br_true, beq_self_eq_true, br_true, br_true, beq_self_eq_true, br_true, awake_ok hN, bnd_some]
end Go.Proofs.YthlkidohpiebiaaDoor

