/- Select, in the program and in its reference (law 8), in plain Lean. -/
import Derived.Test.YthlkidohpiebiaaDoorQEndU
namespace Go.Proofs.YthlkidohpiebiaaDoor
set_option linter.unusedVariables false
set_option linter.unusedSimpArgs false
open Go Go.RowKit
theorem Concat_two {N : Nat} (hN : big ≤ N) (a b : List Str) (ha : a.length ≤ 2000000) (hb : b.length ≤ 2000000) : slices_Concat_string_string N [a, b] = some (a ++ b) := by
  obtain ⟨d, rfl⟩ : ∃ d, N = d + 3 := ⟨N - 3, by unfold big at hN; omega⟩
  have e0 : IntKind.i64.wrap ((0 : Int) + (a.length : Int)) = (a.length : Int) := by rw [Int.zero_add]; exact wrap_id (by omega) (by omega)
  have e1 : IntKind.i64.wrap ((a.length : Int) + (b.length : Int)) = ((a.length + b.length : Nat) : Int) := by rw [Int.natCast_add]; exact wrap_id (by omega) (by omega)
  have g0 : geti [a, b] (0 : Int) = some a := rfl
  have g1 : geti [a, b] (1 : Int) = some b := rfl
  have w1 : IntKind.i64.wrap ((0 : Int) + 1) = 1 := by decide
  have w2 : IntKind.i64.wrap ((1 : Int) + 1) = 2 := by decide
  have t0 : decide ((0 : Int) < 2) = true := rfl
  have t1 : decide ((1 : Int) < 2) = true := rfl
  have t2 : decide ((2 : Int) < 2) = false := rfl
  have n0 : decide ((a.length : Int) < 0) = false := decide_eq_false (by omega)
  have n1 : decide (((a.length + b.length : Nat) : Int) < 0) = false := decide_eq_false (by omega)
  have p0 : decide ((([] : List Str).length + a.length) * (24 * Ty.sz .str) ≤ 140737488355328) = true := decide_eq_true (by show (0 + a.length) * (24 * 1) ≤ _; omega)
  have p1 : decide ((a.length + b.length) * (24 * Ty.sz .str) ≤ 140737488355328) = true := decide_eq_true (by show (a.length + b.length) * (24 * 1) ≤ _; omega)
  have h0 : ∀ k, slices_Concat_string_string_L0 (d + 3) [a, b] 2 k (d + 3) 0 0 = k ((a.length + b.length : Nat) : Int) := by
    intro k
    simp only [slices_Concat_string_string_L0, slices_Concat_string_string_L0T, t0, t1, t2, g0, g1, w1, w2, e0, e1, n0, n1, bnd_some, br_true, br_false]
  have h1 : ∀ k, slices_Concat_string_string_L1 (d + 3) [a, b] 2 k (d + 3) 0 [] = k (a ++ b) := by
    intro k
    simp only [slices_Concat_string_string_L1, slices_Concat_string_string_L1T, t0, t1, t2, g0, g1, w1, w2, p0, p1, bnd_some, br_true, br_false, List.nil_append]
  have hg : slices_Grow_string ((a.length + b.length : Nat) : Int) = some [] := by
    unfold slices_Grow_string growF
    exact if_pos ⟨by omega, by show ((a.length + b.length : Nat) : Int) * ((24 * 1 : Nat) : Int) ≤ _; omega⟩
  show slices_Concat_string_string_L0 (d + 3) [a, b] 2 _ (d + 3) 0 0 = _
  rw [h0, hg, bnd_some]
  show slices_Concat_string_string_L1 (d + 3) [a, b] 2 _ (d + 3) 0 [] = _
  rw [h1]
theorem Equal_self {N : Nat} (hN : big ≤ N) (l : List Str) (hl : l.length ≤ maxLen) : slices_Equal_string_string N l l = some true := by
  unfold slices_Equal_string_string
  have hL : slices_Equal_string_string_L0 N l l (l.length : Int) (some true) N 0 = some true := by
    have hc : forT (fun (_ : Nat) (_ : Str) (r : Bool) => r) true l 0 = true := by
      have : ∀ (xs : List Str) (j : Nat), forT (fun (_ : Nat) (_ : Str) (r : Bool) => r) true xs j = true := by
        intro xs; induction xs with
        | nil => intro j; rfl
        | cons x xs ih => intro j; exact ih (j + 1)
      exact this l 0
    rw [← hc]
    refine loop_for (fun _ _ => rfl) l hl (fun self i h r hr => ?_) (fun self => ?_) hN
    · simp only [slices_Equal_string_string_L0T, geti_lt l h, wrap_succ hl h, hr, bnd_some]
      rw [lt_tt h]; simp
    · simp only [slices_Equal_string_string_L0T, lt_ff, br_false]; rw [hc]
  rw [hL]; simp
/-- A path fits a pattern. -/
def fitQ (p x : Str) : Bool := fitsB (splitC 47 p) (splitC 47 x)
theorem anyFit_blob {N : Nat} (hN : big ≤ N) {ps : List Str} (hl : ps.length ≤ 2000000) (hp : ∀ p ∈ ps, p.length < 1000000) {x : FileT} (hx : x.1.length < 1000000) : slices_ContainsFunc_string_string N ps (x, ()) = some (ps.any fun p => fitQ p x.1) := by
  have hb : (18446744073709551616 : Nat) ≤ N := hN
  unfold slices_ContainsFunc_string_string slices_IndexFunc_string_string
  have e := exit_loop (S := Int) (R := Int) ps.length (fun i => (i : Int)) (fun i => if (match ps[i]? with | some p => fitQ p x.1 | none => false) = true then some (some (i : Int)) else none) (f := fun n s => slices_IndexFunc_string_string_L0 N ps (x, ()) (ps.length : Int) (some (-1)) n s) (r := some (-1)) (fun n i hi => ?_) (fun n => ?_) N (by omega)
  · rw [show slices_IndexFunc_string_string_L0 N ps (x, ()) (ps.length : Int) (some (-1)) N 0 = _ from e]
    cases h : exits (fun i => if (match ps[i]? with | some p => fitQ p x.1 | none => false) = true then some (some (i : Int)) else none) ps.length 0 with
    | none =>
      have h' := exits_none.1 h
      have : ps.any (fun p => fitQ p x.1) = false := by
        rw [List.any_eq_false]
        intro p hp hc
        obtain ⟨j, hj, rfl⟩ := List.getElem_of_mem hp
        have := h' j (Nat.zero_le _) (by omega)
        rw [List.getElem?_eq_getElem hj, if_pos hc] at this; cases this
      rw [this, Option.getD_none, bnd_some, decide_eq_false (by omega : ¬ (-1 : Int) ≥ 0)]
    | some z =>
      obtain ⟨j, _, h2, h3, _⟩ := exits_some h
      have hj : j < ps.length := by omega
      rw [List.getElem?_eq_getElem hj] at h3
      by_cases hc : fitQ ps[j] x.1 = true
      · have h3 : some (some (j : Int)) = some z := by rw [← h3]; exact (if_pos hc).symm
        cases h3
        have : ps.any (fun p => fitQ p x.1) = true := List.any_eq_true.2 ⟨ps[j], List.getElem_mem _, hc⟩
        rw [this, Option.getD_some, bnd_some, decide_eq_true (by omega : (j : Int) ≥ 0)]
      · have h3 : (none : Option (Option Int)) = some z := by rw [← h3]; exact (if_neg hc).symm
        cases h3
  · show slices_IndexFunc_string_string_L0T N ps _ _ _ (slices_IndexFunc_string_string_L0 N ps _ _ _ n) (i : Int) = _
    have hw : IntKind.i64.wrap ((i : Int) + 1) = ((i + 1 : Nat) : Int) := by rw [wrap_id (by omega) (by omega)]; omega
    unfold slices_IndexFunc_string_string_L0T blob_Select_1
    rw [br_pos (by omega : (i : Int) < (ps.length : Int)), geti_lt ps hi, bnd_some, blob_pathFits_eq hN (hp _ (List.getElem_mem _)) hx, bnd_some, bnd_some, hw, List.getElem?_eq_getElem hi]
    show br (fitQ ps[i] x.1) _ _ = Option.getD (if fitQ ps[i] x.1 = true then _ else _) _
    cases fitQ ps[i] x.1 <;> simp
  · show slices_IndexFunc_string_string_L0T N ps _ _ _ _ (ps.length : Int) = _
    unfold slices_IndexFunc_string_string_L0T
    rw [br_neg (by omega)]
theorem anyFit_ref {N : Nat} (hN : big ≤ N) {ps : List Str} (hl : ps.length ≤ 2000000) (hp : ∀ p ∈ ps, p.length < 1000000) {x : Str} (hx : x.length < 1000000) : ref1_fitsOne N ps x = some (ps.any fun p => fitQ p x) := by
  have hb : (18446744073709551616 : Nat) ≤ N := hN
  unfold ref1_fitsOne
  rw [scan_loop (xs := ps) (fun p => !fitQ p x) (k := some false) (bad := some true) (f := fun n i => ref1_fitsOne_L0 N ps x (some false) n i) (fun n i hi => ?_) (fun n => ?_) N (by omega)]
  · have : ps.all (fun p => !fitQ p x) = !ps.any fun p => fitQ p x := by rw [List.not_any_eq_all_not]
    rw [this]
    cases ps.any fun p => fitQ p x <;> simp
  · show ref1_fitsOne_L0T N ps x _ (ref1_fitsOne_L0 N ps x _ n) (i : Int) = _
    have hw : IntKind.i64.wrap ((i : Int) + 1) = ((i + 1 : Nat) : Int) := by rw [wrap_id (by omega) (by omega)]; omega
    unfold ref1_fitsOne_L0T
    rw [br_pos (by omega : (i : Int) < (ps.length : Int)), geti_lt ps hi, bnd_some, ref_FitsOf hN (hp _ (List.getElem_mem _)) hx, bnd_some, hw]
    show br (fitQ ps[i] x) _ _ = if (!fitQ ps[i] x) = true then _ else _
    cases fitQ ps[i] x <;> simp
  · show ref1_fitsOne_L0T N ps x _ _ (ps.length : Int) = _
    unfold ref1_fitsOne_L0T
    rw [br_neg (by omega)]
def selB (w wo : List Str) (x : FileT) : Bool := (w.any fun p => fitQ p x.1) && !(wo.any fun p => fitQ p x.1)
def selL (w wo : List Str) (l : List FileT) : List Str := (l.filter (selB w wo)).map (·.1)
def patsB (l : List Str) : Bool := l.all fun p => patS p == 0
/-- What Select says. -/
def selS (l : List FileT) (w wo : List Str) : Int × List Str := if filesS l = 0 then (if patsB (w ++ wo) = true then (0, selL w wo l) else (3, [])) else (filesS l, [])
theorem patS_two (x : Str) : patS x = 0 ∨ patS x = 3 := by unfold patS; split <;> simp
theorem patS_len {x : Str} (h : patS x = 0) : x.length ≤ 200 := by
  unfold patS at h
  split at h
  · rename_i h'; exact h'.2.1
  · cases h
theorem selL_take (w wo : List Str) {l : List FileT} {i : Nat} (h : i < l.length) : selL w wo (l.take (i + 1)) = if selB w wo l[i] = true then selL w wo (l.take i) ++ [l[i].1] else selL w wo (l.take i) := by
  unfold selL
  rw [List.take_succ_eq_append_getElem h, List.filter_append, List.map_append]
  by_cases hs : selB w wo l[i] = true
  · rw [if_pos hs, List.filter_cons_of_pos hs]; rfl
  · rw [if_neg hs, List.filter_cons_of_neg hs, List.filter_nil, List.map_nil, List.append_nil]
theorem selL_len (w wo : List Str) (l : List FileT) : (selL w wo l).length ≤ l.length := by
  unfold selL; rw [List.length_map]; exact List.length_filter_le _ _
theorem patsB_len {l : List Str} (h : patsB l = true) : ∀ p ∈ l, p.length < 1000000 := fun p hp => by
  have := patS_len (eq_of_beq (List.all_eq_true.1 h p hp)); omega
theorem patsB_app (a b : List Str) : patsB (a ++ b) = (patsB a && patsB b) := List.all_append ..
theorem blob_Select_eq {N : Nat} (hN : big ≤ N) (l : List FileT) (w wo : List Str) (hw : w.length ≤ 2000000) (hwo : wo.length ≤ 2000000) : blob_Select N l w wo = some ((selS l w wo).1, (selS l w wo).2) := by
  have hb : (18446744073709551616 : Nat) ≤ N := hN
  unfold blob_Select selS
  rw [blob_CheckFiles_eq hN, bnd_some]
  by_cases h0 : filesS l = 0
  case neg => rw [if_neg h0, show (filesS l != 0) = true from by simp [h0], br_true]
  rw [if_pos h0, h0, show ((0 : Int) != 0) = false from rfl, br_false, Concat_two hN _ _ hw hwo, bnd_some]
  have ok := (files_iff l).1 h0
  have hl : (w ++ wo).length ≤ 4000000 := by rw [List.length_append]; omega
  rw [scan_loop (xs := w ++ wo) (fun p => patS p == 0) (k := blob_Select_L1 N w wo l (l.length : Int) (fun o1_w1012 => some ((0 : Int), o1_w1012)) N 0 []) (bad := some (3, [])) (f := fun n i => blob_Select_L0 N ((w ++ wo).length : Int) (w ++ wo) (blob_Select_L1 N w wo l (l.length : Int) (fun o1_w1012 => some ((0 : Int), o1_w1012)) N 0 []) n i) (fun n i hi => ?_) (fun n => ?_) N (by omega)]
  · show (if patsB (w ++ wo) = true then _ else _) = _
    by_cases h1 : patsB (w ++ wo) = true
    case neg => rw [if_neg h1, if_neg h1]
    rw [if_pos h1, if_pos h1]
    have hp := patsB_len h1
    have hm : l.length ≤ maxLen := Nat.le_trans ok.len (by decide)
    refine (loop_st (S := List Str) (f := fun n i s => blob_Select_L1 N w wo l (l.length : Int) (fun o1_w1012 => some ((0 : Int), o1_w1012)) n i s) (T := fun self i s => blob_Select_L1T N w wo l (l.length : Int) (fun o1_w1012 => some ((0 : Int), o1_w1012)) self i s) (fun n i s => rfl) hm (fun i => selL w wo (l.take i)) (r := some (0, selL w wo l)) (fun self i hi hs => ?_) (fun self => ?_) hN)
    · have hx := pathB_len (ok.ok.path l[i] (List.getElem_mem _))
      have hlen := selL_len w wo (l.take i)
      rw [List.length_take] at hlen
      have h1000 := ok.len
      rw [selL_take w wo hi] at hs
      unfold blob_Select_L1T
      rw [lt_tn hi, br_true, geti_lt l hi, bnd_some, anyFit_blob hN hw (fun p h => hp p (List.mem_append_left _ h)) (by omega), bnd_some, anyFit_blob hN hwo (fun p h => hp p (List.mem_append_right _ h)) (by omega), bnd_some, wrap_s hm hi]
      have hsz : ((selL w wo (l.take i)).length + [l[i].1].length) * (24 * Ty.sz .str) ≤ 140737488355328 := by rw [List.length_singleton]; show _ * 24 ≤ _; omega
      rw [br_pos hsz]
      unfold selB at hs
      cases h3 : w.any (fun p => fitQ p l[i].1) <;> cases h4 : wo.any (fun p => fitQ p l[i].1) <;> rw [h3, h4] at hs <;> simpa using hs
    · unfold blob_Select_L1T
      rw [lt_fn, br_false, List.take_length]
  · show blob_Select_L0T N _ (w ++ wo) _ (blob_Select_L0 N _ (w ++ wo) _ n) (i : Int) = _
    have hw : IntKind.i64.wrap ((i : Int) + 1) = ((i + 1 : Nat) : Int) := by rw [wrap_id (by omega) (by omega)]; omega
    unfold blob_Select_L0T
    rw [br_pos (by omega : (i : Int) < ((w ++ wo).length : Int)), geti_lt _ hi, bnd_some, (checkPattern_all hN _).1, bnd_some, hw]
    rcases patS_two (w ++ wo)[i] with e | e <;> rw [e] <;> simp
  · show blob_Select_L0T N _ (w ++ wo) _ _ ((w ++ wo).length : Int) = _
    unfold blob_Select_L0T
    rw [br_neg (by omega)]
theorem ref_Select_eq {N : Nat} (hN : big ≤ N) (l : List FileT) (w wo : List Str) (hw : w.length ≤ 2000000) (hwo : wo.length ≤ 2000000) : ref1_Select N l w wo = some ((selS l w wo).1, (selS l w wo).2) := by
  have hb : (18446744073709551616 : Nat) ≤ N := hN
  unfold ref1_Select selS
  rw [ref_CheckFiles_eq hN, bnd_some]
  by_cases h0 : filesS l = 0
  case neg => rw [if_neg h0, show (filesS l != 0) = true from by simp [h0], br_true]
  rw [if_pos h0, h0, show ((0 : Int) != 0) = false from rfl, br_false, patsB_app]
  have ok := (files_iff l).1 h0
  rw [scan_loop (xs := w) (fun p => patS p == 0) (k := ref1_Select_L1 N wo (ref1_Select_L2 N l w wo (fun o2_w1013 => some ((0 : Int), o2_w1013)) N 0 []) N 0) (bad := some (3, [])) (f := fun n i => ref1_Select_L0 N w (ref1_Select_L1 N wo (ref1_Select_L2 N l w wo (fun o2_w1013 => some ((0 : Int), o2_w1013)) N 0 []) N 0) n i) (fun n i hi => ?_) (fun n => ?_) N (by omega)]
  · show (if patsB w = true then _ else _) = _
    by_cases h1 : patsB w = true
    case neg => rw [if_neg h1, if_neg (by simp [h1])]
    rw [if_pos h1]
    rw [scan_loop (xs := wo) (fun p => patS p == 0) (k := ref1_Select_L2 N l w wo (fun o2_w1013 => some ((0 : Int), o2_w1013)) N 0 []) (bad := some (3, [])) (f := fun n i => ref1_Select_L1 N wo (ref1_Select_L2 N l w wo (fun o2_w1013 => some ((0 : Int), o2_w1013)) N 0 []) n i) (fun n i hi => ?_) (fun n => ?_) N (by omega)]
    · show (if patsB wo = true then _ else _) = _
      by_cases h2 : patsB wo = true
      case neg => rw [if_neg h2, if_neg (by simp [h2])]
      rw [if_pos h2, if_pos (by simp [h1, h2])]
      have hp1 := patsB_len h1
      have hp2 := patsB_len h2
      have hm : l.length ≤ maxLen := Nat.le_trans ok.len (by decide)
      refine (loop_st (S := List Str) (f := fun n i s => ref1_Select_L2 N l w wo (fun o2_w1013 => some ((0 : Int), o2_w1013)) n i s) (T := fun self i s => ref1_Select_L2T N l w wo (fun o2_w1013 => some ((0 : Int), o2_w1013)) self i s) (fun n i s => rfl) hm (fun i => selL w wo (l.take i)) (r := some (0, selL w wo l)) (fun self i hi hs => ?_) (fun self => ?_) hN)
      · have hx := pathB_len (ok.ok.path l[i] (List.getElem_mem _))
        have hlen := selL_len w wo (l.take i)
        rw [List.length_take] at hlen
        have h1000 := ok.len
        rw [selL_take w wo hi] at hs
        unfold ref1_Select_L2T
        simp only [geti_lt l hi, bnd_some]
        rw [lt_tn hi, br_true, anyFit_ref hN hw hp1 (by omega), bnd_some, anyFit_ref hN hwo hp2 (by omega), bnd_some, wrap_s hm hi]
        have hsz : ((selL w wo (l.take i)).length + [l[i].1].length) * (24 * Ty.sz .str) ≤ 140737488355328 := by rw [List.length_singleton]; show _ * 24 ≤ _; omega
        rw [br_pos hsz]
        unfold selB at hs
        cases h3 : w.any (fun p => fitQ p l[i].1) <;> cases h4 : wo.any (fun p => fitQ p l[i].1) <;> rw [h3, h4] at hs <;> simpa using hs
      · unfold ref1_Select_L2T
        rw [lt_fn, br_false, List.take_length]
    · show ref1_Select_L1T N wo _ (ref1_Select_L1 N wo _ n) (i : Int) = _
      have hw : IntKind.i64.wrap ((i : Int) + 1) = ((i + 1 : Nat) : Int) := by rw [wrap_id (by omega) (by omega)]; omega
      unfold ref1_Select_L1T
      rw [br_pos (by omega : (i : Int) < (wo.length : Int)), geti_lt _ hi, bnd_some, (checkPattern_all hN _).2, bnd_some, hw]
      rcases patS_two wo[i] with e | e <;> rw [e] <;> simp
    · show ref1_Select_L1T N wo _ _ (wo.length : Int) = _
      unfold ref1_Select_L1T
      rw [br_neg (by omega)]
  · show ref1_Select_L0T N w _ (ref1_Select_L0 N w _ n) (i : Int) = _
    have hw : IntKind.i64.wrap ((i : Int) + 1) = ((i + 1 : Nat) : Int) := by rw [wrap_id (by omega) (by omega)]; omega
    unfold ref1_Select_L0T
    rw [br_pos (by omega : (i : Int) < (w.length : Int)), geti_lt _ hi, bnd_some, (checkPattern_all hN _).2, bnd_some, hw]
    rcases patS_two w[i] with e | e <;> rw [e] <;> simp
  · show ref1_Select_L0T N w _ _ (w.length : Int) = _
    unfold ref1_Select_L0T
    rw [br_neg (by omega)]
theorem selS_len (l : List FileT) (w wo : List Str) : (selS l w wo).2.length ≤ 1000 := by
  unfold selS
  split
  · rename_i h
    split
    · exact Nat.le_trans (selL_len _ _ _) ((files_iff l).1 h).len
    · exact Nat.zero_le _
  · exact Nat.zero_le _
theorem bulk_len (l : List Str) : l.length ≤ bulkG rbC (.sl .str) l := by
  show l.length ≤ (l.map (bulkG rbC .str)).sum + 1
  induction l with
  | nil => exact Nat.zero_le _
  | cons x l ih =>
    rw [List.map_cons, List.sum_cons, List.length_cons]
    have : bulkG rbC .str x = x.length + 1 := rfl
    omega
theorem plain_BlobSelectsMatchSpec (l : List FileT) (w wo : List Str) (_ : Fit (.sl (.pr .str (.pr .bool (.sl .u8)))) l) (_ : Fit (.sl .str) w) (_ : Fit (.sl .str) wo)
    (hb : bulkG rbC (.sl (.pr .str (.pr .bool (.sl .u8)))) l + bulkG rbC (.sl .str) w + bulkG rbC (.sl .str) wo ≤ 1048576) : ∃ N, law1_BlobSelectsMatchSpec N l w wo = some true := by
  have hN : big ≤ big := Nat.le_refl _
  have h1 := bulk_len w
  have h2 := bulk_len wo
  refine ⟨big, ?_⟩
  unfold law1_BlobSelectsMatchSpec
  rw [blob_Select_eq hN l w wo (by omega) (by omega), ref_Select_eq hN l w wo (by omega) (by omega), bnd_some, bnd_some, Equal_self hN _ (Nat.le_trans (selS_len l w wo) (by decide)), bnd_some, br_true, beq_self_eq_true, br_true, awake_ok hN, bnd_some]
end Go.Proofs.YthlkidohpiebiaaDoor

