/- Merge as specified (law 30), in plain Lean. -/
import Derived.Test.YthlkidohpiebiaaDoorQLMrg
namespace Go.Proofs.YthlkidohpiebiaaDoor
set_option linter.unusedVariables false
set_option linter.unusedSimpArgs false
open Go Go.RowKit
theorem br_nz {R : Type} (n : Int) (x y : Option R) : br (n != 0) x y = if n = 0 then y else x := by
  by_cases h : n = 0
  · rw [if_pos h, h]; simp
  · rw [if_neg h, bne_iff_ne.2 h, br_true]
theorem three_checks {N : Nat} (hN : big ≤ N) (a b c : List FileT) (K : Option (List FileT × List Str × Int)) : blob_Merge_L0 N ([a, b, c].length : Int) [a, b, c] K N 0 =
    if filesS a = 0 then (if filesS b = 0 then (if filesS c = 0 then K else some ([], [], filesS c)) else some ([], [], filesS b)) else some ([], [], filesS a) := by
  obtain ⟨d, rfl⟩ : ∃ d, N = d + 4 := ⟨N - 4, by unfold big at hN; omega⟩
  have g0 : geti [a, b, c] (0 : Int) = some a := rfl
  have g1 : geti [a, b, c] (1 : Int) = some b := rfl
  have g2 : geti [a, b, c] (2 : Int) = some c := rfl
  have w1 : IntKind.i64.wrap ((0 : Int) + 1) = 1 := by decide
  have w2 : IntKind.i64.wrap ((1 : Int) + 1) = 2 := by decide
  have w3 : IntKind.i64.wrap ((2 : Int) + 1) = 3 := by decide
  have t0 : decide ((0 : Int) < 3) = true := rfl
  have t1 : decide ((1 : Int) < 3) = true := rfl
  have t2 : decide ((2 : Int) < 3) = true := rfl
  have t3 : decide ((3 : Int) < 3) = false := rfl
  show blob_Merge_L0 (d + 4) 3 [a, b, c] K (d + 4) 0 = _
  simp only [blob_Merge_L0, blob_Merge_L0T, t0, t1, t2, t3, g0, g1, g2, w1, w2, w3, blob_CheckFiles_eq hN, bnd_some, br_true, br_false, br_nz]
theorem told_names {base a b : List FileT} (h0 : FilesOk base) (h1 : FilesOk a) (h2 : FilesOk b) : ∀ p ∈ pathsS [base, a, b], p.length ≤ 200 := fun p hp => by
  obtain ⟨l, hl, h⟩ := mem_pathsS.1 hp
  obtain ⟨x, hx, rfl⟩ := List.mem_map.1 h
  simp only [List.mem_cons, List.not_mem_nil, or_false] at hl
  rcases hl with rfl | rfl | rfl
  · exact (pathB_len (h0.ok.path x hx)).2
  · exact (pathB_len (h1.ok.path x hx)).2
  · exact (pathB_len (h2.ok.path x hx)).2
theorem hit_len {o : List FileT} (ho : OutOk o) : (hitL o).length ≤ 3000 := by
  have := List.length_filter_le (clashF o) o
  have := ho.len
  unfold hitL pathsOf
  rw [List.length_map]; omega
theorem keys_sorted {l : List Str} (hl : l.length ≤ 10000) (hn : ∀ x ∈ l, x.length ≤ 200) : slices_Sorted_keys (setM [] l) = some (setM [] l, sortN l) := by
  have hsl := setM_len l []
  simp only [List.length_nil, Nat.zero_add] at hsl
  unfold slices_Sorted_keys
  have hk : ∀ p ∈ setM [] l, p.1.length ≤ maxLen := fun p hp => by
    have := ((setM_keys l []).2 p.1).1 (List.mem_map.2 ⟨p, hp, rfl⟩)
    rcases this with h | h
    · cases h
    · exact Nat.le_trans (hn _ h) (by decide)
  exact if_pos ⟨by omega, hk⟩
theorem blob_Merge_eq {N : Nat} (hN : big ≤ N) (base a b : List FileT) : blob_Merge N base a b = some ((mergeS base a b).1, ((mergeS base a b).2.1, (mergeS base a b).2.2)) := by
  have hbN : (18446744073709551616 : Nat) ≤ N := hN
  unfold blob_Merge
  rw [three_checks hN]
  unfold mergeS
  by_cases h0 : filesS base = 0
  case neg => rw [if_neg h0, if_neg h0]
  rw [if_pos h0, if_pos h0]
  by_cases h1 : filesS a = 0
  case neg => rw [if_neg h1, if_neg h1]
  rw [if_pos h1, if_pos h1]
  by_cases h2 : filesS b = 0
  case neg => rw [if_neg h2, if_neg h2]
  rw [if_pos h2, if_pos h2]
  have ok0 := (files_iff base).1 h0
  have ok1 := (files_iff a).1 h1
  have ok2 := (files_iff b).1 h2
  have hsm : ∀ l ∈ [base, a, b], l.length ≤ 1000 ∧ ∀ x ∈ l, x.1.length ≤ 1000 := fun l hl => by
    simp only [List.mem_cons, List.not_mem_nil, or_false] at hl
    rcases hl with rfl | rfl | rfl
    · exact ok0.small
    · exact ok1.small
    · exact ok2.small
  have l0 := ok0.len
  have l1 := ok1.len
  have l2 := ok2.len
  have ho := out_ok ok0 ok1 ok2
  have hps := pathsS_len (ls := [base, a, b]) (by simp) fun l hl => (hsm l hl).1
  have hnm := told_names ok0 ok1 ok2
  rw [byPath_eq hN base (by omega), bnd_some, byPath_eq hN a (by omega), bnd_some, byPath_eq hN b (by omega), bnd_some, paths_eq hN _ (by simp) hsm, bnd_some]
  generalize pathsS [base, a, b] = ps at ho hps hnm ⊢
  refine steps_loop (S := Int × List FileT × List (Str × Bool)) ps.length (fun i => ((i : Int), outL base a b (ps.take i), setM [] (toldL base a b (ps.take i)))) (f := fun n s => blob_Merge_L1 N (ps.length : Int) (mapF base) (mapF a) (mapF b) ps _ n s.1 s.2.1 s.2.2) (fun n i hi => ?_) (fun n => ?_) N (by omega)
  · show blob_Merge_L1T N _ _ _ _ ps _ (blob_Merge_L1 N _ _ _ _ ps _ n) (i : Int) (outL base a b (ps.take i)) (setM [] (toldL base a b (ps.take i))) = blob_Merge_L1 N _ _ _ _ ps _ n ((i + 1 : Nat) : Int) (outL base a b (ps.take (i + 1))) (setM [] (toldL base a b (ps.take (i + 1))))
    have hw : IntKind.i64.wrap ((i : Int) + 1) = ((i + 1 : Nat) : Int) := by rw [wrap_id (by omega) (by omega)]; omega
    have hs := outL_len base a b ps i
    have hz : ∀ z : FileT, ((outL base a b (ps.take i)).length + [z].length) * (24 * Ty.sz (.pr .str (.pr .bool (.sl .u8)))) ≤ 140737488355328 := fun z => szF (by omega) z
    unfold blob_Merge_L1T
    rw [br_pos (by omega : (i : Int) < (ps.length : Int)), geti_lt ps hi, bnd_some, spotOf_eq N ok0.ok.asc, bnd_some, spotOf_eq N ok1.ok.asc, bnd_some, spotOf_eq N ok2.ok.asc, bnd_some, spot_same N (p := ps[i]) find_path find_path, bnd_some, spot_same N (p := ps[i]) find_path find_path, bnd_some, spot_same N (p := ps[i]) find_path find_path, bnd_some, hw, outL_take base a b hi, toldL_take base a b hi]
    simp only [br_pos (hz _)]
    unfold takeO toldO
    generalize findF base ps[i] = x
    generalize findF a ps[i] = y
    generalize findF b ps[i] = z
    by_cases e1 : y = x
    · rw [decide_eq_true e1, br_true, if_pos e1]
      cases z with
      | none => simp [spF]
      | some v => simp [spF]
    · rw [decide_eq_false e1, br_false, if_neg e1]
      by_cases e2 : z = x
      · rw [decide_eq_true e2, Bool.not_true, br_false]
        cases y with
        | none => simp [spF]
        | some v => simp [spF]
      · rw [decide_eq_false e2, Bool.not_false, br_true]
        by_cases e3 : z = y
        · rw [decide_eq_true e3, Bool.not_true, br_false]
          cases y with
          | none => simp [spF]
          | some v => simp [spF]
        · have hset : setM [] (toldL base a b (ps.take i) ++ [ps[i]]) = mset (setM [] (toldL base a b (ps.take i))) ps[i] true := by rw [setM_app]; rfl
          rw [decide_eq_false e3, Bool.not_false, br_true]
          cases y with
          | none => simp [spF, hset]
          | some v => simp [spF, hset]
  · show blob_Merge_L1T N _ _ _ _ ps _ _ (ps.length : Int) (outL base a b (ps.take ps.length)) (setM [] (toldL base a b (ps.take ps.length))) = _
    unfold blob_Merge_L1T
    rw [br_neg (by omega), List.take_length]
    dsimp only
    have htl : (toldL base a b ps).length ≤ 3000 := by
      have := toldL_len base a b ps ps.length
      rw [List.take_length] at this
      omega
    have htn : ∀ x ∈ toldL base a b ps ++ hitL (outL base a b ps), x.length ≤ 200 := fun x hx => by
      rcases List.mem_append.1 hx with h | h
      · exact hnm x (List.mem_filter.1 h).1
      · obtain ⟨y, hy, rfl⟩ := List.mem_map.1 h
        exact ho.name y (List.mem_filter.1 hy).1
    generalize outL base a b ps = o at ho htn ⊢
    generalize toldL base a b ps = t at htl htn ⊢
    have hol := ho.len
    have hhl := hit_len ho
    rw [paths_L2 hN (by omega)]
    try dsimp only
    have hdel := DeleteFunc_merge hN ho t
    have m0 : (memS o t 0).2 = setM [] t := by unfold memS; simp [pathsOf]
    have m1 : (memS o t o.length).2 = setM [] (t ++ hitL o) := by unfold memS hitL; rw [List.take_length]
    rw [m0] at hdel
    rw [show slices_DeleteFunc_api_File_2 N o (setM [] (pathsOf o)) (setM [] t) = _ from hdel, bnd_some]
    dsimp only
    rw [blob_CheckFiles_eq hN, bnd_some, m1]
    by_cases h3 : filesS (freeL o) = 0
    · have ok3 := (files_iff _).1 h3
      have l3 := ok3.len
      rw [if_pos h3, h3, show ((0 : Int) != 0) = false from rfl, br_false, Own_eq hN (by omega) ok3.bytes, bnd_some]
      unfold maps_Keys_bool
      rw [bnd_some, keys_sorted (by rw [List.length_append]; omega) htn, bnd_some]
    · rw [if_neg h3, bne_iff_ne.2 h3, br_true]
theorem put_sortN {N : Nat} (hN : big ≤ N) {l : List Str} (hl : l.length ≤ 100000) (s : Str) : ref1_put N (sortN l) s = some (sortN (l ++ [s])) := by
  obtain ⟨r, e, h1, h2, _⟩ := put_eq hN (l := sortN l) (by have := sortN_len l; omega) (sortN_asc l) s
  rw [e, sortN_of h1 fun x => ?_]
  rw [h2, mem_sortN, List.mem_append, List.mem_singleton]
theorem ref_Merge_eq {N : Nat} (hN : big ≤ N) (base a b : List FileT) : ref1_Merge N base a b = some ((mergeS base a b).1, ((mergeS base a b).2.1, (mergeS base a b).2.2)) := by
  have hbN : (18446744073709551616 : Nat) ≤ N := hN
  unfold ref1_Merge mergeS
  rw [ref_CheckFiles_eq hN, bnd_some, ref_CheckFiles_eq hN, bnd_some, ref_CheckFiles_eq hN, bnd_some]
  by_cases h0 : filesS base = 0
  case neg => rw [if_neg h0, bne_iff_ne.2 h0, br_true]
  rw [if_pos h0, h0, show ((0 : Int) != 0) = false from rfl, br_false]
  by_cases h1 : filesS a = 0
  case neg => rw [if_neg h1, bne_iff_ne.2 h1, br_true]
  rw [if_pos h1, h1, show ((0 : Int) != 0) = false from rfl, br_false]
  by_cases h2 : filesS b = 0
  case neg => rw [if_neg h2, bne_iff_ne.2 h2, br_true]
  rw [if_pos h2, h2, show ((0 : Int) != 0) = false from rfl, br_false]
  have ok0 := (files_iff base).1 h0
  have ok1 := (files_iff a).1 h1
  have ok2 := (files_iff b).1 h2
  have l0 := ok0.len
  have l1 := ok1.len
  have l2 := ok2.len
  have ho := out_ok ok0 ok1 ok2
  have hps := pathsS_len (ls := [base, a, b]) (by simp) fun l hl => by
    simp only [List.mem_cons, List.not_mem_nil, or_false] at hl
    rcases hl with rfl | rfl | rfl
    · exact l0
    · exact l1
    · exact l2
  rw [ref_paths hN base a b l0 l1 l2, bnd_some]
  generalize pathsS [base, a, b] = ps at ho hps ⊢
  generalize hK0 : (fun (o0_13 : List Str) (o0_w1012 : List FileT) => ref1_Merge_L1 N o0_w1012 (fun o1_13 o1_w1019 => bnd (ref1_CheckFiles N o1_w1019) fun t128 => br (t128 != (0 : Int)) (some (([] : List FileT), (([] : List Str), t128))) (some (o1_w1019, (o1_13, (0 : Int))))) N o0_13 (0 : Int) ([] : List FileT)) = K0
  have main0 := steps_loop (S := List Str × Int × List FileT) ps.length (fun i => (sortN (toldL base a b (ps.take i)), (i : Int), outL base a b (ps.take i))) (f := fun n s => ref1_Merge_L0 N base a b ps K0 n s.1 s.2.1 s.2.2) (z := K0 (sortN (toldL base a b ps)) (outL base a b ps)) (fun n i hi => ?_) (fun n => ?_) N (by omega)
  rotate_left
  · show ref1_Merge_L0T N base a b ps K0 (ref1_Merge_L0 N base a b ps K0 n) (sortN (toldL base a b (ps.take i))) (i : Int) (outL base a b (ps.take i)) = ref1_Merge_L0 N base a b ps K0 n (sortN (toldL base a b (ps.take (i + 1)))) ((i + 1 : Nat) : Int) (outL base a b (ps.take (i + 1)))
    have hw : IntKind.i64.wrap ((i : Int) + 1) = ((i + 1 : Nat) : Int) := by rw [wrap_id (by omega) (by omega)]; omega
    have hs := outL_len base a b ps i
    have ht := toldL_len base a b ps i
    have hz : ∀ z : FileT, ((outL base a b (ps.take i)).length + [z].length) * (24 * Ty.sz (.pr .str (.pr .bool (.sl .u8)))) ≤ 140737488355328 := fun z => szF (by omega) z
    unfold ref1_Merge_L0T
    simp only [geti_lt ps hi, bnd_some, br_pos (hz _), alike_eq hN (a := base) (b := a) (by omega) (by omega), alike_eq hN (a := base) (b := b) (by omega) (by omega), alike_eq hN (a := a) (b := b) (by omega) (by omega), find_eq hN a (by omega), find_eq hN b (by omega), put_sortN hN (l := toldL base a b (ps.take i)) (by omega)]
    rw [br_pos (by omega : (i : Int) < (ps.length : Int)), hw, outL_take base a b hi, toldL_take base a b hi]
    unfold takeO toldO
    generalize findF base ps[i] = x
    generalize findF a ps[i] = y
    generalize findF b ps[i] = z
    by_cases e1 : y = x
    · rw [decide_eq_true e1, decide_eq_true e1.symm, br_true, if_pos e1]
      cases z with
      | none => simp
      | some v => simp
    · rw [decide_eq_false e1, decide_eq_false (Ne.symm e1), br_false, if_neg e1]
      by_cases e2 : z = x
      · rw [decide_eq_true e2, decide_eq_true e2.symm, Bool.not_true, br_false]
        cases y with
        | none => simp
        | some v => simp
      · rw [decide_eq_false e2, decide_eq_false (Ne.symm e2), Bool.not_false, br_true]
        by_cases e3 : z = y
        · rw [decide_eq_true e3, decide_eq_true e3.symm, Bool.not_true, br_false]
          cases y with
          | none => simp
          | some v => simp
        · rw [decide_eq_false e3, decide_eq_false (Ne.symm e3), Bool.not_false, br_true]
          cases y with
          | none => simp
          | some v => simp
  · show ref1_Merge_L0T N base a b ps K0 _ (sortN (toldL base a b (ps.take ps.length))) (ps.length : Int) (outL base a b (ps.take ps.length)) = _
    unfold ref1_Merge_L0T
    rw [br_neg (by omega), List.take_length]
  · have s0 : sortN ([] : List Str) = [] := by simp [sortN, setM]
    have e0 : ref1_Merge_L0 N base a b ps K0 N [] 0 [] = K0 (sortN (toldL base a b ps)) (outL base a b ps) := by
      have h := main0
      rw [List.take_zero] at h
      rw [← s0]
      exact h
    rw [e0, ← hK0]
    dsimp only
    have htl : (toldL base a b ps).length ≤ 3000 := by
      have := toldL_len base a b ps ps.length
      rw [List.take_length] at this
      omega
    generalize outL base a b ps = o at ho ⊢
    generalize toldL base a b ps = t at htl ⊢
    have hol := ho.len
    generalize hK : (fun (o1_13 : List Str) (o1_w1019 : List FileT) => bnd (ref1_CheckFiles N o1_w1019) fun t128 => br (t128 != (0 : Int)) (some (([] : List FileT), (([] : List Str), t128))) (some (o1_w1019, (o1_13, (0 : Int))))) = K
    have main := steps_loop (S := List Str × Int × List FileT) o.length (fun i => (sortN (t ++ pathsOf ((o.take i).filter (clashF o))), (i : Int), (o.take i).filter fun x => !clashF o x)) (f := fun n s => ref1_Merge_L1 N o K n s.1 s.2.1 s.2.2) (z := K (sortN (t ++ hitL o)) (freeL o)) (fun n i hi => ?_) (fun n => ?_) N (by omega)
    · have e : ref1_Merge_L1 N o K N (sortN t) 0 [] = K (sortN (t ++ hitL o)) (freeL o) := by simpa [pathsOf] using main
      rw [e, ← hK]
      dsimp only
      rw [ref_CheckFiles_eq hN, bnd_some]
      by_cases h3 : filesS (freeL o) = 0
      · rw [if_pos h3, h3, show ((0 : Int) != 0) = false from rfl, br_false]
      · rw [if_neg h3, bne_iff_ne.2 h3, br_true]
    · show ref1_Merge_L1T N o K (ref1_Merge_L1 N o K n) (sortN (t ++ pathsOf ((o.take i).filter (clashF o)))) (i : Int) ((o.take i).filter fun x => !clashF o x) = ref1_Merge_L1 N o K n (sortN (t ++ pathsOf ((o.take (i + 1)).filter (clashF o)))) ((i + 1 : Nat) : Int) ((o.take (i + 1)).filter fun x => !clashF o x)
      have hw : IntKind.i64.wrap ((i : Int) + 1) = ((i + 1 : Nat) : Int) := by rw [wrap_id (by omega) (by omega)]; omega
      have hs := filter_len_take' (fun x : FileT => !clashF o x) o i
      have hs2 := filter_len_take' (clashF o) o i
      have hpl : (t ++ pathsOf ((o.take i).filter (clashF o))).length ≤ 6000 := by
        unfold pathsOf
        rw [List.length_append, List.length_map]; omega
      have hin : ref1_inside N o o[i].1 = some (clashF o o[i]) := clash_ref hN (has := hasB o) (fun p => there_eq hN (by omega) ho.asc p) (by have := ho.name _ (List.getElem_mem hi); omega)
      have hfew := ho.few _ (List.getElem_mem hi)
      unfold ref1_Merge_L1T
      simp only [geti_lt o hi, bnd_some]
      rw [br_pos (by omega : (i : Int) < (o.length : Int)), hin, bnd_some, hw, filter_take_succ _ _ hi, filter_take_succ _ _ hi, put_sortN hN (by omega), bnd_some, copied_eq N (by omega), bnd_some, br_pos (szF (Nat.le_trans hs (by omega)) _)]
      cases hc : clashF o o[i] with
      | false => simp
      | true =>
        rw [br_true, if_pos rfl, if_neg (by simp)]
        have : t ++ pathsOf ((o.take i).filter (clashF o) ++ [o[i]]) = (t ++ pathsOf ((o.take i).filter (clashF o))) ++ [o[i].1] := by
          unfold pathsOf
          rw [List.map_append, List.append_assoc]; rfl
        rw [this, List.append_nil]
    · show ref1_Merge_L1T N o K _ (sortN (t ++ pathsOf ((o.take o.length).filter (clashF o)))) (o.length : Int) ((o.take o.length).filter fun x => !clashF o x) = _
      unfold ref1_Merge_L1T
      rw [br_neg (by omega), List.take_length]
      rfl
theorem mergeS_len (base a b : List FileT) : (mergeS base a b).1.length ≤ 1000 ∧ (mergeS base a b).2.1.length ≤ 10000 := by
  unfold mergeS
  split
  · rename_i h0
    split
    · rename_i h1
      split
      · rename_i h2
        have ho := out_ok ((files_iff base).1 h0) ((files_iff a).1 h1) ((files_iff b).1 h2)
        split
        · rename_i h3
          refine ⟨((files_iff _).1 h3).len, Nat.le_trans (sortN_len _) ?_⟩
          have h4 := hit_len ho
          have h5 : (toldL base a b (pathsS [base, a, b])).length ≤ (pathsS [base, a, b]).length := List.length_filter_le _ _
          have h6 := pathsS_len (ls := [base, a, b]) (by simp) fun l hl => by
            simp only [List.mem_cons, List.not_mem_nil, or_false] at hl
            rcases hl with rfl | rfl | rfl
            · exact ((files_iff _).1 h0).len
            · exact ((files_iff _).1 h1).len
            · exact ((files_iff _).1 h2).len
          rw [List.length_append]; omega
        · exact ⟨Nat.zero_le _, Nat.zero_le _⟩
      · exact ⟨Nat.zero_le _, Nat.zero_le _⟩
    · exact ⟨Nat.zero_le _, Nat.zero_le _⟩
  · exact ⟨Nat.zero_le _, Nat.zero_le _⟩
theorem plain_BlobMergesMatchSpec (base a b : List FileT) (_ : Fit (.sl (.pr .str (.pr .bool (.sl .u8)))) base) (_ : Fit (.sl (.pr .str (.pr .bool (.sl .u8)))) a) (_ : Fit (.sl (.pr .str (.pr .bool (.sl .u8)))) b) : ∃ N, law1_BlobMergesMatchSpec N base a b = some true := by
  have hN : big ≤ big := Nat.le_refl _
  refine ⟨big, ?_⟩
  unfold law1_BlobMergesMatchSpec
  obtain ⟨h1, h2⟩ := mergeS_len base a b
  rw [blob_Merge_eq hN, ref_Merge_eq hN, bnd_some, bnd_some]
  dsimp only
  rw [SameFiles_eq hN _ _ (Nat.le_trans h1 (by decide)), bnd_some, decide_eq_true rfl, br_true, Equal_self hN _ (Nat.le_trans h2 (by decide)), bnd_some, br_true, beq_self_eq_true, br_true, awake_ok hN, bnd_some]
end Go.Proofs.YthlkidohpiebiaaDoor

