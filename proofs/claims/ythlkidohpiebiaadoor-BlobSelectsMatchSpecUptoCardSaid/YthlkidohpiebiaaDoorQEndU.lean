/- Patterns in the program and in its reference (law 6), in plain Lean. -/
import Derived.Test.YthlkidohpiebiaaDoorQEnd
import Derived.Test.YthlkidohpiebiaaDoorQAsc
import Derived.Test.YthlkidohpiebiaaDoorRows
namespace Go.Proofs.YthlkidohpiebiaaDoor
set_option linter.unusedVariables false
set_option linter.unusedSimpArgs false
open Go Go.RowKit
/-- What a byte of a pattern's part says of the k-th byte of a path's part. -/
def oneC (s : Str) (c : UInt8) (k : Nat) : Bool := match s[k]? with | some x => c == 63 || c == x | none => false
theorem oneC_at {s : Str} {c : UInt8} {k : Nat} (h : k < s.length) : oneC s c k = (c == 63 || c == s[k]) := by unfold oneC; rw [List.getElem?_eq_getElem h]
theorem w_put {R : Type} {r : Nat → Bool} {m k : Nat} {b : Bool} (h : k ≤ m) (hb : b = r k) (f : List Bool → Option R) :
    br (decide (0 ≤ (k : Int) ∧ (k : Int) < ((tab r m k).length : Int))) (bnd (geti (tab r m k) (k : Int)) fun _ => f (seti (tab r m k) (k : Int) b)) none = f (tab r m (k + 1)) := by
  rw [br_pos ⟨by omega, by rw [tab_len]; omega⟩, geti_lt _ (by rw [tab_len]; omega), bnd_some, tab_set r h hb]
theorem ref_row (N : Nat) {x0 x1 : Str} {i : Nat} (hi : i < x0.length) (hx : x1.length ≤ 1000000) (r : Nat → Bool) (k2 : List Bool → Option Bool) : ∀ n, x1.length + 1 < n →
    ref1_partFits_L1 N x0 x1 (tab r x1.length (x1.length + 1)) (i : Int) k2 n 0 (tab (stepB (x0[i] == 42) (oneC x1 x0[i]) r) x1.length 0) = k2 (tab (stepB (x0[i] == 42) (oneC x1 x0[i]) r) x1.length (x1.length + 1)) := by
  refine steps_loop (S := Int × List Bool) (x1.length + 1) (fun k => ((k : Int), tab (stepB (x0[i] == 42) (oneC x1 x0[i]) r) x1.length k)) (f := fun n s => ref1_partFits_L1 N x0 x1 (tab r x1.length (x1.length + 1)) (i : Int) k2 n s.1 s.2) (fun n k hk => ?_) (fun n => ?_)
  · show ref1_partFits_L1T N x0 x1 _ _ k2 (ref1_partFits_L1 N x0 x1 _ _ k2 n) (k : Int) _ = ref1_partFits_L1 N x0 x1 _ _ k2 n ((k + 1 : Nat) : Int) _
    have hkm : k ≤ x1.length := by omega
    have hw : IntKind.i64.wrap ((k : Int) + 1) = ((k + 1 : Nat) : Int) := by rw [wrap_id (by omega) (by omega)]; omega
    unfold ref1_partFits_L1T
    rw [br_pos (by omega : (k : Int) ≤ (x1.length : Int)), geti_lt x0 hi, hw]
    simp only [bnd_some]
    rcases hs : (x0[i] == (42 : UInt8)) with _ | _
    rotate_left
    · simp only [hs, br_true]
      rw [tab_get r hkm (by omega), bnd_some]
      cases hr : r k with
      | true =>
        simp only [br_true]
        refine w_put hkm ?_ _
        cases k with
        | zero => rw [stepB_zero, hr]; rfl
        | succ k => rw [stepB_many, hr]; rfl
      | false =>
        simp only [br_false]
        cases k with
        | zero =>
          rw [br_neg (by omega)]
          refine w_put hkm ?_ _
          rw [stepB_zero, hr]; rfl
        | succ k =>
          have hp : IntKind.i64.wrap (((k + 1 : Nat) : Int) - 1) = (k : Int) := by rw [wrap_id (by omega) (by omega)]; omega
          rw [br_pos (by omega : ((k + 1 : Nat) : Int) > 0), hp, br_pos ⟨by omega, by rw [tab_len]; omega⟩, tab_get _ (by omega) (by omega), bnd_some]
          refine w_put hkm ?_ _
          rw [stepB_many, hr]; rfl
    · simp only [hs, br_false]
      cases k with
      | zero =>
        rw [br_neg (by omega)]
        refine w_put hkm ?_ _
        rw [stepB_zero]; rfl
      | succ k =>
        have hp : IntKind.i64.wrap (((k + 1 : Nat) : Int) - 1) = (k : Int) := by rw [wrap_id (by omega) (by omega)]; omega
        rw [br_pos (by omega : ((k + 1 : Nat) : Int) > 0), hp, tab_get r (by omega) (by omega), bnd_some]
        cases hr : r k with
        | false =>
          simp only [br_false]
          refine w_put hkm ?_ _
          rw [stepB_one, hr]; rfl
        | true =>
          simp only [br_true]
          rcases hq : (x0[i] == (63 : UInt8)) with _ | _
          rotate_left
          · simp only [hq, br_true]
            refine w_put hkm ?_ _
            rw [stepB_one, hr, oneC_at (by omega), hq]; rfl
          · simp only [hq, br_false]
            rw [geti_lt x1 (by omega), bnd_some]
            refine w_put hkm ?_ _
            rw [stepB_one, hr, oneC_at (by omega), hq]; rfl
  · show ref1_partFits_L1T N x0 x1 _ _ k2 _ ((x1.length + 1 : Nat) : Int) _ = _
    unfold ref1_partFits_L1T
    rw [br_neg (by omega)]
theorem mk_row {x1 : Str} (hx : x1.length ≤ 1000000) : IntKind.i64.wrap ((x1.length : Int) + (1 : Int)) = ((x1.length + 1 : Nat) : Int) := by rw [wrap_id (by omega) (by omega)]; omega
theorem mk_cond {m : Nat} (hx : m ≤ 1000000) : 0 ≤ ((m + 1 : Nat) : Int) ∧ ((m + 1 : Nat) : Int) ≤ ((m + 1 : Nat) : Int) ∧ ((m + 1 : Nat) : Int) * (24 * Ty.sz .bool : Nat) ≤ 140737488355328 := by
  have : (24 * Ty.sz .bool : Nat) = 24 := rfl
  rw [this]
  omega
/-- The rows of the pattern's first bytes. -/
def rowsC (x0 x1 : Str) (i : Nat) : Nat → Bool := rowB (fun c : UInt8 => c == 42) (oneC x1) (x0.take i) row0B
theorem rowsC_succ {x0 x1 : Str} {i : Nat} (h : i < x0.length) : rowsC x0 x1 (i + 1) = stepB (x0[i] == 42) (oneC x1 x0[i]) (rowsC x0 x1 i) := rowB_take _ _ _ _ h
theorem ref_partFits {N : Nat} (hN : big ≤ N) {x0 x1 : Str} (h0 : x0.length ≤ 1000000) (h1 : x1.length ≤ 1000000) : ref1_partFits N x0 x1 = some (partFitsB x0 x1) := by
  have hb : (18446744073709551616 : Nat) ≤ N := hN
  unfold ref1_partFits
  rw [mk_row h1, br_pos (mk_cond h1), show zero .bool = false from rfl, tab_mk0 row0B x1.length rfl, br_pos ⟨by omega, by rw [tab_len]; omega⟩, show (0 : Int) = ((0 : Nat) : Int) from rfl, geti_lt _ (by rw [tab_len]; omega), bnd_some]
  rw [show ((0 : Nat) : Int) = (0 : Int) from rfl, tab_first]
  refine steps_loop (S := List Bool × Int) x0.length (fun i => (tab (rowsC x0 x1 i) x1.length (x1.length + 1), (i : Int))) (f := fun n s => ref1_partFits_L0 N x0 x1 _ n s.1 s.2) (fun n i hi => ?_) (fun n => ?_) N (by omega)
  · show ref1_partFits_L0T N x0 x1 _ (ref1_partFits_L0 N x0 x1 _ n) _ (i : Int) = _
    unfold ref1_partFits_L0T
    rw [br_pos (by omega : (i : Int) < (x0.length : Int)), mk_row h1, br_pos (mk_cond h1), show zero .bool = false from rfl, tab_mk0 (stepB (x0[i] == 42) (oneC x1 x0[i]) (rowsC x0 x1 i)) x1.length rfl]
    rw [ref_row N hi h1 (rowsC x0 x1 i) _ N (by omega), ← rowsC_succ hi]
    have hw : IntKind.i64.wrap ((i : Int) + 1) = ((i + 1 : Nat) : Int) := by rw [wrap_id (by omega) (by omega)]; omega
    rw [hw]
  · show ref1_partFits_L0T N x0 x1 _ _ _ (x0.length : Int) = _
    unfold ref1_partFits_L0T
    rw [br_neg (by omega)]
    show bnd (geti (tab (rowsC x0 x1 x0.length) x1.length (x1.length + 1)) (x1.length : Int)) (fun t85 => some t85) = _
    rw [tab_get _ (Nat.le_refl _) (Nat.lt_succ_self _), bnd_some]
    show some (rowsC x0 x1 x0.length x1.length) = some (partFitsB x0 x1)
    unfold rowsC
    rw [List.take_length]
    rfl
/-- What a part of a pattern says of the k-th part of a path. -/
def oneP (P : List Str) (c : Str) (k : Nat) : Bool := match P[k]? with | some x => partFitsB c x | none => false
theorem oneP_at {P : List Str} {c : Str} {k : Nat} (h : k < P.length) : oneP P c k = partFitsB c P[k] := by unfold oneP; rw [List.getElem?_eq_getElem h]
theorem ref_rowP {N : Nat} (hN : big ≤ N) {Q P : List Str} {i : Nat} (hi : i < Q.length) (hx : P.length ≤ 1000000) (hQ : ∀ q ∈ Q, q.length ≤ 1000000) (hP : ∀ q ∈ P, q.length ≤ 1000000) (r : Nat → Bool) (k2 : List Bool → Option Bool) : ∀ n, P.length + 1 < n →
    ref1_FitsOf_L1 N P (tab r P.length (P.length + 1)) Q (i : Int) k2 n 0 (tab (stepB (Q[i] == [42, 42]) (oneP P Q[i]) r) P.length 0) = k2 (tab (stepB (Q[i] == [42, 42]) (oneP P Q[i]) r) P.length (P.length + 1)) := by
  refine steps_loop (S := Int × List Bool) (P.length + 1) (fun k => ((k : Int), tab (stepB (Q[i] == [42, 42]) (oneP P Q[i]) r) P.length k)) (f := fun n s => ref1_FitsOf_L1 N P (tab r P.length (P.length + 1)) Q (i : Int) k2 n s.1 s.2) (fun n k hk => ?_) (fun n => ?_)
  · show ref1_FitsOf_L1T N P _ Q _ k2 (ref1_FitsOf_L1 N P _ Q _ k2 n) (k : Int) _ = ref1_FitsOf_L1 N P _ Q _ k2 n ((k + 1 : Nat) : Int) _
    have hkm : k ≤ P.length := by omega
    have hw : IntKind.i64.wrap ((k : Int) + 1) = ((k + 1 : Nat) : Int) := by rw [wrap_id (by omega) (by omega)]; omega
    unfold ref1_FitsOf_L1T
    rw [br_pos (by omega : (k : Int) ≤ (P.length : Int)), geti_lt Q hi, hw]
    simp only [bnd_some]
    rcases hs : (Q[i] == ([42, 42] : Str)) with _ | _
    rotate_left
    · simp only [hs, br_true]
      rw [tab_get r hkm (by omega), bnd_some]
      cases hr : r k with
      | true =>
        simp only [br_true]
        refine w_put hkm ?_ _
        cases k with
        | zero => rw [stepB_zero, hr]; rfl
        | succ k => rw [stepB_many, hr]; rfl
      | false =>
        simp only [br_false]
        cases k with
        | zero =>
          rw [br_neg (by omega)]
          refine w_put hkm ?_ _
          rw [stepB_zero, hr]; rfl
        | succ k =>
          have hp : IntKind.i64.wrap (((k + 1 : Nat) : Int) - 1) = (k : Int) := by rw [wrap_id (by omega) (by omega)]; omega
          rw [br_pos (by omega : ((k + 1 : Nat) : Int) > 0), hp, br_pos ⟨by omega, by rw [tab_len]; omega⟩, tab_get _ (by omega) (by omega), bnd_some]
          refine w_put hkm ?_ _
          rw [stepB_many, hr]; rfl
    · simp only [hs, br_false]
      cases k with
      | zero =>
        rw [br_neg (by omega)]
        refine w_put hkm ?_ _
        rw [stepB_zero]; rfl
      | succ k =>
        have hp : IntKind.i64.wrap (((k + 1 : Nat) : Int) - 1) = (k : Int) := by rw [wrap_id (by omega) (by omega)]; omega
        rw [br_pos (by omega : ((k + 1 : Nat) : Int) > 0), hp, tab_get r (by omega) (by omega), bnd_some]
        cases hr : r k with
        | false =>
          simp only [br_false]
          refine w_put hkm ?_ _
          rw [stepB_one, hr]; rfl
        | true =>
          simp only [br_true]
          rw [geti_lt P (by omega), bnd_some, ref_partFits hN (hQ _ (List.getElem_mem _)) (hP _ (List.getElem_mem _)), bnd_some]
          refine w_put hkm ?_ _
          rw [stepB_one, hr, oneP_at (by omega)]; rfl
  · show ref1_FitsOf_L1T N P _ Q _ k2 _ ((P.length + 1 : Nat) : Int) _ = _
    unfold ref1_FitsOf_L1T
    rw [br_neg (by omega)]
theorem mk_rowL {m : Nat} (hx : m ≤ 1000000) : IntKind.i64.wrap ((m : Int) + (1 : Int)) = ((m + 1 : Nat) : Int) := by rw [wrap_id (by omega) (by omega)]; omega
def rowsP (Q P : List Str) (i : Nat) : Nat → Bool := rowB (fun c : Str => c == [42, 42]) (oneP P) (Q.take i) row0B
theorem rowsP_succ {Q P : List Str} {i : Nat} (h : i < Q.length) : rowsP Q P (i + 1) = stepB (Q[i] == [42, 42]) (oneP P Q[i]) (rowsP Q P i) := rowB_take _ _ _ _ h
theorem parts_len {x : Str} (h : x.length < 1000000) : (splitC 47 x).length ≤ 1000000 := by
  rw [splitC_len]
  have := List.count_le_length (a := (47 : UInt8)) (l := x)
  omega
theorem parts_le {x : Str} (h : x.length < 1000000) : ∀ q ∈ splitC 47 x, q.length ≤ 1000000 := fun q hq => by
  have := (splitC_mem 47 x q hq).2
  omega
theorem ref_FitsOf {N : Nat} (hN : big ≤ N) {x0 x1 : Str} (h0 : x0.length < 1000000) (h1 : x1.length < 1000000) : ref1_FitsOf N x0 x1 = some (fitsB (splitC 47 x0) (splitC 47 x1)) := by
  have hb : (18446744073709551616 : Nat) ≤ N := hN
  unfold ref1_FitsOf
  rw [strings_Split_one _ _ (by omega), bnd_some, strings_Split_one _ _ (by omega)]
  have hl := parts_len h1
  have hP := parts_le h1
  have hQ := parts_le h0
  have hq := parts_len h0
  generalize splitC 47 x1 = P at hl hP ⊢
  generalize splitC 47 x0 = Q at hQ hq ⊢
  rw [mk_rowL hl, br_pos (mk_cond hl), show zero .bool = false from rfl, tab_mk0 row0B P.length rfl, br_pos ⟨by omega, by rw [tab_len]; omega⟩, show (0 : Int) = ((0 : Nat) : Int) from rfl, geti_lt _ (by rw [tab_len]; omega), bnd_some, bnd_some]
  rw [show ((0 : Nat) : Int) = (0 : Int) from rfl, tab_first]
  refine steps_loop (S := List Bool × Int) Q.length (fun i => (tab (rowsP Q P i) P.length (P.length + 1), (i : Int))) (f := fun n s => ref1_FitsOf_L0 N P Q _ n s.1 s.2) (fun n i hi => ?_) (fun n => ?_) N (by omega)
  · show ref1_FitsOf_L0T N P Q _ (ref1_FitsOf_L0 N P Q _ n) _ (i : Int) = _
    unfold ref1_FitsOf_L0T
    rw [br_pos (by omega : (i : Int) < (Q.length : Int)), mk_rowL hl, br_pos (mk_cond hl), show zero .bool = false from rfl, tab_mk0 (stepB (Q[i] == [42, 42]) (oneP P Q[i]) (rowsP Q P i)) P.length rfl]
    rw [ref_rowP hN hi hl hQ hP (rowsP Q P i) _ N (by omega), ← rowsP_succ hi]
    have hw : IntKind.i64.wrap ((i : Int) + 1) = ((i + 1 : Nat) : Int) := by rw [wrap_id (by omega) (by omega)]; omega
    rw [hw]
  · show ref1_FitsOf_L0T N P Q _ _ _ (Q.length : Int) = _
    unfold ref1_FitsOf_L0T
    rw [br_neg (by omega)]
    show bnd (geti (tab (rowsP Q P Q.length) P.length (P.length + 1)) (P.length : Int)) (fun t88 => some t88) = _
    rw [tab_get _ (Nat.le_refl _) (Nat.lt_succ_self _), bnd_some]
    show some (rowsP Q P Q.length P.length) = some (fitsB Q P)
    unfold rowsP
    rw [List.take_length]
    rfl
theorem tab_same {r : Nat → Bool} {m k : Nat} (h : r k = false) : tab r m k = tab r m (k + 1) := by
  unfold tab
  apply List.map_congr_left
  intro j _
  by_cases h1 : j < k
  · simp [h1, show j < k + 1 from by omega]
  · by_cases h2 : j = k
    · subst h2; simp [h]
    · simp [h1, show ¬ j < k + 1 from by omega]
/-- Whether one of the places before k fits. -/
def anyB (st : Bool) (o r : Nat → Bool) : Nat → Bool
  | 0 => false
  | k + 1 => st && stepB st o r k
theorem partFits_2_eq (N : Nat) (c x : UInt8) : blob_partFits_2 N c x = some (c == 63 || c == x) := by
  unfold blob_partFits_2
  cases h : (c == (63 : UInt8)) <;> simp [h]
theorem blob_rowC (N : Nat) {x1 : Str} {c : UInt8} (hx : x1.length ≤ 1000000) (r : Nat → Bool) (k2 : List Bool → Option Bool) : ∀ n, x1.length + 1 < n →
    blob_fits_byte_L1 N x1 (tab r x1.length (x1.length + 1)) c ((x1.length + 1 : Nat) : Int) k2 n false 0 (tab (stepB (c == 42) (oneC x1 c) r) x1.length 0) = k2 (tab (stepB (c == 42) (oneC x1 c) r) x1.length (x1.length + 1)) := by
  refine steps_loop (S := Bool × Int × List Bool) (x1.length + 1) (fun k => (anyB (c == 42) (oneC x1 c) r k, (k : Int), tab (stepB (c == 42) (oneC x1 c) r) x1.length k)) (f := fun n s => blob_fits_byte_L1 N x1 (tab r x1.length (x1.length + 1)) c ((x1.length + 1 : Nat) : Int) k2 n s.1 s.2.1 s.2.2) (fun n k hk => ?_) (fun n => ?_)
  · show blob_fits_byte_L1T N x1 _ c _ k2 (blob_fits_byte_L1 N x1 _ c _ k2 n) _ (k : Int) _ = blob_fits_byte_L1 N x1 _ c _ k2 n _ ((k + 1 : Nat) : Int) _
    have hkm : k ≤ x1.length := by omega
    have hw : IntKind.i64.wrap ((k : Int) + 1) = ((k + 1 : Nat) : Int) := by rw [wrap_id (by omega) (by omega)]; omega
    unfold blob_fits_byte_L1T
    rw [br_pos (by omega : (k : Int) < ((x1.length + 1 : Nat) : Int)), hw, show blob_partFits_1 N c = some (c == (42 : UInt8)) from rfl]
    simp only [bnd_some]
    rcases hs : (c == (42 : UInt8)) with _ | _
    rotate_left
    · simp only [hs, br_true]
      cases ha : anyB true (oneC x1 c) r k with
      | true =>
        cases k with
        | zero => cases ha
        | succ k =>
          have ha' : stepB true (oneC x1 c) r k = true := by simpa [anyB] using ha
          have h1 : stepB true (oneC x1 c) r (k + 1) = true := by rw [stepB_many, ha', Bool.or_true]
          simp only [br_true]
          rw [show anyB true (oneC x1 c) r (k + 1 + 1) = true from by simp [anyB, h1]]
          exact w_put (r := stepB true (oneC x1 c) r) hkm h1.symm (fun w => blob_fits_byte_L1 N x1 _ c _ k2 n true _ w)
      | false =>
        simp only [br_false]
        rw [tab_get r hkm (by omega), bnd_some]
        have h1 : stepB true (oneC x1 c) r k = r k := by
          cases k with
          | zero => rw [stepB_zero]; rfl
          | succ k =>
            have ha' : stepB true (oneC x1 c) r k = false := by simpa [anyB] using ha
            rw [stepB_many, ha', Bool.or_false]
        rw [show anyB true (oneC x1 c) r (k + 1) = r k from by simp [anyB, h1]]
        exact w_put (r := stepB true (oneC x1 c) r) hkm h1.symm (fun w => blob_fits_byte_L1 N x1 _ c _ k2 n (r k) _ w)
    · simp only [hs, br_false]
      have hany : ∀ j, anyB false (oneC x1 c) r j = false := fun j => by cases j <;> simp [anyB]
      rw [hany, hany]
      cases k with
      | zero =>
        rw [br_neg (by omega), tab_same (k := 0) (by rw [stepB_zero]; rfl)]
      | succ k =>
        have hp : IntKind.i64.wrap (((k + 1 : Nat) : Int) - 1) = (k : Int) := by rw [wrap_id (by omega) (by omega)]; omega
        rw [br_pos (by omega : ((k + 1 : Nat) : Int) > 0), hp, tab_get r (by omega) (by omega), bnd_some]
        cases hr : r k with
        | false =>
          simp only [br_false]
          refine w_put hkm ?_ (fun w => blob_fits_byte_L1 N x1 _ c _ k2 n false _ w)
          rw [stepB_one, hr]; rfl
        | true =>
          simp only [br_true]
          rw [geti_lt x1 (by omega), bnd_some, partFits_2_eq, bnd_some]
          refine w_put hkm ?_ (fun w => blob_fits_byte_L1 N x1 _ c _ k2 n false _ w)
          rw [stepB_one, hr, oneC_at (by omega)]; rfl
  · show blob_fits_byte_L1T N x1 _ c _ k2 _ _ ((x1.length + 1 : Nat) : Int) _ = _
    unfold blob_fits_byte_L1T
    rw [br_neg (by omega)]
theorem blob_fitsC {N : Nat} (hN : big ≤ N) {x0 x1 : Str} (h0 : x0.length ≤ 1000000) (h1 : x1.length ≤ 1000000) : blob_fits_byte N x0 x1 () () = some (partFitsB x0 x1) := by
  have hb : (18446744073709551616 : Nat) ≤ N := hN
  unfold blob_fits_byte
  rw [mk_row h1, br_pos (mk_cond h1), show zero .bool = false from rfl, tab_mk0 row0B x1.length rfl, br_pos ⟨by omega, by rw [tab_len]; omega⟩, show (0 : Int) = ((0 : Nat) : Int) from rfl, geti_lt _ (by rw [tab_len]; omega), bnd_some]
  rw [show ((0 : Nat) : Int) = (0 : Int) from rfl, tab_first]
  refine steps_loop (S := List Bool × Int) x0.length (fun i => (tab (rowsC x0 x1 i) x1.length (x1.length + 1), (i : Int))) (f := fun n s => blob_fits_byte_L0 N x1 x0 (x0.length : Int) _ n s.1 s.2) (fun n i hi => ?_) (fun n => ?_) N (by omega)
  · show blob_fits_byte_L0T N x1 x0 _ _ (blob_fits_byte_L0 N x1 x0 _ _ n) _ (i : Int) = _
    unfold blob_fits_byte_L0T
    rw [br_pos (by omega : (i : Int) < (x0.length : Int)), geti_lt x0 hi, bnd_some, tab_len, br_pos (mk_cond h1), show zero .bool = false from rfl, tab_mk0 (stepB (x0[i] == 42) (oneC x1 x0[i]) (rowsC x0 x1 i)) x1.length rfl]
    rw [blob_rowC N h1 (rowsC x0 x1 i) _ N (by omega), ← rowsC_succ hi]
    have hw : IntKind.i64.wrap ((i : Int) + 1) = ((i + 1 : Nat) : Int) := by rw [wrap_id (by omega) (by omega)]; omega
    rw [hw]
  · show blob_fits_byte_L0T N x1 x0 _ _ _ _ (x0.length : Int) = _
    unfold blob_fits_byte_L0T
    rw [br_neg (by omega)]
    show bnd (geti (tab (rowsC x0 x1 x0.length) x1.length (x1.length + 1)) (x1.length : Int)) (fun t75 => some t75) = _
    rw [tab_get _ (Nat.le_refl _) (Nat.lt_succ_self _), bnd_some]
    show some (rowsC x0 x1 x0.length x1.length) = some (partFitsB x0 x1)
    unfold rowsC
    rw [List.take_length]
    rfl
theorem blob_partFits_eq {N : Nat} (hN : big ≤ N) {x0 x1 : Str} (h0 : x0.length ≤ 1000000) (h1 : x1.length ≤ 1000000) : blob_partFits N x0 x1 = some (partFitsB x0 x1) := by
  unfold blob_partFits
  rw [br_pos (by omega), br_pos (by omega), blob_fitsC hN h0 h1, bnd_some]
theorem blob_rowP {N : Nat} (hN : big ≤ N) {x1 : List Str} {c : Str} (hx : x1.length ≤ 1000000) (hc : c.length ≤ 1000000) (hP : ∀ q ∈ x1, q.length ≤ 1000000) (r : Nat → Bool) (k2 : List Bool → Option Bool) : ∀ n, x1.length + 1 < n →
    blob_fits_string_L1 N x1 (tab r x1.length (x1.length + 1)) c ((x1.length + 1 : Nat) : Int) k2 n false 0 (tab (stepB (c == [42, 42]) (oneP x1 c) r) x1.length 0) = k2 (tab (stepB (c == [42, 42]) (oneP x1 c) r) x1.length (x1.length + 1)) := by
  refine steps_loop (S := Bool × Int × List Bool) (x1.length + 1) (fun k => (anyB (c == [42, 42]) (oneP x1 c) r k, (k : Int), tab (stepB (c == [42, 42]) (oneP x1 c) r) x1.length k)) (f := fun n s => blob_fits_string_L1 N x1 (tab r x1.length (x1.length + 1)) c ((x1.length + 1 : Nat) : Int) k2 n s.1 s.2.1 s.2.2) (fun n k hk => ?_) (fun n => ?_)
  · show blob_fits_string_L1T N x1 _ c _ k2 (blob_fits_string_L1 N x1 _ c _ k2 n) _ (k : Int) _ = blob_fits_string_L1 N x1 _ c _ k2 n _ ((k + 1 : Nat) : Int) _
    have hkm : k ≤ x1.length := by omega
    have hw : IntKind.i64.wrap ((k : Int) + 1) = ((k + 1 : Nat) : Int) := by rw [wrap_id (by omega) (by omega)]; omega
    unfold blob_fits_string_L1T
    rw [br_pos (by omega : (k : Int) < ((x1.length + 1 : Nat) : Int)), hw, show blob_pathFits_1 N c = some (c == ([42, 42] : Str)) from rfl]
    simp only [bnd_some]
    rcases hs : (c == ([42, 42] : Str)) with _ | _
    rotate_left
    · simp only [hs, br_true]
      cases ha : anyB true (oneP x1 c) r k with
      | true =>
        cases k with
        | zero => cases ha
        | succ k =>
          have ha' : stepB true (oneP x1 c) r k = true := by simpa [anyB] using ha
          have h1 : stepB true (oneP x1 c) r (k + 1) = true := by rw [stepB_many, ha', Bool.or_true]
          simp only [br_true]
          rw [show anyB true (oneP x1 c) r (k + 1 + 1) = true from by simp [anyB, h1]]
          exact w_put (r := stepB true (oneP x1 c) r) hkm h1.symm (fun w => blob_fits_string_L1 N x1 _ c _ k2 n true _ w)
      | false =>
        simp only [br_false]
        rw [tab_get r hkm (by omega), bnd_some]
        have h1 : stepB true (oneP x1 c) r k = r k := by
          cases k with
          | zero => rw [stepB_zero]; rfl
          | succ k =>
            have ha' : stepB true (oneP x1 c) r k = false := by simpa [anyB] using ha
            rw [stepB_many, ha', Bool.or_false]
        rw [show anyB true (oneP x1 c) r (k + 1) = r k from by simp [anyB, h1]]
        exact w_put (r := stepB true (oneP x1 c) r) hkm h1.symm (fun w => blob_fits_string_L1 N x1 _ c _ k2 n (r k) _ w)
    · simp only [hs, br_false]
      have hany : ∀ j, anyB false (oneP x1 c) r j = false := fun j => by cases j <;> simp [anyB]
      rw [hany, hany]
      cases k with
      | zero =>
        rw [br_neg (by omega), tab_same (k := 0) (by rw [stepB_zero]; rfl)]
      | succ k =>
        have hp : IntKind.i64.wrap (((k + 1 : Nat) : Int) - 1) = (k : Int) := by rw [wrap_id (by omega) (by omega)]; omega
        rw [br_pos (by omega : ((k + 1 : Nat) : Int) > 0), hp, tab_get r (by omega) (by omega), bnd_some]
        cases hr : r k with
        | false =>
          simp only [br_false]
          refine w_put hkm ?_ (fun w => blob_fits_string_L1 N x1 _ c _ k2 n false _ w)
          rw [stepB_one, hr]; rfl
        | true =>
          simp only [br_true]
          rw [geti_lt x1 (by omega), bnd_some, blob_partFits_eq hN hc (hP _ (List.getElem_mem _)), bnd_some]
          refine w_put hkm ?_ (fun w => blob_fits_string_L1 N x1 _ c _ k2 n false _ w)
          rw [stepB_one, hr, oneP_at (by omega)]; rfl
  · show blob_fits_string_L1T N x1 _ c _ k2 _ _ ((x1.length + 1 : Nat) : Int) _ = _
    unfold blob_fits_string_L1T
    rw [br_neg (by omega)]
theorem blob_fitsP {N : Nat} (hN : big ≤ N) {x0 x1 : List Str} (hQ : ∀ q ∈ x0, q.length ≤ 1000000) (hP : ∀ q ∈ x1, q.length ≤ 1000000) (h0 : x0.length ≤ 1000000) (h1 : x1.length ≤ 1000000) : blob_fits_string N x0 x1 () () = some (fitsB x0 x1) := by
  have hb : (18446744073709551616 : Nat) ≤ N := hN
  unfold blob_fits_string
  rw [mk_rowL h1, br_pos (mk_cond h1), show zero .bool = false from rfl, tab_mk0 row0B x1.length rfl, br_pos ⟨by omega, by rw [tab_len]; omega⟩, show (0 : Int) = ((0 : Nat) : Int) from rfl, geti_lt _ (by rw [tab_len]; omega), bnd_some]
  rw [show ((0 : Nat) : Int) = (0 : Int) from rfl, tab_first]
  refine steps_loop (S := List Bool × Int) x0.length (fun i => (tab (rowsP x0 x1 i) x1.length (x1.length + 1), (i : Int))) (f := fun n s => blob_fits_string_L0 N x1 x0 (x0.length : Int) _ n s.1 s.2) (fun n i hi => ?_) (fun n => ?_) N (by omega)
  · show blob_fits_string_L0T N x1 x0 _ _ (blob_fits_string_L0 N x1 x0 _ _ n) _ (i : Int) = _
    unfold blob_fits_string_L0T
    rw [br_pos (by omega : (i : Int) < (x0.length : Int)), geti_lt x0 hi, bnd_some, tab_len, br_pos (mk_cond h1), show zero .bool = false from rfl, tab_mk0 (stepB (x0[i] == [42, 42]) (oneP x1 x0[i]) (rowsP x0 x1 i)) x1.length rfl]
    rw [blob_rowP hN h1 (hQ _ (List.getElem_mem _)) hP (rowsP x0 x1 i) _ N (by omega), ← rowsP_succ hi]
    have hw : IntKind.i64.wrap ((i : Int) + 1) = ((i + 1 : Nat) : Int) := by rw [wrap_id (by omega) (by omega)]; omega
    rw [hw]
  · show blob_fits_string_L0T N x1 x0 _ _ _ _ (x0.length : Int) = _
    unfold blob_fits_string_L0T
    rw [br_neg (by omega)]
    show bnd (geti (tab (rowsP x0 x1 x0.length) x1.length (x1.length + 1)) (x1.length : Int)) (fun t75 => some t75) = _
    rw [tab_get _ (Nat.le_refl _) (Nat.lt_succ_self _), bnd_some]
    show some (rowsP x0 x1 x0.length x1.length) = some (fitsB x0 x1)
    unfold rowsP
    rw [List.take_length]
    rfl
theorem blob_pathFits_eq {N : Nat} (hN : big ≤ N) {x0 x1 : Str} (h0 : x0.length < 1000000) (h1 : x1.length < 1000000) : blob_pathFits N x0 x1 = some (fitsB (splitC 47 x0) (splitC 47 x1)) := by
  unfold blob_pathFits
  rw [strings_Split_one _ _ (by omega), bnd_some, strings_Split_one _ _ (by omega), bnd_some, blob_fitsP hN (parts_le h0) (parts_le h1) (parts_len h0) (parts_len h1), bnd_some]
theorem inPart_fin (N : Nat) : ∀ n : Fin 256, blob_inPart 0 (UInt8.ofNat n.1) = ref1_partByte 0 (UInt8.ofNat n.1) := by decide +kernel
theorem inPart_eq (N : Nat) (c : UInt8) : blob_inPart N c = ref1_partByte N c := by
  have h := inPart_fin 0 ⟨c.toNat, c.toNat_lt⟩
  have e : UInt8.ofNat c.toNat = c := by simp
  simp only [e] at h
  exact h
theorem isPart_eq (N : Nat) (x : Str) : blob_isPart N x = ref1_isPart N x := by
  have gen : ∀ (k : Option Bool) (n : Nat) (i : Int), blob_isPart_L0 N x (x.length : Int) k n i = ref1_isPart_L0 N x k n i := by
    intro k n
    induction n with
    | zero => intro i; rfl
    | succ n ih =>
      intro i
      show blob_isPart_L0T N x _ k _ i = ref1_isPart_L0T N x k _ i
      unfold blob_isPart_L0T ref1_isPart_L0T
      simp only [inPart_eq, ih]
  exact gen _ _ _
theorem isPath_eq (N : Nat) (x : Str) : blob_IsPath N x = ref1_IsPath N x := by
  have gen : ∀ (P : List Str) (k : Option Bool) (n : Nat) (i : Int), blob_IsPath_L0 N P (P.length : Int) k n i = ref1_IsPath_L0 N P k n i := by
    intro P k n
    induction n with
    | zero => intro i; rfl
    | succ n ih =>
      intro i
      show blob_IsPath_L0T N P _ k _ i = ref1_IsPath_L0T N P k _ i
      unfold blob_IsPath_L0T ref1_IsPath_L0T
      simp only [isPart_eq, ih]
  unfold blob_IsPath ref1_IsPath ref1_within
  simp only [gen]
  by_cases h1 : (x.length : Int) < 1
  · rw [br_pos h1, br_neg (by omega)]; simp
  · rw [br_neg h1]
    by_cases h2 : (x.length : Int) > 200
    · rw [br_pos h2, br_pos (by omega), decide_eq_false (by omega)]; simp
    · rw [br_neg h2, br_pos (by omega), decide_eq_true (by omega)]; simp
theorem scan_loop {α R : Type} {xs : List α} (ok : α → Bool) {k bad : Option R} {f : Nat → Int → Option R} (hstep : ∀ n i (hi : i < xs.length), f (n + 1) (i : Int) = if ok xs[i] = true then f n ((i + 1 : Nat) : Int) else bad)
    (hend : ∀ n, f (n + 1) (xs.length : Int) = k) : ∀ n, xs.length < n → f n 0 = if xs.all ok = true then k else bad := by
  have gen : ∀ (d n i : Nat), i + d = xs.length → d < n → f n (i : Int) = if (xs.drop i).all ok = true then k else bad := by
    intro d
    induction d with
    | zero =>
      intro n i h hn
      obtain ⟨n, rfl⟩ : ∃ j, n = j + 1 := ⟨n - 1, by omega⟩
      obtain rfl : i = xs.length := by omega
      rw [hend, List.drop_length]; rfl
    | succ d ih =>
      intro n i h hn
      obtain ⟨n, rfl⟩ : ∃ j, n = j + 1 := ⟨n - 1, by omega⟩
      have hi : i < xs.length := by omega
      rw [hstep n i hi, ih n (i + 1) (by omega) (by omega), List.drop_eq_getElem_cons hi, List.all_cons]
      cases ok xs[i] <;> simp
  intro n hn
  have := gen xs.length n 0 (by omega) hn
  simpa using this
def byteB (c : UInt8) : Bool := (ref1_partByte 0 c).getD false
theorem byte_fin : ∀ n : Fin 256, ref1_partByte 0 (UInt8.ofNat n.1) = some (byteB (UInt8.ofNat n.1)) := by decide +kernel
theorem byte_eq (N : Nat) (c : UInt8) : ref1_partByte N c = some (byteB c) := by
  have h := byte_fin ⟨c.toNat, c.toNat_lt⟩
  have e : UInt8.ofNat c.toNat = c := by simp
  simp only [e] at h
  exact h
def patB (c : UInt8) : Bool := byteB c || c == 42 || c == 63
theorem ref_patScan {N : Nat} {x : Str} (hx : x.length ≤ 1000000) (k : Option Bool) : ∀ n, x.length < n → ref1_isPatternPart_L0 N x k n 0 = if x.all patB = true then k else some false := by
  refine scan_loop patB (fun n i hi => ?_) (fun n => ?_)
  · show ref1_isPatternPart_L0T N x k _ (i : Int) = _
    have hw : IntKind.i64.wrap ((i : Int) + 1) = ((i + 1 : Nat) : Int) := by rw [wrap_id (by omega) (by omega)]; omega
    unfold ref1_isPatternPart_L0T patB
    rw [br_pos (by omega : (i : Int) < (x.length : Int)), geti_lt x hi, hw]
    simp only [bnd_some, byte_eq]
    cases byteB x[i] <;> cases h1 : (x[i] == (42 : UInt8)) <;> cases h2 : (x[i] == (63 : UInt8)) <;> simp [h1, h2, bne]
  · show ref1_isPatternPart_L0T N x k _ (x.length : Int) = _
    unfold ref1_isPatternPart_L0T
    rw [br_neg (by omega)]
theorem blob_patScan {N : Nat} {x : Str} (hx : x.length ≤ 1000000) (k : Option Int) : ∀ n, x.length < n → blob_CheckPattern_L1 N x (x.length : Int) k n 0 = if x.all patB = true then k else some 3 := by
  refine scan_loop patB (fun n i hi => ?_) (fun n => ?_)
  · show blob_CheckPattern_L1T N x _ k _ (i : Int) = _
    have hw : IntKind.i64.wrap ((i : Int) + 1) = ((i + 1 : Nat) : Int) := by rw [wrap_id (by omega) (by omega)]; omega
    unfold blob_CheckPattern_L1T patB
    rw [br_pos (by omega : (i : Int) < (x.length : Int)), geti_lt x hi, hw]
    simp only [bnd_some, inPart_eq, byte_eq]
    cases byteB x[i] <;> cases h1 : (x[i] == (42 : UInt8)) <;> cases h2 : (x[i] == (63 : UInt8)) <;> simp [h1, h2, bne]
  · show blob_CheckPattern_L1T N x _ k _ (x.length : Int) = _
    unfold blob_CheckPattern_L1T
    rw [br_neg (by omega)]
def patP (t : Str) : Bool := (t == [42, 42]) || (t.all patB && !(t == []) && !(t == [46]) && !(t == [46, 46]) && !Lib.contains t [42, 42])
theorem contains_ok {t : Str} (h : t.length ≤ 1000000) : strings_Contains t [42, 42] = some (Lib.contains t [42, 42]) := by unfold strings_Contains; rw [if_pos (by omega)]
theorem ref_part {N : Nat} (hN : big ≤ N) {t : Str} (h : t.length ≤ 1000000) : ref1_isPatternPart N t = some (patP t) := by
  have hb : (18446744073709551616 : Nat) ≤ N := hN
  unfold ref1_isPatternPart patP
  rw [ref_patScan h _ N (by omega), contains_ok h]
  cases (t == ([42, 42] : Str)) <;> cases (t == ([] : Str)) <;> cases (t == ([46] : Str)) <;> cases (t == ([46, 46] : Str)) <;> cases t.all patB <;> simp
/-- What CheckPattern says. -/
def patS (x : Str) : Int := if 1 ≤ x.length ∧ x.length ≤ 200 ∧ (splitC 47 x).all patP = true then 0 else 3
theorem checkPattern_eq {N : Nat} (hN : big ≤ N) {x : Str} (h : x.length < 1000000) : blob_CheckPattern N x = some (patS x) ∧ ref1_CheckPattern N x = some (patS x) := by
  have hb : (18446744073709551616 : Nat) ≤ N := hN
  unfold blob_CheckPattern ref1_CheckPattern ref1_within patS
  rw [strings_Split_one _ _ (by omega)]
  simp only [bnd_some]
  have hl := parts_len h
  have hP := parts_le h
  generalize splitC 47 x = P at hl hP ⊢
  have h1 : blob_CheckPattern_L0 N P (P.length : Int) (some 0) N 0 = if P.all patP = true then some 0 else some 3 := by
    refine scan_loop patP (fun n i hi => ?_) (fun n => ?_) N (by omega)
    · show blob_CheckPattern_L0T N P _ _ _ (i : Int) = _
      have hw : IntKind.i64.wrap ((i : Int) + 1) = ((i + 1 : Nat) : Int) := by rw [wrap_id (by omega) (by omega)]; omega
      have ht := hP P[i] (List.getElem_mem _)
      unfold blob_CheckPattern_L0T patP
      rw [br_pos (by omega : (i : Int) < (P.length : Int)), geti_lt P hi, bnd_some, hw, contains_ok ht, blob_patScan ht _ N (by omega)]
      cases (P[i] == ([42, 42] : Str)) <;> cases (P[i] == ([] : Str)) <;> cases (P[i] == ([46] : Str)) <;> cases (P[i] == ([46, 46] : Str)) <;> cases P[i].all patB <;> cases Lib.contains P[i] [42, 42] <;> simp
    · show blob_CheckPattern_L0T N P _ _ _ (P.length : Int) = _
      unfold blob_CheckPattern_L0T
      rw [br_neg (by omega)]
  have h2 : ref1_CheckPattern_L0 N P (some 0) N 0 = if P.all patP = true then some 0 else some 3 := by
    refine scan_loop patP (fun n i hi => ?_) (fun n => ?_) N (by omega)
    · show ref1_CheckPattern_L0T N P _ _ (i : Int) = _
      have hw : IntKind.i64.wrap ((i : Int) + 1) = ((i + 1 : Nat) : Int) := by rw [wrap_id (by omega) (by omega)]; omega
      unfold ref1_CheckPattern_L0T
      rw [br_pos (by omega : (i : Int) < (P.length : Int)), geti_lt P hi, bnd_some, hw, ref_part hN (hP P[i] (List.getElem_mem _)), bnd_some]
      cases patP P[i] <;> simp
    · show ref1_CheckPattern_L0T N P _ _ (P.length : Int) = _
      unfold ref1_CheckPattern_L0T
      rw [br_neg (by omega)]
  rw [h1, h2]
  by_cases g1 : (x.length : Int) < 1
  · rw [show (if 1 ≤ x.length ∧ x.length ≤ 200 ∧ P.all patP = true then (0 : Int) else 3) = 3 from if_neg fun h => absurd h.1 (by omega)]
    exact ⟨by rw [br_pos g1], by rw [br_neg (by omega : ¬ (x.length : Int) ≥ 1)]; simp⟩
  · rw [br_neg g1, br_pos (by omega : (x.length : Int) ≥ 1)]
    by_cases g2 : (x.length : Int) > 200
    · rw [show (if 1 ≤ x.length ∧ x.length ≤ 200 ∧ P.all patP = true then (0 : Int) else 3) = 3 from if_neg fun h => absurd h.2.1 (by omega)]
      exact ⟨by rw [br_pos g2], by rw [decide_eq_false (by omega : ¬ (x.length : Int) ≤ 200)]; simp⟩
    · rw [br_neg g2, decide_eq_true (by omega : (x.length : Int) ≤ 200)]
      cases h : P.all patP
      · rw [show (if 1 ≤ x.length ∧ x.length ≤ 200 ∧ false = true then (0 : Int) else 3) = 3 from if_neg fun h => by cases h.2.2]
        exact ⟨by simp, by simp⟩
      · rw [show (if 1 ≤ x.length ∧ x.length ≤ 200 ∧ true = true then (0 : Int) else 3) = 0 from if_pos ⟨by omega, by omega, rfl⟩]
        exact ⟨by simp, by simp⟩
theorem part_scan {N : Nat} {x : Str} (hx : x.length ≤ 1000000) (k : Option Bool) : ∀ n, x.length < n → ref1_isPart_L0 N x k n 0 = if x.all byteB = true then k else some false := by
  refine scan_loop byteB (fun n i hi => ?_) (fun n => ?_)
  · show ref1_isPart_L0T N x k _ (i : Int) = _
    have hw : IntKind.i64.wrap ((i : Int) + 1) = ((i + 1 : Nat) : Int) := by rw [wrap_id (by omega) (by omega)]; omega
    unfold ref1_isPart_L0T
    rw [br_pos (by omega : (i : Int) < (x.length : Int)), geti_lt x hi, bnd_some, byte_eq, bnd_some, hw]
    cases byteB x[i] <;> simp
  · show ref1_isPart_L0T N x k _ (x.length : Int) = _
    unfold ref1_isPart_L0T
    rw [br_neg (by omega)]
def partP (x : Str) : Bool := x.all byteB && !(x == []) && !(x == [46]) && !(x == [46, 46])
theorem isPart_val {N : Nat} (hN : big ≤ N) {x : Str} (hx : x.length ≤ 1000000) : ref1_isPart N x = some (partP x) := by
  have hb : (18446744073709551616 : Nat) ≤ N := hN
  unfold ref1_isPart partP
  rw [part_scan hx _ N (by omega)]
  cases x.all byteB <;> cases (x == ([] : Str)) <;> cases (x == ([46] : Str)) <;> cases (x == ([46, 46] : Str)) <;> simp
def pathB (x : Str) : Bool := decide (1 ≤ x.length) && (decide (x.length ≤ 200) && (splitC 47 x).all partP)
theorem isPath_val {N : Nat} (hN : big ≤ N) {x : Str} (h : x.length < 1000000) : ref1_IsPath N x = some (pathB x) := by
  have hb : (18446744073709551616 : Nat) ≤ N := hN
  unfold ref1_IsPath ref1_within pathB
  rw [strings_Split_one _ _ (by omega)]
  simp only [bnd_some]
  have hl := parts_len h
  have hP := parts_le h
  generalize splitC 47 x = P at hl hP ⊢
  have h1 : ref1_IsPath_L0 N P (some true) N 0 = if P.all partP = true then some true else some false := by
    refine scan_loop partP (fun n i hi => ?_) (fun n => ?_) N (by omega)
    · show ref1_IsPath_L0T N P _ _ (i : Int) = _
      have hw : IntKind.i64.wrap ((i : Int) + 1) = ((i + 1 : Nat) : Int) := by rw [wrap_id (by omega) (by omega)]; omega
      unfold ref1_IsPath_L0T
      rw [br_pos (by omega : (i : Int) < (P.length : Int)), geti_lt P hi, bnd_some, hw, isPart_val hN (hP P[i] (List.getElem_mem _)), bnd_some]
      cases partP P[i] <;> simp
    · show ref1_IsPath_L0T N P _ _ (P.length : Int) = _
      unfold ref1_IsPath_L0T
      rw [br_neg (by omega)]
  rw [h1]
  by_cases g0 : 1 ≤ x.length
  · rw [br_pos (by omega : (x.length : Int) ≥ 1), decide_eq_true g0]
    by_cases g1 : x.length ≤ 200
    · rw [decide_eq_true (by omega : (x.length : Int) ≤ 200), decide_eq_true g1]
      cases P.all partP <;> simp
    · rw [decide_eq_false (by omega : ¬ (x.length : Int) ≤ 200), decide_eq_false g1]; simp
  · rw [br_neg (by omega : ¬ (x.length : Int) ≥ 1), decide_eq_false g0]; simp
theorem awake_n (n : Nat) : law1_awake (n + 40) = some true := by kernel_rfl
theorem awake_ok {N : Nat} (hN : big ≤ N) : law1_awake N = some true := by
  have hb : (18446744073709551616 : Nat) ≤ N := hN
  obtain ⟨n, rfl⟩ : ∃ n, N = n + 40 := ⟨N - 40, by omega⟩
  exact awake_n n
theorem checkPattern_long {N : Nat} {x : Str} (h : ¬ x.length < 1000000) : blob_CheckPattern N x = some 3 ∧ ref1_CheckPattern N x = some 3 := by
  unfold blob_CheckPattern ref1_CheckPattern ref1_within
  rw [br_neg (by omega), br_pos (by omega), br_pos (by omega), decide_eq_false (by omega)]
  exact ⟨rfl, by simp⟩
theorem isPath_long {N : Nat} {x : Str} (h : ¬ x.length < 1000000) : ref1_IsPath N x = some false := by
  unfold ref1_IsPath ref1_within
  rw [br_pos (by omega), decide_eq_false (by omega)]
  simp
theorem isPath_all {N : Nat} (hN : big ≤ N) (x : Str) : ref1_IsPath N x = some (pathB x) := by
  by_cases h : x.length < 1000000
  · exact isPath_val hN h
  · rw [isPath_long h]; unfold pathB; rw [decide_eq_false (by omega : ¬ x.length ≤ 200)]; simp
theorem patS_long {x : Str} (h : ¬ x.length < 1000000) : patS x = 3 := if_neg fun h' => absurd h'.2.1 (by omega)
theorem checkPattern_all {N : Nat} (hN : big ≤ N) (x : Str) : blob_CheckPattern N x = some (patS x) ∧ ref1_CheckPattern N x = some (patS x) := by
  by_cases h : x.length < 1000000
  · exact checkPattern_eq hN h
  · rw [patS_long h]; exact checkPattern_long h
end Go.Proofs.YthlkidohpiebiaaDoor


/- What CheckFiles says in the program and in its reference, in plain Lean. -/
namespace Go.Proofs.YthlkidohpiebiaaDoor
set_option linter.unusedVariables false
set_option linter.unusedSimpArgs false
open Go Go.RowKit
abbrev FileT := Str × Bool × List UInt8
theorem exits_map {α β : Type} (g : α → β) (ex : Nat → Option α) : ∀ d i, exits (fun i => (ex i).map g) d i = (exits ex d i).map g
  | 0, _ => rfl
  | d + 1, i => by
    unfold exits
    cases ex i with
    | some z => rfl
    | none => exact exits_map g ex d (i + 1)
theorem exits_any {α : Type} (c : Nat → Bool) (z r : α) (m : Nat) : (exits (fun i => if c i = true then some z else none) m 0).getD r = if (List.range m).any c = true then z else r := by
  cases h : exits (fun i => if c i = true then some z else none) m 0 with
  | none =>
    have h' := exits_none.1 h
    have : (List.range m).any c = false := by
      rw [List.any_eq_false]
      intro j hj hc
      have := h' j (Nat.zero_le _) (by simpa using hj)
      rw [if_pos hc] at this; cases this
    rw [this]; rfl
  | some y =>
    obtain ⟨j, _, h2, h3, _⟩ := exits_some h
    by_cases hc : c j = true
    · rw [if_pos hc] at h3
      have : (List.range m).any c = true := List.any_eq_true.2 ⟨j, by simpa using h2, hc⟩
      rw [this, if_pos rfl]
      exact (Option.some.inj h3).symm
    · rw [if_neg hc] at h3; cases h3
/-- Whether a path lies within one that is there. -/
def clashB (has : Str → Bool) (x : Str) : Bool := (List.range x.length).any fun i => x[i]? == some 47 && has (x.take i)
theorem clash_blob {N : Nat} (hN : big ≤ N) {m : List (Str × Bool)} {has : Str → Bool} (hm : ∀ p, (mget m p).getD (zero .bool) = has p) {x : Str} (hx : x.length ≤ 1000000) : blob_clashes N m x = some (clashB has x) := by
  have hb : (18446744073709551616 : Nat) ≤ N := hN
  unfold blob_clashes clashB
  refine (exit_loop (S := Int) x.length (fun i => (i : Int)) (fun i => if (x[i]? == some 47 && has (x.take i)) = true then some (some true) else none) (f := fun n s => blob_clashes_L0 N m x (x.length : Int) (some false) n s) (r := some false) (fun n i hi => ?_) (fun n => ?_) N (by omega)).trans ?_
  · show blob_clashes_L0T N m x _ _ (blob_clashes_L0 N m x _ _ n) (i : Int) = _
    have hw : IntKind.i64.wrap ((i : Int) + 1) = ((i + 1 : Nat) : Int) := by rw [wrap_id (by omega) (by omega)]; omega
    unfold blob_clashes_L0T
    rw [br_pos (by omega : (i : Int) < (x.length : Int)), geti_lt x hi, bnd_some, hw, slc_take x (Nat.le_of_lt hi), bnd_some, hm, List.getElem?_eq_getElem hi]
    show _ = Option.getD (if ((x[i] == 47) && has (x.take i)) = true then some (some true) else none) _
    cases x[i] == 47 <;> cases has (x.take i) <;> simp
  · show blob_clashes_L0T N m x _ _ _ (x.length : Int) = _
    unfold blob_clashes_L0T
    rw [br_neg (by omega)]
  · rw [exits_any]
    split
    · rename_i h; rw [h]
    · rename_i h; rw [Bool.not_eq_true] at h; rw [h]
theorem clash_ref {N : Nat} (hN : big ≤ N) {l : List FileT} {has : Str → Bool} (hm : ∀ p, ref1_there N l p = some (has p)) {x : Str} (hx : x.length ≤ 1000000) : ref1_inside N l x = some (clashB has x) := by
  have hb : (18446744073709551616 : Nat) ≤ N := hN
  unfold ref1_inside clashB
  refine (exit_loop (S := Int) x.length (fun i => (i : Int)) (fun i => if (x[i]? == some 47 && has (x.take i)) = true then some (some true) else none) (f := fun n s => ref1_inside_L0 N l x (some false) n s) (r := some false) (fun n i hi => ?_) (fun n => ?_) N (by omega)).trans ?_
  · show ref1_inside_L0T N l x _ (ref1_inside_L0 N l x _ n) (i : Int) = _
    have hw : IntKind.i64.wrap ((i : Int) + 1) = ((i + 1 : Nat) : Int) := by rw [wrap_id (by omega) (by omega)]; omega
    unfold ref1_inside_L0T
    rw [br_pos (by omega : (i : Int) < (x.length : Int)), geti_lt x hi, bnd_some, hw, slc_take x (Nat.le_of_lt hi), bnd_some, hm, bnd_some, List.getElem?_eq_getElem hi]
    show _ = Option.getD (if ((x[i] == 47) && has (x.take i)) = true then some (some true) else none) _
    cases x[i] == 47 <;> cases has (x.take i) <;> simp
  · show ref1_inside_L0T N l x _ _ (x.length : Int) = _
    unfold ref1_inside_L0T
    rw [br_neg (by omega)]
  · rw [exits_any]
    split
    · rename_i h; rw [h]
    · rename_i h; rw [Bool.not_eq_true] at h; rw [h]
def hasB {α : Type} (l : List (Str × α)) (p : Str) : Bool := l.any fun x => p == x.1
theorem hasB_iff {α : Type} {l : List (Str × α)} {p : Str} : hasB l p = true ↔ ∃ x ∈ l, x.1 = p := by
  unfold hasB
  rw [List.any_eq_true]
  exact ⟨fun ⟨x, h1, h2⟩ => ⟨x, h1, (eq_of_beq h2).symm⟩, fun ⟨x, h1, h2⟩ => ⟨x, h1, by rw [h2]; exact beq_self_eq_true _⟩⟩
theorem mid {a b : Nat} (ha : a ≤ 1000000) (hb : b ≤ 1000000) : IntKind.i64.wrap (Int.tdiv (IntKind.i64.wrap ((a : Int) + (b : Int))) 2) = (((a + b) / 2 : Nat) : Int) := by
  have h : ((a + b : Nat) : Int).tdiv 2 = (((a + b) / 2 : Nat) : Int) := (Int.ofNat_tdiv (a + b) 2).symm
  rw [wrap_id (n := (a : Int) + (b : Int)) (by omega) (by omega), show ((a : Int) + (b : Int)) = ((a + b : Nat) : Int) by omega, h]
  exact wrap_id (by omega) (by omega)
theorem there_eq {N : Nat} (hN : big ≤ N) {l : List FileT} (hl : l.length ≤ 1000000) (ha : Asc l) (p : Str) : ref1_there N l p = some (hasB l p) := by
  have hb : (18446744073709551616 : Nat) ≤ N := hN
  unfold ref1_there
  let lt : Nat → Bool := fun j => match l[j]? with | some x => decide (x.1 < p) | none => false
  have ltv : ∀ j (h : j < l.length), lt j = decide (l[j].1 < p) := fun j h => by show (match l[j]? with | some x => decide (x.1 < p) | none => false) = _; rw [List.getElem?_eq_getElem h]
  have ord : ∀ i j (hi : i < l.length) (hj : j < l.length), i < j → l[i].1 < l[j].1 := fun i j hi hj h => List.pairwise_iff_getElem.1 ha i j hi hj h
  obtain ⟨c, h1, h2, h3, h4⟩ := bsearch (f := fun n a b => ref1_there_L0 N l p (fun o0_5 => br (decide (o0_5 < (l.length : Int))) (bnd (geti l o0_5) fun t34 => some (t34.1 == p)) (some false)) n a b) l.length lt (fun i j hij hj h => by
      rw [ltv j hj, decide_eq_true_eq] at h
      rw [ltv i (by omega), decide_eq_true_eq]
      rcases Nat.eq_or_lt_of_le hij with rfl | hij
      · exact h
      · exact List.lt_trans (ord i j (by omega) hj hij) h) (k := fun o => br (decide ((o : Int) < (l.length : Int))) (bnd (geti l (o : Int)) fun t34 => some (t34.1 == p)) (some false)) (fun n lo hi h1 h2 => by
      show ref1_there_L0T N l p _ (ref1_there_L0 N l p _ n) (lo : Int) (hi : Int) = _
      have hm : (lo + hi) / 2 < l.length := by omega
      have hw : IntKind.i64.wrap ((((lo + hi) / 2 : Nat) : Int) + 1) = (((lo + hi) / 2 + 1 : Nat) : Int) := by rw [wrap_id (by omega) (by omega)]; omega
      unfold ref1_there_L0T
      rw [br_pos (by omega : (lo : Int) < (hi : Int)), show ((2 : Int) == 0) = false from rfl, br_false, mid (by omega) (by omega), geti_lt l hm, bnd_some, hw, less_eq, ltv _ hm, br_eq_ite]) (fun n lo h => by
      show ref1_there_L0T N l p _ _ (lo : Int) (lo : Int) = _
      unfold ref1_there_L0T
      rw [br_neg (by omega)])
  refine (h4 N (by omega)).trans ?_
  by_cases hc : c < l.length
  · rw [br_pos (by omega : (c : Int) < (l.length : Int)), geti_lt l hc, bnd_some]
    congr 1
    cases h : hasB l p with
    | true =>
      obtain ⟨x, hx, e⟩ := hasB_iff.1 h
      obtain ⟨j, hj, rfl⟩ := List.getElem_of_mem hx
      have hcj : c ≤ j := by
        apply Classical.byContradiction
        intro hn
        have := h2 j (by omega)
        rw [ltv j hj, decide_eq_true_eq, e] at this
        exact List.lt_irrefl _ this
      have : j = c := by
        rcases Nat.eq_or_lt_of_le hcj with h | h
        · exact h.symm
        · have h5 := ord c j hc hj h
          have h6 := h3 c (Nat.le_refl _) hc
          rw [ltv c hc, decide_eq_false_iff_not, ← e] at h6
          exact absurd h5 h6
      subst this
      rw [e]; exact beq_self_eq_true _
    | false =>
      cases h5 : l[c].1 == p with
      | false => rfl
      | true =>
        rw [hasB_iff.2 ⟨l[c], List.getElem_mem _, eq_of_beq h5⟩] at h; cases h
  · rw [br_neg (by omega)]
    congr 1
    cases h : hasB l p with
    | false => rfl
    | true =>
      obtain ⟨x, hx, e⟩ := hasB_iff.1 h
      obtain ⟨j, hj, rfl⟩ := List.getElem_of_mem hx
      have := h2 j (by omega)
      rw [ltv j hj, decide_eq_true_eq, e] at this
      exact absurd this (List.lt_irrefl _)
/-- What is wrong at the i-th file. -/
def scanX (l : List FileT) (i : Nat) : Option Int := match l[i]? with
  | some x => if pathB x.1 = true then (if x.2.2.length ≤ 100000 then (if i = 0 then none else match l[i - 1]? with
    | some y => if y.1 < x.1 then none else some 8
    | none => none) else some 2) else some 3
  | none => none
/-- How many bytes the first i files have. -/
def totF (l : List FileT) : Nat → Int
  | 0 => 0
  | i + 1 => IntKind.i64.wrap (totF l i + match l[i]? with | some x => (x.2.2.length : Int) | none => 0)
theorem totF_succ {l : List FileT} {i : Nat} (h : i < l.length) : totF l (i + 1) = IntKind.i64.wrap (totF l i + (l[i].2.2.length : Int)) := by
  show IntKind.i64.wrap (totF l i + match l[i]? with | some x => (x.2.2.length : Int) | none => 0) = _
  rw [List.getElem?_eq_getElem h]
/-- What CheckFiles says. -/
def filesS (l : List FileT) : Int := if l.length ≤ 1000 then ((exits (scanX l) l.length 0).getD (if l.all (fun x => !clashB (hasB l) x.1) = true then (if totF l l.length > 2000000 then 2 else 0) else 12)) else 2
structure OkF (l : List FileT) : Prop where
  path : ∀ x ∈ l, pathB x.1 = true
  few : ∀ x ∈ l, x.2.2.length ≤ 100000
  asc : Asc l
theorem pathB_len {x : Str} (h : pathB x = true) : 1 ≤ x.length ∧ x.length ≤ 200 := by
  unfold pathB at h
  simp only [Bool.and_eq_true, decide_eq_true_eq] at h
  exact ⟨h.1, h.2.1⟩
theorem scan_ok (l : List FileT) : exits (scanX l) l.length 0 = none ↔ OkF l := by
  rw [exits_none]
  have key : ∀ i (hi : i < l.length), scanX l i = none ↔ pathB l[i].1 = true ∧ l[i].2.2.length ≤ 100000 ∧ ∀ y, i ≠ 0 → l[i - 1]? = some y → y.1 < l[i].1 := by
    intro i hi
    unfold scanX
    rw [List.getElem?_eq_getElem hi]
    show (if pathB l[i].1 = true then _ else _) = none ↔ _
    by_cases h1 : pathB l[i].1 = true
    · rw [if_pos h1]
      by_cases h2 : l[i].2.2.length ≤ 100000
      · rw [if_pos h2]
        by_cases h3 : i = 0
        · rw [if_pos h3]
          exact ⟨fun _ => ⟨h1, h2, fun y h _ => absurd h3 h⟩, fun _ => rfl⟩
        · rw [if_neg h3, List.getElem?_eq_getElem (by omega : i - 1 < l.length)]
          show (if _ then _ else _) = none ↔ _
          by_cases h4 : l[i - 1].1 < l[i].1
          · rw [if_pos h4]
            exact ⟨fun _ => ⟨h1, h2, fun y _ h => by rw [← Option.some.inj h]; exact h4⟩, fun _ => rfl⟩
          · rw [if_neg h4]
            exact ⟨fun h => (by cases h), fun h => absurd (h.2.2 _ h3 rfl) h4⟩
      · rw [if_neg h2]
        exact ⟨fun h => (by cases h), fun h => absurd h.2.1 h2⟩
    · rw [if_neg h1]
      exact ⟨fun h => (by cases h), fun h => absurd h.1 h1⟩
  constructor
  · intro h
    have h' : ∀ i (hi : i < l.length), _ := fun i hi => (key i hi).1 (h i (Nat.zero_le _) (by omega))
    refine ⟨fun x hx => ?_, fun x hx => ?_, (asc_iff l).1 fun i hi => (h' i hi).2.2⟩
    · obtain ⟨i, hi, rfl⟩ := List.getElem_of_mem hx; exact (h' i hi).1
    · obtain ⟨i, hi, rfl⟩ := List.getElem_of_mem hx; exact (h' i hi).2.1
  · intro h i _ hi
    have hi : i < l.length := by omega
    exact (key i hi).2 ⟨h.path _ (List.getElem_mem _), h.few _ (List.getElem_mem _), (asc_iff l).2 h.asc i hi⟩
theorem blob_CheckFiles_eq {N : Nat} (hN : big ≤ N) (l : List FileT) : blob_CheckFiles N l = some (filesS l) := by
  have hb : (18446744073709551616 : Nat) ≤ N := hN
  unfold blob_CheckFiles filesS
  by_cases h0 : l.length ≤ 1000
  case neg => rw [br_pos (by omega : (l.length : Int) > 1000), if_neg h0]
  rw [br_neg (by omega : ¬ (l.length : Int) > 1000), if_pos h0]
  refine (exit_loop (S := Int × Int × List (Str × Bool)) l.length (fun i => (totF l i, (i : Int), keysM ((l.take i).map (·.1)) [])) (fun i => (scanX l i).map some) (f := fun n s => blob_CheckFiles_L0 N l l (l.length : Int) _ n s.1 s.2.1 s.2.2) (r := blob_CheckFiles_L1 N l (l.length : Int) (keysM ((l.take l.length).map (·.1)) []) (br (decide (totF l l.length > 2000000)) (some 2) (some 0)) N 0) (fun n i hi => ?_) (fun n => ?_) N (by omega)).trans ?_
  · show blob_CheckFiles_L0T N l l _ _ (blob_CheckFiles_L0 N l l _ _ n) (totF l i) (i : Int) _ = _
    have hw : IntKind.i64.wrap ((i : Int) + 1) = ((i + 1 : Nat) : Int) := by rw [wrap_id (by omega) (by omega)]; omega
    have e2 : keysM ((l.take (i + 1)).map (·.1)) [] = mset (keysM ((l.take i).map (·.1)) []) l[i].1 true := by rw [List.take_succ_eq_append_getElem hi, List.map_append]; exact keysM_snoc _ _ _
    show _ = (Option.map some (scanX l i)).getD (blob_CheckFiles_L0 N l l _ _ n (totF l (i + 1)) ((i + 1 : Nat) : Int) (keysM ((l.take (i + 1)).map (·.1)) []))
    unfold blob_CheckFiles_L0T
    rw [br_pos (by omega : (i : Int) < (l.length : Int)), geti_lt l hi, bnd_some, isPath_eq, isPath_all hN, bnd_some, hw, e2, totF_succ hi]
    unfold scanX
    rw [List.getElem?_eq_getElem hi]
    dsimp only
    by_cases h1 : pathB l[i].1 = true
    · rw [h1, if_pos rfl, Bool.not_true, br_false]
      by_cases h2 : l[i].2.2.length ≤ 100000
      · rw [br_neg (by omega : ¬ (l[i].2.2.length : Int) > 100000), if_pos h2]
        by_cases h3 : i = 0
        · rw [br_neg (by omega : ¬ (i : Int) > 0), if_pos h3]; rfl
        · have hp : IntKind.i64.wrap ((i : Int) - 1) = ((i - 1 : Nat) : Int) := by rw [wrap_id (by omega) (by omega)]; omega
          rw [br_pos (by omega : (i : Int) > 0), if_neg h3, hp, geti_lt l (by omega : i - 1 < l.length), bnd_some, List.getElem?_eq_getElem (by omega : i - 1 < l.length), le_not]
          dsimp only
          by_cases h4 : l[i - 1].1 < l[i].1
          · rw [if_pos h4, decide_eq_true h4]; simp
          · rw [if_neg h4, decide_eq_false h4]; simp
      · rw [br_pos (by omega : (l[i].2.2.length : Int) > 100000), if_neg h2]; simp
    · rw [if_neg h1]
      rw [Bool.not_eq_true] at h1
      rw [h1]; simp
  · show blob_CheckFiles_L0T N l l _ _ _ _ (l.length : Int) _ = _
    unfold blob_CheckFiles_L0T
    rw [br_neg (by omega)]
  · rw [exits_map]
    cases h : exits (scanX l) l.length 0 with
    | some z => rfl
    | none =>
      have ok := (scan_ok l).1 h
      show blob_CheckFiles_L1 N l _ _ _ N 0 = some (if _ then _ else _)
      rw [scan_loop (xs := l) (fun x => !clashB (hasB l) x.1) (k := br (decide (totF l l.length > 2000000)) (some 2) (some 0)) (bad := some 12) (f := fun n i => blob_CheckFiles_L1 N l _ _ _ n i) (fun n i hi => ?_) (fun n => ?_) N (by omega)]
      · by_cases h5 : totF l l.length > 2000000
        · rw [br_pos h5, if_pos h5]; split <;> rfl
        · rw [br_neg h5, if_neg h5]; split <;> rfl
      · show blob_CheckFiles_L1T N l _ _ _ (blob_CheckFiles_L1 N l _ _ _ n) (i : Int) = _
        have hw : IntKind.i64.wrap ((i : Int) + 1) = ((i + 1 : Nat) : Int) := by rw [wrap_id (by omega) (by omega)]; omega
        have hlen := pathB_len (ok.path l[i] (List.getElem_mem _))
        unfold blob_CheckFiles_L1T
        rw [br_pos (by omega : (i : Int) < (l.length : Int)), geti_lt l hi, bnd_some, clash_blob hN (has := hasB l) (fun p => ?_) (by omega), bnd_some, hw]
        · cases clashB (hasB l) l[i].1 <;> simp
        · rw [keysM_get, List.take_length, List.any_map]
          show _ = l.any _
          cases h6 : l.any ((fun x => p == x) ∘ fun x => x.1) with
          | true => exact h6.symm
          | false => exact h6.symm
      · show blob_CheckFiles_L1T N l _ _ _ _ (l.length : Int) = _
        unfold blob_CheckFiles_L1T
        rw [br_neg (by omega)]
theorem ref_CheckFiles_eq {N : Nat} (hN : big ≤ N) (l : List FileT) : ref1_CheckFiles N l = some (filesS l) := by
  have hb : (18446744073709551616 : Nat) ≤ N := hN
  unfold ref1_CheckFiles filesS
  by_cases h0 : l.length ≤ 1000
  case neg => rw [br_pos (by omega : (l.length : Int) > 1000), if_neg h0]
  rw [br_neg (by omega : ¬ (l.length : Int) > 1000), if_pos h0]
  refine (exit_loop (S := Int × Int) l.length (fun i => (totF l i, (i : Int))) (fun i => (scanX l i).map some) (f := fun n s => ref1_CheckFiles_L0 N l _ n s.1 s.2) (r := ref1_CheckFiles_L1 N l (br (decide (totF l l.length > 2000000)) (some 2) (some 0)) N 0) (fun n i hi => ?_) (fun n => ?_) N (by omega)).trans ?_
  · show ref1_CheckFiles_L0T N l _ (ref1_CheckFiles_L0 N l _ n) (totF l i) (i : Int) = _
    have hw : IntKind.i64.wrap ((i : Int) + 1) = ((i + 1 : Nat) : Int) := by rw [wrap_id (by omega) (by omega)]; omega
    show _ = (Option.map some (scanX l i)).getD (ref1_CheckFiles_L0 N l _ n (totF l (i + 1)) ((i + 1 : Nat) : Int))
    unfold ref1_CheckFiles_L0T
    simp only [geti_lt l hi, bnd_some]
    rw [br_pos (by omega : (i : Int) < (l.length : Int)), isPath_all hN, bnd_some, hw, totF_succ hi]
    unfold scanX
    rw [List.getElem?_eq_getElem hi]
    dsimp only
    by_cases h1 : pathB l[i].1 = true
    · rw [h1, if_pos rfl, Bool.not_true, br_false]
      by_cases h2 : l[i].2.2.length ≤ 100000
      · rw [br_neg (by omega : ¬ (l[i].2.2.length : Int) > 100000), if_pos h2]
        by_cases h3 : i = 0
        · rw [br_neg (by omega : ¬ (i : Int) > 0), if_pos h3]; rfl
        · have hp : IntKind.i64.wrap ((i : Int) - 1) = ((i - 1 : Nat) : Int) := by rw [wrap_id (by omega) (by omega)]; omega
          rw [br_pos (by omega : (i : Int) > 0), if_neg h3, hp, geti_lt l (by omega : i - 1 < l.length), bnd_some, List.getElem?_eq_getElem (by omega : i - 1 < l.length), le_not]
          dsimp only
          by_cases h4 : l[i - 1].1 < l[i].1
          · rw [if_pos h4, decide_eq_true h4]; simp
          · rw [if_neg h4, decide_eq_false h4]; simp
      · rw [br_pos (by omega : (l[i].2.2.length : Int) > 100000), if_neg h2]; simp
    · rw [if_neg h1]
      rw [Bool.not_eq_true] at h1
      rw [h1]; simp
  · show ref1_CheckFiles_L0T N l _ _ _ (l.length : Int) = _
    unfold ref1_CheckFiles_L0T
    rw [br_neg (by omega)]
  · rw [exits_map]
    cases h : exits (scanX l) l.length 0 with
    | some z => rfl
    | none =>
      have ok := (scan_ok l).1 h
      show ref1_CheckFiles_L1 N l _ N 0 = some (if _ then _ else _)
      rw [scan_loop (xs := l) (fun x => !clashB (hasB l) x.1) (k := br (decide (totF l l.length > 2000000)) (some 2) (some 0)) (bad := some 12) (f := fun n i => ref1_CheckFiles_L1 N l _ n i) (fun n i hi => ?_) (fun n => ?_) N (by omega)]
      · by_cases h5 : totF l l.length > 2000000
        · rw [br_pos h5, if_pos h5]; split <;> rfl
        · rw [br_neg h5, if_neg h5]; split <;> rfl
      · show ref1_CheckFiles_L1T N l _ (ref1_CheckFiles_L1 N l _ n) (i : Int) = _
        have hw : IntKind.i64.wrap ((i : Int) + 1) = ((i + 1 : Nat) : Int) := by rw [wrap_id (by omega) (by omega)]; omega
        have hlen := pathB_len (ok.path l[i] (List.getElem_mem _))
        unfold ref1_CheckFiles_L1T
        rw [br_pos (by omega : (i : Int) < (l.length : Int)), geti_lt l hi, bnd_some, clash_ref hN (has := hasB l) (fun p => there_eq hN (by omega) ok.asc p) (by omega), bnd_some, hw]
        cases clashB (hasB l) l[i].1 <;> simp
      · show ref1_CheckFiles_L1T N l _ _ (l.length : Int) = _
        unfold ref1_CheckFiles_L1T
        rw [br_neg (by omega)]
/-- What is known of right files. -/
structure FilesOk (l : List FileT) : Prop where
  len : l.length ≤ 1000
  ok : OkF l
  calm : ∀ x ∈ l, clashB (hasB l) x.1 = false
  tot : ¬ totF l l.length > 2000000
theorem files_iff (l : List FileT) : filesS l = 0 ↔ FilesOk l := by
  unfold filesS
  constructor
  · intro h
    by_cases h0 : l.length ≤ 1000
    case neg => rw [if_neg h0] at h; cases h
    rw [if_pos h0] at h
    cases hx : exits (scanX l) l.length 0 with
    | some z =>
      rw [hx] at h
      obtain ⟨j, _, h2, h3, _⟩ := exits_some hx
      have h : z = 0 := h
      subst h
      unfold scanX at h3
      split at h3
      · split at h3
        · split at h3
          · split at h3
            · cases h3
            · split at h3
              · split at h3 <;> cases h3
              · cases h3
          · cases h3
        · cases h3
      · cases h3
    | none =>
      rw [hx] at h
      have ok := (scan_ok l).1 hx
      have h : (if l.all (fun x => !clashB (hasB l) x.1) = true then (if totF l l.length > 2000000 then (2 : Int) else 0) else 12) = 0 := h
      split at h
      · rename_i h1
        split at h
        · cases h
        · rename_i h2
          exact ⟨h0, ok, fun x hx => by have := List.all_eq_true.1 h1 x hx; simpa using this, h2⟩
      · cases h
  · intro h
    rw [if_pos h.len, (scan_ok l).2 h.ok, if_pos (List.all_eq_true.2 fun x hx => by simp [h.calm x hx]), if_neg h.tot]; rfl
end Go.Proofs.YthlkidohpiebiaaDoor


/- The arguments of a law, with how much they hold together ('bulk'). -/
namespace Go.Proofs.YthlkidohpiebiaaDoor
set_option linter.unusedVariables false
set_option linter.unusedSimpArgs false
open Go Go.RowKit Go.ChangeShapes Go.WideShapes
/-- How many values and letters data hold. -/
def bulkG (rb : (i : RC) → i.den → Nat) : (t : Ty) → t.den → Nat
  | .u8, _ => 1
  | .int _, _ => 1
  | .bool, _ => 1
  | .str, x => x.length + 1
  | .sl t, xs => (xs.map (bulkG rb t)).sum + 1
  | .pr a b, x => bulkG rb a x.1 + bulkG rb b x.2
  | .un, _ => 0
  | .mp _, _ => 0
  | .ptr _, _ => 0
  | .np _, _ => 0
  | .clo _ _, _ => 0
  | .rc i, x => rb i x
def RbOk (rb : (i : RC) → i.den → Nat) : Prop := ∀ i x, rb i (i.mk x) ≤ bulkG rb i.body x + 1
def GValue.bulk : GValue → Nat
  | .mk _ t _ l cs => 1 + (t.length + 1 + (1 + ((l.map (·.length + 1)).sum + 1 + ((cs.attach.map (fun c => c.1.1.length + 1 + GValue.bulk c.1.2)).sum + 1)))) + 1
termination_by v => SizeOf.sizeOf v
decreasing_by
  have := List.sizeOf_lt_of_mem c.2
  have h2 : SizeOf.sizeOf c.1 = 1 + SizeOf.sizeOf c.1.1 + SizeOf.sizeOf c.1.2 := by cases c.1; rfl
  simp_wf
  omega
def GExpr.bulk : GExpr → Nat
  | .mk _ t _ l cs => 1 + (t.length + 1 + (1 + ((l.map (·.length + 1)).sum + 1 + ((cs.attach.map (fun c => GExpr.bulk c.1)).sum + 1)))) + 1
termination_by v => SizeOf.sizeOf v
decreasing_by
  have := List.sizeOf_lt_of_mem c.2
  simp_wf
  omega
def GStmt.bulk : GStmt → Nat
  | .mk _ n t l a e b f _ => 1 + (n.length + 1 + (t.length + 1 + ((l.map (·.length + 1)).sum + 1 + ((a.map (fun c => c.1.length + 1 + c.2.bulk)).sum + 1 + (e.bulk + ((b.attach.map (fun c => GStmt.bulk c.1)).sum + 1 + ((f.attach.map (fun c => GStmt.bulk c.1)).sum + 1 + 1))))))) + 1
termination_by v => SizeOf.sizeOf v
decreasing_by
  all_goals
    have := List.sizeOf_lt_of_mem c.2
    simp_wf
    omega
def rbC : (i : RC) → i.den → Nat
  | .value, x => GValue.bulk x
  | .expr, x => GExpr.bulk x
  | .stmt, x => GStmt.bulk x
theorem attach_map {α β : Type} (f : α → β) (l : List α) : l.attach.map (fun c => f c.1) = l.map f := by
  rw [show (fun c : {x // x ∈ l} => f c.1) = f ∘ Subtype.val from rfl, ← List.map_map, List.attach_map_subtype_val]
theorem rbC_ok : RbOk rbC := by
  intro i x
  cases i with
  | value =>
    obtain ⟨k, t, n, l, cs⟩ := x
    have e : GValue.bulk (.mk k t n l cs) = bulkG rbC RC.value.body ((k, t, n, l, cs) : RC.value.body.den) + 1 := by
      rw [GValue.bulk, attach_map (fun c : Str × GValue => c.1.length + 1 + GValue.bulk c.2) cs]; rfl
    exact Nat.le_of_eq e
  | expr =>
    obtain ⟨k, t, n, l, cs⟩ := x
    have e : GExpr.bulk (.mk k t n l cs) = bulkG rbC RC.expr.body ((k, t, n, l, cs) : RC.expr.body.den) + 1 := by
      rw [GExpr.bulk, attach_map (fun c : GExpr => GExpr.bulk c) cs]; rfl
    exact Nat.le_of_eq e
  | stmt =>
    obtain ⟨k, n, t, l, a, e, b, f, p⟩ := x
    have e : GStmt.bulk (.mk k n t l a e b f p) = bulkG rbC RC.stmt.body ((k, n, t, l, a, e, b, f, p) : RC.stmt.body.den) + 1 := by
      rw [GStmt.bulk, attach_map (fun c : GStmt => GStmt.bulk c) b, attach_map (fun c : GStmt => GStmt.bulk c) f]; rfl
    exact Nat.le_of_eq e
section
variable {H : Type} {enc : TypeId × Value → H} {P : Program} {w : World} {spare : Nat → Bool} {held : Bool} {R : RC → Option TypeId} {rb : (i : RC) → i.den → Nat}
theorem uptoAll_cons (d : DataW H) (r : List (DataW H)) : Rows.uptoBulkAll (d :: r) = Rows.uptoBulk d + Rows.uptoBulkAll r := by simp [Rows.uptoBulkAll]
theorem uptoAll_nil : Rows.uptoBulkAll ([] : List (DataW H)) = 0 := by simp [Rows.uptoBulkAll]
theorem sum_le {α : Type} (f : α → Nat) : ∀ (l : List α) (e : List (DataW H × List MemPlace)), l.length = e.length → (∀ i (h : i < l.length) (h' : i < e.length), f l[i] ≤ Rows.uptoBulk e[i].1) → (l.map f).sum ≤ Rows.uptoBulkAll (e.map (·.1))
  | [], e, _, _ => by simp
  | x :: l, [], h, _ => by simp at h
  | x :: l, y :: e, h, hf => by
    have h0 := hf 0 (by simp) (by simp)
    have ih := sum_le f l e (by simpa using h) (fun i h1 h2 => by have := hf (i + 1) (by simpa using h1) (by simpa using h2); simpa using this)
    simp only [List.map_cons, List.sum_cons, uptoAll_cons]
    simp only [List.getElem_cons_zero] at h0
    omega
theorem fields_bulk {fuel : Nat} {cs : List Value}
    (ih : ∀ (t : Ty) (T : TypeId) (cs : List Value) (x : DataW H × List MemPlace), Deep P R t T → DataW.trod enc P w 0 spare held fuel T cs = some x → ∃ d : t.den, RepC M00 w t d cs ∧ Fit t d ∧ bulkG rb t d ≤ Rows.uptoBulk x.1) :
    ∀ (fs : List Field) (t : Ty) (o : Nat) (xs : List (DataW H × List MemPlace)), DeepF P R t fs o →
      (fs.mapM fun f => DataW.trod enc P w 0 spare held fuel f.type ((cs.drop f.offset).take (P.cellsOf f.type))) = some xs → ∃ d : t.den, RepC M00 w t d ((cs.drop o).take t.sz) ∧ Fit t d ∧ bulkG rb t d ≤ Rows.uptoBulkAll (xs.map (·.1)) := by
  intro fs
  induction fs with
  | nil =>
    intro t o xs hd _
    cases hd
    exact ⟨(), List.take_zero, trivial, Nat.zero_le _⟩
  | cons f fs hfs =>
    intro t o xs hd hm
    obtain ⟨y, ys, hy, hys, rfl⟩ : ∃ y ys, DataW.trod enc P w 0 spare held fuel f.type ((cs.drop f.offset).take (P.cellsOf f.type)) = some y ∧ (fs.mapM fun f => DataW.trod enc P w 0 spare held fuel f.type ((cs.drop f.offset).take (P.cellsOf f.type))) = some ys ∧ xs = y :: ys := by
      rw [List.mapM_cons] at hm
      cases hy : DataW.trod enc P w 0 spare held fuel f.type ((cs.drop f.offset).take (P.cellsOf f.type)) with
      | none => rw [hy] at hm; cases hm
      | some y =>
        rw [hy] at hm
        cases hys : (fs.mapM fun f => DataW.trod enc P w 0 spare held fuel f.type ((cs.drop f.offset).take (P.cellsOf f.type))) with
        | none => rw [hys] at hm; cases hm
        | some ys => rw [hys] at hm; exact ⟨y, ys, rfl, rfl, (Option.some.inj hm).symm⟩
    rw [List.map_cons, uptoAll_cons]
    cases hd with
    | one ho hc h1 =>
      rw [ho, hc] at hy
      obtain ⟨d, h1, h2, h3⟩ := ih _ _ _ _ h1 hy
      exact ⟨d, h1, h2, by omega⟩
    | single ho hc h1 =>
      rw [ho, hc] at hy
      obtain ⟨d, hd1, hd2, hd3⟩ := ih _ _ _ _ h1 hy
      refine ⟨(d, ()), ⟨_, [], (List.append_nil _).symm, hd1, rfl⟩, ⟨hd2, trivial⟩, ?_⟩
      show bulkG rb _ d + 0 ≤ _
      omega
    | @cons a b _ _ _ ho hc h1 h2 =>
      rw [ho, hc] at hy
      obtain ⟨d, hd1, hd2, hd3⟩ := ih _ _ _ _ h1 hy
      obtain ⟨e, he1, he2, he3⟩ := hfs _ _ _ h2 hys
      refine ⟨(d, e), ⟨_, _, ?_, hd1, he1⟩, ⟨hd2, he2⟩, ?_⟩
      · show (cs.drop o).take (a.sz + b.sz) = _
        rw [List.take_add, List.drop_drop]
      · show bulkG rb a d + bulkG rb b e ≤ _
        omega
theorem trod_bulk (hR : RcOk P R) (hrb : RbOk rb) : ∀ (fuel : Nat) (t : Ty) (T : TypeId) (cs : List Value) (x : DataW H × List MemPlace), Deep P R t T → DataW.trod enc P w 0 spare held fuel T cs = some x →
    ∃ d : t.den, RepC M00 w t d cs ∧ Fit t d ∧ bulkG rb t d ≤ Rows.uptoBulk x.1 := by
  intro fuel
  induction fuel with
  | zero => intro t T cs x _ h; cases h
  | succ fuel ih =>
    intro t T cs x hd h
    have hstruct : ∀ (t : Ty) (fs : Array Field), P.underlying T = some (.struct fs) → P.cellsOf T = t.sz → DeepF P R t fs.toList 0 → ∃ d : t.den, RepC M00 w t d cs ∧ Fit t d ∧ bulkG rb t d + 1 ≤ Rows.uptoBulk x.1 := fun t fs hu hc hf => by
      unfold DataW.trod at h
      simp only [hu] at h
      split at h
      · rename_i hl
        cases hm : (fs.toList.mapM fun f => DataW.trod enc P w 0 spare held fuel f.type ((cs.drop f.offset).take (P.cellsOf f.type))) with
        | none => rw [hm] at h; cases h
        | some xs =>
          rw [hm] at h
          obtain ⟨d, h1, h2, h3⟩ := fields_bulk ih fs.toList t 0 xs hf hm
          rw [List.drop_zero, List.take_of_length_le (by omega)] at h1
          refine ⟨d, h1, h2, ?_⟩
          injection h with h
          subst h
          simp only [Rows.uptoBulk]
          omega
      · cases h
    cases hd with
    | u8 hu =>
      have hx : ∃ n, cs = [.int .u8 n] ∧ (Lit.int .u8 n).wf = true ∧ x.1 = .lit (.int .u8 n) := by
        unfold DataW.trod at h
        split at h
        all_goals try (simp_all; done)
        rename_i k' n hu2
        rw [hu] at hu2
        cases hu2
        split at h
        · rename_i hc
          obtain ⟨rfl, hc⟩ := hc
          exact ⟨n, rfl, hc, by injection h with h; rw [← h]⟩
        · cases h
      obtain ⟨n, rfl, hn, hx⟩ := hx
      refine ⟨UInt8.ofNat n.toNat, ?_, trivial, by rw [hx]; simp [Rows.uptoBulk, bulkG]⟩
      show [Value.int .u8 n] = [Value.int .u8 (UInt8.ofNat n.toNat).toNat]
      simp [Lit.wf, IntKind.min, IntKind.max, IntKind.signed, IntKind.bits] at hn
      have : ((UInt8.ofNat n.toNat).toNat : Int) = n := by simp; omega
      rw [this]
    | @int _ k hu =>
      have hx : ∃ n, cs = [.int k n] ∧ (Lit.int k n).wf = true ∧ x.1 = .lit (.int k n) := by
        unfold DataW.trod at h
        split at h
        all_goals try (simp_all; done)
        rename_i k1 k' n hu2
        rw [hu] at hu2
        cases hu2
        split at h
        · rename_i hc
          obtain ⟨rfl, hc⟩ := hc
          exact ⟨n, rfl, hc, by injection h with h; rw [← h]⟩
        · cases h
      obtain ⟨n, rfl, hn, hx⟩ := hx
      exact ⟨n, rfl, hn, by rw [hx]; simp [Rows.uptoBulk, bulkG]⟩
    | bool hu =>
      have hx : ∃ b, cs = [.bool b] ∧ x.1 = .lit (.bool b) := by
        unfold DataW.trod at h
        split at h
        all_goals try (simp_all; done)
        injection h with h
        exact ⟨_, rfl, by rw [← h]⟩
      obtain ⟨b, rfl, hx⟩ := hx
      exact ⟨b, rfl, trivial, by rw [hx]; simp [Rows.uptoBulk, bulkG]⟩
    | str hu =>
      have hx : ∃ s : ByteArray, cs = [.string s] ∧ s.size ≤ maxLen ∧ x.1 = .lit (.string s.data.toList) := by
        unfold DataW.trod at h
        split at h
        all_goals try (simp_all; done)
        split at h
        · rename_i hc
          injection h with h
          exact ⟨_, rfl, hc, by rw [← h]⟩
        · cases h
      obtain ⟨s, rfl, hn, hx⟩ := hx
      refine ⟨s.data.toList, ?_, ?_, by rw [hx]; simp [Rows.uptoBulk, bulkG]⟩
      · show [Value.string s] = [Value.string ⟨s.data.toList.toArray⟩]
        simp
      · show s.data.toList.length ≤ maxLen
        simpa using hn
    | @sl _ e t hu hc he =>
      have hx : (cs = [.slice none 0 0] ∧ x.1 = .nil) ∨ ∃ a len cap elems rest, cs = [.slice (some a) len cap] ∧ len ≤ cap ∧ cap ≤ maxLen ∧
          ((List.range len).mapM fun i => (w.cells? 0 (a.add (i * P.cellsOf e)) (P.cellsOf e)).bind (DataW.trod enc P w 0 spare held fuel e)) = some elems ∧ x.1 = .slice (elems.map (·.1)) rest := by
        unfold DataW.trod at h
        split at h
        all_goals try (simp_all; done)
        · injection h with h
          exact .inl ⟨rfl, by rw [← h]⟩
        · rename_i hu2
          rw [hu] at hu2
          cases hu2
          simp only at h
          split at h
          · rename_i hb
            right
            cases hm : ((List.range _).mapM fun i => (w.cells? 0 (Addr.add _ (i * P.cellsOf e)) (P.cellsOf e)).bind (DataW.trod enc P w 0 spare held fuel e)) with
            | none => rw [hm] at h; cases h
            | some ys =>
              rw [hm] at h
              simp only [Option.bind_some, Option.map_eq_some_iff] at h
              obtain ⟨rest, _, h⟩ := h
              exact ⟨_, _, _, ys, rest.map (·.1), rfl, hb.2.1, hb.2.2, hm, by rw [← h]⟩
          · cases h
      rcases hx with ⟨rfl, hx⟩ | ⟨a, len, cap, elems, rest, rfl, h1, h2, hm, hx⟩
      · refine ⟨[], ⟨none, 0, rfl, Nat.le_refl _, Nat.zero_le _, fun i h => absurd h (Nat.not_lt_zero _)⟩, ⟨Nat.zero_le _, fun x h => (by cases h)⟩, ?_⟩
        rw [hx]; simp [Rows.uptoBulk, bulkG]
      · have hl := mapM_some_length hm
        rw [List.length_range] at hl
        have hall : ∀ i, i < len → ∃ d : t.den, (∃ es, RepC M00 w t d es ∧ Pl M00 w (a.add (i * t.sz)) es) ∧ Fit t d ∧ ∀ h : i < elems.length, bulkG rb t d ≤ Rows.uptoBulk elems[i].1 := fun i hi => by
          have hi' : i < elems.length := by omega
          have hy := mapM_some_get hm i i (by rw [List.getElem?_range hi])
          rw [List.getElem?_eq_getElem hi'] at hy
          simp only [hc] at hy
          cases hcs : w.cells? 0 (a.add (i * t.sz)) t.sz with
          | none => rw [hcs] at hy; cases hy
          | some es =>
            rw [hcs] at hy
            obtain ⟨d, hd1, hd2, hd3⟩ := ih _ _ _ _ he hy
            exact ⟨d, ⟨es, hd1, pl_of_cells hcs⟩, hd2, fun _ => hd3⟩
        obtain ⟨l, hll, hp⟩ := choose_list len hall
        refine ⟨l, ⟨some a, cap, ?_, by omega, h2, fun i hi => ?_⟩, ⟨?_, fun x hx => ?_⟩, ?_⟩
        · rw [hll]
        · obtain ⟨⟨es, e1, e2⟩, _⟩ := hp i hi
          exact ⟨a, es, rfl, e1, e2⟩
        · show l.length ≤ maxLen; omega
        · obtain ⟨i, hi, rfl⟩ := List.getElem_of_mem hx
          exact (hp i hi).2.1
        · rw [hx]
          simp only [Rows.uptoBulk, bulkG]
          have := sum_le (bulkG rb t) l elems (by omega) (fun i h1 h2 => (hp i h1).2.2 h2)
          omega
    | st hu hc ha hf =>
      obtain ⟨d, h1, h2, h3⟩ := hstruct t _ hu hc hf
      exact ⟨d, h1, h2, by omega⟩
    | rc hr =>
      obtain ⟨fs, hu, hc, hf⟩ := hR _ _ hr
      rename_i i
      obtain ⟨d, h1, h2, h3⟩ := hstruct i.body fs hu (by rw [hc, RC.sz_body]) hf
      refine ⟨i.mk d, RepC.rc.2 (by rw [RC.un_mk]; exact h1), FitR.intro (by rw [RC.un_mk]; exact h2), ?_⟩
      have := hrb i d
      show rb i (i.mk d) ≤ _
      omega
/-- An argument, with how much it holds. -/
theorem arg_openU (hR : RcOk P R) (hrb : RbOk rb) {r : Reach} {base : Nat} {t : Ty} {T : TypeId} {v : Value} {d : DataW H} {p : List MemPlace} (hd : Deep P R t T) (hv : Value.okWide P w r base T v) (h : DataW.Trod enc P w 0 spare held T v d p) :
    ∃ x : t.den, RepV M00 w t x v ∧ Fit t x ∧ bulkG rb t x ≤ Rows.uptoBulk d := by
  obtain ⟨fuel, hf⟩ := h
  obtain ⟨x, h1, h2, h3⟩ := trod_bulk hR hrb fuel t T _ _ hd hf
  refine ⟨x, ⟨_, h1, ?_⟩, h2, h3⟩
  have hagg : ∀ fs, P.underlying T = some (.struct fs) → t.isAgg = true → v = mkV t v.cells.toList := fun fs hu ha => by
    obtain ⟨cs, rfl, _⟩ := okWide_struct hu hv
    rw [mkV_agg ha]
    simp [Value.cells]
  have hone : ∀ c : Value, v = c → c.cells = #[c] → t.isAgg = false → v = mkV t v.cells.toList := fun c e hc ha => by
    subst e
    rw [hc, mkV_plain ha]
  cases hd with
  | u8 hu => obtain ⟨n, rfl⟩ := okWide_int hu hv; exact hone _ rfl rfl rfl
  | int hu => obtain ⟨n, rfl⟩ := okWide_int hu hv; exact hone _ rfl rfl rfl
  | bool hu => obtain ⟨n, rfl⟩ := okWide_bool hu hv; exact hone _ rfl rfl rfl
  | str hu => obtain ⟨n, rfl⟩ := okWide_string hu hv; exact hone _ rfl rfl rfl
  | sl hu _ _ => obtain ⟨a, l, c, rfl⟩ := okWide_slice hu hv; exact hone _ rfl rfl rfl
  | st hu _ ha _ => exact hagg _ hu ha
  | rc hr => obtain ⟨fs, hu, _⟩ := hR _ _ hr; exact hagg _ hu rfl
end
end Go.Proofs.YthlkidohpiebiaaDoor

