/- Patterns in the program and in its reference (law 6), in plain Lean. -/
import Derived.Test.YthlkidohpiebiaaDoorQEnd
import Derived.Test.YthlkidohpiebiaaDoorQSlc
import Derived.Test.YthlkidohpiebiaaDoorQBmSl
import Derived.Test.YthlkidohpiebiaaDoorRows
namespace Go.Proofs.YthlkidohpiebiaaDoor
set_option linter.unusedVariables false
set_option linter.unusedSimpArgs false
open Go Go.RowKit
theorem parts_len {x : Str} (h : x.length < 1000000) : (splitC 47 x).length ≤ 1000000 := by
  rw [splitC_len]
  have := List.count_le_length (a := (47 : UInt8)) (l := x)
  omega
theorem parts_le {x : Str} (h : x.length < 1000000) : ∀ q ∈ splitC 47 x, q.length ≤ 1000000 := fun q hq => by
  have := (splitC_mem 47 x q hq).2
  omega
theorem inPart_fin (N : Nat) : ∀ n : Fin 256, blob_inPart 0 (UInt8.ofNat n.1) = ref1_partByte 0 (UInt8.ofNat n.1) := by decide +kernel
theorem inPart_eq (N : Nat) (c : UInt8) : blob_inPart N c = ref1_partByte N c := by
  have h := inPart_fin 0 ⟨c.toNat, c.toNat_lt⟩
  have e : UInt8.ofNat c.toNat = c := by simp
  simp only [e] at h
  exact h
theorem isPart_eq (N : Nat) (x : Str) : blob_isPart N x = ref1_isPart N x := by
  have gen : ∀ (k : Option Bool) (n : Nat) (i : Int), blob_isPart_L0 N x (x.length : Int) k n i = ref1_isPart_L0 N x k n i := by
    intro k n
    induction n with
    | zero => intro i; rfl
    | succ n ih =>
      intro i
      show blob_isPart_L0T N x _ k _ i = ref1_isPart_L0T N x k _ i
      unfold blob_isPart_L0T ref1_isPart_L0T
      simp only [inPart_eq, ih]
  exact gen _ _ _
theorem isPath_eq (N : Nat) (x : Str) : blob_IsPath N x = ref1_IsPath N x := by
  have gen : ∀ (P : List Str) (k : Option Bool) (n : Nat) (i : Int), blob_IsPath_L0 N P (P.length : Int) k n i = ref1_IsPath_L0 N P k n i := by
    intro P k n
    induction n with
    | zero => intro i; rfl
    | succ n ih =>
      intro i
      show blob_IsPath_L0T N P _ k _ i = ref1_IsPath_L0T N P k _ i
      unfold blob_IsPath_L0T ref1_IsPath_L0T
      simp only [isPart_eq, ih]
  unfold blob_IsPath ref1_IsPath ref1_within
  simp only [gen]
  by_cases h1 : (x.length : Int) < 1
  · rw [br_pos h1, br_neg (by omega)]; simp
  · rw [br_neg h1]
    by_cases h2 : (x.length : Int) > 200
    · rw [br_pos h2, br_pos (by omega), decide_eq_false (by omega)]; simp
    · rw [br_neg h2, br_pos (by omega), decide_eq_true (by omega)]; simp
theorem scan_loop {α R : Type} {xs : List α} (ok : α → Bool) {k bad : Option R} {f : Nat → Int → Option R} (hstep : ∀ n i (hi : i < xs.length), f (n + 1) (i : Int) = if ok xs[i] = true then f n ((i + 1 : Nat) : Int) else bad)
    (hend : ∀ n, f (n + 1) (xs.length : Int) = k) : ∀ n, xs.length < n → f n 0 = if xs.all ok = true then k else bad := by
  have gen : ∀ (d n i : Nat), i + d = xs.length → d < n → f n (i : Int) = if (xs.drop i).all ok = true then k else bad := by
    intro d
    induction d with
    | zero =>
      intro n i h hn
      obtain ⟨n, rfl⟩ : ∃ j, n = j + 1 := ⟨n - 1, by omega⟩
      obtain rfl : i = xs.length := by omega
      rw [hend, List.drop_length]; rfl
    | succ d ih =>
      intro n i h hn
      obtain ⟨n, rfl⟩ : ∃ j, n = j + 1 := ⟨n - 1, by omega⟩
      have hi : i < xs.length := by omega
      rw [hstep n i hi, ih n (i + 1) (by omega) (by omega), List.drop_eq_getElem_cons hi, List.all_cons]
      cases ok xs[i] <;> simp
  intro n hn
  have := gen xs.length n 0 (by omega) hn
  simpa using this
def byteB (c : UInt8) : Bool := (ref1_partByte 0 c).getD false
theorem byte_fin : ∀ n : Fin 256, ref1_partByte 0 (UInt8.ofNat n.1) = some (byteB (UInt8.ofNat n.1)) := by decide +kernel
theorem byte_eq (N : Nat) (c : UInt8) : ref1_partByte N c = some (byteB c) := by
  have h := byte_fin ⟨c.toNat, c.toNat_lt⟩
  have e : UInt8.ofNat c.toNat = c := by simp
  simp only [e] at h
  exact h
theorem part_scan {N : Nat} {x : Str} (hx : x.length ≤ 1000000) (k : Option Bool) : ∀ n, x.length < n → ref1_isPart_L0 N x k n 0 = if x.all byteB = true then k else some false := by
  refine scan_loop byteB (fun n i hi => ?_) (fun n => ?_)
  · show ref1_isPart_L0T N x k _ (i : Int) = _
    have hw : IntKind.i64.wrap ((i : Int) + 1) = ((i + 1 : Nat) : Int) := by rw [wrap_id (by omega) (by omega)]; omega
    unfold ref1_isPart_L0T
    rw [br_pos (by omega : (i : Int) < (x.length : Int)), geti_lt x hi, bnd_some, byte_eq, bnd_some, hw]
    cases byteB x[i] <;> simp
  · show ref1_isPart_L0T N x k _ (x.length : Int) = _
    unfold ref1_isPart_L0T
    rw [br_neg (by omega)]
def partP (x : Str) : Bool := x.all byteB && !(x == []) && !(x == [46]) && !(x == [46, 46])
theorem isPart_val {N : Nat} (hN : big ≤ N) {x : Str} (hx : x.length ≤ 1000000) : ref1_isPart N x = some (partP x) := by
  have hb : (18446744073709551616 : Nat) ≤ N := hN
  unfold ref1_isPart partP
  rw [part_scan hx _ N (by omega)]
  cases x.all byteB <;> cases (x == ([] : Str)) <;> cases (x == ([46] : Str)) <;> cases (x == ([46, 46] : Str)) <;> simp
def pathB (x : Str) : Bool := decide (1 ≤ x.length) && (decide (x.length ≤ 200) && (splitC 47 x).all partP)
theorem isPath_val {N : Nat} (hN : big ≤ N) {x : Str} (h : x.length < 1000000) : ref1_IsPath N x = some (pathB x) := by
  have hb : (18446744073709551616 : Nat) ≤ N := hN
  unfold ref1_IsPath ref1_within pathB
  rw [strings_Split_one _ _ (by omega)]
  simp only [bnd_some]
  have hl := parts_len h
  have hP := parts_le h
  generalize splitC 47 x = P at hl hP ⊢
  have h1 : ref1_IsPath_L0 N P (some true) N 0 = if P.all partP = true then some true else some false := by
    refine scan_loop partP (fun n i hi => ?_) (fun n => ?_) N (by omega)
    · show ref1_IsPath_L0T N P _ _ (i : Int) = _
      have hw : IntKind.i64.wrap ((i : Int) + 1) = ((i + 1 : Nat) : Int) := by rw [wrap_id (by omega) (by omega)]; omega
      unfold ref1_IsPath_L0T
      rw [br_pos (by omega : (i : Int) < (P.length : Int)), geti_lt P hi, bnd_some, hw, isPart_val hN (hP P[i] (List.getElem_mem _)), bnd_some]
      cases partP P[i] <;> simp
    · show ref1_IsPath_L0T N P _ _ (P.length : Int) = _
      unfold ref1_IsPath_L0T
      rw [br_neg (by omega)]
  rw [h1]
  by_cases g0 : 1 ≤ x.length
  · rw [br_pos (by omega : (x.length : Int) ≥ 1), decide_eq_true g0]
    by_cases g1 : x.length ≤ 200
    · rw [decide_eq_true (by omega : (x.length : Int) ≤ 200), decide_eq_true g1]
      cases P.all partP <;> simp
    · rw [decide_eq_false (by omega : ¬ (x.length : Int) ≤ 200), decide_eq_false g1]; simp
  · rw [br_neg (by omega : ¬ (x.length : Int) ≥ 1), decide_eq_false g0]; simp
theorem awake_n (n : Nat) : law1_awake (n + 40) = some true := by kernel_rfl
theorem awake_ok {N : Nat} (hN : big ≤ N) : law1_awake N = some true := by
  have hb : (18446744073709551616 : Nat) ≤ N := hN
  obtain ⟨n, rfl⟩ : ∃ n, N = n + 40 := ⟨N - 40, by omega⟩
  exact awake_n n
theorem isPath_long {N : Nat} {x : Str} (h : ¬ x.length < 1000000) : ref1_IsPath N x = some false := by
  unfold ref1_IsPath ref1_within
  rw [br_pos (by omega), decide_eq_false (by omega)]
  simp
theorem isPath_all {N : Nat} (hN : big ≤ N) (x : Str) : ref1_IsPath N x = some (pathB x) := by
  by_cases h : x.length < 1000000
  · exact isPath_val hN h
  · rw [isPath_long h]; unfold pathB; rw [decide_eq_false (by omega : ¬ x.length ≤ 200)]; simp
end Go.Proofs.YthlkidohpiebiaaDoor


/- What CheckFiles says in the program and in its reference, in plain Lean. -/
namespace Go.Proofs.YthlkidohpiebiaaDoor
set_option linter.unusedVariables false
set_option linter.unusedSimpArgs false
open Go Go.RowKit
abbrev FileT := Str × Bool × List UInt8
theorem exits_map {α β : Type} (g : α → β) (ex : Nat → Option α) : ∀ d i, exits (fun i => (ex i).map g) d i = (exits ex d i).map g
  | 0, _ => rfl
  | d + 1, i => by
    unfold exits
    cases ex i with
    | some z => rfl
    | none => exact exits_map g ex d (i + 1)
theorem exits_any {α : Type} (c : Nat → Bool) (z r : α) (m : Nat) : (exits (fun i => if c i = true then some z else none) m 0).getD r = if (List.range m).any c = true then z else r := by
  cases h : exits (fun i => if c i = true then some z else none) m 0 with
  | none =>
    have h' := exits_none.1 h
    have : (List.range m).any c = false := by
      rw [List.any_eq_false]
      intro j hj hc
      have := h' j (Nat.zero_le _) (by simpa using hj)
      rw [if_pos hc] at this; cases this
    rw [this]; rfl
  | some y =>
    obtain ⟨j, _, h2, h3, _⟩ := exits_some h
    by_cases hc : c j = true
    · rw [if_pos hc] at h3
      have : (List.range m).any c = true := List.any_eq_true.2 ⟨j, by simpa using h2, hc⟩
      rw [this, if_pos rfl]
      exact (Option.some.inj h3).symm
    · rw [if_neg hc] at h3; cases h3
/-- Whether a path lies within one that is there. -/
def clashB (has : Str → Bool) (x : Str) : Bool := (List.range x.length).any fun i => x[i]? == some 47 && has (x.take i)
theorem clash_blob {N : Nat} (hN : big ≤ N) {m : List (Str × Bool)} {has : Str → Bool} (hm : ∀ p, (mget m p).getD (zero .bool) = has p) {x : Str} (hx : x.length ≤ 1000000) : blob_clashes N m x = some (clashB has x) := by
  have hb : (18446744073709551616 : Nat) ≤ N := hN
  unfold blob_clashes clashB
  refine (exit_loop (S := Int) x.length (fun i => (i : Int)) (fun i => if (x[i]? == some 47 && has (x.take i)) = true then some (some true) else none) (f := fun n s => blob_clashes_L0 N m x (x.length : Int) (some false) n s) (r := some false) (fun n i hi => ?_) (fun n => ?_) N (by omega)).trans ?_
  · show blob_clashes_L0T N m x _ _ (blob_clashes_L0 N m x _ _ n) (i : Int) = _
    have hw : IntKind.i64.wrap ((i : Int) + 1) = ((i + 1 : Nat) : Int) := by rw [wrap_id (by omega) (by omega)]; omega
    unfold blob_clashes_L0T
    rw [br_pos (by omega : (i : Int) < (x.length : Int)), geti_lt x hi, bnd_some, hw, slc_take x (Nat.le_of_lt hi), bnd_some, hm, List.getElem?_eq_getElem hi]
    show _ = Option.getD (if ((x[i] == 47) && has (x.take i)) = true then some (some true) else none) _
    cases x[i] == 47 <;> cases has (x.take i) <;> simp
  · show blob_clashes_L0T N m x _ _ _ (x.length : Int) = _
    unfold blob_clashes_L0T
    rw [br_neg (by omega)]
  · rw [exits_any]
    split
    · rename_i h; rw [h]
    · rename_i h; rw [Bool.not_eq_true] at h; rw [h]
def hasB {α : Type} (l : List (Str × α)) (p : Str) : Bool := l.any fun x => p == x.1
/-- What is wrong at the i-th file. -/
def scanX (l : List FileT) (i : Nat) : Option Int := match l[i]? with
  | some x => if pathB x.1 = true then (if x.2.2.length ≤ 100000 then (if i = 0 then none else match l[i - 1]? with
    | some y => if y.1 < x.1 then none else some 8
    | none => none) else some 2) else some 3
  | none => none
/-- How many bytes the first i files have. -/
def totF (l : List FileT) : Nat → Int
  | 0 => 0
  | i + 1 => IntKind.i64.wrap (totF l i + match l[i]? with | some x => (x.2.2.length : Int) | none => 0)
theorem totF_succ {l : List FileT} {i : Nat} (h : i < l.length) : totF l (i + 1) = IntKind.i64.wrap (totF l i + (l[i].2.2.length : Int)) := by
  show IntKind.i64.wrap (totF l i + match l[i]? with | some x => (x.2.2.length : Int) | none => 0) = _
  rw [List.getElem?_eq_getElem h]
/-- What CheckFiles says. -/
def filesS (l : List FileT) : Int := if l.length ≤ 1000 then ((exits (scanX l) l.length 0).getD (if l.all (fun x => !clashB (hasB l) x.1) = true then (if totF l l.length > 2000000 then 2 else 0) else 12)) else 2
structure OkF (l : List FileT) : Prop where
  path : ∀ x ∈ l, pathB x.1 = true
  few : ∀ x ∈ l, x.2.2.length ≤ 100000
  asc : Asc l
theorem pathB_len {x : Str} (h : pathB x = true) : 1 ≤ x.length ∧ x.length ≤ 200 := by
  unfold pathB at h
  simp only [Bool.and_eq_true, decide_eq_true_eq] at h
  exact ⟨h.1, h.2.1⟩
theorem scan_ok (l : List FileT) : exits (scanX l) l.length 0 = none ↔ OkF l := by
  rw [exits_none]
  have key : ∀ i (hi : i < l.length), scanX l i = none ↔ pathB l[i].1 = true ∧ l[i].2.2.length ≤ 100000 ∧ ∀ y, i ≠ 0 → l[i - 1]? = some y → y.1 < l[i].1 := by
    intro i hi
    unfold scanX
    rw [List.getElem?_eq_getElem hi]
    show (if pathB l[i].1 = true then _ else _) = none ↔ _
    by_cases h1 : pathB l[i].1 = true
    · rw [if_pos h1]
      by_cases h2 : l[i].2.2.length ≤ 100000
      · rw [if_pos h2]
        by_cases h3 : i = 0
        · rw [if_pos h3]
          exact ⟨fun _ => ⟨h1, h2, fun y h _ => absurd h3 h⟩, fun _ => rfl⟩
        · rw [if_neg h3, List.getElem?_eq_getElem (by omega : i - 1 < l.length)]
          show (if _ then _ else _) = none ↔ _
          by_cases h4 : l[i - 1].1 < l[i].1
          · rw [if_pos h4]
            exact ⟨fun _ => ⟨h1, h2, fun y _ h => by rw [← Option.some.inj h]; exact h4⟩, fun _ => rfl⟩
          · rw [if_neg h4]
            exact ⟨fun h => (by cases h), fun h => absurd (h.2.2 _ h3 rfl) h4⟩
      · rw [if_neg h2]
        exact ⟨fun h => (by cases h), fun h => absurd h.2.1 h2⟩
    · rw [if_neg h1]
      exact ⟨fun h => (by cases h), fun h => absurd h.1 h1⟩
  constructor
  · intro h
    have h' : ∀ i (hi : i < l.length), _ := fun i hi => (key i hi).1 (h i (Nat.zero_le _) (by omega))
    refine ⟨fun x hx => ?_, fun x hx => ?_, (asc_iff l).1 fun i hi => (h' i hi).2.2⟩
    · obtain ⟨i, hi, rfl⟩ := List.getElem_of_mem hx; exact (h' i hi).1
    · obtain ⟨i, hi, rfl⟩ := List.getElem_of_mem hx; exact (h' i hi).2.1
  · intro h i _ hi
    have hi : i < l.length := by omega
    exact (key i hi).2 ⟨h.path _ (List.getElem_mem _), h.few _ (List.getElem_mem _), (asc_iff l).2 h.asc i hi⟩
theorem blob_CheckFiles_eq {N : Nat} (hN : big ≤ N) (l : List FileT) : blob_CheckFiles N l = some (filesS l) := by
  have hb : (18446744073709551616 : Nat) ≤ N := hN
  unfold blob_CheckFiles filesS
  by_cases h0 : l.length ≤ 1000
  case neg => rw [br_pos (by omega : (l.length : Int) > 1000), if_neg h0]
  rw [br_neg (by omega : ¬ (l.length : Int) > 1000), if_pos h0]
  refine (exit_loop (S := Int × Int × List (Str × Bool)) l.length (fun i => (totF l i, (i : Int), keysM ((l.take i).map (·.1)) [])) (fun i => (scanX l i).map some) (f := fun n s => blob_CheckFiles_L0 N l l (l.length : Int) _ n s.1 s.2.1 s.2.2) (r := blob_CheckFiles_L1 N l (l.length : Int) (keysM ((l.take l.length).map (·.1)) []) (br (decide (totF l l.length > 2000000)) (some 2) (some 0)) N 0) (fun n i hi => ?_) (fun n => ?_) N (by omega)).trans ?_
  · show blob_CheckFiles_L0T N l l _ _ (blob_CheckFiles_L0 N l l _ _ n) (totF l i) (i : Int) _ = _
    have hw : IntKind.i64.wrap ((i : Int) + 1) = ((i + 1 : Nat) : Int) := by rw [wrap_id (by omega) (by omega)]; omega
    have e2 : keysM ((l.take (i + 1)).map (·.1)) [] = mset (keysM ((l.take i).map (·.1)) []) l[i].1 true := by rw [List.take_succ_eq_append_getElem hi, List.map_append]; exact keysM_snoc _ _ _
    show _ = (Option.map some (scanX l i)).getD (blob_CheckFiles_L0 N l l _ _ n (totF l (i + 1)) ((i + 1 : Nat) : Int) (keysM ((l.take (i + 1)).map (·.1)) []))
    unfold blob_CheckFiles_L0T
    rw [br_pos (by omega : (i : Int) < (l.length : Int)), geti_lt l hi, bnd_some, isPath_eq, isPath_all hN, bnd_some, hw, e2, totF_succ hi]
    unfold scanX
    rw [List.getElem?_eq_getElem hi]
    dsimp only
    by_cases h1 : pathB l[i].1 = true
    · rw [h1, if_pos rfl, Bool.not_true, br_false]
      by_cases h2 : l[i].2.2.length ≤ 100000
      · rw [br_neg (by omega : ¬ (l[i].2.2.length : Int) > 100000), if_pos h2]
        by_cases h3 : i = 0
        · rw [br_neg (by omega : ¬ (i : Int) > 0), if_pos h3]; rfl
        · have hp : IntKind.i64.wrap ((i : Int) - 1) = ((i - 1 : Nat) : Int) := by rw [wrap_id (by omega) (by omega)]; omega
          rw [br_pos (by omega : (i : Int) > 0), if_neg h3, hp, geti_lt l (by omega : i - 1 < l.length), bnd_some, List.getElem?_eq_getElem (by omega : i - 1 < l.length), le_not]
          dsimp only
          by_cases h4 : l[i - 1].1 < l[i].1
          · rw [if_pos h4, decide_eq_true h4]; simp
          · rw [if_neg h4, decide_eq_false h4]; simp
      · rw [br_pos (by omega : (l[i].2.2.length : Int) > 100000), if_neg h2]; simp
    · rw [if_neg h1]
      rw [Bool.not_eq_true] at h1
      rw [h1]; simp
  · show blob_CheckFiles_L0T N l l _ _ _ _ (l.length : Int) _ = _
    unfold blob_CheckFiles_L0T
    rw [br_neg (by omega)]
  · rw [exits_map]
    cases h : exits (scanX l) l.length 0 with
    | some z => rfl
    | none =>
      have ok := (scan_ok l).1 h
      show blob_CheckFiles_L1 N l _ _ _ N 0 = some (if _ then _ else _)
      rw [scan_loop (xs := l) (fun x => !clashB (hasB l) x.1) (k := br (decide (totF l l.length > 2000000)) (some 2) (some 0)) (bad := some 12) (f := fun n i => blob_CheckFiles_L1 N l _ _ _ n i) (fun n i hi => ?_) (fun n => ?_) N (by omega)]
      · by_cases h5 : totF l l.length > 2000000
        · rw [br_pos h5, if_pos h5]; split <;> rfl
        · rw [br_neg h5, if_neg h5]; split <;> rfl
      · show blob_CheckFiles_L1T N l _ _ _ (blob_CheckFiles_L1 N l _ _ _ n) (i : Int) = _
        have hw : IntKind.i64.wrap ((i : Int) + 1) = ((i + 1 : Nat) : Int) := by rw [wrap_id (by omega) (by omega)]; omega
        have hlen := pathB_len (ok.path l[i] (List.getElem_mem _))
        unfold blob_CheckFiles_L1T
        rw [br_pos (by omega : (i : Int) < (l.length : Int)), geti_lt l hi, bnd_some, clash_blob hN (has := hasB l) (fun p => ?_) (by omega), bnd_some, hw]
        · cases clashB (hasB l) l[i].1 <;> simp
        · rw [keysM_get, List.take_length, List.any_map]
          show _ = l.any _
          cases h6 : l.any ((fun x => p == x) ∘ fun x => x.1) with
          | true => exact h6.symm
          | false => exact h6.symm
      · show blob_CheckFiles_L1T N l _ _ _ _ (l.length : Int) = _
        unfold blob_CheckFiles_L1T
        rw [br_neg (by omega)]
/-- What is known of right files. -/
structure FilesOk (l : List FileT) : Prop where
  len : l.length ≤ 1000
  ok : OkF l
  calm : ∀ x ∈ l, clashB (hasB l) x.1 = false
  tot : ¬ totF l l.length > 2000000
theorem files_iff (l : List FileT) : filesS l = 0 ↔ FilesOk l := by
  unfold filesS
  constructor
  · intro h
    by_cases h0 : l.length ≤ 1000
    case neg => rw [if_neg h0] at h; cases h
    rw [if_pos h0] at h
    cases hx : exits (scanX l) l.length 0 with
    | some z =>
      rw [hx] at h
      obtain ⟨j, _, h2, h3, _⟩ := exits_some hx
      have h : z = 0 := h
      subst h
      unfold scanX at h3
      split at h3
      · split at h3
        · split at h3
          · split at h3
            · cases h3
            · split at h3
              · split at h3 <;> cases h3
              · cases h3
          · cases h3
        · cases h3
      · cases h3
    | none =>
      rw [hx] at h
      have ok := (scan_ok l).1 hx
      have h : (if l.all (fun x => !clashB (hasB l) x.1) = true then (if totF l l.length > 2000000 then (2 : Int) else 0) else 12) = 0 := h
      split at h
      · rename_i h1
        split at h
        · cases h
        · rename_i h2
          exact ⟨h0, ok, fun x hx => by have := List.all_eq_true.1 h1 x hx; simpa using this, h2⟩
      · cases h
  · intro h
    rw [if_pos h.len, (scan_ok l).2 h.ok, if_pos (List.all_eq_true.2 fun x hx => by simp [h.calm x hx]), if_neg h.tot]; rfl
end Go.Proofs.YthlkidohpiebiaaDoor


/- Names in order, each once; things put into order one by one. No program in sight. -/
namespace Go.Proofs.YthlkidohpiebiaaDoor
set_option linter.unusedVariables false
set_option linter.unusedSimpArgs false
open Go Go.RowKit
theorem str_ext : ∀ {a b : List Str}, a.Pairwise (· < ·) → b.Pairwise (· < ·) → (∀ n, n ∈ a ↔ n ∈ b) → a = b := fun {a b} ha hb h => by
  have e : ∀ c : List Str, c.Pairwise (· < ·) → Asc (c.map fun x => (x, ())) := fun c hc => by unfold Asc; rw [List.pairwise_map]; exact hc
  have := Asc.ext (e a ha) (e b hb) fun p => by
    simp only [List.mem_map]
    exact ⟨fun ⟨x, hx, hp⟩ => ⟨x, (h x).1 hx, hp⟩, fun ⟨x, hx, hp⟩ => ⟨x, (h x).2 hx, hp⟩⟩
  have := congrArg (List.map (·.1)) this
  simpa [List.map_map, Function.comp_def] using this
theorem sortStr_pw (xs : List Str) (hn : xs.Nodup) : (xs.mergeSort leStr).Pairwise (· < ·) := by
  have h1 := List.pairwise_mergeSort (le := leStr) (fun a b c h1 h2 => by
    simp only [leStr, decide_eq_true_eq] at *
    exact List.le_trans h1 h2) (fun a b => by
    simp only [leStr, Bool.or_eq_true, decide_eq_true_eq]
    exact List.le_total _ _) xs
  have h2 : (xs.mergeSort leStr).Nodup := (List.mergeSort_perm xs leStr).nodup_iff.2 hn
  refine (List.Pairwise.and h1 h2).imp fun {a b} ⟨hle, hne⟩ => ?_
  simp only [leStr, decide_eq_true_eq] at hle
  rcases List.le_iff_lt_or_eq.1 hle with h | h
  · exact h
  · exact absurd h hne
/-- Names that are put into a map. -/
def setM (m : List (Str × Bool)) (l : List Str) : List (Str × Bool) := l.foldl (fun m n => mset m n true) m
theorem mset_keys (m : List (Str × Bool)) (n : Str) (b : Bool) : ((m.map (·.1)).Nodup → ((mset m n b).map (·.1)).Nodup) ∧ ∀ x, x ∈ (mset m n b).map (·.1) ↔ x ∈ m.map (·.1) ∨ x = n := by
  induction m with
  | nil => exact ⟨fun _ => by simp [mset], fun x => by simp [mset]⟩
  | cons p m ih =>
    obtain ⟨k, v⟩ := p
    unfold mset
    by_cases h : n = k
    · subst h
      simp only [beq_self_eq_true, if_true]
      exact ⟨fun h => h, fun x => ⟨.inl, fun h => h.elim id fun e => by rw [e]; simp⟩⟩
    · have hb : (n == k) = false := by simpa using h
      simp only [hb, Bool.false_eq_true, if_false, List.map_cons]
      refine ⟨fun hn => ?_, fun x => ?_⟩
      · rw [List.nodup_cons] at hn ⊢
        refine ⟨fun hm => ?_, ih.1 hn.2⟩
        rcases (ih.2 k).1 hm with h1 | h1
        · exact hn.1 h1
        · exact h h1.symm
      · rw [List.mem_cons, List.mem_cons, ih.2]
        exact or_assoc.symm
theorem setM_keys : ∀ (l : List Str) (m : List (Str × Bool)), ((m.map (·.1)).Nodup → ((setM m l).map (·.1)).Nodup) ∧ ∀ x, x ∈ (setM m l).map (·.1) ↔ x ∈ m.map (·.1) ∨ x ∈ l
  | [], m => ⟨fun h => h, fun x => by simp [setM]⟩
  | n :: l, m => by
    have h1 := mset_keys m n true
    have h2 := setM_keys l (mset m n true)
    show ((m.map (·.1)).Nodup → ((setM (mset m n true) l).map (·.1)).Nodup) ∧ ∀ x, x ∈ (setM (mset m n true) l).map (·.1) ↔ _
    refine ⟨fun h => h2.1 (h1.1 h), fun x => ?_⟩
    rw [h2.2, h1.2, List.mem_cons, or_assoc]
theorem setM_app (m : List (Str × Bool)) (a b : List Str) : setM m (a ++ b) = setM (setM m a) b := by unfold setM; rw [List.foldl_append]
theorem setM_len (l : List Str) (m : List (Str × Bool)) : (setM m l).length ≤ m.length + l.length := by
  induction l generalizing m with
  | nil => exact Nat.le_refl _
  | cons n l ih =>
    have h1 : ∀ m : List (Str × Bool), (mset m n true).length ≤ m.length + 1 := fun m => by
      induction m with
      | nil => exact Nat.le_refl _
      | cons p m ih =>
        obtain ⟨k, v⟩ := p
        unfold mset
        split
        · simp
        · simp only [List.length_cons]; omega
    have h2 := ih (mset m n true)
    have h3 := h1 m
    show (setM (mset m n true) l).length ≤ _
    rw [List.length_cons]; omega
/-- The names, in order, each once. -/
def sortN (l : List Str) : List Str := ((setM [] l).map (·.1)).mergeSort leStr
theorem sortN_asc (l : List Str) : (sortN l).Pairwise (· < ·) := sortStr_pw _ ((setM_keys l []).1 List.nodup_nil)
theorem mem_sortN (l : List Str) (x : Str) : x ∈ sortN l ↔ x ∈ l := by
  unfold sortN
  rw [List.mem_mergeSort, (setM_keys l []).2]; simp
theorem sortN_of {l : List Str} {r : List Str} (h1 : r.Pairwise (· < ·)) (h2 : ∀ x, x ∈ r ↔ x ∈ l) : r = sortN l := str_ext h1 (sortN_asc l) fun x => (h2 x).trans (mem_sortN l x).symm
theorem sortN_len (l : List Str) : (sortN l).length ≤ l.length := by
  unfold sortN
  rw [List.length_mergeSort, List.length_map]
  have := setM_len l []
  simpa using this
/-- Where a row of truths ends. -/
theorem mono_split (m : Nat) (lt : Nat → Bool) (mono : ∀ i j, i ≤ j → j < m → lt j = true → lt i = true) : ∃ c, c ≤ m ∧ (∀ j, j < c → lt j = true) ∧ (∀ j, c ≤ j → j < m → lt j = false) := by
  have : ∀ d, d ≤ m → ∃ c, c ≤ d ∧ (∀ j, j < c → lt j = true) ∧ (∀ j, c ≤ j → j < d → lt j = false) := by
    intro d
    induction d with
    | zero => intro _; exact ⟨0, Nat.le_refl _, fun j h => absurd h (by omega), fun j h1 h2 => absurd h2 (by omega)⟩
    | succ d ih =>
      intro hd
      obtain ⟨c, h1, h2, h3⟩ := ih (by omega)
      cases h : lt d with
      | true => exact ⟨d + 1, Nat.le_refl _, fun j hj => mono j d (by omega) (by omega) h, fun j h4 h5 => absurd h5 (by omega)⟩
      | false =>
        refine ⟨c, by omega, h2, fun j h4 h5 => ?_⟩
        rcases Nat.eq_or_lt_of_le (Nat.le_of_lt_succ h5) with rfl | h5
        · exact h
        · exact h3 j h4 h5
  exact this m (Nat.le_refl _)
/-- The place of a name in things in order. -/
theorem place {α : Type} (key : α → Str) {l : List α} (hs : l.Pairwise fun a b => key a < key b) (s : Str) : ∃ c, c ≤ l.length ∧ (∀ j (h : j < l.length), j < c → ¬ s < key l[j]) ∧ (∀ j (h : j < l.length), c ≤ j → s < key l[j]) := by
  let lt : Nat → Bool := fun j => match l[j]? with | some x => !decide (s < key x) | none => false
  have ltv : ∀ j (h : j < l.length), lt j = !decide (s < key l[j]) := fun j h => by show (match l[j]? with | some x => !decide (s < key x) | none => false) = _; rw [List.getElem?_eq_getElem h]
  obtain ⟨c, h1, h2, h3⟩ := mono_split l.length lt fun i j hij hj h => by
    rw [ltv j hj] at h
    rw [ltv i (by omega)]
    simp only [Bool.not_eq_true', decide_eq_false_iff_not] at h ⊢
    intro h'
    rcases Nat.eq_or_lt_of_le hij with rfl | hij
    · exact h h'
    · exact h (List.lt_trans h' (List.pairwise_iff_getElem.1 hs i j (by omega) hj hij))
  refine ⟨c, h1, fun j h hj => ?_, fun j h hj => ?_⟩
  · have := h2 j hj
    rw [ltv j h] at this
    simpa using this
  · have := h3 j hj h
    rw [ltv j h] at this
    simpa using this
end Go.Proofs.YthlkidohpiebiaaDoor


/- Paths of lists, files by path, and Changes, in the program and in its reference (law 23), in plain Lean. -/
namespace Go.Proofs.YthlkidohpiebiaaDoor
set_option linter.unusedVariables false
set_option linter.unusedSimpArgs false
open Go Go.RowKit
def pathsOf (l : List FileT) : List Str := l.map (·.1)
theorem pathsOf_take {l : List FileT} {i : Nat} (h : i < l.length) : pathsOf (l.take (i + 1)) = pathsOf (l.take i) ++ [l[i].1] := by
  unfold pathsOf
  rw [List.take_succ_eq_append_getElem h, List.map_append]; rfl
/-- Files by their paths. -/
def mapF (l : List FileT) : List (Str × FileT) := l.foldl (fun m x => mset m x.1 x) []
theorem mapF_take {l : List FileT} {i : Nat} (h : i < l.length) : mapF (l.take (i + 1)) = mset (mapF (l.take i)) l[i].1 l[i] := by
  unfold mapF
  rw [List.take_succ_eq_append_getElem h, List.foldl_append]; rfl
def findF (l : List FileT) (p : Str) : Option FileT := l.find? fun x => x.1 == p
theorem findF_none {l : List FileT} {p : Str} : findF l p = none ↔ p ∉ pathsOf l := by
  unfold findF pathsOf
  rw [List.find?_eq_none]
  constructor
  · intro h hm
    obtain ⟨x, hx, e⟩ := List.mem_map.1 hm
    exact h x hx (by rw [e]; exact beq_self_eq_true p)
  · intro h x hx e
    exact h (List.mem_map.2 ⟨x, hx, eq_of_beq e⟩)
theorem findF_some {l : List FileT} {p : Str} {x : FileT} (h : findF l p = some x) : x ∈ l ∧ x.1 = p := find_mem h
theorem mapF_get {l : List FileT} (ha : Asc l) (p : Str) : mget (mapF l) p = findF l p := by
  have gen : ∀ i, i ≤ l.length → mget (mapF (l.take i)) p = findF (l.take i) p := by
    intro i
    induction i with
    | zero => intro _; rw [List.take_zero]; rfl
    | succ i ih =>
      intro hi
      have hi' : i < l.length := by omega
      rw [mapF_take hi', mget_mset, ih (by omega)]
      have e : findF (l.take (i + 1)) p = (findF (l.take i) p).or (if (l[i].1 == p) = true then some l[i] else none) := by
        unfold findF
        rw [List.take_succ_eq_append_getElem hi', List.find?_append]
        congr 1
        cases h : l[i].1 == p <;> simp [h]
      rw [e]
      by_cases hp : p = l[i].1
      · have hn : findF (l.take i) p = none := findF_none.2 fun hm => by
          obtain ⟨x, hx, e2⟩ := List.mem_map.1 hm
          obtain ⟨j, hj, rfl⟩ := List.getElem_of_mem hx
          rw [List.length_take] at hj
          rw [List.getElem_take] at e2
          have h3 := List.pairwise_iff_getElem.1 ha j i (by omega) hi' (by omega)
          rw [e2, hp] at h3
          exact List.lt_irrefl _ h3
        have h1 : (p == l[i].1) = true := by rw [hp]; exact beq_self_eq_true _
        have h2 : (l[i].1 == p) = true := by rw [hp]; exact beq_self_eq_true _
        rw [hn, if_pos h1, if_pos h2]; rfl
      · have h1 : ¬ (p == l[i].1) = true := fun h => hp (eq_of_beq h)
        have h2 : ¬ (l[i].1 == p) = true := fun h => hp (eq_of_beq h).symm
        rw [if_neg h1, if_neg h2, Option.or_none]
  have := gen l.length (Nat.le_refl _)
  rwa [List.take_length] at this
theorem byPath_eq {N : Nat} (hN : big ≤ N) (l : List FileT) (hl : l.length ≤ 1000000) : blob_byPath N l = some (mapF l) := by
  have hb : (18446744073709551616 : Nat) ≤ N := hN
  unfold blob_byPath
  refine steps_loop (S := Int × List (Str × FileT)) l.length (fun i => ((i : Int), mapF (l.take i))) (f := fun n s => blob_byPath_L0 N l (l.length : Int) (fun o => some o) n s.1 s.2) (fun n i hi => ?_) (fun n => ?_) N (by omega)
  · show blob_byPath_L0T N l _ _ (blob_byPath_L0 N l _ _ n) (i : Int) _ = blob_byPath_L0 N l _ _ n ((i + 1 : Nat) : Int) (mapF (l.take (i + 1)))
    have hw : IntKind.i64.wrap ((i : Int) + 1) = ((i + 1 : Nat) : Int) := by rw [wrap_id (by omega) (by omega)]; omega
    unfold blob_byPath_L0T
    rw [br_pos (by omega : (i : Int) < (l.length : Int)), geti_lt l hi, bnd_some, hw, mapF_take hi]
  · show blob_byPath_L0T N l _ _ _ (l.length : Int) _ = _
    unfold blob_byPath_L0T
    rw [br_neg (by omega), List.take_length]
/-- The paths of some lists, in order, each once. -/
def pathsS (ls : List (List FileT)) : List Str := sortN (ls.flatMap pathsOf)
theorem paths_L1 {N : Nat} (hN : big ≤ N) (l : List FileT) (hl : l.length ≤ 1000000) (k : List (Str × Bool) → Option (List Str)) (m0 : List Str) : blob_paths_L1 N l (l.length : Int) k N 0 (setM [] m0) = k (setM [] (m0 ++ pathsOf l)) := by
  have hb : (18446744073709551616 : Nat) ≤ N := hN
  have := steps_loop (S := Int × List (Str × Bool)) l.length (fun i => ((i : Int), setM [] (m0 ++ pathsOf (l.take i)))) (f := fun n s => blob_paths_L1 N l (l.length : Int) k n s.1 s.2) (z := k (setM [] (m0 ++ pathsOf l))) (fun n i hi => ?_) (fun n => ?_) N (by omega)
  · simpa [pathsOf] using this
  · show blob_paths_L1T N l _ _ (blob_paths_L1 N l _ _ n) (i : Int) _ = blob_paths_L1 N l _ _ n ((i + 1 : Nat) : Int) (setM [] (m0 ++ pathsOf (l.take (i + 1))))
    have hw : IntKind.i64.wrap ((i : Int) + 1) = ((i + 1 : Nat) : Int) := by rw [wrap_id (by omega) (by omega)]; omega
    unfold blob_paths_L1T
    rw [br_pos (by omega : (i : Int) < (l.length : Int)), geti_lt l hi, bnd_some, hw, pathsOf_take hi, ← List.append_assoc, setM_app [] (m0 ++ pathsOf (l.take i))]
    rfl
  · show blob_paths_L1T N l _ _ _ (l.length : Int) _ = _
    unfold blob_paths_L1T
    rw [br_neg (by omega), List.take_length]
theorem flatMap_take {α β : Type} (f : α → List β) (c : List α) {i : Nat} (h : i < c.length) : (c.take (i + 1)).flatMap f = (c.take i).flatMap f ++ f c[i] := by
  rw [List.take_succ_eq_append_getElem h, List.flatMap_append]; simp
theorem paths_eq {N : Nat} (hN : big ≤ N) (ls : List (List FileT)) (hl : ls.length ≤ 3) (hf : ∀ l ∈ ls, l.length ≤ 1000 ∧ ∀ x ∈ l, x.1.length ≤ 1000) : blob_paths N ls = some (pathsS ls) := by
  have hb : (18446744073709551616 : Nat) ≤ N := hN
  unfold blob_paths
  refine steps_loop (S := Int × List (Str × Bool)) ls.length (fun i => ((i : Int), setM [] ((ls.take i).flatMap pathsOf))) (f := fun n s => blob_paths_L0 N ls (ls.length : Int) _ n s.1 s.2) (z := some (pathsS ls)) (fun n i hi => ?_) (fun n => ?_) N (by omega)
  · show blob_paths_L0T N ls _ _ (blob_paths_L0 N ls _ _ n) (i : Int) _ = blob_paths_L0 N ls _ _ n ((i + 1 : Nat) : Int) (setM [] ((ls.take (i + 1)).flatMap pathsOf))
    have hw : IntKind.i64.wrap ((i : Int) + 1) = ((i + 1 : Nat) : Int) := by rw [wrap_id (by omega) (by omega)]; omega
    unfold blob_paths_L0T
    rw [br_pos (by omega : (i : Int) < (ls.length : Int)), geti_lt ls hi, bnd_some, hw, paths_L1 hN _ (by have := (hf _ (List.getElem_mem hi)).1; omega), ← flatMap_take _ _ hi]
  · show blob_paths_L0T N ls _ _ _ (ls.length : Int) _ = _
    unfold blob_paths_L0T
    rw [br_neg (by omega), List.take_length]
    have hlen : (ls.flatMap pathsOf).length ≤ 3000 := by
      have : ∀ ks : List (List FileT), (∀ l ∈ ks, l.length ≤ 1000 ∧ ∀ x ∈ l, x.1.length ≤ 1000) → (ks.flatMap pathsOf).length ≤ ks.length * 1000 := by
        intro ks
        induction ks with
        | nil => intro _; simp
        | cons k ks ih =>
          intro h
          have h1 := (h k (by simp)).1
          have h2 := ih fun l hl => h l (List.mem_cons_of_mem _ hl)
          rw [List.flatMap_cons, List.length_append, List.length_cons, Nat.succ_mul]
          unfold pathsOf at *
          rw [List.length_map]; omega
      have := this ls hf
      omega
    have hsl := setM_len (ls.flatMap pathsOf) []
    simp only [List.length_nil, Nat.zero_add] at hsl
    have hkey : ∀ p ∈ setM [] (ls.flatMap pathsOf), p.1.length ≤ maxLen := fun p hp => by
      have := ((setM_keys (ls.flatMap pathsOf) []).2 p.1).1 (List.mem_map.2 ⟨p, hp, rfl⟩)
      rcases this with h | h
      · cases h
      · obtain ⟨l, hl, h⟩ := List.mem_flatMap.1 h
        obtain ⟨x, hx, e⟩ := List.mem_map.1 h
        rw [← e]
        exact Nat.le_trans ((hf l hl).2 x hx) (by decide)
    unfold maps_Keys_bool slices_Sorted_keys
    dsimp only
    rw [bnd_some, if_pos ⟨by omega, hkey⟩, bnd_some]
    rfl
/-- How a path's file differs. -/
def chg (a b : List FileT) (p : Str) : Option (Str × Int) := match findF a p with
  | none => some (p, 1)
  | some x => match findF b p with
    | none => some (p, 2)
    | some y => if x.2.2 = y.2.2 then (if x.2.1 = y.2.1 then none else some (p, 4)) else some (p, 3)
theorem FilesOk.small {l : List FileT} (h : FilesOk l) : l.length ≤ 1000 ∧ ∀ x ∈ l, x.1.length ≤ 1000 := ⟨h.len, fun x hx => by have := (pathB_len (h.ok.path x hx)).2; omega⟩
theorem pathsS_len {ls : List (List FileT)} (hl : ls.length ≤ 3) (hf : ∀ l ∈ ls, l.length ≤ 1000) : (pathsS ls).length ≤ 3000 := by
  have h1 : (pathsS ls).length ≤ (ls.flatMap pathsOf).length := sortN_len _
  have : ∀ ks : List (List FileT), (∀ l ∈ ks, l.length ≤ 1000) → (ks.flatMap pathsOf).length ≤ ks.length * 1000 := by
    intro ks
    induction ks with
    | nil => intro _; simp
    | cons k ks ih =>
      intro h
      have h1 := h k (by simp)
      have h2 := ih fun l hl => h l (List.mem_cons_of_mem _ hl)
      rw [List.flatMap_cons, List.length_append, List.length_cons, Nat.succ_mul]
      unfold pathsOf at *
      rw [List.length_map]; omega
  have := this ls hf
  omega
end Go.Proofs.YthlkidohpiebiaaDoor


/- Changes the other way round (law 22), in plain Lean. -/
namespace Go.Proofs.YthlkidohpiebiaaDoor
set_option linter.unusedVariables false
set_option linter.unusedSimpArgs false
open Go Go.RowKit
theorem SameFile_eq {N : Nat} (x y : FileT) : ref1_SameFile N x y = some (decide (x = y)) := by
  obtain ⟨x1, x2, x3⟩ := x
  obtain ⟨y1, y2, y3⟩ := y
  unfold ref1_SameFile bytes_Equal
  dsimp only
  rw [bnd_some]
  by_cases h1 : x1 = y1
  · by_cases h2 : x2 = y2
    · by_cases h3 : x3 = y3
      · subst h1 h2 h3; simp
      · rw [beq_iff_eq.2 h1, beq_iff_eq.2 h2, beq_eq_false_iff_ne.2 h3, decide_eq_false (by simp [h3])]; simp
    · rw [beq_iff_eq.2 h1, beq_eq_false_iff_ne.2 h2, decide_eq_false (by simp [h2])]; simp
  · rw [beq_eq_false_iff_ne.2 h1, decide_eq_false (by simp [h1])]; simp
theorem SameFiles_eq {N : Nat} (hN : big ≤ N) (a b : List FileT) (ha : a.length ≤ 1000000) : ref1_SameFiles N a b = some (decide (a = b)) := by
  have hb : (18446744073709551616 : Nat) ≤ N := hN
  unfold ref1_SameFiles
  by_cases hl : a.length = b.length
  case neg =>
    rw [show ((a.length : Int) != (b.length : Int)) = true from by rw [bne_iff_ne]; omega, br_true, decide_eq_false (fun e => hl (by rw [e]))]
  rw [show ((a.length : Int) != (b.length : Int)) = false from by simp [hl], br_false]
  refine (exit_loop (S := Int) a.length (fun i => (i : Int)) (fun i => if (!decide (a[i]? = b[i]?)) = true then some (some false) else none) (f := fun n s => ref1_SameFiles_L0 N a b (some true) n s) (r := some true) (fun n i hi => ?_) (fun n => ?_) N (by omega)).trans ?_
  · show ref1_SameFiles_L0T N a b _ (ref1_SameFiles_L0 N a b _ n) (i : Int) = _
    have hw : IntKind.i64.wrap ((i : Int) + 1) = ((i + 1 : Nat) : Int) := by rw [wrap_id (by omega) (by omega)]; omega
    have hi2 : i < b.length := by omega
    unfold ref1_SameFiles_L0T
    rw [br_pos (by omega : (i : Int) < (a.length : Int)), geti_lt a hi, bnd_some, geti_lt b hi2, bnd_some, SameFile_eq, bnd_some, hw, List.getElem?_eq_getElem hi, List.getElem?_eq_getElem hi2]
    by_cases e : a[i] = b[i]
    · simp [e]
    · simp [e]
  · show ref1_SameFiles_L0T N a b _ _ (a.length : Int) = _
    unfold ref1_SameFiles_L0T
    rw [br_neg (by omega)]
  · rw [exits_any]
    by_cases e : a = b
    · subst e
      rw [if_neg (by simp), decide_eq_true rfl]
    · rw [if_pos, decide_eq_false e]
      rw [List.any_eq_true]
      apply Classical.byContradiction
      intro hno
      apply e
      apply List.ext_getElem?
      intro i
      by_cases hi : i < a.length
      · apply Classical.byContradiction
        intro h
        exact hno ⟨i, by simpa using hi, by simp [h]⟩
      · rw [List.getElem?_eq_none (by omega), List.getElem?_eq_none (by omega)]
theorem mem_pathsS {ls : List (List FileT)} {p : Str} : p ∈ pathsS ls ↔ ∃ l ∈ ls, p ∈ pathsOf l := by
  unfold pathsS
  rw [mem_sortN, List.mem_flatMap]
end Go.Proofs.YthlkidohpiebiaaDoor


/- At and Put, in the program and in its reference (law 24), in plain Lean. -/
namespace Go.Proofs.YthlkidohpiebiaaDoor
set_option linter.unusedVariables false
set_option linter.unusedSimpArgs false
open Go Go.RowKit
theorem filterMap_take {α β : Type} (g : α → Option β) {l : List α} {i : Nat} (h : i < l.length) : (l.take (i + 1)).filterMap g = (l.take i).filterMap g ++ (g l[i]).toList := by
  rw [List.take_succ_eq_append_getElem h, List.filterMap_append]
  congr 1
theorem len_filterMap_take {α β : Type} (g : α → Option β) (l : List α) (i : Nat) : ((l.take i).filterMap g).length ≤ l.length := by
  have := List.length_filterMap_le g (l.take i)
  rw [List.length_take] at this
  omega
theorem Clone_files (N : Nat) {l : List FileT} (h : l.length ≤ 1000000) : slices_Clone_api_File N l = some l := by
  unfold slices_Clone_api_File
  exact clone_eq (24 * Ty.sz (.pr .str (.pr .bool (.sl .u8)))) l (by show l.length * 72 ≤ _; omega)
theorem Clone_bytes (N : Nat) {l : List UInt8} (h : l.length ≤ 10000000) : slices_Clone_byte_byte N l = some l := by
  unfold slices_Clone_byte_byte
  exact clone_eq (24 * Ty.sz .u8) l (by show l.length * 24 ≤ _; omega)
theorem seti_self {α : Type} {l : List α} {i : Nat} (h : i < l.length) : seti l (i : Int) l[i] = l := by
  unfold seti
  exact List.set_getElem_self h
theorem Own_eq {N : Nat} (hN : big ≤ N) {l : List FileT} (hl : l.length ≤ 1000000) (hb : ∀ x ∈ l, x.2.2.length ≤ 10000000) : blob_Own N l = some l := by
  have hbN : (18446744073709551616 : Nat) ≤ N := hN
  unfold blob_Own
  rw [Clone_files N hl, bnd_some]
  refine steps_loop (S := Int × List FileT) l.length (fun i => ((i : Int), l)) (f := fun n s => blob_Own_L0 N (l.length : Int) (fun o => some o) n s.1 s.2) (z := some l) (fun n i hi => ?_) (fun n => ?_) N (by omega)
  · show blob_Own_L0T N _ _ (blob_Own_L0 N _ _ n) (i : Int) l = blob_Own_L0 N _ _ n ((i + 1 : Nat) : Int) l
    have hw : IntKind.i64.wrap ((i : Int) + 1) = ((i + 1 : Nat) : Int) := by rw [wrap_id (by omega) (by omega)]; omega
    have hd : 0 ≤ (i : Int) ∧ (i : Int) < (l.length : Int) := ⟨by omega, by omega⟩
    unfold blob_Own_L0T
    rw [br_pos (by omega : (i : Int) < (l.length : Int)), br_pos hd, geti_lt l hi, bnd_some, Clone_bytes N (hb _ (List.getElem_mem _)), bnd_some, br_pos hd, bnd_some, hw]
    congr 1
    exact seti_self hi
  · show blob_Own_L0T N _ _ _ (l.length : Int) l = _
    unfold blob_Own_L0T
    rw [br_neg (by omega)]
theorem FilesOk.bytes {l : List FileT} (h : FilesOk l) : ∀ x ∈ l, x.2.2.length ≤ 10000000 := fun x hx => by have := h.ok.few x hx; omega
theorem szF {n : Nat} (h : n ≤ 100000) (z : FileT) : (n + [z].length) * (24 * Ty.sz (.pr .str (.pr .bool (.sl .u8)))) ≤ 140737488355328 := by rw [List.length_singleton]; show _ * 72 ≤ _; omega
end Go.Proofs.YthlkidohpiebiaaDoor


/- The arguments of a law, with how much they hold together ('bulk'). -/
namespace Go.Proofs.YthlkidohpiebiaaDoor
set_option linter.unusedVariables false
set_option linter.unusedSimpArgs false
open Go Go.RowKit Go.ChangeShapes Go.WideShapes
section
variable {H : Type} {enc : TypeId × Value → H} {P : Program} {w : World} {spare : Nat → Bool} {held : Bool} {R : RC → Option TypeId} {rb : (i : RC) → i.den → Nat}
end
end Go.Proofs.YthlkidohpiebiaaDoor


/- Select, in the program and in its reference (law 8), in plain Lean. -/
namespace Go.Proofs.YthlkidohpiebiaaDoor
set_option linter.unusedVariables false
set_option linter.unusedSimpArgs false
open Go Go.RowKit
end Go.Proofs.YthlkidohpiebiaaDoor


/- Merge, in the program and in its reference (law 30), in plain Lean. -/
namespace Go.Proofs.YthlkidohpiebiaaDoor
set_option linter.unusedVariables false
set_option linter.unusedSimpArgs false
open Go Go.RowKit
/-- One round of slices.DeleteFunc with a function that remembers something. -/
def delS {α R S : Type} (P : α → S → Option (Bool × S)) (k0 : Int → List α → S → Option R) (self : Int → Int → List α → S → Option R) (s5 s6 : Int) (w : List α) (s : S) : Option R :=
  br (decide (s6 < (w.length : Int)))
    (br (decide (0 ≤ s6 ∧ s6 < (w.length : Int)))
      (bnd (geti w s6) fun t25 =>
      bnd (P t25 s) fun t28 =>
      br (!t28.1)
        (br (decide (0 ≤ s5 ∧ s5 < (w.length : Int)))
          (bnd (geti w s5) fun _ =>
          self (IntKind.i64.wrap (s5 + (1 : Int))) (IntKind.i64.wrap (s6 + (1 : Int))) (seti w s5 t25) t28.2)
          none)
        (self s5 (IntKind.i64.wrap (s6 + (1 : Int))) w t28.2))
      none)
    (k0 s5 w s)
theorem delS_loop {α R S : Type} {w0 : List α} (hx : w0.length ≤ maxLen) (p : α → Bool) (st : Nat → S) {P : α → S → Option (Bool × S)} (hP : ∀ j (h : j < w0.length), P w0[j] (st j) = some (p w0[j], st (j + 1))) {k0 : Int → List α → S → Option R} {f : Nat → Int → Int → List α → S → Option R}
    (hf : ∀ n a b w s, f (n + 1) a b w s = delS P k0 (f n) a b w s) : ∀ (m n i j : Nat) (w : List α), j + m = w0.length → m < n → i ≤ j → w.length = w0.length → w.drop j = w0.drop j → i = ((w0.take j).filter fun x => !p x).length → w.take i = (w0.take j).filter (fun x => !p x) →
    ∃ w' : List α, w'.length = w0.length ∧ w'.take (w0.filter fun x => !p x).length = w0.filter (fun x => !p x) ∧ f n (i : Int) (j : Int) w (st j) = k0 ((w0.filter fun x => !p x).length : Int) w' (st w0.length)
  | 0, n, i, j, w, hj, hn, hij, hl, hd, hi, ht => by
    obtain ⟨n, rfl⟩ : ∃ q, n = q + 1 := ⟨n - 1, by omega⟩
    have hjl : j = w0.length := by omega
    rw [hjl, List.take_length] at hi ht
    refine ⟨w, hl, by rw [← hi]; exact ht, ?_⟩
    rw [hf, delS, br_neg (by rw [hl]; omega), hi, hjl]
  | m + 1, n, i, j, w, hj, hn, hij, hl, hd, hi, ht => by
    obtain ⟨n, rfl⟩ : ∃ q, n = q + 1 := ⟨n - 1, by omega⟩
    have hjw : j < w.length := by omega
    have hj0 : j < w0.length := by omega
    have hwj : w[j] = w0[j] := by
      have := congrArg (fun l => l[0]?) hd
      simp only [List.getElem?_drop, Nat.add_zero] at this
      rw [List.getElem?_eq_getElem hjw, List.getElem?_eq_getElem hj0] at this
      exact Option.some.inj this
    have hwj1 : IntKind.i64.wrap ((j : Int) + 1) = ((j + 1 : Nat) : Int) := by unfold maxLen at hx; rw [wrap_id (by omega) (by omega)]; rfl
    have hwi1 : IntKind.i64.wrap ((i : Int) + 1) = ((i + 1 : Nat) : Int) := by unfold maxLen at hx; rw [wrap_id (by omega) (by omega)]; rfl
    have hd1 : w.drop (j + 1) = w0.drop (j + 1) := by
      have := congrArg (List.drop 1) hd
      simpa [List.drop_drop] using this
    rw [hf, delS, br_pos (by omega), br_pos (by omega), geti_lt w hjw, bnd_some, hwj, hP j hj0, bnd_some, hwj1]
    have hfs := filter_take_succ (fun x => !p x) w0 hj0
    cases hp : p w0[j] with
    | false =>
      have hiw : i < w.length := by omega
      rw [Bool.not_false, br_true, br_pos (by omega), geti_lt w hiw, bnd_some, hwi1]
      rw [hp] at hfs
      simp only [Bool.not_false, if_true] at hfs
      refine delS_loop hx p st hP hf m n (i + 1) (j + 1) (seti w (i : Int) w0[j]) (by omega) (by omega) (by omega) (by unfold seti; rw [List.length_set]; exact hl) ?_ ?_ ?_
      · unfold seti
        rw [Int.toNat_natCast, List.drop_set_of_lt (by omega), hd1]
      · rw [hfs, List.length_append, ← hi]; rfl
      · unfold seti
        rw [hfs, ← ht, Int.toNat_natCast, List.take_succ_eq_append_getElem (by rw [List.length_set]; exact hiw), List.getElem_set_self, List.take_set_of_le (Nat.le_refl i)]
    | true =>
      rw [Bool.not_true, br_false]
      rw [hp] at hfs
      simp only [Bool.not_true, Bool.false_eq_true, if_false, List.append_nil] at hfs
      exact delS_loop hx p st hP hf m n i (j + 1) w (by omega) (by omega) (by omega) hl hd1 (by rw [hfs]; exact hi) (by rw [hfs]; exact ht)
/-- The files of a tree, or of none. -/
def spF (o : Option FileT) : FileT × Bool := (o.getD (zero (.pr .str (.pr .bool (.sl .u8)))), o.isSome)
theorem spotOf_eq (N : Nat) {l : List FileT} (h : Asc l) (p : Str) : blob_spotOf N (mapF l) p = some (spF (findF l p)) := by
  unfold blob_spotOf spF
  rw [mapF_get h]
theorem spot_same (N : Nat) {x y : Option FileT} {p : Str} (hx : ∀ v, x = some v → v.1 = p) (hy : ∀ v, y = some v → v.1 = p) : blob_spot_same N (spF x) (spF y) = some (decide (x = y)) := by
  unfold blob_spot_same spF blob_Same
  cases x with
  | none =>
    cases y with
    | none => simp
    | some y => simp
  | some x =>
    cases y with
    | none => simp
    | some y =>
      have h1 := hx x rfl
      have h2 := hy y rfl
      dsimp only [Option.isSome_some, Option.getD_some]
      rw [beq_self_eq_true, br_true, Bool.not_true, br_false]
      by_cases e1 : x.2.1 = y.2.1
      · by_cases e2 : x.2.2 = y.2.2
        · have : x = y := Prod.ext (h1.trans h2.symm) (Prod.ext e1 e2)
          subst this
          simp
        · rw [beq_iff_eq.2 e1, beq_eq_false_iff_ne.2 e2, br_true, bnd_some, decide_eq_false (fun h => e2 (by rw [Option.some.inj h]))]
      · rw [beq_eq_false_iff_ne.2 e1, br_false, bnd_some, decide_eq_false (fun h => e1 (by rw [Option.some.inj h]))]
theorem find_path {l : List FileT} {p : Str} : ∀ v, findF l p = some v → v.1 = p := fun v h => (findF_some h).2
/-- What is taken at a path: x was, y is mine, z is the other's. -/
def takeO (x y z : Option FileT) : Option FileT := if y = x then z else y
def toldO (x y z : Option FileT) : Bool := !decide (y = x) && (!decide (z = x) && !decide (z = y))
def outL (base a b : List FileT) (ps : List Str) : List FileT := ps.filterMap fun p => takeO (findF base p) (findF a p) (findF b p)
def toldL (base a b : List FileT) (ps : List Str) : List Str := ps.filter fun p => toldO (findF base p) (findF a p) (findF b p)
theorem takeO_path {base a b : List FileT} {p : Str} : ∀ v, takeO (findF base p) (findF a p) (findF b p) = some v → v.1 = p := fun v h => by
  unfold takeO at h
  split at h
  · exact find_path v h
  · exact find_path v h
theorem outL_take (base a b : List FileT) {ps : List Str} {i : Nat} (h : i < ps.length) : outL base a b (ps.take (i + 1)) = outL base a b (ps.take i) ++ (takeO (findF base ps[i]) (findF a ps[i]) (findF b ps[i])).toList := filterMap_take _ h
theorem toldL_take (base a b : List FileT) {ps : List Str} {i : Nat} (h : i < ps.length) : toldL base a b (ps.take (i + 1)) = toldL base a b (ps.take i) ++ if toldO (findF base ps[i]) (findF a ps[i]) (findF b ps[i]) = true then [ps[i]] else [] := filter_take_succ _ _ h
theorem outL_asc (base a b : List FileT) : ∀ {ps : List Str}, ps.Pairwise (· < ·) → Asc (outL base a b ps) ∧ ∀ x ∈ outL base a b ps, x.1 ∈ ps
  | [], _ => ⟨List.Pairwise.nil, fun x h => by cases h⟩
  | p :: ps, h => by
    obtain ⟨h1, h2⟩ := List.pairwise_cons.1 h
    obtain ⟨h3, h4⟩ := outL_asc base a b h2
    unfold outL at h3 h4 ⊢
    cases ht : takeO (findF base p) (findF a p) (findF b p) with
    | none =>
      simp only [List.filterMap_cons, ht]
      exact ⟨h3, fun x hx => List.mem_cons_of_mem _ (h4 x hx)⟩
    | some v =>
      simp only [List.filterMap_cons, ht]
      have e := takeO_path v ht
      refine ⟨List.pairwise_cons.2 ⟨fun x hx => by rw [e]; exact h1 _ (h4 x hx), h3⟩, fun x hx => ?_⟩
      rcases List.mem_cons.1 hx with rfl | hx
      · rw [e]; exact List.mem_cons_self
      · exact List.mem_cons_of_mem _ (h4 x hx)
theorem outL_len (base a b : List FileT) (ps : List Str) (i : Nat) : (outL base a b (ps.take i)).length ≤ ps.length := len_filterMap_take _ ps i
theorem toldL_len (base a b : List FileT) (ps : List Str) (i : Nat) : (toldL base a b (ps.take i)).length ≤ ps.length := by
  unfold toldL
  have := List.length_filter_le (fun p => toldO (findF base p) (findF a p) (findF b p)) (ps.take i)
  rw [List.length_take] at this
  omega
/-- What lies within another file's path. -/
def clashF (o : List FileT) (x : FileT) : Bool := clashB (hasB o) x.1
def freeL (o : List FileT) : List FileT := o.filter fun x => !clashF o x
def hitL (o : List FileT) : List Str := pathsOf (o.filter (clashF o))
/-- What Merge says. -/
def mergeS (base a b : List FileT) : List FileT × List Str × Int :=
  if filesS base = 0 then (if filesS a = 0 then (if filesS b = 0 then
    (if filesS (freeL (outL base a b (pathsS [base, a, b]))) = 0 then (freeL (outL base a b (pathsS [base, a, b])), sortN (toldL base a b (pathsS [base, a, b]) ++ hitL (outL base a b (pathsS [base, a, b]))), 0)
      else ([], [], filesS (freeL (outL base a b (pathsS [base, a, b])))))
    else ([], [], filesS b)) else ([], [], filesS a)) else ([], [], filesS base)
/-- What is known of the merged files before they are checked. -/
structure OutOk (o : List FileT) : Prop where
  asc : Asc o
  len : o.length ≤ 3000
  name : ∀ x ∈ o, x.1.length ≤ 200
  few : ∀ x ∈ o, x.2.2.length ≤ 100000
theorem outL_from {base a b : List FileT} {ps : List Str} : ∀ x ∈ outL base a b ps, x ∈ a ∨ x ∈ b := fun x hx => by
  unfold outL at hx
  obtain ⟨p, _, h⟩ := List.mem_filterMap.1 hx
  unfold takeO at h
  split at h
  · exact .inr (findF_some h).1
  · exact .inl (findF_some h).1
theorem out_ok {base a b : List FileT} (h0 : FilesOk base) (h1 : FilesOk a) (h2 : FilesOk b) : OutOk (outL base a b (pathsS [base, a, b])) := by
  have hps := pathsS_len (ls := [base, a, b]) (by simp) fun l hl => by
    simp only [List.mem_cons, List.not_mem_nil, or_false] at hl
    rcases hl with rfl | rfl | rfl
    · exact h0.len
    · exact h1.len
    · exact h2.len
  refine ⟨(outL_asc base a b (sortN_asc _)).1, Nat.le_trans (List.length_filterMap_le _ _) hps, fun x hx => ?_, fun x hx => ?_⟩
  · rcases outL_from x hx with h | h
    · exact (pathB_len (h1.ok.path x h)).2
    · exact (pathB_len (h2.ok.path x h)).2
  · rcases outL_from x hx with h | h
    · exact h1.ok.few x h
    · exact h2.ok.few x h
theorem paths_L2 {N : Nat} (hN : big ≤ N) {o : List FileT} (ho : o.length ≤ 1000000) (k : List (Str × Bool) → Option (List FileT × List Str × Int)) : blob_Merge_L2 N (o.length : Int) o k N 0 [] = k (setM [] (pathsOf o)) := by
  have hb : (18446744073709551616 : Nat) ≤ N := hN
  have main := steps_loop (S := Int × List (Str × Bool)) o.length (fun i => ((i : Int), setM [] (pathsOf (o.take i)))) (f := fun n s => blob_Merge_L2 N (o.length : Int) o k n s.1 s.2) (z := k (setM [] (pathsOf o))) (fun n i hi => ?_) (fun n => ?_) N (by omega)
  · simpa [pathsOf, setM] using main
  · show blob_Merge_L2T N _ o k (blob_Merge_L2 N _ o k n) (i : Int) (setM [] (pathsOf (o.take i))) = blob_Merge_L2 N _ o k n ((i + 1 : Nat) : Int) (setM [] (pathsOf (o.take (i + 1))))
    have hw : IntKind.i64.wrap ((i : Int) + 1) = ((i + 1 : Nat) : Int) := by rw [wrap_id (by omega) (by omega)]; omega
    have hd : 0 ≤ (i : Int) ∧ (i : Int) < (o.length : Int) := ⟨by omega, by omega⟩
    unfold blob_Merge_L2T
    rw [br_pos (by omega : (i : Int) < (o.length : Int)), br_pos hd, geti_lt o hi, bnd_some, hw, pathsOf_take hi, setM_app]
    rfl
  · show blob_Merge_L2T N _ o k _ (o.length : Int) _ = _
    unfold blob_Merge_L2T
    rw [br_neg (by omega), List.take_length]
theorem has_get (o : List FileT) (p : Str) : (mget (setM [] (pathsOf o)) p).getD (zero .bool) = hasB o p := by
  rw [show setM [] (pathsOf o) = keysM (pathsOf o) [] from rfl, keysM_get]
  unfold pathsOf hasB
  rw [List.any_map]
  cases h6 : o.any ((fun x => p == x) ∘ fun x => x.1) with
  | true => exact h6.symm
  | false => exact h6.symm
theorem Merge_1_eq {N : Nat} (hN : big ≤ N) {o : List FileT} {x : FileT} (hx : x.1.length ≤ 200) (m : List (Str × Bool)) : blob_Merge_1 N x (setM [] (pathsOf o)) m = some (clashF o x, (setM [] (pathsOf o), if clashF o x = true then mset m x.1 true else m)) := by
  unfold blob_Merge_1
  rw [clash_blob hN (has := hasB o) (has_get o) (by omega), bnd_some]
  unfold clashF
  cases clashB (hasB o) x.1 <;> simp
/-- What the closure remembers behind the first files. -/
def memS (o : List FileT) (t : List Str) (j : Nat) : List (Str × Bool) × List (Str × Bool) := (setM [] (pathsOf o), setM [] (t ++ pathsOf ((o.take j).filter (clashF o))))
theorem memS_step {N : Nat} (hN : big ≤ N) {o : List FileT} (ho : OutOk o) (t : List Str) (j : Nat) (h : j < o.length) : blob_Merge_1 N o[j] (memS o t j).1 (memS o t j).2 = some (clashF o o[j], memS o t (j + 1)) := by
  unfold memS
  dsimp only
  rw [Merge_1_eq hN (ho.name _ (List.getElem_mem _)), filter_take_succ _ _ h]
  cases hc : clashF o o[j] with
  | false => simp
  | true =>
    rw [if_pos rfl, if_pos rfl]
    have : t ++ pathsOf ((o.take j).filter (clashF o) ++ [o[j]]) = (t ++ pathsOf ((o.take j).filter (clashF o))) ++ [o[j].1] := by
      unfold pathsOf
      rw [List.map_append, List.append_assoc]; rfl
    rw [this, show setM [] ((t ++ pathsOf ((o.take j).filter (clashF o))) ++ [o[j].1]) = setM (setM [] (t ++ pathsOf ((o.take j).filter (clashF o)))) [o[j].1] from setM_app _ _ _]
    rfl
theorem DeleteFunc_merge {N : Nat} (hN : big ≤ N) {o : List FileT} (ho : OutOk o) (t : List Str) : slices_DeleteFunc_api_File_2 N o (memS o t 0).1 (memS o t 0).2 = some (freeL o, memS o t o.length) := by
  have hb : (18446744073709551616 : Nat) ≤ N := hN
  have hlen := ho.len
  have hmax : o.length ≤ maxLen := Nat.le_trans hlen (by decide)
  have hidx : slices_IndexFunc_api_File_2 N o (memS o t 0).1 (memS o t 0).2 = some (idxP (clashF o) o, memS o t (if idxP (clashF o) o = -1 then o.length else (idxP (clashF o) o).toNat + 1)) := by
    unfold slices_IndexFunc_api_File_2
    have e := exit_loop (S := Int × (List (Str × Bool) × List (Str × Bool))) (R := Int × List (Str × Bool) × List (Str × Bool)) o.length (fun i => ((i : Int), memS o t i)) (fun i => match o[i]? with | some x => if clashF o x = true then some (some ((i : Int), memS o t (i + 1))) else none | none => none)
      (f := fun n s => slices_IndexFunc_api_File_2_L0 N o (o.length : Int) (fun a b => some ((-1 : Int), (a, b))) n s.1 s.2.1 s.2.2) (r := some ((-1 : Int), memS o t o.length)) (fun n i hi => ?_) (fun n => ?_) N (by omega)
    · refine Eq.trans e ?_
      generalize hx : exits (fun i => match o[i]? with | some x => if clashF o x = true then some (some ((i : Int), memS o t (i + 1))) else none | none => none) o.length 0 = z
      rcases idxP_full (clashF o) o with ⟨h1, h2⟩ | ⟨i, hi, h1, h2, h3⟩
      · rw [h1, if_pos rfl]
        cases z with
        | none => rfl
        | some z =>
          obtain ⟨j, _, hj, h4, _⟩ := exits_some hx
          have hj : j < o.length := by omega
          rw [List.getElem?_eq_getElem hj] at h4
          dsimp only at h4
          rw [if_neg (by rw [h2 _ (List.getElem_mem _)]; simp)] at h4
          cases h4
      · rw [h1, if_neg (by omega), Int.toNat_natCast]
        cases z with
        | none =>
          have := exits_none.1 hx i (Nat.zero_le _) (by omega)
          rw [List.getElem?_eq_getElem hi] at this
          dsimp only at this
          rw [if_pos h2] at this; cases this
        | some z =>
          obtain ⟨j, _, hj, h4, h5⟩ := exits_some hx
          have hj : j < o.length := by omega
          rw [List.getElem?_eq_getElem hj] at h4
          dsimp only at h4
          by_cases hc : clashF o o[j] = true
          · rw [if_pos hc] at h4
            have hij : j = i := by
              rcases Nat.lt_trichotomy j i with h6 | h6 | h6
              · rw [h3 j h6] at hc; cases hc
              · exact h6
              · have := h5 i (Nat.zero_le _) h6
                rw [List.getElem?_eq_getElem hi] at this
                dsimp only at this
                rw [if_pos h2] at this; cases this
            subst hij
            rw [← Option.some.inj h4]; rfl
          · rw [if_neg hc] at h4; cases h4
    · show slices_IndexFunc_api_File_2_L0T N o _ _ (slices_IndexFunc_api_File_2_L0 N o _ _ n) (i : Int) (memS o t i).1 (memS o t i).2 = _
      have hw : IntKind.i64.wrap ((i : Int) + 1) = ((i + 1 : Nat) : Int) := by rw [wrap_id (by omega) (by omega)]; omega
      unfold slices_IndexFunc_api_File_2_L0T
      rw [br_pos (by omega : (i : Int) < (o.length : Int)), geti_lt o hi, bnd_some, memS_step hN ho t i hi, bnd_some, hw, List.getElem?_eq_getElem hi]
      dsimp only
      cases clashF o o[i] <;> simp
    · show slices_IndexFunc_api_File_2_L0T N o _ _ _ (o.length : Int) _ _ = _
      unfold slices_IndexFunc_api_File_2_L0T
      rw [br_neg (by omega)]
  unfold slices_DeleteFunc_api_File_2
  rw [hidx, bnd_some]
  dsimp only
  rcases idxP_full (clashF o) o with ⟨h1, h2⟩ | ⟨i, h, h1, h2, h3⟩
  · rw [h1, if_pos rfl, beq_self_eq_true, br_true]
    have : freeL o = o := List.filter_eq_self.2 fun x hx => by rw [h2 x hx]; rfl
    rw [this]
  · have hne : ((i : Int) == -1) = false := beq_eq_false_iff_ne.2 (by omega)
    have hw : IntKind.i64.wrap ((i : Int) + 1) = ((i + 1 : Nat) : Int) := by rw [wrap_id (by omega) (by omega)]; rfl
    have hall : (o.take i).filter (fun x => !clashF o x) = o.take i := List.filter_eq_self.2 fun x hx => by
      obtain ⟨k, hk, rfl⟩ := List.getElem_of_mem hx
      rw [List.length_take] at hk
      rw [List.getElem_take, h3 k (by omega)]; rfl
    have hfs := filter_take_succ (fun x => !clashF o x) o h
    rw [h2] at hfs
    simp only [Bool.not_true, Bool.false_eq_true, if_false, List.append_nil] at hfs
    rw [hall] at hfs
    rw [h1, if_neg (by omega), hne, br_false, hw, Int.toNat_natCast]
    obtain ⟨w', hl', ht', he⟩ := delS_loop hmax (clashF o) (memS o t) (P := fun x s => blob_Merge_1 N x s.1 s.2) (fun j hj => memS_step hN ho t j hj) (f := fun n a b w s => slices_DeleteFunc_api_File_2_L0 N (fun o0_5 o0_w0 o0_m3 o0_m4 =>
        br (decide (0 ≤ o0_5 ∧ o0_5 ≤ (o0_w0.length : Int) ∧ 0 < o0_w0.length))
          (br (decide (0 ≤ o0_5 ∧ o0_5 ≤ ((clr o0_w0 o0_5 (zero (.pr .str (.pr .bool (.sl .u8))))).length : Int)))
            (some (cut (clr o0_w0 o0_5 (zero (.pr .str (.pr .bool (.sl .u8))))) o0_5, (o0_m3, o0_m4)))
            none)
          none) n a b w s.1 s.2) (fun n a b w s => rfl) (o.length - (i + 1)) N i (i + 1) o (by omega) (by omega) (by omega) rfl rfl (by rw [hfs, List.length_take]; omega) (by rw [hfs])
    refine Eq.trans he ?_
    have hle : (o.filter fun x => !clashF o x).length ≤ o.length := List.length_filter_le _ _
    have hcl : (clr w' ((o.filter fun x => !clashF o x).length : Int) (zero (.pr .str (.pr .bool (.sl .u8))))).length = w'.length := by
      unfold clr; rw [Int.toNat_natCast, List.length_append, List.length_take, List.length_replicate]; omega
    have d1 : 0 ≤ ((o.filter fun x => !clashF o x).length : Int) ∧ ((o.filter fun x => !clashF o x).length : Int) ≤ (w'.length : Int) ∧ 0 < w'.length := ⟨by omega, by omega, by omega⟩
    have d2 : 0 ≤ ((o.filter fun x => !clashF o x).length : Int) ∧ ((o.filter fun x => !clashF o x).length : Int) ≤ ((clr w' ((o.filter fun x => !clashF o x).length : Int) (zero (.pr .str (.pr .bool (.sl .u8))))).length : Int) := ⟨by omega, by rw [hcl]; omega⟩
    dsimp only
    rw [br_pos d1, br_pos d2]
    have hcut : cut (clr w' ((o.filter fun x => !clashF o x).length : Int) (zero (.pr .str (.pr .bool (.sl .u8))))) ((o.filter fun x => !clashF o x).length : Int) = freeL o := by
      unfold cut clr
      rw [Int.toNat_natCast, List.take_append_of_le_length (by rw [List.length_take]; omega), List.take_take, Nat.min_self, ht']
      rfl
    rw [hcut]
end Go.Proofs.YthlkidohpiebiaaDoor


/- Merge as specified (law 30), in plain Lean. -/
namespace Go.Proofs.YthlkidohpiebiaaDoor
set_option linter.unusedVariables false
set_option linter.unusedSimpArgs false
open Go Go.RowKit
theorem br_nz {R : Type} (n : Int) (x y : Option R) : br (n != 0) x y = if n = 0 then y else x := by
  by_cases h : n = 0
  · rw [if_pos h, h]; simp
  · rw [if_neg h, bne_iff_ne.2 h, br_true]
theorem three_checks {N : Nat} (hN : big ≤ N) (a b c : List FileT) (K : Option (List FileT × List Str × Int)) : blob_Merge_L0 N ([a, b, c].length : Int) [a, b, c] K N 0 =
    if filesS a = 0 then (if filesS b = 0 then (if filesS c = 0 then K else some ([], [], filesS c)) else some ([], [], filesS b)) else some ([], [], filesS a) := by
  obtain ⟨d, rfl⟩ : ∃ d, N = d + 4 := ⟨N - 4, by unfold big at hN; omega⟩
  have g0 : geti [a, b, c] (0 : Int) = some a := rfl
  have g1 : geti [a, b, c] (1 : Int) = some b := rfl
  have g2 : geti [a, b, c] (2 : Int) = some c := rfl
  have w1 : IntKind.i64.wrap ((0 : Int) + 1) = 1 := by decide
  have w2 : IntKind.i64.wrap ((1 : Int) + 1) = 2 := by decide
  have w3 : IntKind.i64.wrap ((2 : Int) + 1) = 3 := by decide
  have t0 : decide ((0 : Int) < 3) = true := rfl
  have t1 : decide ((1 : Int) < 3) = true := rfl
  have t2 : decide ((2 : Int) < 3) = true := rfl
  have t3 : decide ((3 : Int) < 3) = false := rfl
  show blob_Merge_L0 (d + 4) 3 [a, b, c] K (d + 4) 0 = _
  simp only [blob_Merge_L0, blob_Merge_L0T, t0, t1, t2, t3, g0, g1, g2, w1, w2, w3, blob_CheckFiles_eq hN, bnd_some, br_true, br_false, br_nz]
theorem told_names {base a b : List FileT} (h0 : FilesOk base) (h1 : FilesOk a) (h2 : FilesOk b) : ∀ p ∈ pathsS [base, a, b], p.length ≤ 200 := fun p hp => by
  obtain ⟨l, hl, h⟩ := mem_pathsS.1 hp
  obtain ⟨x, hx, rfl⟩ := List.mem_map.1 h
  simp only [List.mem_cons, List.not_mem_nil, or_false] at hl
  rcases hl with rfl | rfl | rfl
  · exact (pathB_len (h0.ok.path x hx)).2
  · exact (pathB_len (h1.ok.path x hx)).2
  · exact (pathB_len (h2.ok.path x hx)).2
theorem hit_len {o : List FileT} (ho : OutOk o) : (hitL o).length ≤ 3000 := by
  have := List.length_filter_le (clashF o) o
  have := ho.len
  unfold hitL pathsOf
  rw [List.length_map]; omega
theorem keys_sorted {l : List Str} (hl : l.length ≤ 10000) (hn : ∀ x ∈ l, x.length ≤ 200) : slices_Sorted_keys (setM [] l) = some (setM [] l, sortN l) := by
  have hsl := setM_len l []
  simp only [List.length_nil, Nat.zero_add] at hsl
  unfold slices_Sorted_keys
  have hk : ∀ p ∈ setM [] l, p.1.length ≤ maxLen := fun p hp => by
    have := ((setM_keys l []).2 p.1).1 (List.mem_map.2 ⟨p, hp, rfl⟩)
    rcases this with h | h
    · cases h
    · exact Nat.le_trans (hn _ h) (by decide)
  exact if_pos ⟨by omega, hk⟩
theorem blob_Merge_eq {N : Nat} (hN : big ≤ N) (base a b : List FileT) : blob_Merge N base a b = some ((mergeS base a b).1, ((mergeS base a b).2.1, (mergeS base a b).2.2)) := by
  have hbN : (18446744073709551616 : Nat) ≤ N := hN
  unfold blob_Merge
  rw [three_checks hN]
  unfold mergeS
  by_cases h0 : filesS base = 0
  case neg => rw [if_neg h0, if_neg h0]
  rw [if_pos h0, if_pos h0]
  by_cases h1 : filesS a = 0
  case neg => rw [if_neg h1, if_neg h1]
  rw [if_pos h1, if_pos h1]
  by_cases h2 : filesS b = 0
  case neg => rw [if_neg h2, if_neg h2]
  rw [if_pos h2, if_pos h2]
  have ok0 := (files_iff base).1 h0
  have ok1 := (files_iff a).1 h1
  have ok2 := (files_iff b).1 h2
  have hsm : ∀ l ∈ [base, a, b], l.length ≤ 1000 ∧ ∀ x ∈ l, x.1.length ≤ 1000 := fun l hl => by
    simp only [List.mem_cons, List.not_mem_nil, or_false] at hl
    rcases hl with rfl | rfl | rfl
    · exact ok0.small
    · exact ok1.small
    · exact ok2.small
  have l0 := ok0.len
  have l1 := ok1.len
  have l2 := ok2.len
  have ho := out_ok ok0 ok1 ok2
  have hps := pathsS_len (ls := [base, a, b]) (by simp) fun l hl => (hsm l hl).1
  have hnm := told_names ok0 ok1 ok2
  rw [byPath_eq hN base (by omega), bnd_some, byPath_eq hN a (by omega), bnd_some, byPath_eq hN b (by omega), bnd_some, paths_eq hN _ (by simp) hsm, bnd_some]
  generalize pathsS [base, a, b] = ps at ho hps hnm ⊢
  refine steps_loop (S := Int × List FileT × List (Str × Bool)) ps.length (fun i => ((i : Int), outL base a b (ps.take i), setM [] (toldL base a b (ps.take i)))) (f := fun n s => blob_Merge_L1 N (ps.length : Int) (mapF base) (mapF a) (mapF b) ps _ n s.1 s.2.1 s.2.2) (fun n i hi => ?_) (fun n => ?_) N (by omega)
  · show blob_Merge_L1T N _ _ _ _ ps _ (blob_Merge_L1 N _ _ _ _ ps _ n) (i : Int) (outL base a b (ps.take i)) (setM [] (toldL base a b (ps.take i))) = blob_Merge_L1 N _ _ _ _ ps _ n ((i + 1 : Nat) : Int) (outL base a b (ps.take (i + 1))) (setM [] (toldL base a b (ps.take (i + 1))))
    have hw : IntKind.i64.wrap ((i : Int) + 1) = ((i + 1 : Nat) : Int) := by rw [wrap_id (by omega) (by omega)]; omega
    have hs := outL_len base a b ps i
    have hz : ∀ z : FileT, ((outL base a b (ps.take i)).length + [z].length) * (24 * Ty.sz (.pr .str (.pr .bool (.sl .u8)))) ≤ 140737488355328 := fun z => szF (by omega) z
    unfold blob_Merge_L1T
    rw [br_pos (by omega : (i : Int) < (ps.length : Int)), geti_lt ps hi, bnd_some, spotOf_eq N ok0.ok.asc, bnd_some, spotOf_eq N ok1.ok.asc, bnd_some, spotOf_eq N ok2.ok.asc, bnd_some, spot_same N (p := ps[i]) find_path find_path, bnd_some, spot_same N (p := ps[i]) find_path find_path, bnd_some, spot_same N (p := ps[i]) find_path find_path, bnd_some, hw, outL_take base a b hi, toldL_take base a b hi]
    simp only [br_pos (hz _)]
    unfold takeO toldO
    generalize findF base ps[i] = x
    generalize findF a ps[i] = y
    generalize findF b ps[i] = z
    by_cases e1 : y = x
    · rw [decide_eq_true e1, br_true, if_pos e1]
      cases z with
      | none => simp [spF]
      | some v => simp [spF]
    · rw [decide_eq_false e1, br_false, if_neg e1]
      by_cases e2 : z = x
      · rw [decide_eq_true e2, Bool.not_true, br_false]
        cases y with
        | none => simp [spF]
        | some v => simp [spF]
      · rw [decide_eq_false e2, Bool.not_false, br_true]
        by_cases e3 : z = y
        · rw [decide_eq_true e3, Bool.not_true, br_false]
          cases y with
          | none => simp [spF]
          | some v => simp [spF]
        · have hset : setM [] (toldL base a b (ps.take i) ++ [ps[i]]) = mset (setM [] (toldL base a b (ps.take i))) ps[i] true := by rw [setM_app]; rfl
          rw [decide_eq_false e3, Bool.not_false, br_true]
          cases y with
          | none => simp [spF, hset]
          | some v => simp [spF, hset]
  · show blob_Merge_L1T N _ _ _ _ ps _ _ (ps.length : Int) (outL base a b (ps.take ps.length)) (setM [] (toldL base a b (ps.take ps.length))) = _
    unfold blob_Merge_L1T
    rw [br_neg (by omega), List.take_length]
    dsimp only
    have htl : (toldL base a b ps).length ≤ 3000 := by
      have := toldL_len base a b ps ps.length
      rw [List.take_length] at this
      omega
    have htn : ∀ x ∈ toldL base a b ps ++ hitL (outL base a b ps), x.length ≤ 200 := fun x hx => by
      rcases List.mem_append.1 hx with h | h
      · exact hnm x (List.mem_filter.1 h).1
      · obtain ⟨y, hy, rfl⟩ := List.mem_map.1 h
        exact ho.name y (List.mem_filter.1 hy).1
    generalize outL base a b ps = o at ho htn ⊢
    generalize toldL base a b ps = t at htl htn ⊢
    have hol := ho.len
    have hhl := hit_len ho
    rw [paths_L2 hN (by omega)]
    try dsimp only
    have hdel := DeleteFunc_merge hN ho t
    have m0 : (memS o t 0).2 = setM [] t := by unfold memS; simp [pathsOf]
    have m1 : (memS o t o.length).2 = setM [] (t ++ hitL o) := by unfold memS hitL; rw [List.take_length]
    rw [m0] at hdel
    rw [show slices_DeleteFunc_api_File_2 N o (setM [] (pathsOf o)) (setM [] t) = _ from hdel, bnd_some]
    dsimp only
    rw [blob_CheckFiles_eq hN, bnd_some, m1]
    by_cases h3 : filesS (freeL o) = 0
    · have ok3 := (files_iff _).1 h3
      have l3 := ok3.len
      rw [if_pos h3, h3, show ((0 : Int) != 0) = false from rfl, br_false, Own_eq hN (by omega) ok3.bytes, bnd_some]
      unfold maps_Keys_bool
      rw [bnd_some, keys_sorted (by rw [List.length_append]; omega) htn, bnd_some]
    · rw [if_neg h3, bne_iff_ne.2 h3, br_true]
end Go.Proofs.YthlkidohpiebiaaDoor


/- Easy merges (law 26), in plain Lean. -/
namespace Go.Proofs.YthlkidohpiebiaaDoor
set_option linter.unusedVariables false
set_option linter.unusedSimpArgs false
open Go Go.RowKit
theorem sortN_nil : sortN ([] : List Str) = [] := by simp [sortN, setM]
end Go.Proofs.YthlkidohpiebiaaDoor


/- Merges in the contrary order (law 28), in plain Lean. -/
namespace Go.Proofs.YthlkidohpiebiaaDoor
set_option linter.unusedVariables false
set_option linter.unusedSimpArgs false
open Go Go.RowKit
theorem take_swap {x y z : Option FileT} (h : toldO x y z = false) : takeO x z y = takeO x y z := by
  unfold toldO at h
  unfold takeO
  by_cases h1 : y = x
  · by_cases h2 : z = x
    · rw [if_pos h1, if_pos h2, h1, h2]
    · rw [if_pos h1, if_neg h2]
  · by_cases h2 : z = x
    · rw [if_pos h2, if_neg h1]
    · rw [decide_eq_false h1, decide_eq_false h2] at h
      rw [if_neg h1, if_neg h2]
      by_cases h3 : z = y
      · exact h3
      · rw [decide_eq_false h3] at h; cases h
theorem told_swap (x y z : Option FileT) : toldO x z y = toldO x y z := by
  unfold toldO
  by_cases h1 : y = x <;> by_cases h2 : z = x <;> by_cases h3 : z = y
  all_goals
    have h4 : (y = z) = (z = y) := propext ⟨Eq.symm, Eq.symm⟩
    simp [h1, h2, h4]
  all_goals
    first | done | (intro; simp_all)
theorem paths_swap (x a b : List FileT) : pathsS [x, b, a] = pathsS [x, a, b] := by
  refine sortN_of (sortN_asc _) fun p => ?_
  show p ∈ pathsS [x, b, a] ↔ _
  rw [mem_pathsS]
  simp only [List.mem_cons, List.not_mem_nil, or_false, List.flatMap_cons, List.flatMap_nil, List.append_nil, List.mem_append]
  constructor
  · rintro ⟨l, rfl | rfl | rfl, h⟩
    · exact .inl h
    · exact .inr (.inr h)
    · exact .inr (.inl h)
  · rintro (h | h | h)
    · exact ⟨x, .inl rfl, h⟩
    · exact ⟨a, .inr (.inr rfl), h⟩
    · exact ⟨b, .inr (.inl rfl), h⟩
theorem fm_congr {α β : Type} {f g : α → Option β} : ∀ {l : List α}, (∀ x ∈ l, f x = g x) → l.filterMap f = l.filterMap g
  | [], _ => rfl
  | x :: l, h => by rw [List.filterMap_cons, List.filterMap_cons, h x (by simp), fm_congr fun y hy => h y (List.mem_cons_of_mem _ hy)]
theorem sortN_eq_nil {l : List Str} (h : sortN l = []) : l = [] := by
  cases l with
  | nil => rfl
  | cons x l =>
    have := (mem_sortN (x :: l) x).2 (by simp)
    rw [h] at this; cases this
theorem mergeS_cases (base a b : List FileT) : ((mergeS base a b).2.2 ≠ 0 ∧ (mergeS base a b).1 = []) ∨ (filesS base = 0 ∧ filesS a = 0 ∧ filesS b = 0 ∧ filesS (freeL (outL base a b (pathsS [base, a, b]))) = 0 ∧
    mergeS base a b = (freeL (outL base a b (pathsS [base, a, b])), sortN (toldL base a b (pathsS [base, a, b]) ++ hitL (outL base a b (pathsS [base, a, b]))), 0)) := by
  unfold mergeS
  by_cases h0 : filesS base = 0
  case neg => rw [if_neg h0]; exact .inl ⟨h0, rfl⟩
  by_cases h1 : filesS a = 0
  case neg => rw [if_pos h0, if_neg h1]; exact .inl ⟨h1, rfl⟩
  by_cases h2 : filesS b = 0
  case neg => rw [if_pos h0, if_pos h1, if_neg h2]; exact .inl ⟨h2, rfl⟩
  by_cases h3 : filesS (freeL (outL base a b (pathsS [base, a, b]))) = 0
  case neg => rw [if_pos h0, if_pos h1, if_pos h2, if_neg h3]; exact .inl ⟨h3, rfl⟩
  rw [if_pos h0, if_pos h1, if_pos h2, if_pos h3]
  exact .inr ⟨h0, h1, h2, h3, rfl⟩
theorem plain_BlobMergesEven (base a b : List FileT) (_ : Fit (.sl (.pr .str (.pr .bool (.sl .u8)))) base) (_ : Fit (.sl (.pr .str (.pr .bool (.sl .u8)))) a) (_ : Fit (.sl (.pr .str (.pr .bool (.sl .u8)))) b) : ∃ N, law1_BlobMergesEven N base a b = some true := by
  obtain ⟨N, hN⟩ : ∃ N, big ≤ N := ⟨big, Nat.le_refl _⟩
  refine ⟨N, ?_⟩
  unfold law1_BlobMergesEven
  rw [blob_Merge_eq hN, bnd_some]
  dsimp only
  rcases mergeS_cases base a b with ⟨h1, h2⟩ | ⟨h0, h1, h2, h3, e⟩
  · rw [bne_iff_ne.2 h1, br_true, beq_eq_false_iff_ne.2 h1, br_false, h2, awake_ok hN]
    simp
  rw [e]
  dsimp only
  rw [show ((0 : Int) != 0) = false from rfl, br_false, beq_self_eq_true, br_true]
  by_cases hm : sortN (toldL base a b (pathsS [base, a, b]) ++ hitL (outL base a b (pathsS [base, a, b]))) = []
  case neg =>
    have hpos : 0 < (sortN (toldL base a b (pathsS [base, a, b]) ++ hitL (outL base a b (pathsS [base, a, b])))).length := List.length_pos_iff.2 hm
    rw [br_pos (by omega : ((sortN (toldL base a b (pathsS [base, a, b]) ++ hitL (outL base a b (pathsS [base, a, b])))).length : Int) > 0), awake_ok hN, bnd_some]
  have hnil := List.append_eq_nil_iff.1 (sortN_eq_nil hm)
  have hno : ∀ p ∈ pathsS [base, a, b], toldO (findF base p) (findF a p) (findF b p) = false := fun p hp => by
    have := List.filter_eq_nil_iff.1 hnil.1 p hp
    simpa using this
  have e2 : outL base b a (pathsS [base, b, a]) = outL base a b (pathsS [base, a, b]) := by
    rw [paths_swap]
    unfold outL
    refine fm_congr fun p hp => take_swap (hno p hp)
  have e3 : toldL base b a (pathsS [base, b, a]) = [] := by
    rw [paths_swap]
    exact List.filter_eq_nil_iff.2 fun p hp => by rw [told_swap, hno p hp]; simp
  have e4 : mergeS base b a = (freeL (outL base a b (pathsS [base, a, b])), [], 0) := by
    unfold mergeS
    rw [if_pos h0, if_pos h2, if_pos h1, e2, if_pos h3, e3, hnil.2, List.append_nil, sortN_nil]
  have hl := ((files_iff _).1 h3).len
  rw [hm, blob_Merge_eq hN, e4]
  generalize freeL (outL base a b (pathsS [base, a, b])) = o at hl
  dsimp only
  rw [bnd_some, SameFiles_eq hN o o (by omega), awake_ok hN]
  simp
end Go.Proofs.YthlkidohpiebiaaDoor

