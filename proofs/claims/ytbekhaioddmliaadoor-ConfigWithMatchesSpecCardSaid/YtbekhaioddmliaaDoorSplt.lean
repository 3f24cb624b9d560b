/- Splitting, cutting and joining at one byte. No program in sight. -/
import Derived.Test.YtbekhaioddmliaaDoorBmQ
import Derived.Test.YtbekhaioddmliaaDoorBmJ
namespace Go.Proofs.YtbekhaioddmliaaDoor
set_option linter.unusedVariables false
set_option linter.unusedSimpArgs false
open Go Go.RowKit
def splitC (c : UInt8) : Str → List Str
  | [] => [[]]
  | b :: s => if b = c then [] :: splitC c s else match splitC c s with
    | x :: xs => (b :: x) :: xs
    | [] => [[b]]
theorem splitC_ne (c : UInt8) (s : Str) : splitC c s ≠ [] := by
  cases s with
  | nil => simp [splitC]
  | cons b s => unfold splitC; split; simp; split <;> simp
theorem indexByte_cons (b c : UInt8) (s : Str) : Lib.indexByte (b :: s) c = if b = c then 0 else if Lib.indexByte s c = -1 then -1 else Lib.indexByte s c + 1 := by
  have h := Lib.indexByte_ge s c
  rw [Lib.indexByte]
  by_cases hb : b = c
  · simp [hb]
  · simp only [beq_iff_eq, hb, if_false]
theorem splitK_one (c : UInt8) : ∀ (s : Str), Lib.splitK [c] 0 (Lib.count s [c]) s = splitC c s
  | [] => by simp [Lib.count_one, Lib.splitK, splitC]
  | b :: s => by
    have ih := splitK_one c s
    by_cases hb : b = c
    · subst hb
      rw [Lib.count_cons_eq, Nat.add_comm, Lib.splitK, Lib.index_one, indexByte_cons]
      simp only [if_true]
      show (_ :: Lib.splitK [b] 0 (Lib.count s [b]) s) = _
      rw [ih]
      simp [splitC]
    · rw [Lib.count_cons_ne _ _ _ hb]
      unfold splitC
      rw [if_neg hb, ← ih]
      cases hk : Lib.count s [c] with
      | zero => simp [Lib.splitK]
      | succ k =>
        rw [Lib.splitK, Lib.splitK, Lib.index_one, Lib.index_one, indexByte_cons, if_neg hb]
        have h0 := Lib.indexByte_ge s c
        by_cases h1 : Lib.indexByte s c = -1
        · simp [h1]
        · have h2 : ∃ n : Nat, Lib.indexByte s c = n := ⟨(Lib.indexByte s c).toNat, by omega⟩
          obtain ⟨n, hn⟩ := h2
          have e : ((n : Int) + 1).toNat = n + 1 := by omega
          have e1 : ¬ ((n : Int) = -1) := by omega
          have e2 : ¬ ((n : Int) + 1 = -1) := by omega
          simp [hn, e, e1, e2, Nat.add_right_comm]
theorem splitS_one (s : Str) (c : UInt8) : splitS s [c] = splitC c s := by
  unfold splitS
  have := Lib.splitB_data ⟨[c].toArray⟩ 0 (Lib.countB ⟨s.toArray⟩ ⟨[c].toArray⟩) ⟨s.toArray⟩
  rw [this]
  exact splitK_one c s
theorem splitC_len (c : UInt8) : ∀ s : Str, (splitC c s).length = s.count c + 1
  | [] => rfl
  | b :: s => by
    have ih := splitC_len c s
    unfold splitC
    by_cases hb : b = c
    · rw [if_pos hb]; simp [hb, ih]
    · rw [if_neg hb, List.count_cons_of_ne hb, ← ih]
      have := splitC_ne c s
      cases h : splitC c s with
      | nil => exact absurd h this
      | cons => rfl
theorem strings_Split_one (s : Str) (c : UInt8) (h : s.length < 4294967281) : strings_Split s [c] = some (splitC c s) := by
  have hc : s.count c ≤ s.length := List.count_le_length
  unfold strings_Split
  rw [splitS_one, splitC_len]
  refine if_pos ⟨h, by simp, ?_, by omega⟩
  show _ = Lib.count s [c] + 1
  rw [Lib.count_one]
theorem splitC_no {c : UInt8} : ∀ {s : Str}, c ∉ s → splitC c s = [s]
  | [], _ => rfl
  | b :: s, h => by
    rw [splitC, if_neg (fun e => h (by simp [e])), splitC_no (fun e => h (by simp [e]))]
theorem splitC_app {c : UInt8} : ∀ {s : Str}, c ∉ s → ∀ t : Str, splitC c (s ++ c :: t) = s :: splitC c t
  | [], _, t => by simp [splitC]
  | b :: s, h, t => by
    rw [List.cons_append, splitC, if_neg (fun e => h (by simp [e])), splitC_app (fun e => h (by simp [e]))]
theorem join_two (c : UInt8) (x y : Str) (l : List Str) : Lib.join (x :: y :: l) [c] = x ++ c :: Lib.join (y :: l) [c] := by
  unfold Lib.join
  rw [List.intercalate_cons_cons]
  simp
theorem split_join {c : UInt8} : ∀ {l : List Str}, l ≠ [] → (∀ x ∈ l, c ∉ x) → splitC c (Lib.join l [c]) = l
  | [], h, _ => absurd rfl h
  | [x], _, h => by rw [Lib.join_one, splitC_no (h x (by simp))]
  | x :: y :: l, _, h => by
    rw [join_two, splitC_app (h x (by simp)), split_join (by simp) (fun z hz => h z (List.mem_cons_of_mem _ hz))]
theorem join_split (c : UInt8) : ∀ s : Str, Lib.join (splitC c s) [c] = s
  | [] => rfl
  | b :: s => by
    have ih := join_split c s
    have hne := splitC_ne c s
    unfold splitC
    by_cases hb : b = c
    · rw [if_pos hb]
      cases h : splitC c s with
      | nil => exact absurd h hne
      | cons x xs => rw [join_two, ← h, ih, hb]; rfl
    · rw [if_neg hb]
      cases h : splitC c s with
      | nil => exact absurd h hne
      | cons x xs =>
        rw [h] at ih
        cases xs with
        | nil => rw [Lib.join_one] at ih ⊢; rw [ih]
        | cons y ys => rw [join_two] at ih ⊢; rw [← ih]; rfl
theorem splitC_mem (c : UInt8) (s : Str) : ∀ x ∈ splitC c s, c ∉ x ∧ x.length ≤ s.length := by
  induction s with
  | nil => intro x hx; simp [splitC] at hx; subst hx; simp
  | cons b s ih =>
    intro x hx
    unfold splitC at hx
    by_cases hb : b = c
    · rw [if_pos hb] at hx
      rcases List.mem_cons.1 hx with rfl | hx
      · simp
      · have := ih x hx; exact ⟨this.1, by simp; omega⟩
    · rw [if_neg hb] at hx
      cases h : splitC c s with
      | nil => exact absurd h (splitC_ne c s)
      | cons y ys =>
        rw [h] at hx ih
        rcases List.mem_cons.1 hx with rfl | hx
        · have := ih y (by simp)
          refine ⟨fun hm => ?_, by simp; omega⟩
          rcases List.mem_cons.1 hm with e | hm
          · exact hb e.symm
          · exact this.1 hm
        · have := ih x (List.mem_cons_of_mem _ hx); exact ⟨this.1, by simp; omega⟩
theorem join_len_le (l : List Str) (c : UInt8) (m : Nat) (h : ∀ x ∈ l, x.length ≤ m) : (Lib.join l [c]).length ≤ l.length * (m + 1) := by
  induction l with
  | nil => simp [Lib.join_nil]
  | cons x l ih =>
    have hx := h x (by simp)
    cases l with
    | nil => rw [Lib.join_one]; simp; omega
    | cons y l =>
      have := ih (fun z hz => h z (List.mem_cons_of_mem _ hz))
      rw [join_two, List.length_append, List.length_cons, List.length_cons, Nat.succ_mul]
      omega
/-- Cut at one byte. -/
theorem cut_hit {c : UInt8} {a : Str} (h : c ∉ a) (b : Str) : Lib.cut (a ++ c :: b) [c] = (a, b, true) := by
  have hi : ∀ a : Str, c ∉ a → Lib.indexByte (a ++ c :: b) c = a.length := by
    intro a
    induction a with
    | nil => intro _; simp [indexByte_cons]
    | cons x a ih =>
      intro h
      have := ih (fun e => h (by simp [e]))
      rw [List.cons_append, indexByte_cons, if_neg (fun e => h (by simp [e])), this, if_neg (by omega)]
      simp
  unfold Lib.cut
  simp only [Lib.index_one, hi a h]
  simp
theorem cut_miss {c : UInt8} {a : Str} (h : c ∉ a) : Lib.cut a [c] = (a, [], false) := by
  have hi : ∀ a : Str, c ∉ a → Lib.indexByte a c = -1 := by
    intro a
    induction a with
    | nil => intro _; rfl
    | cons x a ih =>
      intro h
      rw [indexByte_cons, if_neg (fun e => h (by simp [e])), ih (fun e => h (by simp [e])), if_pos rfl]
  unfold Lib.cut
  simp only [Lib.index_one, hi a h]
  simp
end Go.Proofs.YtbekhaioddmliaaDoor
