/- What Go's slices.Clone, DeleteFunc and BinarySearchFunc compute, as printed. No program in sight. -/
import Derived.Test.YtbekhaioddmliaaDoorQFor2
import Derived.Lib.Bytealg
namespace Go.Proofs.YtbekhaioddmliaaDoor
set_option linter.unusedVariables false
set_option linter.unusedSimpArgs false
open Go Go.RowKit
theorem clone_eq {α : Type} (sz : Nat) (xs : List α) (h : xs.length * sz ≤ 140737488355328) :
    br xs.isEmpty (both (some ([] : List α)) (br (decide ((([] : List α).length + xs.length) * sz ≤ 140737488355328)) (some (([] : List α) ++ xs)) none)) (br (decide ((([] : List α).length + xs.length) * sz ≤ 140737488355328)) (some (([] : List α) ++ xs)) none) = some xs := by
  have e : br (decide ((([] : List α).length + xs.length) * sz ≤ 140737488355328)) (some (([] : List α) ++ xs)) none = some xs := by
    rw [br_pos (by rw [List.length_nil, Nat.zero_add]; exact h), List.nil_append]
  rw [e]
  cases xs with
  | nil => rw [both_self]; simp
  | cons x xs => simp
/-- The first place. -/
theorem idxP_full {α : Type} (p : α → Bool) (xs : List α) : (idxP p xs = -1 ∧ ∀ x ∈ xs, p x = false) ∨ ∃ (i : Nat) (h : i < xs.length), idxP p xs = (i : Int) ∧ p xs[i] = true ∧ ∀ k (hk : k < i), p (xs[k]'(by omega)) = false := by
  have gen : ∀ (xs : List α) (j : Nat), (forT (fun i x r => if p x = true then (i : Int) else r) (-1) xs j = -1 ∧ ∀ x ∈ xs, p x = false) ∨
      ∃ (i : Nat) (h : i < xs.length), forT (fun i x r => if p x = true then (i : Int) else r) (-1) xs j = ((j + i : Nat) : Int) ∧ p xs[i] = true ∧ ∀ k (hk : k < i), p (xs[k]'(by omega)) = false := by
    intro xs
    induction xs with
    | nil => intro j; exact .inl ⟨rfl, by simp⟩
    | cons x xs ih =>
      intro j
      cases hp : p x with
      | true => exact .inr ⟨0, by simp, by simp [forT, hp], hp, fun k hk => absurd hk (Nat.not_lt_zero k)⟩
      | false =>
        rcases ih (j + 1) with ⟨h1, h2⟩ | ⟨i, h, h1, h2, h3⟩
        · refine .inl ⟨by simp only [forT, hp]; simpa using h1, fun y hy => ?_⟩
          rcases List.mem_cons.1 hy with rfl | hy
          · exact hp
          · exact h2 y hy
        · refine .inr ⟨i + 1, by simpa using h, by simp only [forT, hp]; rw [if_neg (by simp), h1]; congr 1; omega, by simpa using h2, fun k hk => ?_⟩
          cases k with
          | zero => exact hp
          | succ k => simpa using h3 k (by omega)
  rcases gen xs 0 with h | ⟨i, h, h1, h2⟩
  · exact .inl h
  · exact .inr ⟨i, h, by unfold idxP; rw [h1]; simp, h2⟩
theorem filter_take_succ {α : Type} (q : α → Bool) (xs : List α) {j : Nat} (h : j < xs.length) : (xs.take (j + 1)).filter q = (xs.take j).filter q ++ if q xs[j] then [xs[j]] else [] := by
  rw [List.take_succ_eq_append_getElem h, List.filter_append]
  congr 1
  cases hq : q xs[j] <;> simp [hq]
/-- One round of slices.DeleteFunc. -/
def delT {α R : Type} (P : α → Option Bool) (k0 : Int → List α → Option R) (self : Int → Int → List α → Option R) (s5 s6 : Int) (w : List α) : Option R :=
  br (decide (s6 < (w.length : Int)))
    (br (decide (0 ≤ s6 ∧ s6 < (w.length : Int)))
      (bnd (geti w s6) fun t25 =>
      bnd (P t25) fun t28 =>
      br (!t28)
        (br (decide (0 ≤ s5 ∧ s5 < (w.length : Int)))
          (bnd (geti w s5) fun _ =>
          self (IntKind.i64.wrap (s5 + (1 : Int))) (IntKind.i64.wrap (s6 + (1 : Int))) (seti w s5 t25))
          none)
        (self s5 (IntKind.i64.wrap (s6 + (1 : Int))) w))
      none)
    (k0 s5 w)
theorem del_loop {α R : Type} {w0 : List α} (hx : w0.length ≤ maxLen) (p : α → Bool) {P : α → Option Bool} (hP : ∀ t ∈ w0, P t = some (p t)) {k0 : Int → List α → Option R} {f : Nat → Int → Int → List α → Option R}
    (hf : ∀ n a b w, f (n + 1) a b w = delT P k0 (f n) a b w) : ∀ (m n i j : Nat) (w : List α), j + m = w0.length → m < n → i ≤ j → w.length = w0.length → w.drop j = w0.drop j → i = ((w0.take j).filter fun x => !p x).length → w.take i = (w0.take j).filter (fun x => !p x) →
    ∃ w' : List α, w'.length = w0.length ∧ w'.take (w0.filter fun x => !p x).length = w0.filter (fun x => !p x) ∧ f n (i : Int) (j : Int) w = k0 ((w0.filter fun x => !p x).length : Int) w'
  | 0, n, i, j, w, hj, hn, hij, hl, hd, hi, ht => by
    obtain ⟨n, rfl⟩ : ∃ q, n = q + 1 := ⟨n - 1, by omega⟩
    have hjl : j = w0.length := by omega
    rw [hjl, List.take_length] at hi ht
    refine ⟨w, hl, by rw [← hi]; exact ht, ?_⟩
    rw [hf, delT, br_neg (by rw [hl]; omega), hi]
  | m + 1, n, i, j, w, hj, hn, hij, hl, hd, hi, ht => by
    obtain ⟨n, rfl⟩ : ∃ q, n = q + 1 := ⟨n - 1, by omega⟩
    have hjw : j < w.length := by omega
    have hj0 : j < w0.length := by omega
    have hwj : w[j] = w0[j] := by
      have := congrArg (fun l => l[0]?) hd
      simp only [List.getElem?_drop, Nat.add_zero] at this
      rw [List.getElem?_eq_getElem hjw, List.getElem?_eq_getElem hj0] at this
      exact Option.some.inj this
    have hwj1 : IntKind.i64.wrap ((j : Int) + 1) = ((j + 1 : Nat) : Int) := by unfold maxLen at hx; rw [wrap_id (by omega) (by omega)]; rfl
    have hwi1 : IntKind.i64.wrap ((i : Int) + 1) = ((i + 1 : Nat) : Int) := by unfold maxLen at hx; rw [wrap_id (by omega) (by omega)]; rfl
    have hd1 : w.drop (j + 1) = w0.drop (j + 1) := by
      have := congrArg (List.drop 1) hd
      simpa [List.drop_drop] using this
    rw [hf, delT, br_pos (by omega), br_pos (by omega), geti_lt w hjw, bnd_some, hwj, hP _ (List.getElem_mem hj0), bnd_some, hwj1]
    have hfs := filter_take_succ (fun x => !p x) w0 hj0
    cases hp : p w0[j] with
    | false =>
      have hiw : i < w.length := by omega
      rw [Bool.not_false, br_true, br_pos (by omega), geti_lt w hiw, bnd_some, hwi1]
      rw [hp] at hfs
      simp only [Bool.not_false, if_true] at hfs
      refine del_loop hx p hP hf m n (i + 1) (j + 1) (seti w (i : Int) w0[j]) (by omega) (by omega) (by omega) (by unfold seti; rw [List.length_set]; exact hl) ?_ ?_ ?_
      · unfold seti
        rw [Int.toNat_natCast, List.drop_set_of_lt (by omega), hd1]
      · rw [hfs, List.length_append, ← hi]; rfl
      · unfold seti
        rw [hfs, ← ht, Int.toNat_natCast, List.take_succ_eq_append_getElem (by rw [List.length_set]; exact hiw), List.getElem_set_self, List.take_set_of_le (Nat.le_refl i)]
    | true =>
      rw [Bool.not_true, br_false]
      rw [hp] at hfs
      simp only [Bool.not_true, Bool.false_eq_true, if_false, List.append_nil] at hfs
      exact del_loop hx p hP hf m n i (j + 1) w (by omega) (by omega) (by omega) hl hd1 (by rw [hfs]; exact hi) (by rw [hfs]; exact ht)
theorem deleteFunc_eq {α : Type} {N : Nat} (hN : big ≤ N) {w0 : List α} (hx : w0.length ≤ maxLen) (p : α → Bool) {P : α → Option Bool} (hP : ∀ t ∈ w0, P t = some (p t)) (z : α) {f : Nat → Int → Int → List α → Option (List α)}
    (hf : ∀ n a b w, f (n + 1) a b w = delT P (fun o0_5 o0_w0 =>
        br (decide (0 ≤ o0_5 ∧ o0_5 ≤ (o0_w0.length : Int) ∧ 0 < o0_w0.length))
          (br (decide (0 ≤ o0_5 ∧ o0_5 ≤ ((clr o0_w0 o0_5 z).length : Int)))
            (some (cut (clr o0_w0 o0_5 z) o0_5))
            none)
          none) (f n) a b w) :
    br (idxP p w0 == (-1 : Int)) (some w0) (f N (idxP p w0) (IntKind.i64.wrap (idxP p w0 + (1 : Int))) w0) = some (w0.filter fun x => !p x) := by
  rcases idxP_full p w0 with ⟨h1, h2⟩ | ⟨i, h, h1, h2, h3⟩
  · rw [h1]
    have : w0.filter (fun x => !p x) = w0 := List.filter_eq_self.2 fun x hx => by rw [h2 x hx]; rfl
    rw [this]
    simp
  · have hne : ((i : Int) == -1) = false := beq_eq_false_iff_ne.2 (by omega)
    have hw : IntKind.i64.wrap ((i : Int) + 1) = ((i + 1 : Nat) : Int) := by unfold maxLen at hx; rw [wrap_id (by omega) (by omega)]; rfl
    have hall : (w0.take i).filter (fun x => !p x) = w0.take i := List.filter_eq_self.2 fun x hx => by
      obtain ⟨k, hk, rfl⟩ := List.getElem_of_mem hx
      rw [List.length_take] at hk
      rw [List.getElem_take, h3 k (by omega)]; rfl
    have hfs := filter_take_succ (fun x => !p x) w0 h
    rw [h2] at hfs
    simp only [Bool.not_true, Bool.false_eq_true, if_false, List.append_nil] at hfs
    rw [hall] at hfs
    obtain ⟨w', hl', ht', he⟩ := del_loop hx p hP hf (w0.length - (i + 1)) N i (i + 1) w0 (by omega) (by unfold maxLen at hx; unfold big at hN; omega) (by omega) rfl rfl (by rw [hfs, List.length_take]; omega) (by rw [hfs])
    rw [h1, hne, br_false, hw, he]
    have hle : (w0.filter fun x => !p x).length ≤ w0.length := List.length_filter_le _ _
    have hcl : (clr w' ((w0.filter fun x => !p x).length : Int) z).length = w'.length := by
      unfold clr; rw [Int.toNat_natCast, List.length_append, List.length_take, List.length_replicate]; omega
    rw [br_pos ⟨by omega, by omega, by omega⟩, br_pos ⟨by omega, by rw [hcl]; omega⟩]
    congr 1
    unfold cut clr
    rw [Int.toNat_natCast, List.take_append_of_le_length (by rw [List.length_take]; omega), List.take_take, Nat.min_self, ht']
/-- One round of slices.BinarySearchFunc; 'lt x': x comes before what is looked for. -/
def binT {α R : Type} (xs : List α) (C : α → Option Int) (k0 : Int → Option R) (self : Int → Int → Option R) (s9 s10 : Int) : Option R :=
  br (decide (s9 < s10))
    (br (decide (0 ≤ (1 : Int)))
      (bnd (geti xs (IntKind.i64.wrap (shrI .u64 (IntKind.u64.wrap (IntKind.i64.wrap (s9 + s10))) (1 : Int)))) fun t27 =>
      bnd (C t27) fun t30 =>
      br (decide (t30 < (0 : Int)))
        (self (IntKind.i64.wrap ((IntKind.i64.wrap (shrI .u64 (IntKind.u64.wrap (IntKind.i64.wrap (s9 + s10))) (1 : Int))) + (1 : Int))) s10)
        (self s9 (IntKind.i64.wrap (shrI .u64 (IntKind.u64.wrap (IntKind.i64.wrap (s9 + s10))) (1 : Int)))))
      none)
    (k0 s9)
theorem shr_mid {i j : Nat} (h : i + j ≤ 9223372036854775807) : IntKind.i64.wrap (shrI .u64 (IntKind.u64.wrap (IntKind.i64.wrap ((i : Int) + (j : Int)))) (1 : Int)) = (((i + j) / 2 : Nat) : Int) := by
  have e1 : IntKind.i64.wrap ((i : Int) + (j : Int)) = ((i + j : Nat) : Int) := by rw [wrap_id (by omega) (by omega)]; omega
  have e2 : IntKind.u64.wrap ((i + j : Nat) : Int) = ((i + j : Nat) : Int) := by
    simp [IntKind.wrap, IntKind.signed, IntKind.bits]
    omega
  have e3 : shrI .u64 ((i + j : Nat) : Int) 1 = (((i + j) / 2 : Nat) : Int) := by
    unfold shrI
    have : (2 : Int) ^ (min (1 : Int).toNat IntKind.u64.bits) = 2 := by decide
    rw [this, Int.fdiv_eq_ediv_of_nonneg _ (by omega)]
    omega
  rw [e1, e2, e3, wrap_id (by omega) (by omega)]
/-- Where the first elements end that come before. -/
def lowN {α : Type} (lt : α → Bool) (xs : List α) : Nat := (xs.takeWhile lt).length
theorem lowN_le {α : Type} (lt : α → Bool) (xs : List α) : lowN lt xs ≤ xs.length := (List.takeWhile_sublist lt).length_le
theorem lowN_eq {α : Type} (lt : α → Bool) : ∀ (xs : List α) (i : Nat), i ≤ xs.length → (∀ k (h : k < xs.length), k < i → lt xs[k] = true) → (∀ h : i < xs.length, lt xs[i] = false) → lowN lt xs = i
  | [], i, hi, _, _ => by
    have : i = 0 := by simpa using hi
    rw [this]; rfl
  | x :: xs, 0, _, _, h => by
    have := h (by simp)
    simp only [List.getElem_cons_zero] at this
    unfold lowN; rw [List.takeWhile_cons_of_neg (by simp [this])]; rfl
  | x :: xs, i + 1, hi, h1, h2 => by
    have h0 := h1 0 (by simp) (by omega)
    simp only [List.getElem_cons_zero] at h0
    have ih := lowN_eq lt xs i (by simpa using hi) (fun k hk hki => by have := h1 (k + 1) (by simpa using hk) (by omega); simpa using this) (fun h => by have := h2 (by simpa using h); simpa using this)
    unfold lowN at ih ⊢
    rw [List.takeWhile_cons_of_pos h0, List.length_cons, ih]
theorem bin_loop {α R : Type} {xs : List α} (hx : xs.length ≤ 1000000) (lt : α → Bool) {C : α → Option Int} (hC : ∀ t ∈ xs, ∃ c, C t = some c ∧ decide (c < 0) = lt t) (hmono : ∀ a b (ha : a < xs.length) (hb : b < xs.length), a ≤ b → lt xs[b] = true → lt xs[a] = true)
    {k0 : Int → Option R} {f : Nat → Int → Int → Option R} (hf : ∀ n a b, f (n + 1) a b = binT xs C k0 (f n) a b) :
    ∀ (m n i j : Nat), j - i ≤ m → m < n → i ≤ j → j ≤ xs.length → (∀ k (h : k < xs.length), k < i → lt xs[k] = true) → (∀ k (h : k < xs.length), j ≤ k → lt xs[k] = false) → f n (i : Int) (j : Int) = k0 (lowN lt xs : Int)
  | m, n, i, j, hm, hn, hij, hj, h1, h2 => by
    obtain ⟨n, rfl⟩ : ∃ q, n = q + 1 := ⟨n - 1, by omega⟩
    rw [hf, binT]
    by_cases hlt : i < j
    · rw [br_pos (by omega), br_pos (by omega), shr_mid (by omega)]
      have hmid : (i + j) / 2 < xs.length := by omega
      obtain ⟨c, hc1, hc2⟩ := hC _ (List.getElem_mem hmid)
      rw [geti_lt xs hmid, bnd_some, hc1, bnd_some, hc2]
      obtain ⟨m, rfl⟩ : ∃ q, m = q + 1 := ⟨m - 1, by omega⟩
      have hw : IntKind.i64.wrap ((((i + j) / 2 : Nat) : Int) + 1) = (((i + j) / 2 + 1 : Nat) : Int) := by rw [wrap_id (by omega) (by omega)]; rfl
      cases hl : lt xs[(i + j) / 2] with
      | true =>
        rw [br_true, hw]
        exact bin_loop hx lt hC hmono hf m n ((i + j) / 2 + 1) j (by omega) (by omega) (by omega) hj (fun k hk hki => hmono k _ hk hmid (by omega) hl) h2
      | false =>
        rw [br_false]
        refine bin_loop hx lt hC hmono hf m n i ((i + j) / 2) (by omega) (by omega) (by omega) (by omega) h1 (fun k hk hjk => ?_)
        cases hk2 : lt xs[k] with
        | false => rfl
        | true => rw [hmono _ k hmid hk hjk hk2] at hl; cases hl
    · rw [br_neg (by omega)]
      have : i = j := by omega
      subst this
      rw [lowN_eq lt xs i hj h1 (fun h => h2 i h (Nat.le_refl i))]
theorem cmp_lt : ∀ (a b : List UInt8), decide (Lib.compareBytes a b < 0) = decide (a < b)
  | [], [] => by simp [Lib.compareBytes]
  | [], _ :: _ => by simp [Lib.compareBytes]
  | _ :: _, [] => by simp [Lib.compareBytes]
  | a :: x, b :: y => by
    rw [Lib.compareBytes]
    simp only [List.cons_lt_cons_iff]
    by_cases h1 : a < b
    · simp [h1]
    · by_cases h2 : b < a
      · have : ¬ a = b := fun e => by subst e; exact h1 h2
        simp [h1, h2, this]
      · have : a = b := UInt8.le_antisymm (UInt8.not_lt.1 h2) (UInt8.not_lt.1 h1)
        subst this
        have := cmp_lt x y
        simp only [h1, if_false, false_or, true_and]
        exact this
end Go.Proofs.YtbekhaioddmliaaDoor
