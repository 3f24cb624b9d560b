/- More on loops over a list, without fuel. No program in sight. -/
import Derived.Test.YtbekhaioddmliaaDoorQFor
namespace Go.Proofs.YtbekhaioddmliaaDoor
set_option linter.unusedVariables false
set_option linter.unusedSimpArgs false
open Go Go.RowKit
theorem loop_st_from {S R : Type} {f : Nat → Int → S → Option R} {T : (Int → S → Option R) → Int → S → Option R} (hf : ∀ n i s, f (n + 1) i s = T (f n) i s) (m : Nat) (st : Nat → S) {r : Option R}
    (hT : ∀ (self : Int → S → Option R) (i : Nat), i < m → self ((i + 1 : Nat) : Int) (st (i + 1)) = r → T self (i : Int) (st i) = r)
    (hE : ∀ self : Int → S → Option R, T self (m : Int) (st m) = r) :
    ∀ (d n i : Nat), i + d = m → d < n → f n (i : Int) (st i) = r
  | 0, n, i, hi, hn => by
    obtain ⟨n, rfl⟩ : ∃ j, n = j + 1 := ⟨n - 1, by omega⟩
    have : i = m := by omega
    subst this
    rw [hf, hE]
  | d + 1, n, i, hi, hn => by
    obtain ⟨n, rfl⟩ : ∃ j, n = j + 1 := ⟨n - 1, by omega⟩
    rw [hf]
    exact hT _ i (by omega) (loop_st_from hf m st hT hE d n (i + 1) (by omega) (by omega))
/-- A loop whose state is known at each round. -/
theorem loop_st {S R : Type} {f : Nat → Int → S → Option R} {T : (Int → S → Option R) → Int → S → Option R} (hf : ∀ n i s, f (n + 1) i s = T (f n) i s) {m : Nat} (hm : m ≤ maxLen) (st : Nat → S) {r : Option R}
    (hT : ∀ (self : Int → S → Option R) (i : Nat), i < m → self ((i + 1 : Nat) : Int) (st (i + 1)) = r → T self (i : Int) (st i) = r)
    (hE : ∀ self : Int → S → Option R, T self (m : Int) (st m) = r) {N : Nat} (hN : big ≤ N) : f N 0 (st 0) = r := by
  have := loop_st_from hf m st hT hE m N 0 (by omega) (by unfold maxLen at hm; unfold big at hN; omega)
  simpa using this
end Go.Proofs.YtbekhaioddmliaaDoor
