/- What the checks of platforms and conditions compute, and Holds. No program in sight. -/
import Derived.Test.YtbekhaioddmliaaDoorQCfF6
import Derived.Test.YtbekhaioddmliaaDoorQLChecks
namespace Go.Proofs.YtbekhaioddmliaaDoor
set_option linter.unusedVariables false
set_option linter.unusedSimpArgs false
open Go Go.RowKit
variable {N : Nat}
/-- The name of a condition. -/
def condB (b : UInt8) : Bool := decide (b.toNat < 32 ∨ 126 < b.toNat)
def condS (s : Str) : Bool := decide (1 ≤ s.length) && decide (s.length ≤ 1000) && !(s == [100, 101, 102, 97, 117, 108, 116]) && !(s.any condB)
/-- CheckPairs. -/
def pairsCheckS (l : List (Str × Str)) : Int := if 30 < l.length then 2 else forT (fun i x r => if !isWordS x.1 then 5 else if !isWordS x.2 then 1 else prevS l i x.1 r) 0 l 0
/-- CheckPlatforms. -/
def platformsB (l : List (Str × List (Str × Str))) (i : Nat) (x : Str × List (Str × Str)) (r : Int) : Int :=
  if !isWordS x.1 then 5 else if decide (pairsCheckS x.2 ≠ 0) then pairsCheckS x.2 else if (l.take i).any (fun y => y.1 == x.1) then 7 else r
def platformsS (l : List (Str × List (Str × Str))) : Int := if 50 < l.length then 2 else forT (platformsB l) 0 l 0
/-- CheckConditions. -/
def condB1 (l : List (Str × List Str)) (m : List (Str × List (Str × Str) × List (Str × Str))) (i : Nat) (x : Str × List (Str × Str) × List (Str × Str)) (r : Int) : Int :=
  if !condS x.1 then 3 else if decide (30 < x.2.1.length) then 2 else if decide (30 < x.2.2.length) then 2 else
    if decide (pairsS l x.2.1 false ≠ 0) then pairsS l x.2.1 false else if decide (pairsCheckS x.2.2 ≠ 0) then pairsCheckS x.2.2 else prevS m i x.1 r
def conditionsS (l : List (Str × List Str)) (m : List (Str × List (Str × Str) × List (Str × Str))) : Int :=
  if settingsS l ≠ 0 then settingsS l else if 100 < m.length then 2 else forT (condB1 l m) 0 m 0
/-- Whether pairs are among others. -/
def hasPair (b : List (Str × Str)) (x : Str × Str) : Bool := b.any fun y => eqb (.pr .str .str) x y
/-- Pairs that are right name settings that there are. -/
theorem prevS_keep {α : Type} {l : List (Str × α)} {i : Nat} {n : Str} {r : Int} (h : prevS l i n r = 0) : r = 0 := by
  unfold prevS at h
  split at h
  · exact h
  · split at h
    · split at h
      · cases h
      · exact h
    · exact h
/-- Whether a condition holds. -/
def holdsS (l : List (Str × List Str)) (x : Str × List (Str × Str) × List (Str × Str)) (c : List (Str × Str)) (p : Str × List (Str × Str)) : Bool :=
  x.2.1.all (fun n => valueS l c n.1 == n.2) && x.2.2.all (hasPair p.2)
/-- Holds. -/
def HoldsS (l : List (Str × List Str)) (x : Str × List (Str × Str) × List (Str × Str)) (c : List (Str × Str)) (p : Str × List (Str × Str)) : Bool × Int :=
  if configS l c ≠ 0 then (false, configS l c) else if conditionsS l [x] ≠ 0 then (false, conditionsS l [x]) else if platformsS [p] ≠ 0 then (false, platformsS [p]) else (holdsS l x c p, 0)
theorem br_ne {R : Type} (n : Int) (x y : Option R) : br (n != 0) x y = if n ≠ 0 then x else y := by
  rw [ne_zero_dec, br_eq_ite]; simp only [decide_eq_true_eq]
end Go.Proofs.YtbekhaioddmliaaDoor
