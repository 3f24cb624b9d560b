/- Splitting, cutting and joining at one byte. No program in sight. -/
import Derived.Test.YtbekhaioddmliaaDoorQBmQ
import Derived.Test.YtbekhaioddmliaaDoorQBmJ
namespace Go.Proofs.YtbekhaioddmliaaDoor
set_option linter.unusedVariables false
set_option linter.unusedSimpArgs false
open Go Go.RowKit
theorem indexByte_cons (b c : UInt8) (s : Str) : Lib.indexByte (b :: s) c = if b = c then 0 else if Lib.indexByte s c = -1 then -1 else Lib.indexByte s c + 1 := by
  have h := Lib.indexByte_ge s c
  rw [Lib.indexByte]
  by_cases hb : b = c
  · simp [hb]
  · simp only [beq_iff_eq, hb, if_false]
/-- Cut at one byte. -/
theorem cut_hit {c : UInt8} {a : Str} (h : c ∉ a) (b : Str) : Lib.cut (a ++ c :: b) [c] = (a, b, true) := by
  have hi : ∀ a : Str, c ∉ a → Lib.indexByte (a ++ c :: b) c = a.length := by
    intro a
    induction a with
    | nil => intro _; simp [indexByte_cons]
    | cons x a ih =>
      intro h
      have := ih (fun e => h (by simp [e]))
      rw [List.cons_append, indexByte_cons, if_neg (fun e => h (by simp [e])), this, if_neg (by omega)]
      simp
  unfold Lib.cut
  simp only [Lib.index_one, hi a h]
  simp
end Go.Proofs.YtbekhaioddmliaaDoor
