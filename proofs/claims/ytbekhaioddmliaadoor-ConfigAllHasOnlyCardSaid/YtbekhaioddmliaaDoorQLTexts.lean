/- What ConfigText writes, and that it is read again. No program in sight. -/
import Derived.Test.YtbekhaioddmliaaDoorQCfF6
import Derived.Test.YtbekhaioddmliaaDoorQCfg
import Derived.Test.YtbekhaioddmliaaDoorQSplt
import Derived.Test.YtbekhaioddmliaaDoorQFor2
import Derived.Test.YtbekhaioddmliaaDoorQLTools
namespace Go.Proofs.YtbekhaioddmliaaDoor
set_option linter.unusedVariables false
set_option linter.unusedSimpArgs false
open Go Go.RowKit
variable {N : Nat}
def pairTxt (p : Str × Str) : Str := (p.1 ++ [61]) ++ p.2
/-- Where the n-th part begins. -/
def atS (c : List (Str × Str)) (i : Nat) : Nat := ((c.take i).map fun p => (pairTxt p).length + 1).sum
theorem Equal_pair_self (hN : big ≤ N) (l : List (Str × Str)) (hl : l.length ≤ maxLen) : slices_Equal_api_Pair N l l = some true := by
  unfold slices_Equal_api_Pair
  have hL : slices_Equal_api_Pair_L0 N l l (l.length : Int) (some true) N 0 = some true := by
    refine loop_st (f := fun n i (_ : Unit) => slices_Equal_api_Pair_L0 N l l (l.length : Int) (some true) n i) (T := fun self i _ => slices_Equal_api_Pair_L0T N l l (l.length : Int) (some true) (fun i => self i ()) i) (fun _ _ _ => rfl) hl (fun _ => ()) (fun self i h hr => ?_) (fun self => ?_) hN
    · simp only [slices_Equal_api_Pair_L0T, geti_lt l h, wrap_succ hl h, bnd_some]
      rw [lt_tt h, br_true]
      have : eqb (.pr .str .str) l[i] l[i] = true := by
        show (l[i].1 == l[i].1 && l[i].2 == l[i].2) = true
        simp
      rw [this, Bool.not_true, br_false]
      exact hr
    · simp only [slices_Equal_api_Pair_L0T, lt_ff, br_false]
  rw [hL]; simp
end Go.Proofs.YtbekhaioddmliaaDoor
