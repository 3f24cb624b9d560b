/- What CheckTools and Tools compute. No program in sight. -/
import Derived.Test.YtbekhaioddmliaaDoorQLHolds
namespace Go.Proofs.YtbekhaioddmliaaDoor
set_option linter.unusedVariables false
set_option linter.unusedSimpArgs false
open Go Go.RowKit
variable {N : Nat}
abbrev Tool : Type := Str × Str × List (Str × Str) × List (Str × Str)
/-- CheckTools. -/
def toolsB (l : List Tool) (i : Nat) (x : Tool) (r : Int) : Int :=
  if !isWordS x.1 then 5 else if !isWordS x.2.1 then 5 else if pairsCheckS x.2.2.1 ≠ 0 then pairsCheckS x.2.2.1 else if pairsCheckS x.2.2.2 ≠ 0 then pairsCheckS x.2.2.2 else if (l.take i).any (fun y => y.1 == x.1) then 7 else r
/-- Kinds. -/
def kindE (l : List Str) (i : Nat) (x : Str) : Int := if !isWordS x then 5 else if i = 0 then 0 else match l[i - 1]? with | some y => if (Op.bytesLess x y || x == y) then 8 else 0 | none => 0
/-- Whether a tool can be taken. -/
def toolFit (kind : Str) (on tg : List (Str × Str)) (t : Tool) : Bool := t.2.1 == kind && (t.2.2.1.all (hasPair on) && t.2.2.2.all (hasPair tg))
/-- The tools for kinds, on one platform for another one. -/
def onB (l : List Tool) (on tg : List (Str × Str)) (i : Nat) (k : Str) (w : List Str) (g : List Str → Bool × List Str) : Bool × List Str := match l.find? (toolFit k on tg) with
  | some t => g (w ++ [t.1])
  | none => (false, [])
def toolsOnS (l : List Tool) (kinds : List Str) (on tg : List (Str × Str)) : Bool × List Str := forA (onB l on tg) (fun w => (true, w)) kinds 0 []
/-- Tools. -/
def toolsRun (pl : List (Str × List (Str × Str))) (l : List Tool) (kinds : List Str) (tg : List (Str × Str)) : Str × Bool × Int × List Str :=
  findF (fun p => (toolsOnS l kinds p.2 tg).1) (fun p => (p.1, (true, (0, (toolsOnS l kinds p.2 tg).2)))) ([], (false, (0, []))) pl
end Go.Proofs.YtbekhaioddmliaaDoor
