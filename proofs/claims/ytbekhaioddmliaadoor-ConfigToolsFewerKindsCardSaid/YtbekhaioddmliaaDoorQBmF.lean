/- strings.ContainsFunc of a function of the program, out of the kit's contract. -/
import Derived.Test.YtbekhaioddmliaaDoorQBmP
namespace Go.Proofs.YtbekhaioddmliaaDoor
set_option linter.unusedVariables false
set_option linter.unusedSimpArgs false
open Go Go.RowKit Go.Shelf
end Go.Proofs.YtbekhaioddmliaaDoor
