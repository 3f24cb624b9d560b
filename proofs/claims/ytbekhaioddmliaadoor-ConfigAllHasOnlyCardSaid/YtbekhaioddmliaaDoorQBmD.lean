/- slices.Delete of strings, out of the kit's contract: it turns a row of its caller's. -/
import Derived.Test.YtbekhaioddmliaaDoorQBmR
namespace Go.Proofs.YtbekhaioddmliaaDoor
set_option linter.unusedVariables false
set_option linter.unusedSimpArgs false
open Go Go.RowKit Go.Shelf
end Go.Proofs.YtbekhaioddmliaaDoor
