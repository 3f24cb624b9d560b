/- What functions of the program compute, as plain functions (printed). -/
import Derived.Test.YtbekhaioddmliaaDoorQCfF3
namespace Go.Proofs.YtbekhaioddmliaaDoor
open Go Go.RowKit
set_option maxRecDepth 100000
set_option linter.unusedVariables false
noncomputable section
end
end Go.Proofs.YtbekhaioddmliaaDoor
