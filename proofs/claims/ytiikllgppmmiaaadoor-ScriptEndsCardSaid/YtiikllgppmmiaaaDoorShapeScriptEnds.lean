/- What the arguments of the law ScriptEnds are: numbers in range. -/
import Derived.Test.YtiikllgppmmiaaaDoorOScriptEndsx0
import Derived.Test.YtiikllgppmmiaaaDoorOpen
namespace Go.Proofs.YtiikllgppmmiaaaDoor.scriptEnds
open Go.RowKit Go.ChangeShapes Go.WideShapes Go.Proofs.YtiikllgppmmiaaaDoorW.PrintWords Go.Proofs.YtiikllgppmmiaaaDoor.Open Go.Proofs.YtiikllgppmmiaaaDoor.OScriptEnds
set_option linter.unusedVariables false

end Go.Proofs.YtiikllgppmmiaaaDoor.scriptEnds
