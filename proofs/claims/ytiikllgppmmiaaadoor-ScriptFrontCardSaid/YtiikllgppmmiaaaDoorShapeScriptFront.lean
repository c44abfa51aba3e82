/- What the arguments of the law ScriptFront are: numbers in range. -/
import Derived.Test.YtiikllgppmmiaaaDoorOScriptFrontx0
import Derived.Test.YtiikllgppmmiaaaDoorOpen
namespace Go.Proofs.YtiikllgppmmiaaaDoor.scriptFront
open Go.RowKit Go.ChangeShapes Go.WideShapes Go.Proofs.YtiikllgppmmiaaaDoorW.PrintWords Go.Proofs.YtiikllgppmmiaaaDoor.Open Go.Proofs.YtiikllgppmmiaaaDoor.OScriptFront
set_option linter.unusedVariables false

end Go.Proofs.YtiikllgppmmiaaaDoor.scriptFront
