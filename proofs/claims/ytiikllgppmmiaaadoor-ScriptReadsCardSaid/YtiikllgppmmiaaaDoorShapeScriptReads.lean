/- What the arguments of the law ScriptReads are: numbers in range. -/
import Derived.Test.YtiikllgppmmiaaaDoorOScriptReadsx0
import Derived.Test.YtiikllgppmmiaaaDoorOpen
namespace Go.Proofs.YtiikllgppmmiaaaDoor.scriptReads
open Go.RowKit Go.ChangeShapes Go.WideShapes Go.Proofs.YtiikllgppmmiaaaDoorW.PrintWords Go.Proofs.YtiikllgppmmiaaaDoor.Open Go.Proofs.YtiikllgppmmiaaaDoor.OScriptReads
set_option linter.unusedVariables false

end Go.Proofs.YtiikllgppmmiaaaDoor.scriptReads
