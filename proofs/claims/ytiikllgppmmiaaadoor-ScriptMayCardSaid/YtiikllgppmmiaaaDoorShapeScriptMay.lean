/- What the arguments of the law ScriptMay are: numbers in range. -/
import Derived.Test.YtiikllgppmmiaaaDoorOScriptMayx0
import Derived.Test.YtiikllgppmmiaaaDoorOpen
namespace Go.Proofs.YtiikllgppmmiaaaDoor.scriptMay
open Go.RowKit Go.ChangeShapes Go.WideShapes Go.Proofs.YtiikllgppmmiaaaDoorW.PrintWords Go.Proofs.YtiikllgppmmiaaaDoor.Open Go.Proofs.YtiikllgppmmiaaaDoor.OScriptMay
set_option linter.unusedVariables false

end Go.Proofs.YtiikllgppmmiaaaDoor.scriptMay
