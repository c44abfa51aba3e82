/- What the arguments of the law ScriptTells are: numbers in range. -/
import Derived.Test.YtiikllgppmmiaaaDoorOScriptTellsx0
import Derived.Test.YtiikllgppmmiaaaDoorOpen
namespace Go.Proofs.YtiikllgppmmiaaaDoor.scriptTells
open Go.RowKit Go.ChangeShapes Go.WideShapes Go.Proofs.YtiikllgppmmiaaaDoorW.PrintWords Go.Proofs.YtiikllgppmmiaaaDoor.Open Go.Proofs.YtiikllgppmmiaaaDoor.OScriptTells
set_option linter.unusedVariables false

end Go.Proofs.YtiikllgppmmiaaaDoor.scriptTells
