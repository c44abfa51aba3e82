/- What the arguments of the law WireKeeps are: numbers in range. -/
import Derived.Test.YtnoejdogickplaaPWireKeepsx0
import Derived.Test.YtnoejdogickplaaOpen
namespace Go.Proofs.Ytnoejdogickplaa.wireKeeps
open Go.RowKit Go.ChangeShapes Go.WideShapes Go.Proofs.YtnoejdogickplaaW.PrintWords Go.Proofs.Ytnoejdogickplaa.Open Go.Proofs.Ytnoejdogickplaa.PWireKeeps
set_option linter.unusedVariables false

end Go.Proofs.Ytnoejdogickplaa.wireKeeps
