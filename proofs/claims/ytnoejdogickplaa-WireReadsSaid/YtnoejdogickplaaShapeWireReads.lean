/- What the arguments of the law WireReads are: numbers in range. -/
import Derived.Test.YtnoejdogickplaaPWireReadsx0
import Derived.Test.YtnoejdogickplaaOpen
namespace Go.Proofs.Ytnoejdogickplaa.wireReads
open Go.RowKit Go.ChangeShapes Go.WideShapes Go.Proofs.YtnoejdogickplaaW.PrintWords Go.Proofs.Ytnoejdogickplaa.Open Go.Proofs.Ytnoejdogickplaa.PWireReads
set_option linter.unusedVariables false

end Go.Proofs.Ytnoejdogickplaa.wireReads
