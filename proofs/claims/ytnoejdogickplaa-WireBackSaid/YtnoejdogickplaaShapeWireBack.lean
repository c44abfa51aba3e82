/- What the arguments of the law WireBack are: numbers in range. -/
import Derived.Test.YtnoejdogickplaaPWireBackx0
import Derived.Test.YtnoejdogickplaaOpen
namespace Go.Proofs.Ytnoejdogickplaa.wireBack
open Go.RowKit Go.ChangeShapes Go.WideShapes Go.Proofs.YtnoejdogickplaaW.PrintWords Go.Proofs.Ytnoejdogickplaa.Open Go.Proofs.Ytnoejdogickplaa.PWireBack
set_option linter.unusedVariables false

end Go.Proofs.Ytnoejdogickplaa.wireBack
