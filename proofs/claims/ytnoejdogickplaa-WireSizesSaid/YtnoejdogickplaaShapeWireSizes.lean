/- What the arguments of the law WireSizes are: numbers in range. -/
import Derived.Test.YtnoejdogickplaaPWireSizesx0
import Derived.Test.YtnoejdogickplaaOpen
namespace Go.Proofs.Ytnoejdogickplaa.wireSizes
open Go.RowKit Go.ChangeShapes Go.WideShapes Go.Proofs.YtnoejdogickplaaW.PrintWords Go.Proofs.Ytnoejdogickplaa.Open Go.Proofs.Ytnoejdogickplaa.PWireSizes
set_option linter.unusedVariables false

end Go.Proofs.Ytnoejdogickplaa.wireSizes
