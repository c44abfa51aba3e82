/- What the arguments of the law BpduGets are: numbers in range. -/
import Derived.Test.YtdmlpcbmmdddbaaPBpduGetsx0
import Derived.Test.YtdmlpcbmmdddbaaOpen
namespace Go.Proofs.Ytdmlpcbmmdddbaa.bpduGets
open Go.RowKit Go.ChangeShapes Go.WideShapes Go.Proofs.YtdmlpcbmmdddbaaW.PrintWords Go.Proofs.Ytdmlpcbmmdddbaa.Open Go.Proofs.Ytdmlpcbmmdddbaa.PBpduGets
set_option linter.unusedVariables false

end Go.Proofs.Ytdmlpcbmmdddbaa.bpduGets
