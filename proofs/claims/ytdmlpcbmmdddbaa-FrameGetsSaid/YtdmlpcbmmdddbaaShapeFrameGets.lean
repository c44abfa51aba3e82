/- What the arguments of the law FrameGets are: numbers in range. -/
import Derived.Test.YtdmlpcbmmdddbaaPFrameGetsx0
import Derived.Test.YtdmlpcbmmdddbaaOpen
namespace Go.Proofs.Ytdmlpcbmmdddbaa.frameGets
open Go.RowKit Go.ChangeShapes Go.WideShapes Go.Proofs.YtdmlpcbmmdddbaaW.PrintWords Go.Proofs.Ytdmlpcbmmdddbaa.Open Go.Proofs.Ytdmlpcbmmdddbaa.PFrameGets
set_option linter.unusedVariables false

end Go.Proofs.Ytdmlpcbmmdddbaa.frameGets
