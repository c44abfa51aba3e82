/- What the arguments of the law HashRound are: numbers in range. -/
import Derived.Test.YtfdjlempllmelaaPHashRoundx0
import Derived.Test.YtfdjlempllmelaaOpen
namespace Go.Proofs.Ytfdjlempllmelaa.hashRound
open Go.RowKit Go.ChangeShapes Go.WideShapes Go.Proofs.YtfdjlempllmelaaW.PrintWords Go.Proofs.Ytfdjlempllmelaa.Open Go.Proofs.Ytfdjlempllmelaa.PHashRound
set_option linter.unusedVariables false

end Go.Proofs.Ytfdjlempllmelaa.hashRound
