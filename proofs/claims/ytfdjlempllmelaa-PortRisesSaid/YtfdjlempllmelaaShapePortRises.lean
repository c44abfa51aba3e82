/- What the arguments of the law PortRises are: numbers in range. -/
import Derived.Test.YtfdjlempllmelaaPPortRisesx0
import Derived.Test.YtfdjlempllmelaaOpen
namespace Go.Proofs.Ytfdjlempllmelaa.portRises
open Go.RowKit Go.ChangeShapes Go.WideShapes Go.Proofs.YtfdjlempllmelaaW.PrintWords Go.Proofs.Ytfdjlempllmelaa.Open Go.Proofs.Ytfdjlempllmelaa.PPortRises
set_option linter.unusedVariables false

end Go.Proofs.Ytfdjlempllmelaa.portRises
