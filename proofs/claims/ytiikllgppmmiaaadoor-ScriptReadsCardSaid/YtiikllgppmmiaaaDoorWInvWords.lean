import Derived.Test.YtiikllgppmmiaaaDoorWInv
import Derived.Test.YtiikllgppmmiaaaDoorWFootNe
namespace Go.Proofs.YtiikllgppmmiaaaDoorW.PrintWords
open Go.RowKit
end Go.Proofs.YtiikllgppmmiaaaDoorW.PrintWords
namespace Go.Proofs.YtiikllgppmmiaaaDoorW.PrintLast
end Go.Proofs.YtiikllgppmmiaaaDoorW.PrintLast
