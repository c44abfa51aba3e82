import Derived.Test.YtiikllgppmmiaaaDoorWWords
import Derived.Laws.StructEq
namespace Go.Proofs.YtiikllgppmmiaaaDoorW.PrintWords
open Go.RowKit
end Go.Proofs.YtiikllgppmmiaaaDoorW.PrintWords
