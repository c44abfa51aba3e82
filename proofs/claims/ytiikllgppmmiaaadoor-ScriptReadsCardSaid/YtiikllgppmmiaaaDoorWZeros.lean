import Derived.Test.YtiikllgppmmiaaaDoorWApart
import Derived.Test.YtiikllgppmmiaaaDoorWArr
namespace Go.Proofs.YtiikllgppmmiaaaDoorW.PrintWords
open Go.RowKit
namespace Kd
end Kd
end Go.Proofs.YtiikllgppmmiaaaDoorW.PrintWords
