import Derived.Test.YtiikllgppmmiaaaDoorWWords
namespace Go.Proofs.YtiikllgppmmiaaaDoorW.PrintWords
open Go.RowKit
namespace Kd
end Kd
end Go.Proofs.YtiikllgppmmiaaaDoorW.PrintWords
