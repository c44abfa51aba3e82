import Derived.Test.YtiikllgppmmiaaaDoorWN
namespace Go.Proofs.YtiikllgppmmiaaaDoorW.PrintWords
open Go.RowKit
namespace Kd
end Kd
end Go.Proofs.YtiikllgppmmiaaaDoorW.PrintWords
