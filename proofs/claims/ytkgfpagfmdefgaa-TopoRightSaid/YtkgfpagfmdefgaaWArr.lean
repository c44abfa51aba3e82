import Derived.Test.YtkgfpagfmdefgaaWWords
namespace Go.Proofs.YtkgfpagfmdefgaaW.PrintWords
open Go.RowKit
namespace Kd
end Kd
end Go.Proofs.YtkgfpagfmdefgaaW.PrintWords
