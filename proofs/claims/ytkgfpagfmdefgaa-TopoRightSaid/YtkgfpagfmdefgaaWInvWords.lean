import Derived.Test.YtkgfpagfmdefgaaWInv
import Derived.Test.YtkgfpagfmdefgaaWFootNe
namespace Go.Proofs.YtkgfpagfmdefgaaW.PrintWords
open Go.RowKit
end Go.Proofs.YtkgfpagfmdefgaaW.PrintWords
namespace Go.Proofs.YtkgfpagfmdefgaaW.PrintLast
end Go.Proofs.YtkgfpagfmdefgaaW.PrintLast
