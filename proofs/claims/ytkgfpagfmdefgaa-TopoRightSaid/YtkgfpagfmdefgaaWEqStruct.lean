import Derived.Test.YtkgfpagfmdefgaaWWords
import Derived.Laws.StructEq
namespace Go.Proofs.YtkgfpagfmdefgaaW.PrintWords
open Go.RowKit
end Go.Proofs.YtkgfpagfmdefgaaW.PrintWords
