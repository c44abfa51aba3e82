import Derived.Test.YtkgfpagfmdefgaaWTab
namespace Go.Proofs.YtkgfpagfmdefgaaW.PrintLast
end Go.Proofs.YtkgfpagfmdefgaaW.PrintLast
