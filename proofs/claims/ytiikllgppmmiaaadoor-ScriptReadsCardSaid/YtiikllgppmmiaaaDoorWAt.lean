import Derived.Test.YtiikllgppmmiaaaDoorWFootNe
namespace Go.Proofs.YtiikllgppmmiaaaDoorW.PrintWords
open Go.RowKit
namespace Kd
section
variable {α : Type} {d : Kd α} {e base n m : Nat} {ok : Nat → Prop} {w w' : World} {v : Value} {A : Option Addr} {xs : List α}
theorem C_at (hq : w.drewN m = w') (h : d.C w A n xs) : d.C w' A n xs := by subst hq; exact C_drewN h m
end
end Kd
end Go.Proofs.YtiikllgppmmiaaaDoorW.PrintWords
