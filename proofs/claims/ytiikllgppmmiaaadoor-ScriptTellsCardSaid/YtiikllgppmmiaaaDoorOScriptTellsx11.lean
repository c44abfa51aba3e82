/- What Go functions that the law ScriptTells uses come to, and why: part 11. Made out of the kit's print by a program of this session (wip/tools/stub.py, splice.py), functions that it does not take told by hand. -/
import Derived.Test.YtiikllgppmmiaaaDoorOScriptTellsx10
namespace Go.Proofs.YtiikllgppmmiaaaDoor.OScriptTells
open Go.RowKit Go.Proofs.YtiikllgppmmiaaaDoorW.PrintWords Go.Proofs.YtiikllgppmmiaaaDoorW.PrintLast Go.Proofs.YtiikllgppmmiaaaDoorW.PrintMore
attribute [local go_sem] max2_int min2_int max_two min_two max_three min_three max_four min_four   -- for this text's walks alone
set_option linter.unusedVariables false
set_option linter.unusedSimpArgs false

/-! ### treelineref24_At_by; my own -/
/-- A new reader: the bytes, and where it stands. -/
def treelineref24_At_by.f (l0 : List Int) : Option (List Int × Int) := some (l0, 0)
theorem treelineref24_At_by.is {w0 W : World} {g : Nat} {l0 a : List Int} {b : Int} (h : treelineref24_At_by.f l0 = some (a, b)) (hi : IsS54 w0 W g l0 0) : IsS54 w0 W g a b := by
  unfold treelineref24_At_by.f at h
  injection h with h
  injection h with h1 h2
  subst h1
  subst h2
  exact hi


end Go.Proofs.YtiikllgppmmiaaaDoor.OScriptTells
