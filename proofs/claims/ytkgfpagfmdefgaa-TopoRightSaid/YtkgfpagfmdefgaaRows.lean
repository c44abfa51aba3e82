/-
  No cell of these rows narrows 'for every input' (looked for: loops, veiled, ifaces, maps, wideKeys, modest, calm, conditions, laid).
  DERIVED. THE GIVEN ROWS OF THIS SEAT. 4 by the template 'for every input the law returns true; each argument reads behind the call as it read before'; 0 by the template 'total and deterministic' (their statements: YtkgfpagfmdefgaaTotals.lean).
  GIVEN WITH THE SEED: the statements are not yours to turn. If you find one false, say at which input.
  Laid BY PROGRAM, IN A SANDBOX (cutbox-rows.mjs): the forced cells as the released guide's own fill.sh prints them over the translation 50a7ddd70b7d6068… (all of the seat's roots in one cut). By AI agents, Wed Nov 11 2026. No macro, syntax, notation, axiom, sorry.
-/
import Derived.Test.YtkgfpagfmdefgaaChecked
import GoSem.Claim
import GoSem.ClaimJoined
import GoSem.ClaimMapViews
import Derived.JoinedTies
import Derived.KernelRfl
namespace Go.Proofs.Ytkgfpagfmdefgaa
/- THE CELL 'sum', in the pinned program and in every row, IS THE sha256 OF THE DUMP (.gsa) THAT YtkgfpagfmdefgaaProg.lean LOADS. Nothing in Lean hashes anything: it is a label: what it is worth is what the hold of that sum in a sandbox is worth. -/
noncomputable def Try.pinned : Pinned := { name := "ytkgfpagfmdefgaa", sum := "50a7ddd70b7d60684b00de2cd1bddf4bc23a76e4b1177ef29f260df57f55d146", checked := Try.checked }
namespace Rows
def none {H : Type} : Left H := { results := [], args := [] }

/-- 'treelinelaw20.TopoChecks': WHATEVER THE INPUT: true; the input reads as it did. -/
def topoChecksSpec : ChangeSpec := { name := "topoChecks", fn := fun _ => fun
  | [d] => { results := [.lit (.bool true)], args := [d] }
  | _ => none }
def topoChecksRow : OpenClaim := { program := "ytkgfpagfmdefgaa", sum := "50a7ddd70b7d60684b00de2cd1bddf4bc23a76e4b1177ef29f260df57f55d146", func := "treeline/treelinelaw20.TopoChecks", spec := "topoChecks", apart := false }
def TopoChecksSaid : Prop := topoChecksRow.holds Try.pinned (OpenSpec.ofChange topoChecksSpec)

/-- ITS FALSE NEIGHBOUR: 'it returns false'. Refute it at one input. -/
def topoChecksWrong : ChangeSpec := { name := "topoChecks", fn := fun _ => fun
  | [d] => { results := [.lit (.bool false)], args := [d] }
  | _ => none }
def TopoChecksWrongFalsely : Prop := topoChecksRow.holds Try.pinned (OpenSpec.ofChange topoChecksWrong)

/-- 'treelinelaw20.TopoParts': WHATEVER THE INPUT: true; the input reads as it did. -/
def topoPartsSpec : ChangeSpec := { name := "topoParts", fn := fun _ => fun
  | [d1, d2] => { results := [.lit (.bool true)], args := [d1, d2] }
  | _ => none }
def topoPartsRow : OpenClaim := { program := "ytkgfpagfmdefgaa", sum := "50a7ddd70b7d60684b00de2cd1bddf4bc23a76e4b1177ef29f260df57f55d146", func := "treeline/treelinelaw20.TopoParts", spec := "topoParts", apart := false }
def TopoPartsSaid : Prop := topoPartsRow.holds Try.pinned (OpenSpec.ofChange topoPartsSpec)

/-- ITS FALSE NEIGHBOUR: 'it returns false'. Refute it at one input. -/
def topoPartsWrong : ChangeSpec := { name := "topoParts", fn := fun _ => fun
  | [d1, d2] => { results := [.lit (.bool false)], args := [d1, d2] }
  | _ => none }
def TopoPartsWrongFalsely : Prop := topoPartsRow.holds Try.pinned (OpenSpec.ofChange topoPartsWrong)

/-- 'treelinelaw20.TopoMore': WHATEVER THE INPUT: true; the input reads as it did. -/
def topoMoreSpec : ChangeSpec := { name := "topoMore", fn := fun _ => fun
  | [d1, d2, d3, d4] => { results := [.lit (.bool true)], args := [d1, d2, d3, d4] }
  | _ => none }
def topoMoreRow : OpenClaim := { program := "ytkgfpagfmdefgaa", sum := "50a7ddd70b7d60684b00de2cd1bddf4bc23a76e4b1177ef29f260df57f55d146", func := "treeline/treelinelaw20.TopoMore", spec := "topoMore", apart := false }
def TopoMoreSaid : Prop := topoMoreRow.holds Try.pinned (OpenSpec.ofChange topoMoreSpec)

/-- ITS FALSE NEIGHBOUR: 'it returns false'. Refute it at one input. -/
def topoMoreWrong : ChangeSpec := { name := "topoMore", fn := fun _ => fun
  | [d1, d2, d3, d4] => { results := [.lit (.bool false)], args := [d1, d2, d3, d4] }
  | _ => none }
def TopoMoreWrongFalsely : Prop := topoMoreRow.holds Try.pinned (OpenSpec.ofChange topoMoreWrong)

/-- 'treelinelaw20.TopoRight': WHATEVER THE INPUT: true; the input reads as it did. -/
def topoRightSpec : ChangeSpec := { name := "topoRight", fn := fun _ => fun
  | [d] => { results := [.lit (.bool true)], args := [d] }
  | _ => none }
def topoRightRow : OpenClaim := { program := "ytkgfpagfmdefgaa", sum := "50a7ddd70b7d60684b00de2cd1bddf4bc23a76e4b1177ef29f260df57f55d146", func := "treeline/treelinelaw20.TopoRight", spec := "topoRight", apart := false }
def TopoRightSaid : Prop := topoRightRow.holds Try.pinned (OpenSpec.ofChange topoRightSpec)

/-- ITS FALSE NEIGHBOUR: 'it returns false'. Refute it at one input. -/
def topoRightWrong : ChangeSpec := { name := "topoRight", fn := fun _ => fun
  | [d] => { results := [.lit (.bool false)], args := [d] }
  | _ => none }
def TopoRightWrongFalsely : Prop := topoRightRow.holds Try.pinned (OpenSpec.ofChange topoRightWrong)

/- THE SECOND FORM. 'bulk': how many values and letters a reading holds, each counted each time it is reached (what is shared counts as often as it is met; a slice's spare places count too). A statement '..UptoSaid' is the law's where the arguments, and the package variables that the reading takes, are together of bulk at most 1048576: NARROWER than '..Said'. Prove '..Said' where nothing that the law and all that it calls make is longer than what came in: it says more and counts as full. Else prove '..UptoSaid'. A law counts once. -/
mutual
def uptoBulk {H : Type} : DataW H → Nat
  | .lit (.string bytes) => bytes.length + 1
  | .lit _ => 1
  | .nil => 1
  | .ptr d => uptoBulk d + 1
  | .slice elems spare => uptoBulkAll elems + uptoBulkAll spare + 1
  | .agg parts => uptoBulkAll parts + 1
  | .iface _ d => uptoBulk d + 1
  | .map entries => uptoBulkEntries entries + 1
  | .held _ => 1
def uptoBulkAll {H : Type} : List (DataW H) → Nat
  | [] => 0
  | d :: r => uptoBulk d + uptoBulkAll r
def uptoBulkEntries {H : Type} : List (Lit × DataW H) → Nat
  | [] => 0
  | x :: r => uptoBulkEntry x + uptoBulkEntries r
def uptoBulkEntry {H : Type} : Lit × DataW H → Nat
  | (.string bytes, d) => bytes.length + uptoBulk d + 1
  | (_, d) => uptoBulk d + 1
 end
def uptoSmall : (H : Type) → List (DataW H) → Bool := fun _ ds => decide (uptoBulkAll ds ≤ 1048576)
def OpenSpec.upto (s : _root_.Go.ChangeSpec) : _root_.Go.OpenSpec := { _root_.Go.OpenSpec.ofChange s with cond := some uptoSmall }

/-- 'treelinelaw20.TopoChecks', WHERE WHAT IT READS IS OF BULK AT MOST 1048576: true; the input reads as it did. -/
def topoChecksUptoRow : OpenClaim := { program := "ytkgfpagfmdefgaa", sum := "50a7ddd70b7d60684b00de2cd1bddf4bc23a76e4b1177ef29f260df57f55d146", func := "treeline/treelinelaw20.TopoChecks", spec := "topoChecks", apart := false, narrowed := true }
def TopoChecksUptoSaid : Prop := topoChecksUptoRow.holds Try.pinned (OpenSpec.upto topoChecksSpec)

/-- 'treelinelaw20.TopoParts', WHERE WHAT IT READS IS OF BULK AT MOST 1048576: true; the input reads as it did. -/
def topoPartsUptoRow : OpenClaim := { program := "ytkgfpagfmdefgaa", sum := "50a7ddd70b7d60684b00de2cd1bddf4bc23a76e4b1177ef29f260df57f55d146", func := "treeline/treelinelaw20.TopoParts", spec := "topoParts", apart := false, narrowed := true }
def TopoPartsUptoSaid : Prop := topoPartsUptoRow.holds Try.pinned (OpenSpec.upto topoPartsSpec)

/-- 'treelinelaw20.TopoMore', WHERE WHAT IT READS IS OF BULK AT MOST 1048576: true; the input reads as it did. -/
def topoMoreUptoRow : OpenClaim := { program := "ytkgfpagfmdefgaa", sum := "50a7ddd70b7d60684b00de2cd1bddf4bc23a76e4b1177ef29f260df57f55d146", func := "treeline/treelinelaw20.TopoMore", spec := "topoMore", apart := false, narrowed := true }
def TopoMoreUptoSaid : Prop := topoMoreUptoRow.holds Try.pinned (OpenSpec.upto topoMoreSpec)

/-- 'treelinelaw20.TopoRight', WHERE WHAT IT READS IS OF BULK AT MOST 1048576: true; the input reads as it did. -/
def topoRightUptoRow : OpenClaim := { program := "ytkgfpagfmdefgaa", sum := "50a7ddd70b7d60684b00de2cd1bddf4bc23a76e4b1177ef29f260df57f55d146", func := "treeline/treelinelaw20.TopoRight", spec := "topoRight", apart := false, narrowed := true }
def TopoRightUptoSaid : Prop := topoRightUptoRow.holds Try.pinned (OpenSpec.upto topoRightSpec)

end Rows
end Go.Proofs.Ytkgfpagfmdefgaa
