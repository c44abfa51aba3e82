/-
  No cell of these rows narrows 'for every input' (looked for: loops, veiled, ifaces, maps, wideKeys, modest, calm, conditions, laid).
  DERIVED. THE GIVEN ROWS OF THIS SEAT. 12 by the template 'for every input the law returns true; each argument reads behind the call as it read before'; 0 by the template 'total and deterministic' (their statements: YtfdjlempllmelaaTotals.lean).
  GIVEN WITH THE SEED: the statements are not yours to turn. If you find one false, say at which input.
  Laid BY PROGRAM, IN A SANDBOX (cutbox-rows.mjs): the forced cells as the released guide's own fill.sh prints them over the translation c42bc1934f3d0660… (all of the seat's roots in one cut). By AI agents, Wed Nov 11 2026. No macro, syntax, notation, axiom, sorry.
-/
import Derived.Test.YtfdjlempllmelaaChecked
import GoSem.Claim
import GoSem.ClaimJoined
import GoSem.ClaimMapViews
import Derived.JoinedTies
import Derived.KernelRfl
namespace Go.Proofs.Ytfdjlempllmelaa
/- THE CELL 'sum', in the pinned program and in every row, IS THE sha256 OF THE DUMP (.gsa) THAT YtfdjlempllmelaaProg.lean LOADS. Nothing in Lean hashes anything: it is a label: what it is worth is what the hold of that sum in a sandbox is worth. -/
noncomputable def Try.pinned : Pinned := { name := "ytfdjlempllmelaa", sum := "c42bc1934f3d066031a46cc0d13c9db785f0a7ee0fa88473d6213716004b7bc8", checked := Try.checked }
namespace Rows
def none {H : Type} : Left H := { results := [], args := [] }

/-- 'treelinelaw06.HashWays': WHATEVER THE INPUT: true; the input reads as it did. -/
def hashWaysSpec : ChangeSpec := { name := "hashWays", fn := fun _ => fun
  | [d1, d2, d3] => { results := [.lit (.bool true)], args := [d1, d2, d3] }
  | _ => none }
def hashWaysRow : OpenClaim := { program := "ytfdjlempllmelaa", sum := "c42bc1934f3d066031a46cc0d13c9db785f0a7ee0fa88473d6213716004b7bc8", func := "treeline/treelinelaw06.HashWays", spec := "hashWays", apart := false }
def HashWaysSaid : Prop := hashWaysRow.holds Try.pinned (OpenSpec.ofChange hashWaysSpec)

/-- ITS FALSE NEIGHBOUR: 'it returns false'. Refute it at one input. -/
def hashWaysWrong : ChangeSpec := { name := "hashWays", fn := fun _ => fun
  | [d1, d2, d3] => { results := [.lit (.bool false)], args := [d1, d2, d3] }
  | _ => none }
def HashWaysWrongFalsely : Prop := hashWaysRow.holds Try.pinned (OpenSpec.ofChange hashWaysWrong)

/-- 'treelinelaw06.HashRound': WHATEVER THE INPUT: true; the input reads as it did. -/
def hashRoundSpec : ChangeSpec := { name := "hashRound", fn := fun _ => fun
  | [d1, d2] => { results := [.lit (.bool true)], args := [d1, d2] }
  | _ => none }
def hashRoundRow : OpenClaim := { program := "ytfdjlempllmelaa", sum := "c42bc1934f3d066031a46cc0d13c9db785f0a7ee0fa88473d6213716004b7bc8", func := "treeline/treelinelaw06.HashRound", spec := "hashRound", apart := false }
def HashRoundSaid : Prop := hashRoundRow.holds Try.pinned (OpenSpec.ofChange hashRoundSpec)

/-- ITS FALSE NEIGHBOUR: 'it returns false'. Refute it at one input. -/
def hashRoundWrong : ChangeSpec := { name := "hashRound", fn := fun _ => fun
  | [d1, d2] => { results := [.lit (.bool false)], args := [d1, d2] }
  | _ => none }
def HashRoundWrongFalsely : Prop := hashRoundRow.holds Try.pinned (OpenSpec.ofChange hashRoundWrong)

/-- 'treelinelaw06.HashNext': WHATEVER THE INPUT: true; the input reads as it did. -/
def hashNextSpec : ChangeSpec := { name := "hashNext", fn := fun _ => fun
  | [d1, d2, d3] => { results := [.lit (.bool true)], args := [d1, d2, d3] }
  | _ => none }
def hashNextRow : OpenClaim := { program := "ytfdjlempllmelaa", sum := "c42bc1934f3d066031a46cc0d13c9db785f0a7ee0fa88473d6213716004b7bc8", func := "treeline/treelinelaw06.HashNext", spec := "hashNext", apart := false }
def HashNextSaid : Prop := hashNextRow.holds Try.pinned (OpenSpec.ofChange hashNextSpec)

/-- ITS FALSE NEIGHBOUR: 'it returns false'. Refute it at one input. -/
def hashNextWrong : ChangeSpec := { name := "hashNext", fn := fun _ => fun
  | [d1, d2, d3] => { results := [.lit (.bool false)], args := [d1, d2, d3] }
  | _ => none }
def HashNextWrongFalsely : Prop := hashNextRow.holds Try.pinned (OpenSpec.ofChange hashNextWrong)

/-- 'treelinelaw06.HashPlays': WHATEVER THE INPUT: true; the input reads as it did. -/
def hashPlaysSpec : ChangeSpec := { name := "hashPlays", fn := fun _ => fun
  | [d1, d2, d3] => { results := [.lit (.bool true)], args := [d1, d2, d3] }
  | _ => none }
def hashPlaysRow : OpenClaim := { program := "ytfdjlempllmelaa", sum := "c42bc1934f3d066031a46cc0d13c9db785f0a7ee0fa88473d6213716004b7bc8", func := "treeline/treelinelaw06.HashPlays", spec := "hashPlays", apart := false }
def HashPlaysSaid : Prop := hashPlaysRow.holds Try.pinned (OpenSpec.ofChange hashPlaysSpec)

/-- ITS FALSE NEIGHBOUR: 'it returns false'. Refute it at one input. -/
def hashPlaysWrong : ChangeSpec := { name := "hashPlays", fn := fun _ => fun
  | [d1, d2, d3] => { results := [.lit (.bool false)], args := [d1, d2, d3] }
  | _ => none }
def HashPlaysWrongFalsely : Prop := hashPlaysRow.holds Try.pinned (OpenSpec.ofChange hashPlaysWrong)

/-- 'treelinelaw09.TimerPlays': WHATEVER THE INPUT: true; the input reads as it did. -/
def timerPlaysSpec : ChangeSpec := { name := "timerPlays", fn := fun _ => fun
  | [d1, d2] => { results := [.lit (.bool true)], args := [d1, d2] }
  | _ => none }
def timerPlaysRow : OpenClaim := { program := "ytfdjlempllmelaa", sum := "c42bc1934f3d066031a46cc0d13c9db785f0a7ee0fa88473d6213716004b7bc8", func := "treeline/treelinelaw09.TimerPlays", spec := "timerPlays", apart := false }
def TimerPlaysSaid : Prop := timerPlaysRow.holds Try.pinned (OpenSpec.ofChange timerPlaysSpec)

/-- ITS FALSE NEIGHBOUR: 'it returns false'. Refute it at one input. -/
def timerPlaysWrong : ChangeSpec := { name := "timerPlays", fn := fun _ => fun
  | [d1, d2] => { results := [.lit (.bool false)], args := [d1, d2] }
  | _ => none }
def TimerPlaysWrongFalsely : Prop := timerPlaysRow.holds Try.pinned (OpenSpec.ofChange timerPlaysWrong)

/-- 'treelinelaw09.TimerFires': WHATEVER THE INPUT: true; the input reads as it did. -/
def timerFiresSpec : ChangeSpec := { name := "timerFires", fn := fun _ => fun
  | [d] => { results := [.lit (.bool true)], args := [d] }
  | _ => none }
def timerFiresRow : OpenClaim := { program := "ytfdjlempllmelaa", sum := "c42bc1934f3d066031a46cc0d13c9db785f0a7ee0fa88473d6213716004b7bc8", func := "treeline/treelinelaw09.TimerFires", spec := "timerFires", apart := false }
def TimerFiresSaid : Prop := timerFiresRow.holds Try.pinned (OpenSpec.ofChange timerFiresSpec)

/-- ITS FALSE NEIGHBOUR: 'it returns false'. Refute it at one input. -/
def timerFiresWrong : ChangeSpec := { name := "timerFires", fn := fun _ => fun
  | [d] => { results := [.lit (.bool false)], args := [d] }
  | _ => none }
def TimerFiresWrongFalsely : Prop := timerFiresRow.holds Try.pinned (OpenSpec.ofChange timerFiresWrong)

/-- 'treelinelaw09.TimerLater': WHATEVER THE INPUT: true; the input reads as it did. -/
def timerLaterSpec : ChangeSpec := { name := "timerLater", fn := fun _ => fun
  | [d1, d2, d3, d4] => { results := [.lit (.bool true)], args := [d1, d2, d3, d4] }
  | _ => none }
def timerLaterRow : OpenClaim := { program := "ytfdjlempllmelaa", sum := "c42bc1934f3d066031a46cc0d13c9db785f0a7ee0fa88473d6213716004b7bc8", func := "treeline/treelinelaw09.TimerLater", spec := "timerLater", apart := false }
def TimerLaterSaid : Prop := timerLaterRow.holds Try.pinned (OpenSpec.ofChange timerLaterSpec)

/-- ITS FALSE NEIGHBOUR: 'it returns false'. Refute it at one input. -/
def timerLaterWrong : ChangeSpec := { name := "timerLater", fn := fun _ => fun
  | [d1, d2, d3, d4] => { results := [.lit (.bool false)], args := [d1, d2, d3, d4] }
  | _ => none }
def TimerLaterWrongFalsely : Prop := timerLaterRow.holds Try.pinned (OpenSpec.ofChange timerLaterWrong)

/-- 'treelinelaw09.TimerRests': WHATEVER THE INPUT: true; the input reads as it did. -/
def timerRestsSpec : ChangeSpec := { name := "timerRests", fn := fun _ => fun
  | [d1, d2] => { results := [.lit (.bool true)], args := [d1, d2] }
  | _ => none }
def timerRestsRow : OpenClaim := { program := "ytfdjlempllmelaa", sum := "c42bc1934f3d066031a46cc0d13c9db785f0a7ee0fa88473d6213716004b7bc8", func := "treeline/treelinelaw09.TimerRests", spec := "timerRests", apart := false }
def TimerRestsSaid : Prop := timerRestsRow.holds Try.pinned (OpenSpec.ofChange timerRestsSpec)

/-- ITS FALSE NEIGHBOUR: 'it returns false'. Refute it at one input. -/
def timerRestsWrong : ChangeSpec := { name := "timerRests", fn := fun _ => fun
  | [d1, d2] => { results := [.lit (.bool false)], args := [d1, d2] }
  | _ => none }
def TimerRestsWrongFalsely : Prop := timerRestsRow.holds Try.pinned (OpenSpec.ofChange timerRestsWrong)

/-- 'treelinelaw12.PortHolds': WHATEVER THE INPUT: true; the input reads as it did. -/
def portHoldsSpec : ChangeSpec := { name := "portHolds", fn := fun _ => fun
  | [d1, d2, d3, d4, d5, d6] => { results := [.lit (.bool true)], args := [d1, d2, d3, d4, d5, d6] }
  | _ => none }
def portHoldsRow : OpenClaim := { program := "ytfdjlempllmelaa", sum := "c42bc1934f3d066031a46cc0d13c9db785f0a7ee0fa88473d6213716004b7bc8", func := "treeline/treelinelaw12.PortHolds", spec := "portHolds", apart := false }
def PortHoldsSaid : Prop := portHoldsRow.holds Try.pinned (OpenSpec.ofChange portHoldsSpec)

/-- ITS FALSE NEIGHBOUR: 'it returns false'. Refute it at one input. -/
def portHoldsWrong : ChangeSpec := { name := "portHolds", fn := fun _ => fun
  | [d1, d2, d3, d4, d5, d6] => { results := [.lit (.bool false)], args := [d1, d2, d3, d4, d5, d6] }
  | _ => none }
def PortHoldsWrongFalsely : Prop := portHoldsRow.holds Try.pinned (OpenSpec.ofChange portHoldsWrong)

/-- 'treelinelaw12.PortBlocks': WHATEVER THE INPUT: true; the input reads as it did. -/
def portBlocksSpec : ChangeSpec := { name := "portBlocks", fn := fun _ => fun
  | [d] => { results := [.lit (.bool true)], args := [d] }
  | _ => none }
def portBlocksRow : OpenClaim := { program := "ytfdjlempllmelaa", sum := "c42bc1934f3d066031a46cc0d13c9db785f0a7ee0fa88473d6213716004b7bc8", func := "treeline/treelinelaw12.PortBlocks", spec := "portBlocks", apart := false }
def PortBlocksSaid : Prop := portBlocksRow.holds Try.pinned (OpenSpec.ofChange portBlocksSpec)

/-- ITS FALSE NEIGHBOUR: 'it returns false'. Refute it at one input. -/
def portBlocksWrong : ChangeSpec := { name := "portBlocks", fn := fun _ => fun
  | [d] => { results := [.lit (.bool false)], args := [d] }
  | _ => none }
def PortBlocksWrongFalsely : Prop := portBlocksRow.holds Try.pinned (OpenSpec.ofChange portBlocksWrong)

/-- 'treelinelaw12.PortPlays': WHATEVER THE INPUT: true; the input reads as it did. -/
def portPlaysSpec : ChangeSpec := { name := "portPlays", fn := fun _ => fun
  | [d] => { results := [.lit (.bool true)], args := [d] }
  | _ => none }
def portPlaysRow : OpenClaim := { program := "ytfdjlempllmelaa", sum := "c42bc1934f3d066031a46cc0d13c9db785f0a7ee0fa88473d6213716004b7bc8", func := "treeline/treelinelaw12.PortPlays", spec := "portPlays", apart := false }
def PortPlaysSaid : Prop := portPlaysRow.holds Try.pinned (OpenSpec.ofChange portPlaysSpec)

/-- ITS FALSE NEIGHBOUR: 'it returns false'. Refute it at one input. -/
def portPlaysWrong : ChangeSpec := { name := "portPlays", fn := fun _ => fun
  | [d] => { results := [.lit (.bool false)], args := [d] }
  | _ => none }
def PortPlaysWrongFalsely : Prop := portPlaysRow.holds Try.pinned (OpenSpec.ofChange portPlaysWrong)

/-- 'treelinelaw12.PortRises': WHATEVER THE INPUT: true; the input reads as it did. -/
def portRisesSpec : ChangeSpec := { name := "portRises", fn := fun _ => fun
  | [d1, d2] => { results := [.lit (.bool true)], args := [d1, d2] }
  | _ => none }
def portRisesRow : OpenClaim := { program := "ytfdjlempllmelaa", sum := "c42bc1934f3d066031a46cc0d13c9db785f0a7ee0fa88473d6213716004b7bc8", func := "treeline/treelinelaw12.PortRises", spec := "portRises", apart := false }
def PortRisesSaid : Prop := portRisesRow.holds Try.pinned (OpenSpec.ofChange portRisesSpec)

/-- ITS FALSE NEIGHBOUR: 'it returns false'. Refute it at one input. -/
def portRisesWrong : ChangeSpec := { name := "portRises", fn := fun _ => fun
  | [d1, d2] => { results := [.lit (.bool false)], args := [d1, d2] }
  | _ => none }
def PortRisesWrongFalsely : Prop := portRisesRow.holds Try.pinned (OpenSpec.ofChange portRisesWrong)

/- THE SECOND FORM. 'bulk': how many values and letters a reading holds, each counted each time it is reached (what is shared counts as often as it is met; a slice's spare places count too). A statement '..UptoSaid' is the law's where the arguments, and the package variables that the reading takes, are together of bulk at most 1048576: NARROWER than '..Said'. Prove '..Said' where nothing that the law and all that it calls make is longer than what came in: it says more and counts as full. Else prove '..UptoSaid'. A law counts once. -/
mutual
def uptoBulk {H : Type} : DataW H → Nat
  | .lit (.string bytes) => bytes.length + 1
  | .lit _ => 1
  | .nil => 1
  | .ptr d => uptoBulk d + 1
  | .slice elems spare => uptoBulkAll elems + uptoBulkAll spare + 1
  | .agg parts => uptoBulkAll parts + 1
  | .iface _ d => uptoBulk d + 1
  | .map entries => uptoBulkEntries entries + 1
  | .held _ => 1
def uptoBulkAll {H : Type} : List (DataW H) → Nat
  | [] => 0
  | d :: r => uptoBulk d + uptoBulkAll r
def uptoBulkEntries {H : Type} : List (Lit × DataW H) → Nat
  | [] => 0
  | x :: r => uptoBulkEntry x + uptoBulkEntries r
def uptoBulkEntry {H : Type} : Lit × DataW H → Nat
  | (.string bytes, d) => bytes.length + uptoBulk d + 1
  | (_, d) => uptoBulk d + 1
 end
def uptoSmall : (H : Type) → List (DataW H) → Bool := fun _ ds => decide (uptoBulkAll ds ≤ 1048576)
def OpenSpec.upto (s : _root_.Go.ChangeSpec) : _root_.Go.OpenSpec := { _root_.Go.OpenSpec.ofChange s with cond := some uptoSmall }

/-- 'treelinelaw06.HashWays', WHERE WHAT IT READS IS OF BULK AT MOST 1048576: true; the input reads as it did. -/
def hashWaysUptoRow : OpenClaim := { program := "ytfdjlempllmelaa", sum := "c42bc1934f3d066031a46cc0d13c9db785f0a7ee0fa88473d6213716004b7bc8", func := "treeline/treelinelaw06.HashWays", spec := "hashWays", apart := false, narrowed := true }
def HashWaysUptoSaid : Prop := hashWaysUptoRow.holds Try.pinned (OpenSpec.upto hashWaysSpec)

/-- 'treelinelaw06.HashRound', WHERE WHAT IT READS IS OF BULK AT MOST 1048576: true; the input reads as it did. -/
def hashRoundUptoRow : OpenClaim := { program := "ytfdjlempllmelaa", sum := "c42bc1934f3d066031a46cc0d13c9db785f0a7ee0fa88473d6213716004b7bc8", func := "treeline/treelinelaw06.HashRound", spec := "hashRound", apart := false, narrowed := true }
def HashRoundUptoSaid : Prop := hashRoundUptoRow.holds Try.pinned (OpenSpec.upto hashRoundSpec)

/-- 'treelinelaw06.HashNext', WHERE WHAT IT READS IS OF BULK AT MOST 1048576: true; the input reads as it did. -/
def hashNextUptoRow : OpenClaim := { program := "ytfdjlempllmelaa", sum := "c42bc1934f3d066031a46cc0d13c9db785f0a7ee0fa88473d6213716004b7bc8", func := "treeline/treelinelaw06.HashNext", spec := "hashNext", apart := false, narrowed := true }
def HashNextUptoSaid : Prop := hashNextUptoRow.holds Try.pinned (OpenSpec.upto hashNextSpec)

/-- 'treelinelaw06.HashPlays', WHERE WHAT IT READS IS OF BULK AT MOST 1048576: true; the input reads as it did. -/
def hashPlaysUptoRow : OpenClaim := { program := "ytfdjlempllmelaa", sum := "c42bc1934f3d066031a46cc0d13c9db785f0a7ee0fa88473d6213716004b7bc8", func := "treeline/treelinelaw06.HashPlays", spec := "hashPlays", apart := false, narrowed := true }
def HashPlaysUptoSaid : Prop := hashPlaysUptoRow.holds Try.pinned (OpenSpec.upto hashPlaysSpec)

/-- 'treelinelaw09.TimerPlays', WHERE WHAT IT READS IS OF BULK AT MOST 1048576: true; the input reads as it did. -/
def timerPlaysUptoRow : OpenClaim := { program := "ytfdjlempllmelaa", sum := "c42bc1934f3d066031a46cc0d13c9db785f0a7ee0fa88473d6213716004b7bc8", func := "treeline/treelinelaw09.TimerPlays", spec := "timerPlays", apart := false, narrowed := true }
def TimerPlaysUptoSaid : Prop := timerPlaysUptoRow.holds Try.pinned (OpenSpec.upto timerPlaysSpec)

/-- 'treelinelaw09.TimerFires', WHERE WHAT IT READS IS OF BULK AT MOST 1048576: true; the input reads as it did. -/
def timerFiresUptoRow : OpenClaim := { program := "ytfdjlempllmelaa", sum := "c42bc1934f3d066031a46cc0d13c9db785f0a7ee0fa88473d6213716004b7bc8", func := "treeline/treelinelaw09.TimerFires", spec := "timerFires", apart := false, narrowed := true }
def TimerFiresUptoSaid : Prop := timerFiresUptoRow.holds Try.pinned (OpenSpec.upto timerFiresSpec)

/-- 'treelinelaw09.TimerLater', WHERE WHAT IT READS IS OF BULK AT MOST 1048576: true; the input reads as it did. -/
def timerLaterUptoRow : OpenClaim := { program := "ytfdjlempllmelaa", sum := "c42bc1934f3d066031a46cc0d13c9db785f0a7ee0fa88473d6213716004b7bc8", func := "treeline/treelinelaw09.TimerLater", spec := "timerLater", apart := false, narrowed := true }
def TimerLaterUptoSaid : Prop := timerLaterUptoRow.holds Try.pinned (OpenSpec.upto timerLaterSpec)

/-- 'treelinelaw09.TimerRests', WHERE WHAT IT READS IS OF BULK AT MOST 1048576: true; the input reads as it did. -/
def timerRestsUptoRow : OpenClaim := { program := "ytfdjlempllmelaa", sum := "c42bc1934f3d066031a46cc0d13c9db785f0a7ee0fa88473d6213716004b7bc8", func := "treeline/treelinelaw09.TimerRests", spec := "timerRests", apart := false, narrowed := true }
def TimerRestsUptoSaid : Prop := timerRestsUptoRow.holds Try.pinned (OpenSpec.upto timerRestsSpec)

/-- 'treelinelaw12.PortHolds', WHERE WHAT IT READS IS OF BULK AT MOST 1048576: true; the input reads as it did. -/
def portHoldsUptoRow : OpenClaim := { program := "ytfdjlempllmelaa", sum := "c42bc1934f3d066031a46cc0d13c9db785f0a7ee0fa88473d6213716004b7bc8", func := "treeline/treelinelaw12.PortHolds", spec := "portHolds", apart := false, narrowed := true }
def PortHoldsUptoSaid : Prop := portHoldsUptoRow.holds Try.pinned (OpenSpec.upto portHoldsSpec)

/-- 'treelinelaw12.PortBlocks', WHERE WHAT IT READS IS OF BULK AT MOST 1048576: true; the input reads as it did. -/
def portBlocksUptoRow : OpenClaim := { program := "ytfdjlempllmelaa", sum := "c42bc1934f3d066031a46cc0d13c9db785f0a7ee0fa88473d6213716004b7bc8", func := "treeline/treelinelaw12.PortBlocks", spec := "portBlocks", apart := false, narrowed := true }
def PortBlocksUptoSaid : Prop := portBlocksUptoRow.holds Try.pinned (OpenSpec.upto portBlocksSpec)

/-- 'treelinelaw12.PortPlays', WHERE WHAT IT READS IS OF BULK AT MOST 1048576: true; the input reads as it did. -/
def portPlaysUptoRow : OpenClaim := { program := "ytfdjlempllmelaa", sum := "c42bc1934f3d066031a46cc0d13c9db785f0a7ee0fa88473d6213716004b7bc8", func := "treeline/treelinelaw12.PortPlays", spec := "portPlays", apart := false, narrowed := true }
def PortPlaysUptoSaid : Prop := portPlaysUptoRow.holds Try.pinned (OpenSpec.upto portPlaysSpec)

/-- 'treelinelaw12.PortRises', WHERE WHAT IT READS IS OF BULK AT MOST 1048576: true; the input reads as it did. -/
def portRisesUptoRow : OpenClaim := { program := "ytfdjlempllmelaa", sum := "c42bc1934f3d066031a46cc0d13c9db785f0a7ee0fa88473d6213716004b7bc8", func := "treeline/treelinelaw12.PortRises", spec := "portRises", apart := false, narrowed := true }
def PortRisesUptoSaid : Prop := portRisesUptoRow.holds Try.pinned (OpenSpec.upto portRisesSpec)

end Rows
end Go.Proofs.Ytfdjlempllmelaa
