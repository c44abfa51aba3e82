/-
  No cell of these rows narrows 'for every input' (looked for: loops, veiled, ifaces, maps, wideKeys, modest, calm, conditions, laid).
  DERIVED. THE GIVEN ROWS OF THIS SEAT. 10 by the template 'for every input the law returns true; each argument reads behind the call as it read before'; 0 by the template 'total and deterministic' (their statements: YtdmlpcbmmdddbaaTotals.lean).
  GIVEN WITH THE SEED: the statements are not yours to turn. If you find one false, say at which input.
  Laid BY PROGRAM, IN A SANDBOX (cutbox-rows.mjs): the forced cells as the released guide's own fill.sh prints them over the translation 9a64de7deea982b9… (all of the seat's roots in one cut). By AI agents, Wed Nov 11 2026. No macro, syntax, notation, axiom, sorry.
-/
import Derived.Test.YtdmlpcbmmdddbaaChecked
import GoSem.Claim
import GoSem.ClaimJoined
import GoSem.ClaimMapViews
import Derived.JoinedTies
import Derived.KernelRfl
namespace Go.Proofs.Ytdmlpcbmmdddbaa
/- THE CELL 'sum', in the pinned program and in every row, IS THE sha256 OF THE DUMP (.gsa) THAT YtdmlpcbmmdddbaaProg.lean LOADS. Nothing in Lean hashes anything: it is a label: what it is worth is what the hold of that sum in a sandbox is worth. -/
noncomputable def Try.pinned : Pinned := { name := "ytdmlpcbmmdddbaa", sum := "9a64de7deea982b960d75af5cf286229ef22cb84144f54b3bc262d50387b343f", checked := Try.checked }
namespace Rows
def none {H : Type} : Left H := { results := [], args := [] }

/-- 'treelinelaw04.FramePuts': WHATEVER THE INPUT: true; the input reads as it did. -/
def framePutsSpec : ChangeSpec := { name := "framePuts", fn := fun _ => fun
  | [d] => { results := [.lit (.bool true)], args := [d] }
  | _ => none }
def framePutsRow : OpenClaim := { program := "ytdmlpcbmmdddbaa", sum := "9a64de7deea982b960d75af5cf286229ef22cb84144f54b3bc262d50387b343f", func := "treeline/treelinelaw04.FramePuts", spec := "framePuts", apart := false }
def FramePutsSaid : Prop := framePutsRow.holds Try.pinned (OpenSpec.ofChange framePutsSpec)

/-- ITS FALSE NEIGHBOUR: 'it returns false'. Refute it at one input. -/
def framePutsWrong : ChangeSpec := { name := "framePuts", fn := fun _ => fun
  | [d] => { results := [.lit (.bool false)], args := [d] }
  | _ => none }
def FramePutsWrongFalsely : Prop := framePutsRow.holds Try.pinned (OpenSpec.ofChange framePutsWrong)

/-- 'treelinelaw04.FrameSizes': WHATEVER THE INPUT: true; the input reads as it did. -/
def frameSizesSpec : ChangeSpec := { name := "frameSizes", fn := fun _ => fun
  | [d] => { results := [.lit (.bool true)], args := [d] }
  | _ => none }
def frameSizesRow : OpenClaim := { program := "ytdmlpcbmmdddbaa", sum := "9a64de7deea982b960d75af5cf286229ef22cb84144f54b3bc262d50387b343f", func := "treeline/treelinelaw04.FrameSizes", spec := "frameSizes", apart := false }
def FrameSizesSaid : Prop := frameSizesRow.holds Try.pinned (OpenSpec.ofChange frameSizesSpec)

/-- ITS FALSE NEIGHBOUR: 'it returns false'. Refute it at one input. -/
def frameSizesWrong : ChangeSpec := { name := "frameSizes", fn := fun _ => fun
  | [d] => { results := [.lit (.bool false)], args := [d] }
  | _ => none }
def FrameSizesWrongFalsely : Prop := frameSizesRow.holds Try.pinned (OpenSpec.ofChange frameSizesWrong)

/-- 'treelinelaw04.FrameCopies': WHATEVER THE INPUT: true; the input reads as it did. -/
def frameCopiesSpec : ChangeSpec := { name := "frameCopies", fn := fun _ => fun
  | [d1, d2] => { results := [.lit (.bool true)], args := [d1, d2] }
  | _ => none }
def frameCopiesRow : OpenClaim := { program := "ytdmlpcbmmdddbaa", sum := "9a64de7deea982b960d75af5cf286229ef22cb84144f54b3bc262d50387b343f", func := "treeline/treelinelaw04.FrameCopies", spec := "frameCopies", apart := false }
def FrameCopiesSaid : Prop := frameCopiesRow.holds Try.pinned (OpenSpec.ofChange frameCopiesSpec)

/-- ITS FALSE NEIGHBOUR: 'it returns false'. Refute it at one input. -/
def frameCopiesWrong : ChangeSpec := { name := "frameCopies", fn := fun _ => fun
  | [d1, d2] => { results := [.lit (.bool false)], args := [d1, d2] }
  | _ => none }
def FrameCopiesWrongFalsely : Prop := frameCopiesRow.holds Try.pinned (OpenSpec.ofChange frameCopiesWrong)

/-- 'treelinelaw04.FrameGets': WHATEVER THE INPUT: true; the input reads as it did. -/
def frameGetsSpec : ChangeSpec := { name := "frameGets", fn := fun _ => fun
  | [d] => { results := [.lit (.bool true)], args := [d] }
  | _ => none }
def frameGetsRow : OpenClaim := { program := "ytdmlpcbmmdddbaa", sum := "9a64de7deea982b960d75af5cf286229ef22cb84144f54b3bc262d50387b343f", func := "treeline/treelinelaw04.FrameGets", spec := "frameGets", apart := false }
def FrameGetsSaid : Prop := frameGetsRow.holds Try.pinned (OpenSpec.ofChange frameGetsSpec)

/-- ITS FALSE NEIGHBOUR: 'it returns false'. Refute it at one input. -/
def frameGetsWrong : ChangeSpec := { name := "frameGets", fn := fun _ => fun
  | [d] => { results := [.lit (.bool false)], args := [d] }
  | _ => none }
def FrameGetsWrongFalsely : Prop := frameGetsRow.holds Try.pinned (OpenSpec.ofChange frameGetsWrong)

/-- 'treelinelaw04.FrameBack': WHATEVER THE INPUT: true; the input reads as it did. -/
def frameBackSpec : ChangeSpec := { name := "frameBack", fn := fun _ => fun
  | [d1, d2, d3] => { results := [.lit (.bool true)], args := [d1, d2, d3] }
  | _ => none }
def frameBackRow : OpenClaim := { program := "ytdmlpcbmmdddbaa", sum := "9a64de7deea982b960d75af5cf286229ef22cb84144f54b3bc262d50387b343f", func := "treeline/treelinelaw04.FrameBack", spec := "frameBack", apart := false }
def FrameBackSaid : Prop := frameBackRow.holds Try.pinned (OpenSpec.ofChange frameBackSpec)

/-- ITS FALSE NEIGHBOUR: 'it returns false'. Refute it at one input. -/
def frameBackWrong : ChangeSpec := { name := "frameBack", fn := fun _ => fun
  | [d1, d2, d3] => { results := [.lit (.bool false)], args := [d1, d2, d3] }
  | _ => none }
def FrameBackWrongFalsely : Prop := frameBackRow.holds Try.pinned (OpenSpec.ofChange frameBackWrong)

/-- 'treelinelaw05.BpduPuts': WHATEVER THE INPUT: true; the input reads as it did. -/
def bpduPutsSpec : ChangeSpec := { name := "bpduPuts", fn := fun _ => fun
  | [d] => { results := [.lit (.bool true)], args := [d] }
  | _ => none }
def bpduPutsRow : OpenClaim := { program := "ytdmlpcbmmdddbaa", sum := "9a64de7deea982b960d75af5cf286229ef22cb84144f54b3bc262d50387b343f", func := "treeline/treelinelaw05.BpduPuts", spec := "bpduPuts", recurses := true, apart := false }
def BpduPutsSaid : Prop := bpduPutsRow.holds Try.pinned (OpenSpec.ofChange bpduPutsSpec)

/-- ITS FALSE NEIGHBOUR: 'it returns false'. Refute it at one input. -/
def bpduPutsWrong : ChangeSpec := { name := "bpduPuts", fn := fun _ => fun
  | [d] => { results := [.lit (.bool false)], args := [d] }
  | _ => none }
def BpduPutsWrongFalsely : Prop := bpduPutsRow.holds Try.pinned (OpenSpec.ofChange bpduPutsWrong)

/-- 'treelinelaw05.BpduFlags': WHATEVER THE INPUT: true; the input reads as it did. -/
def bpduFlagsSpec : ChangeSpec := { name := "bpduFlags", fn := fun _ => fun
  | [d] => { results := [.lit (.bool true)], args := [d] }
  | _ => none }
def bpduFlagsRow : OpenClaim := { program := "ytdmlpcbmmdddbaa", sum := "9a64de7deea982b960d75af5cf286229ef22cb84144f54b3bc262d50387b343f", func := "treeline/treelinelaw05.BpduFlags", spec := "bpduFlags", apart := false }
def BpduFlagsSaid : Prop := bpduFlagsRow.holds Try.pinned (OpenSpec.ofChange bpduFlagsSpec)

/-- ITS FALSE NEIGHBOUR: 'it returns false'. Refute it at one input. -/
def bpduFlagsWrong : ChangeSpec := { name := "bpduFlags", fn := fun _ => fun
  | [d] => { results := [.lit (.bool false)], args := [d] }
  | _ => none }
def BpduFlagsWrongFalsely : Prop := bpduFlagsRow.holds Try.pinned (OpenSpec.ofChange bpduFlagsWrong)

/-- 'treelinelaw05.BpduBack': WHATEVER THE INPUT: true; the input reads as it did. -/
def bpduBackSpec : ChangeSpec := { name := "bpduBack", fn := fun _ => fun
  | [d1, d2, d3] => { results := [.lit (.bool true)], args := [d1, d2, d3] }
  | _ => none }
def bpduBackRow : OpenClaim := { program := "ytdmlpcbmmdddbaa", sum := "9a64de7deea982b960d75af5cf286229ef22cb84144f54b3bc262d50387b343f", func := "treeline/treelinelaw05.BpduBack", spec := "bpduBack", apart := false }
def BpduBackSaid : Prop := bpduBackRow.holds Try.pinned (OpenSpec.ofChange bpduBackSpec)

/-- ITS FALSE NEIGHBOUR: 'it returns false'. Refute it at one input. -/
def bpduBackWrong : ChangeSpec := { name := "bpduBack", fn := fun _ => fun
  | [d1, d2, d3] => { results := [.lit (.bool false)], args := [d1, d2, d3] }
  | _ => none }
def BpduBackWrongFalsely : Prop := bpduBackRow.holds Try.pinned (OpenSpec.ofChange bpduBackWrong)

/-- 'treelinelaw05.BpduGets': WHATEVER THE INPUT: true; the input reads as it did. -/
def bpduGetsSpec : ChangeSpec := { name := "bpduGets", fn := fun _ => fun
  | [d1, d2, d3] => { results := [.lit (.bool true)], args := [d1, d2, d3] }
  | _ => none }
def bpduGetsRow : OpenClaim := { program := "ytdmlpcbmmdddbaa", sum := "9a64de7deea982b960d75af5cf286229ef22cb84144f54b3bc262d50387b343f", func := "treeline/treelinelaw05.BpduGets", spec := "bpduGets", apart := false }
def BpduGetsSaid : Prop := bpduGetsRow.holds Try.pinned (OpenSpec.ofChange bpduGetsSpec)

/-- ITS FALSE NEIGHBOUR: 'it returns false'. Refute it at one input. -/
def bpduGetsWrong : ChangeSpec := { name := "bpduGets", fn := fun _ => fun
  | [d1, d2, d3] => { results := [.lit (.bool false)], args := [d1, d2, d3] }
  | _ => none }
def BpduGetsWrongFalsely : Prop := bpduGetsRow.holds Try.pinned (OpenSpec.ofChange bpduGetsWrong)

/-- 'treelinelaw05.BpduOwn': WHATEVER THE INPUT: true; the input reads as it did. -/
def bpduOwnSpec : ChangeSpec := { name := "bpduOwn", fn := fun _ => fun
  | [d1, d2, d3] => { results := [.lit (.bool true)], args := [d1, d2, d3] }
  | _ => none }
def bpduOwnRow : OpenClaim := { program := "ytdmlpcbmmdddbaa", sum := "9a64de7deea982b960d75af5cf286229ef22cb84144f54b3bc262d50387b343f", func := "treeline/treelinelaw05.BpduOwn", spec := "bpduOwn", apart := false }
def BpduOwnSaid : Prop := bpduOwnRow.holds Try.pinned (OpenSpec.ofChange bpduOwnSpec)

/-- ITS FALSE NEIGHBOUR: 'it returns false'. Refute it at one input. -/
def bpduOwnWrong : ChangeSpec := { name := "bpduOwn", fn := fun _ => fun
  | [d1, d2, d3] => { results := [.lit (.bool false)], args := [d1, d2, d3] }
  | _ => none }
def BpduOwnWrongFalsely : Prop := bpduOwnRow.holds Try.pinned (OpenSpec.ofChange bpduOwnWrong)

/- THE SECOND FORM. 'bulk': how many values and letters a reading holds, each counted each time it is reached (what is shared counts as often as it is met; a slice's spare places count too). A statement '..UptoSaid' is the law's where the arguments, and the package variables that the reading takes, are together of bulk at most 1048576: NARROWER than '..Said'. Prove '..Said' where nothing that the law and all that it calls make is longer than what came in: it says more and counts as full. Else prove '..UptoSaid'. A law counts once. -/
mutual
def uptoBulk {H : Type} : DataW H → Nat
  | .lit (.string bytes) => bytes.length + 1
  | .lit _ => 1
  | .nil => 1
  | .ptr d => uptoBulk d + 1
  | .slice elems spare => uptoBulkAll elems + uptoBulkAll spare + 1
  | .agg parts => uptoBulkAll parts + 1
  | .iface _ d => uptoBulk d + 1
  | .map entries => uptoBulkEntries entries + 1
  | .held _ => 1
def uptoBulkAll {H : Type} : List (DataW H) → Nat
  | [] => 0
  | d :: r => uptoBulk d + uptoBulkAll r
def uptoBulkEntries {H : Type} : List (Lit × DataW H) → Nat
  | [] => 0
  | x :: r => uptoBulkEntry x + uptoBulkEntries r
def uptoBulkEntry {H : Type} : Lit × DataW H → Nat
  | (.string bytes, d) => bytes.length + uptoBulk d + 1
  | (_, d) => uptoBulk d + 1
 end
def uptoSmall : (H : Type) → List (DataW H) → Bool := fun _ ds => decide (uptoBulkAll ds ≤ 1048576)
def OpenSpec.upto (s : _root_.Go.ChangeSpec) : _root_.Go.OpenSpec := { _root_.Go.OpenSpec.ofChange s with cond := some uptoSmall }

/-- 'treelinelaw04.FramePuts', WHERE WHAT IT READS IS OF BULK AT MOST 1048576: true; the input reads as it did. -/
def framePutsUptoRow : OpenClaim := { program := "ytdmlpcbmmdddbaa", sum := "9a64de7deea982b960d75af5cf286229ef22cb84144f54b3bc262d50387b343f", func := "treeline/treelinelaw04.FramePuts", spec := "framePuts", apart := false, narrowed := true }
def FramePutsUptoSaid : Prop := framePutsUptoRow.holds Try.pinned (OpenSpec.upto framePutsSpec)

/-- 'treelinelaw04.FrameSizes', WHERE WHAT IT READS IS OF BULK AT MOST 1048576: true; the input reads as it did. -/
def frameSizesUptoRow : OpenClaim := { program := "ytdmlpcbmmdddbaa", sum := "9a64de7deea982b960d75af5cf286229ef22cb84144f54b3bc262d50387b343f", func := "treeline/treelinelaw04.FrameSizes", spec := "frameSizes", apart := false, narrowed := true }
def FrameSizesUptoSaid : Prop := frameSizesUptoRow.holds Try.pinned (OpenSpec.upto frameSizesSpec)

/-- 'treelinelaw04.FrameCopies', WHERE WHAT IT READS IS OF BULK AT MOST 1048576: true; the input reads as it did. -/
def frameCopiesUptoRow : OpenClaim := { program := "ytdmlpcbmmdddbaa", sum := "9a64de7deea982b960d75af5cf286229ef22cb84144f54b3bc262d50387b343f", func := "treeline/treelinelaw04.FrameCopies", spec := "frameCopies", apart := false, narrowed := true }
def FrameCopiesUptoSaid : Prop := frameCopiesUptoRow.holds Try.pinned (OpenSpec.upto frameCopiesSpec)

/-- 'treelinelaw04.FrameGets', WHERE WHAT IT READS IS OF BULK AT MOST 1048576: true; the input reads as it did. -/
def frameGetsUptoRow : OpenClaim := { program := "ytdmlpcbmmdddbaa", sum := "9a64de7deea982b960d75af5cf286229ef22cb84144f54b3bc262d50387b343f", func := "treeline/treelinelaw04.FrameGets", spec := "frameGets", apart := false, narrowed := true }
def FrameGetsUptoSaid : Prop := frameGetsUptoRow.holds Try.pinned (OpenSpec.upto frameGetsSpec)

/-- 'treelinelaw04.FrameBack', WHERE WHAT IT READS IS OF BULK AT MOST 1048576: true; the input reads as it did. -/
def frameBackUptoRow : OpenClaim := { program := "ytdmlpcbmmdddbaa", sum := "9a64de7deea982b960d75af5cf286229ef22cb84144f54b3bc262d50387b343f", func := "treeline/treelinelaw04.FrameBack", spec := "frameBack", apart := false, narrowed := true }
def FrameBackUptoSaid : Prop := frameBackUptoRow.holds Try.pinned (OpenSpec.upto frameBackSpec)

/-- 'treelinelaw05.BpduPuts', WHERE WHAT IT READS IS OF BULK AT MOST 1048576: true; the input reads as it did. -/
def bpduPutsUptoRow : OpenClaim := { program := "ytdmlpcbmmdddbaa", sum := "9a64de7deea982b960d75af5cf286229ef22cb84144f54b3bc262d50387b343f", func := "treeline/treelinelaw05.BpduPuts", spec := "bpduPuts", recurses := true, apart := false, narrowed := true }
def BpduPutsUptoSaid : Prop := bpduPutsUptoRow.holds Try.pinned (OpenSpec.upto bpduPutsSpec)

/-- 'treelinelaw05.BpduFlags', WHERE WHAT IT READS IS OF BULK AT MOST 1048576: true; the input reads as it did. -/
def bpduFlagsUptoRow : OpenClaim := { program := "ytdmlpcbmmdddbaa", sum := "9a64de7deea982b960d75af5cf286229ef22cb84144f54b3bc262d50387b343f", func := "treeline/treelinelaw05.BpduFlags", spec := "bpduFlags", apart := false, narrowed := true }
def BpduFlagsUptoSaid : Prop := bpduFlagsUptoRow.holds Try.pinned (OpenSpec.upto bpduFlagsSpec)

/-- 'treelinelaw05.BpduBack', WHERE WHAT IT READS IS OF BULK AT MOST 1048576: true; the input reads as it did. -/
def bpduBackUptoRow : OpenClaim := { program := "ytdmlpcbmmdddbaa", sum := "9a64de7deea982b960d75af5cf286229ef22cb84144f54b3bc262d50387b343f", func := "treeline/treelinelaw05.BpduBack", spec := "bpduBack", apart := false, narrowed := true }
def BpduBackUptoSaid : Prop := bpduBackUptoRow.holds Try.pinned (OpenSpec.upto bpduBackSpec)

/-- 'treelinelaw05.BpduGets', WHERE WHAT IT READS IS OF BULK AT MOST 1048576: true; the input reads as it did. -/
def bpduGetsUptoRow : OpenClaim := { program := "ytdmlpcbmmdddbaa", sum := "9a64de7deea982b960d75af5cf286229ef22cb84144f54b3bc262d50387b343f", func := "treeline/treelinelaw05.BpduGets", spec := "bpduGets", apart := false, narrowed := true }
def BpduGetsUptoSaid : Prop := bpduGetsUptoRow.holds Try.pinned (OpenSpec.upto bpduGetsSpec)

/-- 'treelinelaw05.BpduOwn', WHERE WHAT IT READS IS OF BULK AT MOST 1048576: true; the input reads as it did. -/
def bpduOwnUptoRow : OpenClaim := { program := "ytdmlpcbmmdddbaa", sum := "9a64de7deea982b960d75af5cf286229ef22cb84144f54b3bc262d50387b343f", func := "treeline/treelinelaw05.BpduOwn", spec := "bpduOwn", apart := false, narrowed := true }
def BpduOwnUptoSaid : Prop := bpduOwnUptoRow.holds Try.pinned (OpenSpec.upto bpduOwnSpec)

end Rows
end Go.Proofs.Ytdmlpcbmmdddbaa
