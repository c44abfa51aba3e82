/-
  NARROWER THAN 'FOR EVERY INPUT', by the rows' own cells (each row's printed sentence says how): ScriptReads: laid · ScriptMay: laid · ScriptEnds: laid · ScriptFront: laid · ScriptTells: laid.
  DERIVED. THE GIVEN ROWS OF THIS SEAT. 5 by the template 'for every input the law returns true; each argument reads behind the call as it read before'; 0 by the template 'total and deterministic' (their statements: YtiikllgppmmiaaaDoorTotals.lean).
  GIVEN WITH THE SEED: the statements are not yours to turn. If you find one false, say at which input.
  Laid BY PROGRAM, IN A SANDBOX (cutbox-rows.mjs): the forced cells as the released guide's own fill.sh prints them over the translation 0f8a9955e2c5ee47… (all of the seat's roots in one cut). By AI agents, Wed Nov 11 2026. No macro, syntax, notation, axiom, sorry.
-/
import Derived.Test.YtiikllgppmmiaaaDoorChecked
import GoSem.Claim
import GoSem.ClaimJoined
import GoSem.ClaimMapViews
import Derived.JoinedTies
import Derived.KernelRfl
namespace Go.Proofs.YtiikllgppmmiaaaDoor
/- THE CELL 'sum', in the pinned program and in every row, IS THE sha256 OF THE DUMP (.gsa) THAT YtiikllgppmmiaaaDoorProg.lean LOADS. Nothing in Lean hashes anything: it is a label: what it is worth is what the hold of that sum in a sandbox is worth. -/
noncomputable def Tryd.pinned : Pinned := { name := "ytiikllgppmmiaaadoor", sum := "0f8a9955e2c5ee47c71b86bd762d4ca658e9b7fc5b5ec1007400f6bdb0c1197d", checked := Tryd.checked }
namespace Rows
def none {H : Type} : Left H := { results := [], args := [] }

/- WHAT THE LISTED PACKAGE-LEVEL VARIABLES READ AS WHEN THE CALL BEGINS. Each datum BY PROGRAM (the guide's laid-datum.mjs) off the statement by which the dump's own 'gosem.cut.vars' lays the variable. In a bare row this is a premise. The card (YtiikllgppmmiaaaDoorCards.lean) ties it to the program's text. -/
def laid_treeline_frame_llc {H : Type} : DataW H := .agg [.lit (.int .u8 66), .lit (.int .u8 66), .lit (.int .u8 3)]

/-- 'treelinelaw24.ScriptReads': WHATEVER THE INPUT: true; the input reads as it did. -/
def scriptReadsSpec : ChangeSpec := { name := "scriptReads", fn := fun _ => fun
  | [d] => { results := [.lit (.bool true)], args := [d] }
  | _ => none }
def scriptReadsRow : OpenClaim := { program := "ytiikllgppmmiaaadoor", sum := "0f8a9955e2c5ee47c71b86bd762d4ca658e9b7fc5b5ec1007400f6bdb0c1197d", func := "treeline/treelinelaw24.ScriptReads", spec := "scriptReads", named := ["treeline/frame.llc"], apart := false, laid := [("treeline/frame.llc", laid_treeline_frame_llc)] }
def ScriptReadsSaid : Prop := scriptReadsRow.holds Tryd.pinned (OpenSpec.ofChange scriptReadsSpec)

/-- ITS FALSE NEIGHBOUR: 'it returns false'. Refute it at one input. -/
def scriptReadsWrong : ChangeSpec := { name := "scriptReads", fn := fun _ => fun
  | [d] => { results := [.lit (.bool false)], args := [d] }
  | _ => none }
def ScriptReadsWrongFalsely : Prop := scriptReadsRow.holds Tryd.pinned (OpenSpec.ofChange scriptReadsWrong)

/-- 'treelinelaw24.ScriptMay': WHATEVER THE INPUT: true; the input reads as it did. -/
def scriptMaySpec : ChangeSpec := { name := "scriptMay", fn := fun _ => fun
  | [d] => { results := [.lit (.bool true)], args := [d] }
  | _ => none }
def scriptMayRow : OpenClaim := { program := "ytiikllgppmmiaaadoor", sum := "0f8a9955e2c5ee47c71b86bd762d4ca658e9b7fc5b5ec1007400f6bdb0c1197d", func := "treeline/treelinelaw24.ScriptMay", spec := "scriptMay", named := ["treeline/frame.llc"], apart := false, laid := [("treeline/frame.llc", laid_treeline_frame_llc)] }
def ScriptMaySaid : Prop := scriptMayRow.holds Tryd.pinned (OpenSpec.ofChange scriptMaySpec)

/-- ITS FALSE NEIGHBOUR: 'it returns false'. Refute it at one input. -/
def scriptMayWrong : ChangeSpec := { name := "scriptMay", fn := fun _ => fun
  | [d] => { results := [.lit (.bool false)], args := [d] }
  | _ => none }
def ScriptMayWrongFalsely : Prop := scriptMayRow.holds Tryd.pinned (OpenSpec.ofChange scriptMayWrong)

/-- 'treelinelaw24.ScriptEnds': WHATEVER THE INPUT: true; the input reads as it did. -/
def scriptEndsSpec : ChangeSpec := { name := "scriptEnds", fn := fun _ => fun
  | [d1, d2] => { results := [.lit (.bool true)], args := [d1, d2] }
  | _ => none }
def scriptEndsRow : OpenClaim := { program := "ytiikllgppmmiaaadoor", sum := "0f8a9955e2c5ee47c71b86bd762d4ca658e9b7fc5b5ec1007400f6bdb0c1197d", func := "treeline/treelinelaw24.ScriptEnds", spec := "scriptEnds", named := ["treeline/frame.llc"], apart := false, laid := [("treeline/frame.llc", laid_treeline_frame_llc)] }
def ScriptEndsSaid : Prop := scriptEndsRow.holds Tryd.pinned (OpenSpec.ofChange scriptEndsSpec)

/-- ITS FALSE NEIGHBOUR: 'it returns false'. Refute it at one input. -/
def scriptEndsWrong : ChangeSpec := { name := "scriptEnds", fn := fun _ => fun
  | [d1, d2] => { results := [.lit (.bool false)], args := [d1, d2] }
  | _ => none }
def ScriptEndsWrongFalsely : Prop := scriptEndsRow.holds Tryd.pinned (OpenSpec.ofChange scriptEndsWrong)

/-- 'treelinelaw24.ScriptFront': WHATEVER THE INPUT: true; the input reads as it did. -/
def scriptFrontSpec : ChangeSpec := { name := "scriptFront", fn := fun _ => fun
  | [d1, d2] => { results := [.lit (.bool true)], args := [d1, d2] }
  | _ => none }
def scriptFrontRow : OpenClaim := { program := "ytiikllgppmmiaaadoor", sum := "0f8a9955e2c5ee47c71b86bd762d4ca658e9b7fc5b5ec1007400f6bdb0c1197d", func := "treeline/treelinelaw24.ScriptFront", spec := "scriptFront", named := ["treeline/frame.llc"], apart := false, laid := [("treeline/frame.llc", laid_treeline_frame_llc)] }
def ScriptFrontSaid : Prop := scriptFrontRow.holds Tryd.pinned (OpenSpec.ofChange scriptFrontSpec)

/-- ITS FALSE NEIGHBOUR: 'it returns false'. Refute it at one input. -/
def scriptFrontWrong : ChangeSpec := { name := "scriptFront", fn := fun _ => fun
  | [d1, d2] => { results := [.lit (.bool false)], args := [d1, d2] }
  | _ => none }
def ScriptFrontWrongFalsely : Prop := scriptFrontRow.holds Tryd.pinned (OpenSpec.ofChange scriptFrontWrong)

/-- 'treelinelaw24.ScriptTells': WHATEVER THE INPUT: true; the input reads as it did. -/
def scriptTellsSpec : ChangeSpec := { name := "scriptTells", fn := fun _ => fun
  | [d1, d2] => { results := [.lit (.bool true)], args := [d1, d2] }
  | _ => none }
def scriptTellsRow : OpenClaim := { program := "ytiikllgppmmiaaadoor", sum := "0f8a9955e2c5ee47c71b86bd762d4ca658e9b7fc5b5ec1007400f6bdb0c1197d", func := "treeline/treelinelaw24.ScriptTells", spec := "scriptTells", named := ["treeline/frame.llc"], apart := false, laid := [("treeline/frame.llc", laid_treeline_frame_llc)] }
def ScriptTellsSaid : Prop := scriptTellsRow.holds Tryd.pinned (OpenSpec.ofChange scriptTellsSpec)

/-- ITS FALSE NEIGHBOUR: 'it returns false'. Refute it at one input. -/
def scriptTellsWrong : ChangeSpec := { name := "scriptTells", fn := fun _ => fun
  | [d1, d2] => { results := [.lit (.bool false)], args := [d1, d2] }
  | _ => none }
def ScriptTellsWrongFalsely : Prop := scriptTellsRow.holds Tryd.pinned (OpenSpec.ofChange scriptTellsWrong)

/- THE SECOND FORM. 'bulk': how many values and letters a reading holds, each counted each time it is reached (what is shared counts as often as it is met; a slice's spare places count too). A statement '..UptoSaid' is the law's where the arguments, and the package variables that the reading takes, are together of bulk at most 1048576: NARROWER than '..Said'. Prove '..Said' where nothing that the law and all that it calls make is longer than what came in: it says more and counts as full. Else prove '..UptoSaid'. A law counts once. -/
mutual
def uptoBulk {H : Type} : DataW H → Nat
  | .lit (.string bytes) => bytes.length + 1
  | .lit _ => 1
  | .nil => 1
  | .ptr d => uptoBulk d + 1
  | .slice elems spare => uptoBulkAll elems + uptoBulkAll spare + 1
  | .agg parts => uptoBulkAll parts + 1
  | .iface _ d => uptoBulk d + 1
  | .map entries => uptoBulkEntries entries + 1
  | .held _ => 1
def uptoBulkAll {H : Type} : List (DataW H) → Nat
  | [] => 0
  | d :: r => uptoBulk d + uptoBulkAll r
def uptoBulkEntries {H : Type} : List (Lit × DataW H) → Nat
  | [] => 0
  | x :: r => uptoBulkEntry x + uptoBulkEntries r
def uptoBulkEntry {H : Type} : Lit × DataW H → Nat
  | (.string bytes, d) => bytes.length + uptoBulk d + 1
  | (_, d) => uptoBulk d + 1
 end
def uptoSmall : (H : Type) → List (DataW H) → Bool := fun _ ds => decide (uptoBulkAll ds ≤ 1048576)
def OpenSpec.upto (s : _root_.Go.ChangeSpec) : _root_.Go.OpenSpec := { _root_.Go.OpenSpec.ofChange s with cond := some uptoSmall }

/-- 'treelinelaw24.ScriptReads', WHERE WHAT IT READS IS OF BULK AT MOST 1048576: true; the input reads as it did. -/
def scriptReadsUptoRow : OpenClaim := { program := "ytiikllgppmmiaaadoor", sum := "0f8a9955e2c5ee47c71b86bd762d4ca658e9b7fc5b5ec1007400f6bdb0c1197d", func := "treeline/treelinelaw24.ScriptReads", spec := "scriptReads", named := ["treeline/frame.llc"], apart := false, laid := [("treeline/frame.llc", laid_treeline_frame_llc)], narrowed := true }
def ScriptReadsUptoSaid : Prop := scriptReadsUptoRow.holds Tryd.pinned (OpenSpec.upto scriptReadsSpec)

/-- 'treelinelaw24.ScriptMay', WHERE WHAT IT READS IS OF BULK AT MOST 1048576: true; the input reads as it did. -/
def scriptMayUptoRow : OpenClaim := { program := "ytiikllgppmmiaaadoor", sum := "0f8a9955e2c5ee47c71b86bd762d4ca658e9b7fc5b5ec1007400f6bdb0c1197d", func := "treeline/treelinelaw24.ScriptMay", spec := "scriptMay", named := ["treeline/frame.llc"], apart := false, laid := [("treeline/frame.llc", laid_treeline_frame_llc)], narrowed := true }
def ScriptMayUptoSaid : Prop := scriptMayUptoRow.holds Tryd.pinned (OpenSpec.upto scriptMaySpec)

/-- 'treelinelaw24.ScriptEnds', WHERE WHAT IT READS IS OF BULK AT MOST 1048576: true; the input reads as it did. -/
def scriptEndsUptoRow : OpenClaim := { program := "ytiikllgppmmiaaadoor", sum := "0f8a9955e2c5ee47c71b86bd762d4ca658e9b7fc5b5ec1007400f6bdb0c1197d", func := "treeline/treelinelaw24.ScriptEnds", spec := "scriptEnds", named := ["treeline/frame.llc"], apart := false, laid := [("treeline/frame.llc", laid_treeline_frame_llc)], narrowed := true }
def ScriptEndsUptoSaid : Prop := scriptEndsUptoRow.holds Tryd.pinned (OpenSpec.upto scriptEndsSpec)

/-- 'treelinelaw24.ScriptFront', WHERE WHAT IT READS IS OF BULK AT MOST 1048576: true; the input reads as it did. -/
def scriptFrontUptoRow : OpenClaim := { program := "ytiikllgppmmiaaadoor", sum := "0f8a9955e2c5ee47c71b86bd762d4ca658e9b7fc5b5ec1007400f6bdb0c1197d", func := "treeline/treelinelaw24.ScriptFront", spec := "scriptFront", named := ["treeline/frame.llc"], apart := false, laid := [("treeline/frame.llc", laid_treeline_frame_llc)], narrowed := true }
def ScriptFrontUptoSaid : Prop := scriptFrontUptoRow.holds Tryd.pinned (OpenSpec.upto scriptFrontSpec)

/-- 'treelinelaw24.ScriptTells', WHERE WHAT IT READS IS OF BULK AT MOST 1048576: true; the input reads as it did. -/
def scriptTellsUptoRow : OpenClaim := { program := "ytiikllgppmmiaaadoor", sum := "0f8a9955e2c5ee47c71b86bd762d4ca658e9b7fc5b5ec1007400f6bdb0c1197d", func := "treeline/treelinelaw24.ScriptTells", spec := "scriptTells", named := ["treeline/frame.llc"], apart := false, laid := [("treeline/frame.llc", laid_treeline_frame_llc)], narrowed := true }
def ScriptTellsUptoSaid : Prop := scriptTellsUptoRow.holds Tryd.pinned (OpenSpec.upto scriptTellsSpec)

end Rows
end Go.Proofs.YtiikllgppmmiaaaDoor
