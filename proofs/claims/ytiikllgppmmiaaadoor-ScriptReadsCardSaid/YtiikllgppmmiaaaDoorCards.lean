/-
  DERIVED. GIVEN WITH THE SEED: THE CARDS: each row of YtiikllgppmmiaaaDoorRows.lean that lists a variable, with what it lists TIED to the program's text (the seventh form; the later family's looks); each row that meets fmt, with fmt's text TOLD by the authors' own Lean function (tested against real Go, not proved from fmt's source: count such statements apart). THE CARD IS WHAT COUNTS. Prove the row's statement (the work); the ties are given (YtiikllgppmmiaaaDoorTie.lean); close each card by the builder's one call (the guide's Derived/Test/ToyasCard.lean, 'card_holds'). Laid BY PROGRAM, IN A SANDBOX (cutbox-door.mjs). By AI agents, Wed Nov 11 2026. No macro, syntax, notation, axiom, sorry.
-/
import Derived.Test.YtiikllgppmmiaaaDoorRows
import GoSem.ClaimSeven
namespace Go.Proofs.YtiikllgppmmiaaaDoor
namespace Rows

/-- THE TIED CARD OF 'treelinelaw24.ScriptReads'. -/
def scriptReadsCard : Claim7 := { stood := { row := scriptReadsRow, standIns := [], harness := (true, "9bbda62ded07f5d0c6a3b55085a18f5a2ae71336a7bd81d26a9d13717f8e6727"), looks := false }, kinds := [], alts := [], laidByText := true, laidKinds := [.widerDeep], laidTests := true, laidLooks := .later }
def ScriptReadsCardSaid : Prop := Claim7.holds Tryd.pinned (.plain (OpenSpec.ofChange scriptReadsSpec)) scriptReadsCard

/-- THE TIED CARD OF 'treelinelaw24.ScriptMay'. -/
def scriptMayCard : Claim7 := { stood := { row := scriptMayRow, standIns := [], harness := (true, "9bbda62ded07f5d0c6a3b55085a18f5a2ae71336a7bd81d26a9d13717f8e6727"), looks := false }, kinds := [], alts := [], laidByText := true, laidKinds := [.widerDeep], laidTests := true, laidLooks := .later }
def ScriptMayCardSaid : Prop := Claim7.holds Tryd.pinned (.plain (OpenSpec.ofChange scriptMaySpec)) scriptMayCard

/-- THE TIED CARD OF 'treelinelaw24.ScriptEnds'. -/
def scriptEndsCard : Claim7 := { stood := { row := scriptEndsRow, standIns := [], harness := (true, "9bbda62ded07f5d0c6a3b55085a18f5a2ae71336a7bd81d26a9d13717f8e6727"), looks := false }, kinds := [], alts := [], laidByText := true, laidKinds := [.widerDeep], laidTests := true, laidLooks := .later }
def ScriptEndsCardSaid : Prop := Claim7.holds Tryd.pinned (.plain (OpenSpec.ofChange scriptEndsSpec)) scriptEndsCard

/-- THE TIED CARD OF 'treelinelaw24.ScriptFront'. -/
def scriptFrontCard : Claim7 := { stood := { row := scriptFrontRow, standIns := [], harness := (true, "9bbda62ded07f5d0c6a3b55085a18f5a2ae71336a7bd81d26a9d13717f8e6727"), looks := false }, kinds := [], alts := [], laidByText := true, laidKinds := [.widerDeep], laidTests := true, laidLooks := .later }
def ScriptFrontCardSaid : Prop := Claim7.holds Tryd.pinned (.plain (OpenSpec.ofChange scriptFrontSpec)) scriptFrontCard

/-- THE TIED CARD OF 'treelinelaw24.ScriptTells'. -/
def scriptTellsCard : Claim7 := { stood := { row := scriptTellsRow, standIns := [], harness := (true, "9bbda62ded07f5d0c6a3b55085a18f5a2ae71336a7bd81d26a9d13717f8e6727"), looks := false }, kinds := [], alts := [], laidByText := true, laidKinds := [.widerDeep], laidTests := true, laidLooks := .later }
def ScriptTellsCardSaid : Prop := Claim7.holds Tryd.pinned (.plain (OpenSpec.ofChange scriptTellsSpec)) scriptTellsCard

/-- THE SECOND FORM's CARD OF 'treelinelaw24.ScriptReads'. -/
def scriptReadsUptoCard : Claim7 := { stood := { row := scriptReadsUptoRow, standIns := [], harness := (true, "9bbda62ded07f5d0c6a3b55085a18f5a2ae71336a7bd81d26a9d13717f8e6727"), looks := false }, kinds := [], alts := [], laidByText := true, laidKinds := [.widerDeep], laidTests := true, laidLooks := .later }
def ScriptReadsUptoCardSaid : Prop := Claim7.holds Tryd.pinned (.plain (OpenSpec.upto scriptReadsSpec)) scriptReadsUptoCard

/-- THE SECOND FORM's CARD OF 'treelinelaw24.ScriptMay'. -/
def scriptMayUptoCard : Claim7 := { stood := { row := scriptMayUptoRow, standIns := [], harness := (true, "9bbda62ded07f5d0c6a3b55085a18f5a2ae71336a7bd81d26a9d13717f8e6727"), looks := false }, kinds := [], alts := [], laidByText := true, laidKinds := [.widerDeep], laidTests := true, laidLooks := .later }
def ScriptMayUptoCardSaid : Prop := Claim7.holds Tryd.pinned (.plain (OpenSpec.upto scriptMaySpec)) scriptMayUptoCard

/-- THE SECOND FORM's CARD OF 'treelinelaw24.ScriptEnds'. -/
def scriptEndsUptoCard : Claim7 := { stood := { row := scriptEndsUptoRow, standIns := [], harness := (true, "9bbda62ded07f5d0c6a3b55085a18f5a2ae71336a7bd81d26a9d13717f8e6727"), looks := false }, kinds := [], alts := [], laidByText := true, laidKinds := [.widerDeep], laidTests := true, laidLooks := .later }
def ScriptEndsUptoCardSaid : Prop := Claim7.holds Tryd.pinned (.plain (OpenSpec.upto scriptEndsSpec)) scriptEndsUptoCard

/-- THE SECOND FORM's CARD OF 'treelinelaw24.ScriptFront'. -/
def scriptFrontUptoCard : Claim7 := { stood := { row := scriptFrontUptoRow, standIns := [], harness := (true, "9bbda62ded07f5d0c6a3b55085a18f5a2ae71336a7bd81d26a9d13717f8e6727"), looks := false }, kinds := [], alts := [], laidByText := true, laidKinds := [.widerDeep], laidTests := true, laidLooks := .later }
def ScriptFrontUptoCardSaid : Prop := Claim7.holds Tryd.pinned (.plain (OpenSpec.upto scriptFrontSpec)) scriptFrontUptoCard

/-- THE SECOND FORM's CARD OF 'treelinelaw24.ScriptTells'. -/
def scriptTellsUptoCard : Claim7 := { stood := { row := scriptTellsUptoRow, standIns := [], harness := (true, "9bbda62ded07f5d0c6a3b55085a18f5a2ae71336a7bd81d26a9d13717f8e6727"), looks := false }, kinds := [], alts := [], laidByText := true, laidKinds := [.widerDeep], laidTests := true, laidLooks := .later }
def ScriptTellsUptoCardSaid : Prop := Claim7.holds Tryd.pinned (.plain (OpenSpec.upto scriptTellsSpec)) scriptTellsUptoCard
end Rows
end Go.Proofs.YtiikllgppmmiaaaDoor
