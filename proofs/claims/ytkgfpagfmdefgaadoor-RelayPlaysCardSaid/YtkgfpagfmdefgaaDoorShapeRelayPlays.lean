/- What the arguments of the law RelayPlays are: numbers in range. -/
import Derived.Test.YtkgfpagfmdefgaaDoorPRelayPlaysx0
import Derived.Test.YtkgfpagfmdefgaaDoorOpen
namespace Go.Proofs.YtkgfpagfmdefgaaDoor.relayPlays
open Go.RowKit Go.ChangeShapes Go.WideShapes Go.Proofs.YtkgfpagfmdefgaaDoorW.PrintWords Go.Proofs.YtkgfpagfmdefgaaDoor.Open Go.Proofs.YtkgfpagfmdefgaaDoor.PRelayPlays
set_option linter.unusedVariables false
def wf27 (x : (Int × Int × Int × (List Int))) : Prop := (Lit.int .u64 x.1).wf = true ∧ (Lit.int .u64 x.2.1).wf = true ∧ (Lit.int .u16 x.2.2.1).wf = true ∧ (∀ y ∈ x.2.2.2, (Lit.int .u8 y).wf = true)
def kk27 : Kd (Int × Int × Int × (List Int)) := (Kd.pair (Kd.int .u64) (Kd.pair (Kd.int .u64) (Kd.pair (Kd.int .u16) (Kd.slice 5 (Kd.int .u8)))))
set_option maxRecDepth 100000 in
theorem opens27 (w : World) : Opens Tryd.prog w 27 kk27 wf27 := by
  intro H enc base spare held fuel cs x h
  obtain ⟨hl, n, hg⟩ := fields_of Tryd.underlying27 h
  have hc : Tryd.prog.cellsOf 27 = 4 := by kernel_rfl
  rw [hc] at hl
  obtain ⟨y0, g0⟩ := hg 0 _ rfl
  have h0 : DataW.trod enc Tryd.prog w base spare held n 23 ((cs.drop 0).take (Tryd.prog.cellsOf 23)) = some y0 := g0
  rw [show Tryd.prog.cellsOf 23 = 1 from by kernel_rfl] at h0
  clear g0
  obtain ⟨y1, g1⟩ := hg 1 _ rfl
  have h1 : DataW.trod enc Tryd.prog w base spare held n 23 ((cs.drop 1).take (Tryd.prog.cellsOf 23)) = some y1 := g1
  rw [show Tryd.prog.cellsOf 23 = 1 from by kernel_rfl] at h1
  clear g1
  obtain ⟨y2, g2⟩ := hg 2 _ rfl
  have h2 : DataW.trod enc Tryd.prog w base spare held n 24 ((cs.drop 2).take (Tryd.prog.cellsOf 24)) = some y2 := g2
  rw [show Tryd.prog.cellsOf 24 = 1 from by kernel_rfl] at h2
  clear g2
  obtain ⟨y3, g3⟩ := hg 3 _ rfl
  have h3 : DataW.trod enc Tryd.prog w base spare held n 25 ((cs.drop 3).take (Tryd.prog.cellsOf 25)) = some y3 := g3
  rw [show Tryd.prog.cellsOf 25 = 1 from by kernel_rfl] at h3
  clear g3
  obtain ⟨a, hK, hw⟩ := at_cons 0 1 (opens_int Tryd.underlying23) h0 (at_cons 1 1 (opens_int Tryd.underlying23) h1 (at_cons 2 1 (opens_int Tryd.underlying24) h2 (at_last 3 1 (opens_slice Tryd.underlying25 (by kernel_rfl) (opens_int Tryd.underlying5)) h3 hl)))
  exact ⟨a, hK, hw⟩
end Go.Proofs.YtkgfpagfmdefgaaDoor.relayPlays
