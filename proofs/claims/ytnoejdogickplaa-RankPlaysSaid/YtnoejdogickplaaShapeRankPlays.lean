/- What the arguments of the law RankPlays are: numbers in range. -/
import Derived.Test.YtnoejdogickplaaPRankPlaysx0
import Derived.Test.YtnoejdogickplaaOpen
namespace Go.Proofs.Ytnoejdogickplaa.rankPlays
open Go.RowKit Go.ChangeShapes Go.WideShapes Go.Proofs.YtnoejdogickplaaW.PrintWords Go.Proofs.Ytnoejdogickplaa.Open Go.Proofs.Ytnoejdogickplaa.PRankPlays
set_option linter.unusedVariables false
def wf31 (x : (Int × Int × Int × Int)) : Prop := (Lit.int .u64 x.1).wf = true ∧ (Lit.int .u32 x.2.1).wf = true ∧ (Lit.int .u64 x.2.2.1).wf = true ∧ (Lit.int .u16 x.2.2.2).wf = true
def kk31 : Kd (Int × Int × Int × Int) := (Kd.pair (Kd.int .u64) (Kd.pair (Kd.int .u32) (Kd.pair (Kd.int .u64) (Kd.int .u16))))
set_option maxRecDepth 100000 in
theorem opens31 (w : World) : Opens Try.prog w 31 kk31 wf31 := by
  intro H enc base spare held fuel cs x h
  obtain ⟨hl, n, hg⟩ := fields_of Try.underlying31 h
  have hc : Try.prog.cellsOf 31 = 4 := by kernel_rfl
  rw [hc] at hl
  obtain ⟨y0, g0⟩ := hg 0 _ rfl
  have h0 : DataW.trod enc Try.prog w base spare held n 23 ((cs.drop 0).take (Try.prog.cellsOf 23)) = some y0 := g0
  rw [show Try.prog.cellsOf 23 = 1 from by kernel_rfl] at h0
  clear g0
  obtain ⟨y1, g1⟩ := hg 1 _ rfl
  have h1 : DataW.trod enc Try.prog w base spare held n 24 ((cs.drop 1).take (Try.prog.cellsOf 24)) = some y1 := g1
  rw [show Try.prog.cellsOf 24 = 1 from by kernel_rfl] at h1
  clear g1
  obtain ⟨y2, g2⟩ := hg 2 _ rfl
  have h2 : DataW.trod enc Try.prog w base spare held n 23 ((cs.drop 2).take (Try.prog.cellsOf 23)) = some y2 := g2
  rw [show Try.prog.cellsOf 23 = 1 from by kernel_rfl] at h2
  clear g2
  obtain ⟨y3, g3⟩ := hg 3 _ rfl
  have h3 : DataW.trod enc Try.prog w base spare held n 26 ((cs.drop 3).take (Try.prog.cellsOf 26)) = some y3 := g3
  rw [show Try.prog.cellsOf 26 = 1 from by kernel_rfl] at h3
  clear g3
  obtain ⟨a, hK, hw⟩ := at_cons 0 1 (opens_int Try.underlying23) h0 (at_cons 1 1 (opens_int Try.underlying24) h1 (at_cons 2 1 (opens_int Try.underlying23) h2 (at_last 3 1 (opens_int Try.underlying26) h3 hl)))
  exact ⟨a, hK, hw⟩
end Go.Proofs.Ytnoejdogickplaa.rankPlays
