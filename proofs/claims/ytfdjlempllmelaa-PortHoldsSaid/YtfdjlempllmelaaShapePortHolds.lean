/- What the arguments of the law PortHolds are: numbers in range. -/
import Derived.Test.YtfdjlempllmelaaPPortHoldsx0
import Derived.Test.YtfdjlempllmelaaOpen
namespace Go.Proofs.Ytfdjlempllmelaa.portHolds
open Go.RowKit Go.ChangeShapes Go.WideShapes Go.Proofs.YtfdjlempllmelaaW.PrintWords Go.Proofs.Ytfdjlempllmelaa.Open Go.Proofs.Ytfdjlempllmelaa.PPortHolds
set_option linter.unusedVariables false
def wf56 (x : (Int × Int × Int × Int)) : Prop := (Lit.int .u64 x.1).wf = true ∧ (Lit.int .u32 x.2.1).wf = true ∧ (Lit.int .u64 x.2.2.1).wf = true ∧ (Lit.int .u16 x.2.2.2).wf = true
def kk56 : Kd (Int × Int × Int × Int) := (Kd.pair (Kd.int .u64) (Kd.pair (Kd.int .u32) (Kd.pair (Kd.int .u64) (Kd.int .u16))))
set_option maxRecDepth 100000 in
theorem opens56 (w : World) : Opens Try.prog w 56 kk56 wf56 := by
  intro H enc base spare held fuel cs x h
  obtain ⟨hl, n, hg⟩ := fields_of Try.underlying56 h
  have hc : Try.prog.cellsOf 56 = 4 := by kernel_rfl
  rw [hc] at hl
  obtain ⟨y0, g0⟩ := hg 0 _ rfl
  have h0 : DataW.trod enc Try.prog w base spare held n 53 ((cs.drop 0).take (Try.prog.cellsOf 53)) = some y0 := g0
  rw [show Try.prog.cellsOf 53 = 1 from by kernel_rfl] at h0
  clear g0
  obtain ⟨y1, g1⟩ := hg 1 _ rfl
  have h1 : DataW.trod enc Try.prog w base spare held n 31 ((cs.drop 1).take (Try.prog.cellsOf 31)) = some y1 := g1
  rw [show Try.prog.cellsOf 31 = 1 from by kernel_rfl] at h1
  clear g1
  obtain ⟨y2, g2⟩ := hg 2 _ rfl
  have h2 : DataW.trod enc Try.prog w base spare held n 53 ((cs.drop 2).take (Try.prog.cellsOf 53)) = some y2 := g2
  rw [show Try.prog.cellsOf 53 = 1 from by kernel_rfl] at h2
  clear g2
  obtain ⟨y3, g3⟩ := hg 3 _ rfl
  have h3 : DataW.trod enc Try.prog w base spare held n 54 ((cs.drop 3).take (Try.prog.cellsOf 54)) = some y3 := g3
  rw [show Try.prog.cellsOf 54 = 1 from by kernel_rfl] at h3
  clear g3
  obtain ⟨a, hK, hw⟩ := at_cons 0 1 (opens_int Try.underlying53) h0 (at_cons 1 1 (opens_int Try.underlying31) h1 (at_cons 2 1 (opens_int Try.underlying53) h2 (at_last 3 1 (opens_int Try.underlying54) h3 hl)))
  exact ⟨a, hK, hw⟩
def wf39 (x : S39) : Prop := True ∧ (Lit.int .i64 x.f1).wf = true
set_option maxRecDepth 100000 in
theorem opens39 (w : World) : Opens Try.prog w 39 k39 wf39 := by
  intro H enc base spare held fuel cs x h
  obtain ⟨hl, n, hg⟩ := fields_of Try.underlying39 h
  have hc : Try.prog.cellsOf 39 = 2 := by kernel_rfl
  rw [hc] at hl
  obtain ⟨y0, g0⟩ := hg 0 _ rfl
  have h0 : DataW.trod enc Try.prog w base spare held n 4 ((cs.drop 0).take (Try.prog.cellsOf 4)) = some y0 := g0
  rw [show Try.prog.cellsOf 4 = 1 from by kernel_rfl] at h0
  clear g0
  obtain ⟨y1, g1⟩ := hg 1 _ rfl
  have h1 : DataW.trod enc Try.prog w base spare held n 3 ((cs.drop 1).take (Try.prog.cellsOf 3)) = some y1 := g1
  rw [show Try.prog.cellsOf 3 = 1 from by kernel_rfl] at h1
  clear g1
  obtain ⟨a, hK, hw⟩ := at_cons 0 1 (opens_bool Try.underlying4) h0 (at_last 1 1 (opens_int Try.underlying3) h1 hl)
  exact ⟨⟨a.1, a.2⟩, hK, hw⟩
def wf58 (x : (Int × Int × Int × (Int × Int × Int × Int) × Bool × Bool × S39 × S39 × S39)) : Prop := (Lit.int .u16 x.1).wf = true ∧ (Lit.int .i64 x.2.1).wf = true ∧ (Lit.int .u32 x.2.2.1).wf = true ∧ wf56 x.2.2.2.1 ∧ True ∧ True ∧ wf39 x.2.2.2.2.2.2.1 ∧ wf39 x.2.2.2.2.2.2.2.1 ∧ wf39 x.2.2.2.2.2.2.2.2
def kk58 : Kd (Int × Int × Int × (Int × Int × Int × Int) × Bool × Bool × S39 × S39 × S39) := (Kd.pair (Kd.int .u16) (Kd.pair (Kd.int .i64) (Kd.pair (Kd.int .u32) (Kd.pair ((Kd.pair (Kd.int .u64) (Kd.pair (Kd.int .u32) (Kd.pair (Kd.int .u64) (Kd.int .u16))))) (Kd.pair (Kd.bool) (Kd.pair (Kd.bool) (Kd.pair (k39) (Kd.pair (k39) (k39)))))))))
set_option maxRecDepth 100000 in
theorem opens58 (w : World) : Opens Try.prog w 58 kk58 wf58 := by
  intro H enc base spare held fuel cs x h
  obtain ⟨hl, n, hg⟩ := fields_of Try.underlying58 h
  have hc : Try.prog.cellsOf 58 = 15 := by kernel_rfl
  rw [hc] at hl
  obtain ⟨y0, g0⟩ := hg 0 _ rfl
  have h0 : DataW.trod enc Try.prog w base spare held n 54 ((cs.drop 0).take (Try.prog.cellsOf 54)) = some y0 := g0
  rw [show Try.prog.cellsOf 54 = 1 from by kernel_rfl] at h0
  clear g0
  obtain ⟨y1, g1⟩ := hg 1 _ rfl
  have h1 : DataW.trod enc Try.prog w base spare held n 3 ((cs.drop 1).take (Try.prog.cellsOf 3)) = some y1 := g1
  rw [show Try.prog.cellsOf 3 = 1 from by kernel_rfl] at h1
  clear g1
  obtain ⟨y2, g2⟩ := hg 2 _ rfl
  have h2 : DataW.trod enc Try.prog w base spare held n 31 ((cs.drop 2).take (Try.prog.cellsOf 31)) = some y2 := g2
  rw [show Try.prog.cellsOf 31 = 1 from by kernel_rfl] at h2
  clear g2
  obtain ⟨y3, g3⟩ := hg 3 _ rfl
  have h3 : DataW.trod enc Try.prog w base spare held n 56 ((cs.drop 3).take (Try.prog.cellsOf 56)) = some y3 := g3
  rw [show Try.prog.cellsOf 56 = 4 from by kernel_rfl] at h3
  clear g3
  obtain ⟨y4, g4⟩ := hg 4 _ rfl
  have h4 : DataW.trod enc Try.prog w base spare held n 4 ((cs.drop 7).take (Try.prog.cellsOf 4)) = some y4 := g4
  rw [show Try.prog.cellsOf 4 = 1 from by kernel_rfl] at h4
  clear g4
  obtain ⟨y5, g5⟩ := hg 5 _ rfl
  have h5 : DataW.trod enc Try.prog w base spare held n 4 ((cs.drop 8).take (Try.prog.cellsOf 4)) = some y5 := g5
  rw [show Try.prog.cellsOf 4 = 1 from by kernel_rfl] at h5
  clear g5
  obtain ⟨y6, g6⟩ := hg 6 _ rfl
  have h6 : DataW.trod enc Try.prog w base spare held n 39 ((cs.drop 9).take (Try.prog.cellsOf 39)) = some y6 := g6
  rw [show Try.prog.cellsOf 39 = 2 from by kernel_rfl] at h6
  clear g6
  obtain ⟨y7, g7⟩ := hg 7 _ rfl
  have h7 : DataW.trod enc Try.prog w base spare held n 39 ((cs.drop 11).take (Try.prog.cellsOf 39)) = some y7 := g7
  rw [show Try.prog.cellsOf 39 = 2 from by kernel_rfl] at h7
  clear g7
  obtain ⟨y8, g8⟩ := hg 8 _ rfl
  have h8 : DataW.trod enc Try.prog w base spare held n 39 ((cs.drop 13).take (Try.prog.cellsOf 39)) = some y8 := g8
  rw [show Try.prog.cellsOf 39 = 2 from by kernel_rfl] at h8
  clear g8
  obtain ⟨a, hK, hw⟩ := at_cons 0 1 (opens_int Try.underlying54) h0 (at_cons 1 1 (opens_int Try.underlying3) h1 (at_cons 2 1 (opens_int Try.underlying31) h2 (at_cons 3 4 (opens56 w) h3 (at_cons 7 1 (opens_bool Try.underlying4) h4 (at_cons 8 1 (opens_bool Try.underlying4) h5 (at_cons 9 2 (opens39 w) h6 (at_cons 11 2 (opens39 w) h7 (at_last 13 2 (opens39 w) h8 hl))))))))
  exact ⟨a, hK, hw⟩
end Go.Proofs.Ytfdjlempllmelaa.portHolds
