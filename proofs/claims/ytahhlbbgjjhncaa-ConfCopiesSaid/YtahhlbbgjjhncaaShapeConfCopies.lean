/- What the arguments of the law ConfCopies are: numbers in range. -/
import Derived.Test.YtahhlbbgjjhncaaPConfCopiesx0
import Derived.Test.YtahhlbbgjjhncaaOpen
namespace Go.Proofs.Ytahhlbbgjjhncaa.confCopies
open Go.RowKit Go.ChangeShapes Go.WideShapes Go.Proofs.YtahhlbbgjjhncaaW.PrintWords Go.Proofs.Ytahhlbbgjjhncaa.Open Go.Proofs.Ytahhlbbgjjhncaa.PConfCopies
set_option linter.unusedVariables false
def wf40 (x : S40) : Prop := (Lit.int .u8 x.f0).wf = true ∧ (Lit.int .u32 x.f1).wf = true ∧ True
set_option maxRecDepth 100000 in
theorem opens40 (w : World) : Opens Try.prog w 40 k40 wf40 := by
  intro H enc base spare held fuel cs x h
  obtain ⟨hl, n, hg⟩ := fields_of Try.underlying40 h
  have hc : Try.prog.cellsOf 40 = 3 := by kernel_rfl
  rw [hc] at hl
  obtain ⟨y0, g0⟩ := hg 0 _ rfl
  have h0 : DataW.trod enc Try.prog w base spare held n 5 ((cs.drop 0).take (Try.prog.cellsOf 5)) = some y0 := g0
  rw [show Try.prog.cellsOf 5 = 1 from by kernel_rfl] at h0
  clear g0
  obtain ⟨y1, g1⟩ := hg 1 _ rfl
  have h1 : DataW.trod enc Try.prog w base spare held n 38 ((cs.drop 1).take (Try.prog.cellsOf 38)) = some y1 := g1
  rw [show Try.prog.cellsOf 38 = 1 from by kernel_rfl] at h1
  clear g1
  obtain ⟨y2, g2⟩ := hg 2 _ rfl
  have h2 : DataW.trod enc Try.prog w base spare held n 4 ((cs.drop 2).take (Try.prog.cellsOf 4)) = some y2 := g2
  rw [show Try.prog.cellsOf 4 = 1 from by kernel_rfl] at h2
  clear g2
  obtain ⟨a, hK, hw⟩ := at_cons 0 1 (opens_int Try.underlying5) h0 (at_cons 1 1 (opens_int Try.underlying38) h1 (at_last 2 1 (opens_bool Try.underlying4) h2 hl))
  exact ⟨⟨a.1, a.2.1, a.2.2⟩, hK, hw⟩
def wf27 (x : (Int × Int × Int × Int × Int × Int × Int × (List S40))) : Prop := (Lit.int .u64 x.1).wf = true ∧ (Lit.int .u16 x.2.1).wf = true ∧ (Lit.int .i64 x.2.2.1).wf = true ∧ (Lit.int .i64 x.2.2.2.1).wf = true ∧ (Lit.int .i64 x.2.2.2.2.1).wf = true ∧ (Lit.int .i64 x.2.2.2.2.2.1).wf = true ∧ (Lit.int .i64 x.2.2.2.2.2.2.1).wf = true ∧ (∀ y ∈ x.2.2.2.2.2.2.2, wf40 y)
def kk27 : Kd (Int × Int × Int × Int × Int × Int × Int × (List S40)) := (Kd.pair (Kd.int .u64) (Kd.pair (Kd.int .u16) (Kd.pair (Kd.int .i64) (Kd.pair (Kd.int .i64) (Kd.pair (Kd.int .i64) (Kd.pair (Kd.int .i64) (Kd.pair (Kd.int .i64) (Kd.slice 40 (k40)))))))))
set_option maxRecDepth 100000 in
theorem opens27 (w : World) : Opens Try.prog w 27 kk27 wf27 := by
  intro H enc base spare held fuel cs x h
  obtain ⟨hl, n, hg⟩ := fields_of Try.underlying27 h
  have hc : Try.prog.cellsOf 27 = 8 := by kernel_rfl
  rw [hc] at hl
  obtain ⟨y0, g0⟩ := hg 0 _ rfl
  have h0 : DataW.trod enc Try.prog w base spare held n 23 ((cs.drop 0).take (Try.prog.cellsOf 23)) = some y0 := g0
  rw [show Try.prog.cellsOf 23 = 1 from by kernel_rfl] at h0
  clear g0
  obtain ⟨y1, g1⟩ := hg 1 _ rfl
  have h1 : DataW.trod enc Try.prog w base spare held n 24 ((cs.drop 1).take (Try.prog.cellsOf 24)) = some y1 := g1
  rw [show Try.prog.cellsOf 24 = 1 from by kernel_rfl] at h1
  clear g1
  obtain ⟨y2, g2⟩ := hg 2 _ rfl
  have h2 : DataW.trod enc Try.prog w base spare held n 3 ((cs.drop 2).take (Try.prog.cellsOf 3)) = some y2 := g2
  rw [show Try.prog.cellsOf 3 = 1 from by kernel_rfl] at h2
  clear g2
  obtain ⟨y3, g3⟩ := hg 3 _ rfl
  have h3 : DataW.trod enc Try.prog w base spare held n 3 ((cs.drop 3).take (Try.prog.cellsOf 3)) = some y3 := g3
  rw [show Try.prog.cellsOf 3 = 1 from by kernel_rfl] at h3
  clear g3
  obtain ⟨y4, g4⟩ := hg 4 _ rfl
  have h4 : DataW.trod enc Try.prog w base spare held n 3 ((cs.drop 4).take (Try.prog.cellsOf 3)) = some y4 := g4
  rw [show Try.prog.cellsOf 3 = 1 from by kernel_rfl] at h4
  clear g4
  obtain ⟨y5, g5⟩ := hg 5 _ rfl
  have h5 : DataW.trod enc Try.prog w base spare held n 3 ((cs.drop 5).take (Try.prog.cellsOf 3)) = some y5 := g5
  rw [show Try.prog.cellsOf 3 = 1 from by kernel_rfl] at h5
  clear g5
  obtain ⟨y6, g6⟩ := hg 6 _ rfl
  have h6 : DataW.trod enc Try.prog w base spare held n 3 ((cs.drop 6).take (Try.prog.cellsOf 3)) = some y6 := g6
  rw [show Try.prog.cellsOf 3 = 1 from by kernel_rfl] at h6
  clear g6
  obtain ⟨y7, g7⟩ := hg 7 _ rfl
  have h7 : DataW.trod enc Try.prog w base spare held n 25 ((cs.drop 7).take (Try.prog.cellsOf 25)) = some y7 := g7
  rw [show Try.prog.cellsOf 25 = 1 from by kernel_rfl] at h7
  clear g7
  obtain ⟨a, hK, hw⟩ := at_cons 0 1 (opens_int Try.underlying23) h0 (at_cons 1 1 (opens_int Try.underlying24) h1 (at_cons 2 1 (opens_int Try.underlying3) h2 (at_cons 3 1 (opens_int Try.underlying3) h3 (at_cons 4 1 (opens_int Try.underlying3) h4 (at_cons 5 1 (opens_int Try.underlying3) h5 (at_cons 6 1 (opens_int Try.underlying3) h6 (at_last 7 1 (opens_slice Try.underlying25 (by kernel_rfl) (opens40 w)) h7 hl)))))))
  exact ⟨a, hK, hw⟩
end Go.Proofs.Ytahhlbbgjjhncaa.confCopies
