/- What the arguments of the law BpduBack are: numbers in range. -/
import Derived.Test.YtdmlpcbmmdddbaaPBpduBackx0
import Derived.Test.YtdmlpcbmmdddbaaOpen
namespace Go.Proofs.Ytdmlpcbmmdddbaa.bpduBack
open Go.RowKit Go.ChangeShapes Go.WideShapes Go.Proofs.YtdmlpcbmmdddbaaW.PrintWords Go.Proofs.Ytdmlpcbmmdddbaa.Open Go.Proofs.Ytdmlpcbmmdddbaa.PBpduBack
set_option linter.unusedVariables false
def wf48 (x : (Bool × Bool × Bool × Int × Int × Int × Int × Int × Int × Int × Int)) : Prop := True ∧ True ∧ True ∧ (Lit.int .u64 x.2.2.2.1).wf = true ∧ (Lit.int .u32 x.2.2.2.2.1).wf = true ∧ (Lit.int .u64 x.2.2.2.2.2.1).wf = true ∧ (Lit.int .u16 x.2.2.2.2.2.2.1).wf = true ∧ (Lit.int .u16 x.2.2.2.2.2.2.2.1).wf = true ∧ (Lit.int .u16 x.2.2.2.2.2.2.2.2.1).wf = true ∧ (Lit.int .u16 x.2.2.2.2.2.2.2.2.2.1).wf = true ∧ (Lit.int .u16 x.2.2.2.2.2.2.2.2.2.2).wf = true
def kk48 : Kd (Bool × Bool × Bool × Int × Int × Int × Int × Int × Int × Int × Int) := (Kd.pair (Kd.bool) (Kd.pair (Kd.bool) (Kd.pair (Kd.bool) (Kd.pair (Kd.int .u64) (Kd.pair (Kd.int .u32) (Kd.pair (Kd.int .u64) (Kd.pair (Kd.int .u16) (Kd.pair (Kd.int .u16) (Kd.pair (Kd.int .u16) (Kd.pair (Kd.int .u16) (Kd.int .u16)))))))))))
set_option maxRecDepth 100000 in
theorem opens48 (w : World) : Opens Try.prog w 48 kk48 wf48 := by
  intro H enc base spare held fuel cs x h
  obtain ⟨hl, n, hg⟩ := fields_of Try.underlying48 h
  have hc : Try.prog.cellsOf 48 = 11 := by kernel_rfl
  rw [hc] at hl
  obtain ⟨y0, g0⟩ := hg 0 _ rfl
  have h0 : DataW.trod enc Try.prog w base spare held n 4 ((cs.drop 0).take (Try.prog.cellsOf 4)) = some y0 := g0
  rw [show Try.prog.cellsOf 4 = 1 from by kernel_rfl] at h0
  clear g0
  obtain ⟨y1, g1⟩ := hg 1 _ rfl
  have h1 : DataW.trod enc Try.prog w base spare held n 4 ((cs.drop 1).take (Try.prog.cellsOf 4)) = some y1 := g1
  rw [show Try.prog.cellsOf 4 = 1 from by kernel_rfl] at h1
  clear g1
  obtain ⟨y2, g2⟩ := hg 2 _ rfl
  have h2 : DataW.trod enc Try.prog w base spare held n 4 ((cs.drop 2).take (Try.prog.cellsOf 4)) = some y2 := g2
  rw [show Try.prog.cellsOf 4 = 1 from by kernel_rfl] at h2
  clear g2
  obtain ⟨y3, g3⟩ := hg 3 _ rfl
  have h3 : DataW.trod enc Try.prog w base spare held n 44 ((cs.drop 3).take (Try.prog.cellsOf 44)) = some y3 := g3
  rw [show Try.prog.cellsOf 44 = 1 from by kernel_rfl] at h3
  clear g3
  obtain ⟨y4, g4⟩ := hg 4 _ rfl
  have h4 : DataW.trod enc Try.prog w base spare held n 45 ((cs.drop 4).take (Try.prog.cellsOf 45)) = some y4 := g4
  rw [show Try.prog.cellsOf 45 = 1 from by kernel_rfl] at h4
  clear g4
  obtain ⟨y5, g5⟩ := hg 5 _ rfl
  have h5 : DataW.trod enc Try.prog w base spare held n 44 ((cs.drop 5).take (Try.prog.cellsOf 44)) = some y5 := g5
  rw [show Try.prog.cellsOf 44 = 1 from by kernel_rfl] at h5
  clear g5
  obtain ⟨y6, g6⟩ := hg 6 _ rfl
  have h6 : DataW.trod enc Try.prog w base spare held n 46 ((cs.drop 6).take (Try.prog.cellsOf 46)) = some y6 := g6
  rw [show Try.prog.cellsOf 46 = 1 from by kernel_rfl] at h6
  clear g6
  obtain ⟨y7, g7⟩ := hg 7 _ rfl
  have h7 : DataW.trod enc Try.prog w base spare held n 24 ((cs.drop 7).take (Try.prog.cellsOf 24)) = some y7 := g7
  rw [show Try.prog.cellsOf 24 = 1 from by kernel_rfl] at h7
  clear g7
  obtain ⟨y8, g8⟩ := hg 8 _ rfl
  have h8 : DataW.trod enc Try.prog w base spare held n 24 ((cs.drop 8).take (Try.prog.cellsOf 24)) = some y8 := g8
  rw [show Try.prog.cellsOf 24 = 1 from by kernel_rfl] at h8
  clear g8
  obtain ⟨y9, g9⟩ := hg 9 _ rfl
  have h9 : DataW.trod enc Try.prog w base spare held n 24 ((cs.drop 9).take (Try.prog.cellsOf 24)) = some y9 := g9
  rw [show Try.prog.cellsOf 24 = 1 from by kernel_rfl] at h9
  clear g9
  obtain ⟨y10, g10⟩ := hg 10 _ rfl
  have h10 : DataW.trod enc Try.prog w base spare held n 24 ((cs.drop 10).take (Try.prog.cellsOf 24)) = some y10 := g10
  rw [show Try.prog.cellsOf 24 = 1 from by kernel_rfl] at h10
  clear g10
  obtain ⟨a, hK, hw⟩ := at_cons 0 1 (opens_bool Try.underlying4) h0 (at_cons 1 1 (opens_bool Try.underlying4) h1 (at_cons 2 1 (opens_bool Try.underlying4) h2 (at_cons 3 1 (opens_int Try.underlying44) h3 (at_cons 4 1 (opens_int Try.underlying45) h4 (at_cons 5 1 (opens_int Try.underlying44) h5 (at_cons 6 1 (opens_int Try.underlying46) h6 (at_cons 7 1 (opens_int Try.underlying24) h7 (at_cons 8 1 (opens_int Try.underlying24) h8 (at_cons 9 1 (opens_int Try.underlying24) h9 (at_last 10 1 (opens_int Try.underlying24) h10 hl))))))))))
  exact ⟨a, hK, hw⟩
end Go.Proofs.Ytdmlpcbmmdddbaa.bpduBack
