/- What the arguments of the law TopoRight are: numbers in range. -/
import Derived.Test.YtkgfpagfmdefgaaOTopoRightx0
import Derived.Test.YtkgfpagfmdefgaaOpen
namespace Go.Proofs.Ytkgfpagfmdefgaa.topoRight
open Go.RowKit Go.ChangeShapes Go.WideShapes Go.Proofs.YtkgfpagfmdefgaaW.PrintWords Go.Proofs.Ytkgfpagfmdefgaa.Open Go.Proofs.Ytkgfpagfmdefgaa.OTopoRight
set_option linter.unusedVariables false
def wf51 (x : S51) : Prop := (Lit.int .u8 x.f0).wf = true ∧ (Lit.int .u32 x.f1).wf = true ∧ True
set_option maxRecDepth 100000 in
theorem opens51 (w : World) : Opens Try.prog w 51 k51 wf51 := by
  intro H enc base spare held fuel cs x h
  obtain ⟨hl, n, hg⟩ := fields_of Try.underlying51 h
  have hc : Try.prog.cellsOf 51 = 3 := by kernel_rfl
  rw [hc] at hl
  obtain ⟨y0, g0⟩ := hg 0 _ rfl
  have h0 : DataW.trod enc Try.prog w base spare held n 5 ((cs.drop 0).take (Try.prog.cellsOf 5)) = some y0 := g0
  rw [show Try.prog.cellsOf 5 = 1 from by kernel_rfl] at h0
  clear g0
  obtain ⟨y1, g1⟩ := hg 1 _ rfl
  have h1 : DataW.trod enc Try.prog w base spare held n 49 ((cs.drop 1).take (Try.prog.cellsOf 49)) = some y1 := g1
  rw [show Try.prog.cellsOf 49 = 1 from by kernel_rfl] at h1
  clear g1
  obtain ⟨y2, g2⟩ := hg 2 _ rfl
  have h2 : DataW.trod enc Try.prog w base spare held n 4 ((cs.drop 2).take (Try.prog.cellsOf 4)) = some y2 := g2
  rw [show Try.prog.cellsOf 4 = 1 from by kernel_rfl] at h2
  clear g2
  obtain ⟨a, hK, hw⟩ := at_cons 0 1 (opens_int Try.underlying5) h0 (at_cons 1 1 (opens_int Try.underlying49) h1 (at_last 2 1 (opens_bool Try.underlying4) h2 hl))
  exact ⟨⟨a.1, a.2.1, a.2.2⟩, hK, hw⟩
def wf48 (x : S48) : Prop := (Lit.int .u64 x.f0).wf = true ∧ (Lit.int .u16 x.f1).wf = true ∧ (Lit.int .i64 x.f2).wf = true ∧ (Lit.int .i64 x.f3).wf = true ∧ (Lit.int .i64 x.f4).wf = true ∧ (Lit.int .i64 x.f5).wf = true ∧ (Lit.int .i64 x.f6).wf = true ∧ (∀ y ∈ x.f7, wf51 y)
set_option maxRecDepth 100000 in
theorem opens48 (w : World) : Opens Try.prog w 48 k48 wf48 := by
  intro H enc base spare held fuel cs x h
  obtain ⟨hl, n, hg⟩ := fields_of Try.underlying48 h
  have hc : Try.prog.cellsOf 48 = 8 := by kernel_rfl
  rw [hc] at hl
  obtain ⟨y0, g0⟩ := hg 0 _ rfl
  have h0 : DataW.trod enc Try.prog w base spare held n 44 ((cs.drop 0).take (Try.prog.cellsOf 44)) = some y0 := g0
  rw [show Try.prog.cellsOf 44 = 1 from by kernel_rfl] at h0
  clear g0
  obtain ⟨y1, g1⟩ := hg 1 _ rfl
  have h1 : DataW.trod enc Try.prog w base spare held n 45 ((cs.drop 1).take (Try.prog.cellsOf 45)) = some y1 := g1
  rw [show Try.prog.cellsOf 45 = 1 from by kernel_rfl] at h1
  clear g1
  obtain ⟨y2, g2⟩ := hg 2 _ rfl
  have h2 : DataW.trod enc Try.prog w base spare held n 3 ((cs.drop 2).take (Try.prog.cellsOf 3)) = some y2 := g2
  rw [show Try.prog.cellsOf 3 = 1 from by kernel_rfl] at h2
  clear g2
  obtain ⟨y3, g3⟩ := hg 3 _ rfl
  have h3 : DataW.trod enc Try.prog w base spare held n 3 ((cs.drop 3).take (Try.prog.cellsOf 3)) = some y3 := g3
  rw [show Try.prog.cellsOf 3 = 1 from by kernel_rfl] at h3
  clear g3
  obtain ⟨y4, g4⟩ := hg 4 _ rfl
  have h4 : DataW.trod enc Try.prog w base spare held n 3 ((cs.drop 4).take (Try.prog.cellsOf 3)) = some y4 := g4
  rw [show Try.prog.cellsOf 3 = 1 from by kernel_rfl] at h4
  clear g4
  obtain ⟨y5, g5⟩ := hg 5 _ rfl
  have h5 : DataW.trod enc Try.prog w base spare held n 3 ((cs.drop 5).take (Try.prog.cellsOf 3)) = some y5 := g5
  rw [show Try.prog.cellsOf 3 = 1 from by kernel_rfl] at h5
  clear g5
  obtain ⟨y6, g6⟩ := hg 6 _ rfl
  have h6 : DataW.trod enc Try.prog w base spare held n 3 ((cs.drop 6).take (Try.prog.cellsOf 3)) = some y6 := g6
  rw [show Try.prog.cellsOf 3 = 1 from by kernel_rfl] at h6
  clear g6
  obtain ⟨y7, g7⟩ := hg 7 _ rfl
  have h7 : DataW.trod enc Try.prog w base spare held n 46 ((cs.drop 7).take (Try.prog.cellsOf 46)) = some y7 := g7
  rw [show Try.prog.cellsOf 46 = 1 from by kernel_rfl] at h7
  clear g7
  obtain ⟨a, hK, hw⟩ := at_cons 0 1 (opens_int Try.underlying44) h0 (at_cons 1 1 (opens_int Try.underlying45) h1 (at_cons 2 1 (opens_int Try.underlying3) h2 (at_cons 3 1 (opens_int Try.underlying3) h3 (at_cons 4 1 (opens_int Try.underlying3) h4 (at_cons 5 1 (opens_int Try.underlying3) h5 (at_cons 6 1 (opens_int Try.underlying3) h6 (at_last 7 1 (opens_slice Try.underlying46 (by kernel_rfl) (opens51 w)) h7 hl)))))))
  exact ⟨⟨a.1, a.2.1, a.2.2.1, a.2.2.2.1, a.2.2.2.2.1, a.2.2.2.2.2.1, a.2.2.2.2.2.2.1, a.2.2.2.2.2.2.2⟩, hK, hw⟩
def wf59 (x : S59) : Prop := (Lit.int .u64 x.f0).wf = true ∧ (Lit.int .i64 x.f1).wf = true
set_option maxRecDepth 100000 in
theorem opens59 (w : World) : Opens Try.prog w 59 k59 wf59 := by
  intro H enc base spare held fuel cs x h
  obtain ⟨hl, n, hg⟩ := fields_of Try.underlying59 h
  have hc : Try.prog.cellsOf 59 = 2 := by kernel_rfl
  rw [hc] at hl
  obtain ⟨y0, g0⟩ := hg 0 _ rfl
  have h0 : DataW.trod enc Try.prog w base spare held n 44 ((cs.drop 0).take (Try.prog.cellsOf 44)) = some y0 := g0
  rw [show Try.prog.cellsOf 44 = 1 from by kernel_rfl] at h0
  clear g0
  obtain ⟨y1, g1⟩ := hg 1 _ rfl
  have h1 : DataW.trod enc Try.prog w base spare held n 3 ((cs.drop 1).take (Try.prog.cellsOf 3)) = some y1 := g1
  rw [show Try.prog.cellsOf 3 = 1 from by kernel_rfl] at h1
  clear g1
  obtain ⟨a, hK, hw⟩ := at_cons 0 1 (opens_int Try.underlying44) h0 (at_last 1 1 (opens_int Try.underlying3) h1 hl)
  exact ⟨⟨a.1, a.2⟩, hK, hw⟩
def wf26 (x : (Int × (List S48) × (List (List Int)) × (List S59))) : Prop := (Lit.int .i64 x.1).wf = true ∧ (∀ y ∈ x.2.1, wf48 y) ∧ (∀ y ∈ x.2.2.1, (∀ z ∈ y, (Lit.int .i64 z).wf = true)) ∧ (∀ y ∈ x.2.2.2, wf59 y)
def kk26 : Kd (Int × (List S48) × (List (List Int)) × (List S59)) := (Kd.pair (Kd.int .i64) (Kd.pair (Kd.slice 48 (k48)) (Kd.pair (Kd.slice 33 (Kd.slice 3 (Kd.int .i64))) (Kd.slice 59 (k59)))))
set_option maxRecDepth 100000 in
theorem opens26 (w : World) : Opens Try.prog w 26 kk26 wf26 := by
  intro H enc base spare held fuel cs x h
  obtain ⟨hl, n, hg⟩ := fields_of Try.underlying26 h
  have hc : Try.prog.cellsOf 26 = 4 := by kernel_rfl
  rw [hc] at hl
  obtain ⟨y0, g0⟩ := hg 0 _ rfl
  have h0 : DataW.trod enc Try.prog w base spare held n 3 ((cs.drop 0).take (Try.prog.cellsOf 3)) = some y0 := g0
  rw [show Try.prog.cellsOf 3 = 1 from by kernel_rfl] at h0
  clear g0
  obtain ⟨y1, g1⟩ := hg 1 _ rfl
  have h1 : DataW.trod enc Try.prog w base spare held n 22 ((cs.drop 1).take (Try.prog.cellsOf 22)) = some y1 := g1
  rw [show Try.prog.cellsOf 22 = 1 from by kernel_rfl] at h1
  clear g1
  obtain ⟨y2, g2⟩ := hg 2 _ rfl
  have h2 : DataW.trod enc Try.prog w base spare held n 23 ((cs.drop 2).take (Try.prog.cellsOf 23)) = some y2 := g2
  rw [show Try.prog.cellsOf 23 = 1 from by kernel_rfl] at h2
  clear g2
  obtain ⟨y3, g3⟩ := hg 3 _ rfl
  have h3 : DataW.trod enc Try.prog w base spare held n 24 ((cs.drop 3).take (Try.prog.cellsOf 24)) = some y3 := g3
  rw [show Try.prog.cellsOf 24 = 1 from by kernel_rfl] at h3
  clear g3
  obtain ⟨a, hK, hw⟩ := at_cons 0 1 (opens_int Try.underlying3) h0 (at_cons 1 1 (opens_slice Try.underlying22 (by kernel_rfl) (opens48 w)) h1 (at_cons 2 1 (opens_slice Try.underlying23 (by kernel_rfl) (opens_slice Try.underlying33 (by kernel_rfl) (opens_int Try.underlying3))) h2 (at_last 3 1 (opens_slice Try.underlying24 (by kernel_rfl) (opens59 w)) h3 hl)))
  exact ⟨a, hK, hw⟩
end Go.Proofs.Ytkgfpagfmdefgaa.topoRight
