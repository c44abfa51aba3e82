/- What Go functions that the law ScriptReads uses come to, and why: part 20. Made out of the kit's print by a program of this session (wip/tools/stub.py, splice.py), functions that it does not take told by hand. -/
import Derived.Test.YtiikllgppmmiaaaDoorOScriptReadsx13
namespace Go.Proofs.YtiikllgppmmiaaaDoor.OScriptReads
open Go.RowKit Go.Proofs.YtiikllgppmmiaaaDoorW.PrintWords Go.Proofs.YtiikllgppmmiaaaDoorW.PrintLast Go.Proofs.YtiikllgppmmiaaaDoorW.PrintMore
attribute [local go_sem] max2_int min2_int max_two min_two max_three min_three max_four min_four   -- for this text's walks alone
set_option linter.unusedVariables false
set_option linter.unusedSimpArgs false
theorem cfC_ {w : World} {a : Addr} {g : Nat} {v : Value} (h : w.cell? a = some v) (hg : w.heap.size ≤ g) : a.block ≠ g :=
  Nat.ne_of_lt (Nat.lt_of_lt_of_le (World.block_lt_of_cell? w _ h) hg)
private theorem setCell_drewN_ (w : World) (n : Nat) (p : Addr) (u : Value) : (w.drewN n).setCell p u = (w.setCell p u).drewN n := by
  unfold World.setCell World.drewN
  split <;> rfl

/-! ### treelineref24_SameTopo: function 11 -/
attribute [local go_sem high] eqA63 eqA66
theorem bfar8 {W : World} {g b j0 j1 j2 j3 j4 j5 j6 j7 : Nat} {t : TypeId} {cs : Array Value} {u0 u1 u2 u3 u4 u5 u6 u7 : Value} (h : W.heap[b]? = some (.cells cs t (0, 0))) (hn : b ≠ g) : ((((((((W.setCell ⟨g, j0, none⟩ u0).setCell ⟨g, j1, none⟩ u1).setCell ⟨g, j2, none⟩ u2).setCell ⟨g, j3, none⟩ u3).setCell ⟨g, j4, none⟩ u4).setCell ⟨g, j5, none⟩ u5).setCell ⟨g, j6, none⟩ u6).setCell ⟨g, j7, none⟩ u7).heap[b]? = some (.cells cs t (0, 0)) :=
  blk_far (blk_far (blk_far (blk_far (blk_far (blk_far (blk_far (blk_far (h) (p := ⟨g, _, none⟩) hn _) (p := ⟨g, _, none⟩) hn _) (p := ⟨g, _, none⟩) hn _) (p := ⟨g, _, none⟩) hn _) (p := ⟨g, _, none⟩) hn _) (p := ⟨g, _, none⟩) hn _) (p := ⟨g, _, none⟩) hn _) (p := ⟨g, _, none⟩) hn _
theorem bel8 {w W : World} {g j0 j1 j2 j3 j4 j5 j6 j7 : Nat} {u0 u1 u2 u3 u4 u5 u6 u7 : Value} (h : Below w.heap.size w W) (hg : w.heap.size ≤ g) : Below w.heap.size w ((((((((W.setCell ⟨g, j0, none⟩ u0).setCell ⟨g, j1, none⟩ u1).setCell ⟨g, j2, none⟩ u2).setCell ⟨g, j3, none⟩ u3).setCell ⟨g, j4, none⟩ u4).setCell ⟨g, j5, none⟩ u5).setCell ⟨g, j6, none⟩ u6).setCell ⟨g, j7, none⟩ u7) :=
  below_set (below_set (below_set (below_set (below_set (below_set (below_set (below_set (h) hg) hg) hg) hg) hg) hg) hg) hg
theorem far8 {W : World} {g j0 j1 j2 j3 j4 j5 j6 j7 : Nat} {a : Addr} {v u0 u1 u2 u3 u4 u5 u6 u7 : Value} (h : W.cell? a = some v) (hn : a.block ≠ g) : ((((((((W.setCell ⟨g, j0, none⟩ u0).setCell ⟨g, j1, none⟩ u1).setCell ⟨g, j2, none⟩ u2).setCell ⟨g, j3, none⟩ u3).setCell ⟨g, j4, none⟩ u4).setCell ⟨g, j5, none⟩ u5).setCell ⟨g, j6, none⟩ u6).setCell ⟨g, j7, none⟩ u7).cell? a = some v :=
  (cell_far (p := ⟨g, _, none⟩) hn _).trans ((cell_far (p := ⟨g, _, none⟩) hn _).trans ((cell_far (p := ⟨g, _, none⟩) hn _).trans ((cell_far (p := ⟨g, _, none⟩) hn _).trans ((cell_far (p := ⟨g, _, none⟩) hn _).trans ((cell_far (p := ⟨g, _, none⟩) hn _).trans ((cell_far (p := ⟨g, _, none⟩) hn _).trans ((cell_far (p := ⟨g, _, none⟩) hn _).trans (h))))))))
mutual
def treelineref24_SameTopo.j0 : Nat → Bool → Int → List (S51) → List (List Int) → List (S66) → Int → List (S51) → List (List Int) → List (S66) → Option (Bool)
  | 0, _, _, _, _, _, _, _, _, _ => none
  | k + 1, x41, x307000, x307001, x307002, x307003, x308000, x308001, x308002, x308003 => if x41 = true then (some false) else (treelineref24_SameTopo.l0 k 0 x307000 x307001 x307002 x307003 x308000 x308001 x308002 x308003)
def treelineref24_SameTopo.l0 : Nat → Int → Int → List (S51) → List (List Int) → List (S66) → Int → List (S51) → List (List Int) → List (S66) → Option (Bool)
  | 0, _, _, _, _, _, _, _, _, _ => none
  | k + 1, x5, x307000, x307001, x307002, x307003, x308000, x308001, x308002, x308003 => if x5 < (x307001.length : Int) then (if 0 ≤ x5 then (if x5 < (x308001.length : Int) then (if ((rd_T51 x307001 x5).f0) = ((rd_T51 x308001 x5).f0) then (if ((rd_T51 x307001 x5).f1) = ((rd_T51 x308001 x5).f1) then (if ((rd_T51 x307001 x5).f2) = ((rd_T51 x308001 x5).f2) then (if ((rd_T51 x307001 x5).f3) = ((rd_T51 x308001 x5).f3) then (if ((rd_T51 x307001 x5).f4) = ((rd_T51 x308001 x5).f4) then (if ((rd_T51 x307001 x5).f5) = ((rd_T51 x308001 x5).f5) then (if ((rd_T51 x307001 x5).f6) = ((rd_T51 x308001 x5).f6) then (if (((rd_T51 x307001 x5).f7).length : Int) = (((rd_T51 x308001 x5).f7).length : Int) then (if x5 < (x307002.length : Int) then (if x5 < (x308002.length : Int) then (treelineref24_SameTopo.j2 k x5 (((rd_L9 x307002 x5).length : Int) != ((rd_L9 x308002 x5).length : Int)) x307000 x307001 x307002 x307003 x308000 x308001 x308002 x308003 ((rd_T51 x307001 x5).f0) ((rd_T51 x307001 x5).f1) ((rd_T51 x307001 x5).f2) ((rd_T51 x307001 x5).f3) ((rd_T51 x307001 x5).f4) ((rd_T51 x307001 x5).f5) ((rd_T51 x307001 x5).f6) ((rd_T51 x307001 x5).f7) ((rd_T51 x308001 x5).f0) ((rd_T51 x308001 x5).f1) ((rd_T51 x308001 x5).f2) ((rd_T51 x308001 x5).f3) ((rd_T51 x308001 x5).f4) ((rd_T51 x308001 x5).f5) ((rd_T51 x308001 x5).f6) ((rd_T51 x308001 x5).f7)) else (none)) else (none)) else (treelineref24_SameTopo.j2 k x5 true x307000 x307001 x307002 x307003 x308000 x308001 x308002 x308003 ((rd_T51 x307001 x5).f0) ((rd_T51 x307001 x5).f1) ((rd_T51 x307001 x5).f2) ((rd_T51 x307001 x5).f3) ((rd_T51 x307001 x5).f4) ((rd_T51 x307001 x5).f5) ((rd_T51 x307001 x5).f6) ((rd_T51 x307001 x5).f7) ((rd_T51 x308001 x5).f0) ((rd_T51 x308001 x5).f1) ((rd_T51 x308001 x5).f2) ((rd_T51 x308001 x5).f3) ((rd_T51 x308001 x5).f4) ((rd_T51 x308001 x5).f5) ((rd_T51 x308001 x5).f6) ((rd_T51 x308001 x5).f7))) else (treelineref24_SameTopo.j2 k x5 true x307000 x307001 x307002 x307003 x308000 x308001 x308002 x308003 ((rd_T51 x307001 x5).f0) ((rd_T51 x307001 x5).f1) ((rd_T51 x307001 x5).f2) ((rd_T51 x307001 x5).f3) ((rd_T51 x307001 x5).f4) ((rd_T51 x307001 x5).f5) ((rd_T51 x307001 x5).f6) ((rd_T51 x307001 x5).f7) ((rd_T51 x308001 x5).f0) ((rd_T51 x308001 x5).f1) ((rd_T51 x308001 x5).f2) ((rd_T51 x308001 x5).f3) ((rd_T51 x308001 x5).f4) ((rd_T51 x308001 x5).f5) ((rd_T51 x308001 x5).f6) ((rd_T51 x308001 x5).f7))) else (treelineref24_SameTopo.j2 k x5 true x307000 x307001 x307002 x307003 x308000 x308001 x308002 x308003 ((rd_T51 x307001 x5).f0) ((rd_T51 x307001 x5).f1) ((rd_T51 x307001 x5).f2) ((rd_T51 x307001 x5).f3) ((rd_T51 x307001 x5).f4) ((rd_T51 x307001 x5).f5) ((rd_T51 x307001 x5).f6) ((rd_T51 x307001 x5).f7) ((rd_T51 x308001 x5).f0) ((rd_T51 x308001 x5).f1) ((rd_T51 x308001 x5).f2) ((rd_T51 x308001 x5).f3) ((rd_T51 x308001 x5).f4) ((rd_T51 x308001 x5).f5) ((rd_T51 x308001 x5).f6) ((rd_T51 x308001 x5).f7))) else (treelineref24_SameTopo.j2 k x5 true x307000 x307001 x307002 x307003 x308000 x308001 x308002 x308003 ((rd_T51 x307001 x5).f0) ((rd_T51 x307001 x5).f1) ((rd_T51 x307001 x5).f2) ((rd_T51 x307001 x5).f3) ((rd_T51 x307001 x5).f4) ((rd_T51 x307001 x5).f5) ((rd_T51 x307001 x5).f6) ((rd_T51 x307001 x5).f7) ((rd_T51 x308001 x5).f0) ((rd_T51 x308001 x5).f1) ((rd_T51 x308001 x5).f2) ((rd_T51 x308001 x5).f3) ((rd_T51 x308001 x5).f4) ((rd_T51 x308001 x5).f5) ((rd_T51 x308001 x5).f6) ((rd_T51 x308001 x5).f7))) else (treelineref24_SameTopo.j2 k x5 true x307000 x307001 x307002 x307003 x308000 x308001 x308002 x308003 ((rd_T51 x307001 x5).f0) ((rd_T51 x307001 x5).f1) ((rd_T51 x307001 x5).f2) ((rd_T51 x307001 x5).f3) ((rd_T51 x307001 x5).f4) ((rd_T51 x307001 x5).f5) ((rd_T51 x307001 x5).f6) ((rd_T51 x307001 x5).f7) ((rd_T51 x308001 x5).f0) ((rd_T51 x308001 x5).f1) ((rd_T51 x308001 x5).f2) ((rd_T51 x308001 x5).f3) ((rd_T51 x308001 x5).f4) ((rd_T51 x308001 x5).f5) ((rd_T51 x308001 x5).f6) ((rd_T51 x308001 x5).f7))) else (treelineref24_SameTopo.j2 k x5 true x307000 x307001 x307002 x307003 x308000 x308001 x308002 x308003 ((rd_T51 x307001 x5).f0) ((rd_T51 x307001 x5).f1) ((rd_T51 x307001 x5).f2) ((rd_T51 x307001 x5).f3) ((rd_T51 x307001 x5).f4) ((rd_T51 x307001 x5).f5) ((rd_T51 x307001 x5).f6) ((rd_T51 x307001 x5).f7) ((rd_T51 x308001 x5).f0) ((rd_T51 x308001 x5).f1) ((rd_T51 x308001 x5).f2) ((rd_T51 x308001 x5).f3) ((rd_T51 x308001 x5).f4) ((rd_T51 x308001 x5).f5) ((rd_T51 x308001 x5).f6) ((rd_T51 x308001 x5).f7))) else (treelineref24_SameTopo.j2 k x5 true x307000 x307001 x307002 x307003 x308000 x308001 x308002 x308003 ((rd_T51 x307001 x5).f0) ((rd_T51 x307001 x5).f1) ((rd_T51 x307001 x5).f2) ((rd_T51 x307001 x5).f3) ((rd_T51 x307001 x5).f4) ((rd_T51 x307001 x5).f5) ((rd_T51 x307001 x5).f6) ((rd_T51 x307001 x5).f7) ((rd_T51 x308001 x5).f0) ((rd_T51 x308001 x5).f1) ((rd_T51 x308001 x5).f2) ((rd_T51 x308001 x5).f3) ((rd_T51 x308001 x5).f4) ((rd_T51 x308001 x5).f5) ((rd_T51 x308001 x5).f6) ((rd_T51 x308001 x5).f7))) else (treelineref24_SameTopo.j2 k x5 true x307000 x307001 x307002 x307003 x308000 x308001 x308002 x308003 ((rd_T51 x307001 x5).f0) ((rd_T51 x307001 x5).f1) ((rd_T51 x307001 x5).f2) ((rd_T51 x307001 x5).f3) ((rd_T51 x307001 x5).f4) ((rd_T51 x307001 x5).f5) ((rd_T51 x307001 x5).f6) ((rd_T51 x307001 x5).f7) ((rd_T51 x308001 x5).f0) ((rd_T51 x308001 x5).f1) ((rd_T51 x308001 x5).f2) ((rd_T51 x308001 x5).f3) ((rd_T51 x308001 x5).f4) ((rd_T51 x308001 x5).f5) ((rd_T51 x308001 x5).f6) ((rd_T51 x308001 x5).f7))) else (none)) else (none)) else (treelineref24_SameTopo.l2 k 0 x307000 x307001 x307002 x307003 x308000 x308001 x308002 x308003)
def treelineref24_SameTopo.j2 : Nat → Int → Bool → Int → List (S51) → List (List Int) → List (S66) → Int → List (S51) → List (List Int) → List (S66) → Int → Int → Int → Int → Int → Int → Int → List (S63) → Int → Int → Int → Int → Int → Int → Int → List (S63) → Option (Bool)
  | 0, _, _, _, _, _, _, _, _, _, _, _, _, _, _, _, _, _, _, _, _, _, _, _, _, _, _ => none
  | k + 1, x5, x129, x307000, x307001, x307002, x307003, x308000, x308001, x308002, x308003, x311000, x311001, x311002, x311003, x311004, x311005, x311006, x311007, x312000, x312001, x312002, x312003, x312004, x312005, x312006, x312007 => if x129 = true then (some false) else (treelineref24_SameTopo.l1 k x5 0 x307000 x307001 x307002 x307003 x308000 x308001 x308002 x308003 x311000 x311001 x311002 x311003 x311004 x311005 x311006 x311007 x312000 x312001 x312002 x312003 x312004 x312005 x312006 x312007)
def treelineref24_SameTopo.l1 : Nat → Int → Int → Int → List (S51) → List (List Int) → List (S66) → Int → List (S51) → List (List Int) → List (S66) → Int → Int → Int → Int → Int → Int → Int → List (S63) → Int → Int → Int → Int → Int → Int → Int → List (S63) → Option (Bool)
  | 0, _, _, _, _, _, _, _, _, _, _, _, _, _, _, _, _, _, _, _, _, _, _, _, _, _, _ => none
  | k + 1, x5, x8, x307000, x307001, x307002, x307003, x308000, x308001, x308002, x308003, x311000, x311001, x311002, x311003, x311004, x311005, x311006, x311007, x312000, x312001, x312002, x312003, x312004, x312005, x312006, x312007 => if x8 < (x311007.length : Int) then (if 0 ≤ x8 then (if x8 < (x312007.length : Int) then (if (!(((rd_T63 x311007 x8).f0) == ((rd_T63 x312007 x8).f0)) || (!(((rd_T63 x311007 x8).f1) == ((rd_T63 x312007 x8).f1)) || (!(((rd_T63 x311007 x8).f2) == ((rd_T63 x312007 x8).f2))))) = true then (some false) else (if 0 ≤ x5 then (if x5 < (x307002.length : Int) then (if x8 < ((rd_L9 x307002 x5).length : Int) then (if x5 < (x308002.length : Int) then (if x8 < ((rd_L9 x308002 x5).length : Int) then (if (rd (rd_L9 x307002 x5) x8) = (rd (rd_L9 x308002 x5) x8) then (treelineref24_SameTopo.l1 k x5 (wrap64 (x8 + 1)) x307000 x307001 x307002 x307003 x308000 x308001 x308002 x308003 x311000 x311001 x311002 x311003 x311004 x311005 x311006 x311007 x312000 x312001 x312002 x312003 x312004 x312005 x312006 x312007) else (some false)) else (none)) else (none)) else (none)) else (none)) else (none))) else (none)) else (none)) else (treelineref24_SameTopo.l0 k (wrap64 (x5 + 1)) x307000 x307001 x307002 x307003 x308000 x308001 x308002 x308003)
def treelineref24_SameTopo.l2 : Nat → Int → Int → List (S51) → List (List Int) → List (S66) → Int → List (S51) → List (List Int) → List (S66) → Option (Bool)
  | 0, _, _, _, _, _, _, _, _, _ => none
  | k + 1, x9, x307000, x307001, x307002, x307003, x308000, x308001, x308002, x308003 => if x9 < (x307003.length : Int) then (if 0 ≤ x9 then (if x9 < (x308003.length : Int) then (if (!(((rd_T66 x307003 x9).f0) == ((rd_T66 x308003 x9).f0)) || (!(((rd_T66 x307003 x9).f1) == ((rd_T66 x308003 x9).f1)))) = true then (some false) else (treelineref24_SameTopo.l2 k (wrap64 (x9 + 1)) x307000 x307001 x307002 x307003 x308000 x308001 x308002 x308003)) else (none)) else (none)) else (some true)
end
def treelineref24_SameTopo.g (k : Nat) (a0_0 : Int) (l0_1 : List (S51)) (l0_2 : List (List Int)) (l0_3 : List (S66)) (a1_0 : Int) (l1_1 : List (S51)) (l1_2 : List (List Int)) (l1_3 : List (S66)) : Option (Bool) := if a0_0 = a1_0 then (if (l0_1.length : Int) = (l1_1.length : Int) then (if (l0_2.length : Int) = (l1_2.length : Int) then (treelineref24_SameTopo.j0 k ((l0_3.length : Int) != (l1_3.length : Int)) a0_0 l0_1 l0_2 l0_3 a1_0 l1_1 l1_2 l1_3) else (treelineref24_SameTopo.j0 k true a0_0 l0_1 l0_2 l0_3 a1_0 l1_1 l1_2 l1_3)) else (treelineref24_SameTopo.j0 k true a0_0 l0_1 l0_2 l0_3 a1_0 l1_1 l1_2 l1_3)) else (treelineref24_SameTopo.j0 k true a0_0 l0_1 l0_2 l0_3 a1_0 l1_1 l1_2 l1_3)
theorem treelineref24_SameTopo.mono_l : ∀ k, (∀ y0 y1 y2 y3 y4 y5 y6 y7 y8, LeO (treelineref24_SameTopo.j0 k y0 y1 y2 y3 y4 y5 y6 y7 y8) (treelineref24_SameTopo.j0 (k + 1) y0 y1 y2 y3 y4 y5 y6 y7 y8)) ∧ (∀ y0 y1 y2 y3 y4 y5 y6 y7 y8, LeO (treelineref24_SameTopo.l0 k y0 y1 y2 y3 y4 y5 y6 y7 y8) (treelineref24_SameTopo.l0 (k + 1) y0 y1 y2 y3 y4 y5 y6 y7 y8)) ∧ (∀ y0 y1 y2 y3 y4 y5 y6 y7 y8 y9 y10 y11 y12 y13 y14 y15 y16 y17 y18 y19 y20 y21 y22 y23 y24 y25, LeO (treelineref24_SameTopo.j2 k y0 y1 y2 y3 y4 y5 y6 y7 y8 y9 y10 y11 y12 y13 y14 y15 y16 y17 y18 y19 y20 y21 y22 y23 y24 y25) (treelineref24_SameTopo.j2 (k + 1) y0 y1 y2 y3 y4 y5 y6 y7 y8 y9 y10 y11 y12 y13 y14 y15 y16 y17 y18 y19 y20 y21 y22 y23 y24 y25)) ∧ (∀ y0 y1 y2 y3 y4 y5 y6 y7 y8 y9 y10 y11 y12 y13 y14 y15 y16 y17 y18 y19 y20 y21 y22 y23 y24 y25, LeO (treelineref24_SameTopo.l1 k y0 y1 y2 y3 y4 y5 y6 y7 y8 y9 y10 y11 y12 y13 y14 y15 y16 y17 y18 y19 y20 y21 y22 y23 y24 y25) (treelineref24_SameTopo.l1 (k + 1) y0 y1 y2 y3 y4 y5 y6 y7 y8 y9 y10 y11 y12 y13 y14 y15 y16 y17 y18 y19 y20 y21 y22 y23 y24 y25)) ∧ (∀ y0 y1 y2 y3 y4 y5 y6 y7 y8, LeO (treelineref24_SameTopo.l2 k y0 y1 y2 y3 y4 y5 y6 y7 y8) (treelineref24_SameTopo.l2 (k + 1) y0 y1 y2 y3 y4 y5 y6 y7 y8))
  | 0 => ⟨fun _ _ _ _ _ _ _ _ _ r h => by simp [treelineref24_SameTopo.j0] at h, fun _ _ _ _ _ _ _ _ _ r h => by simp [treelineref24_SameTopo.l0] at h, fun _ _ _ _ _ _ _ _ _ _ _ _ _ _ _ _ _ _ _ _ _ _ _ _ _ _ r h => by simp [treelineref24_SameTopo.j2] at h, fun _ _ _ _ _ _ _ _ _ _ _ _ _ _ _ _ _ _ _ _ _ _ _ _ _ _ r h => by simp [treelineref24_SameTopo.l1] at h, fun _ _ _ _ _ _ _ _ _ r h => by simp [treelineref24_SameTopo.l2] at h⟩
  | k + 1 => by
    obtain ⟨ih0, ih1, ih2, ih3, ih4⟩ := treelineref24_SameTopo.mono_l k
    refine ⟨?_, ?_, ?_, ?_, ?_⟩
    · intro y0 y1 y2 y3 y4 y5 y6 y7 y8
      unfold treelineref24_SameTopo.j0
      repeat' first
      | (with_reducible apply ih0)
      | (with_reducible apply ih1)
      | (with_reducible apply ih2)
      | (with_reducible apply ih3)
      | (with_reducible apply ih4)
      | (with_reducible exact LeO.refl _)
      | (with_reducible exact LeO.none _)
      | (with_reducible refine LeO.ite ?_ ?_)
      | (with_reducible refine LeO.bind ?_ (fun _ => ?_))
      | apply ih0
      | apply ih1
      | apply ih2
      | apply ih3
      | apply ih4
      | exact LeO.none _
      | refine LeO.ite ?_ ?_
      | refine LeO.bind ?_ (fun _ => ?_)
    · intro y0 y1 y2 y3 y4 y5 y6 y7 y8
      unfold treelineref24_SameTopo.l0
      repeat' first
      | (with_reducible apply ih0)
      | (with_reducible apply ih1)
      | (with_reducible apply ih2)
      | (with_reducible apply ih3)
      | (with_reducible apply ih4)
      | (with_reducible exact LeO.refl _)
      | (with_reducible exact LeO.none _)
      | (with_reducible refine LeO.ite ?_ ?_)
      | (with_reducible refine LeO.bind ?_ (fun _ => ?_))
      | apply ih0
      | apply ih1
      | apply ih2
      | apply ih3
      | apply ih4
      | exact LeO.none _
      | refine LeO.ite ?_ ?_
      | refine LeO.bind ?_ (fun _ => ?_)
    · intro y0 y1 y2 y3 y4 y5 y6 y7 y8 y9 y10 y11 y12 y13 y14 y15 y16 y17 y18 y19 y20 y21 y22 y23 y24 y25
      unfold treelineref24_SameTopo.j2
      repeat' first
      | (with_reducible apply ih0)
      | (with_reducible apply ih1)
      | (with_reducible apply ih2)
      | (with_reducible apply ih3)
      | (with_reducible apply ih4)
      | (with_reducible exact LeO.refl _)
      | (with_reducible exact LeO.none _)
      | (with_reducible refine LeO.ite ?_ ?_)
      | (with_reducible refine LeO.bind ?_ (fun _ => ?_))
      | apply ih0
      | apply ih1
      | apply ih2
      | apply ih3
      | apply ih4
      | exact LeO.none _
      | refine LeO.ite ?_ ?_
      | refine LeO.bind ?_ (fun _ => ?_)
    · intro y0 y1 y2 y3 y4 y5 y6 y7 y8 y9 y10 y11 y12 y13 y14 y15 y16 y17 y18 y19 y20 y21 y22 y23 y24 y25
      unfold treelineref24_SameTopo.l1
      repeat' first
      | (with_reducible apply ih0)
      | (with_reducible apply ih1)
      | (with_reducible apply ih2)
      | (with_reducible apply ih3)
      | (with_reducible apply ih4)
      | (with_reducible exact LeO.refl _)
      | (with_reducible exact LeO.none _)
      | (with_reducible refine LeO.ite ?_ ?_)
      | (with_reducible refine LeO.bind ?_ (fun _ => ?_))
      | apply ih0
      | apply ih1
      | apply ih2
      | apply ih3
      | apply ih4
      | exact LeO.none _
      | refine LeO.ite ?_ ?_
      | refine LeO.bind ?_ (fun _ => ?_)
    · intro y0 y1 y2 y3 y4 y5 y6 y7 y8
      unfold treelineref24_SameTopo.l2
      repeat' first
      | (with_reducible apply ih0)
      | (with_reducible apply ih1)
      | (with_reducible apply ih2)
      | (with_reducible apply ih3)
      | (with_reducible apply ih4)
      | (with_reducible exact LeO.refl _)
      | (with_reducible exact LeO.none _)
      | (with_reducible refine LeO.ite ?_ ?_)
      | (with_reducible refine LeO.bind ?_ (fun _ => ?_))
      | apply ih0
      | apply ih1
      | apply ih2
      | apply ih3
      | apply ih4
      | exact LeO.none _
      | refine LeO.ite ?_ ?_
      | refine LeO.bind ?_ (fun _ => ?_)
theorem treelineref24_SameTopo.gmono : ∀ a0 a1 a2 a3 a4 a5 a6 a7 k, LeO (treelineref24_SameTopo.g k a0 a1 a2 a3 a4 a5 a6 a7) (treelineref24_SameTopo.g (k + 1) a0 a1 a2 a3 a4 a5 a6 a7) := by
  intro a0 a1 a2 a3 a4 a5 a6 a7 k
  obtain ⟨ih0, ih1, ih2, ih3, ih4⟩ := treelineref24_SameTopo.mono_l k
  unfold treelineref24_SameTopo.g
  repeat' first
      | (with_reducible apply ih0)
      | (with_reducible apply ih1)
      | (with_reducible apply ih2)
      | (with_reducible apply ih3)
      | (with_reducible apply ih4)
      | (with_reducible exact LeO.refl _)
      | (with_reducible exact LeO.none _)
      | (with_reducible refine LeO.ite ?_ ?_)
      | (with_reducible refine LeO.bind ?_ (fun _ => ?_))
      | apply ih0
      | apply ih1
      | apply ih2
      | apply ih3
      | apply ih4
      | exact LeO.none _
      | refine LeO.ite ?_ ?_
      | refine LeO.bind ?_ (fun _ => ?_)
noncomputable def treelineref24_SameTopo.f (k : Nat) (a0_0 : Int) (l0_1 : List (S51)) (l0_2 : List (List Int)) (l0_3 : List (S66)) (a1_0 : Int) (l1_1 : List (S51)) (l1_2 : List (List Int)) (l1_3 : List (S66)) : Option (Bool) := @ite _ (a0_0 = a1_0 ∧ l0_1 = l1_1 ∧ l0_2 = l1_2 ∧ l0_3 = l1_3) (Classical.propDecidable _) (treelineref24_SameTopo.g k a0_0 l0_1 l0_2 l0_3 a1_0 l1_1 l1_2 l1_3) none
theorem treelineref24_SameTopo.mono : ∀ a0 a1 a2 a3 a4 a5 a6 a7 k, LeO (treelineref24_SameTopo.f k a0 a1 a2 a3 a4 a5 a6 a7) (treelineref24_SameTopo.f (k + 1) a0 a1 a2 a3 a4 a5 a6 a7) := by
  intro a0 a1 a2 a3 a4 a5 a6 a7 k
  unfold treelineref24_SameTopo.f
  by_cases c : (a0 = a4 ∧ a1 = a5 ∧ a2 = a6 ∧ a3 = a7)
  · rw [if_pos c, if_pos c]; exact treelineref24_SameTopo.gmono a0 a1 a2 a3 a4 a5 a6 a7 k
  · rw [if_neg c, if_neg c]; intro r h; cases h

def treelineref24_SameTopo.T6 : Bool × List (List Nat × List Nat) := (true, [([], []), ([0], [0]), ([], []), ([1, 2], [1, 2]), ([3], [3]), ([], []), ([5], [5]), ([], []), ([6, 7], [6, 7]), ([8], [8]), ([], []), ([], []), ([10, 4, 0, 1, 2, 3, 4, 10, 11], [4, 10]), ([11, 9, 12, 0, 1, 2, 3, 4, 5, 6, 7, 8, 9, 10, 11, 12], [9, 11])])
def treelineref24_SameTopo.B6 : List Nat := [0, 1, 0, 7, 15, 0, 32, 0, 224, 480, 0, 0, 3103, 8191]
theorem treelineref24_SameTopo.tab6 : rtab .any (opsOf Tryd.f11 6) = treelineref24_SameTopo.T6 := by kernel_rfl
theorem treelineref24_SameTopo.bits6 : waitsOk treelineref24_SameTopo.T6.2 treelineref24_SameTopo.B6 = true := by kernel_rfl
def treelineref24_SameTopo.T7 : Bool × List (List Nat × List Nat) := (true, [([], []), ([0], [0]), ([], []), ([2], [2]), ([1, 3], [1, 3]), ([4], [4]), ([5], [5]), ([6, 5], [5, 6]), ([5], [5]), ([8, 5], [5, 8]), ([7, 9, 5], [5, 7, 9]), ([5, 10], [5, 10]), ([11, 5], [11]), ([12], [12]), ([13, 12], [12, 13]), ([12], [12]), ([15, 12], [12, 15]), ([14, 16, 12], [12, 14, 16]), ([12, 17], [12, 17]), ([18, 12], [18]), ([19], [19]), ([20, 19], [19, 20]), ([19], [19]), ([22, 19], [19, 22]), ([21, 23, 19], [19, 21, 23]), ([19, 24], [19, 24]), ([25, 19], [25]), ([26], [26]), ([27, 26], [26, 27]), ([26], [26]), ([29, 26], [26, 29]), ([28, 30, 26], [26, 28, 30]), ([26, 31], [26, 31]), ([32, 26], [32]), ([33], [33]), ([34, 33], [33, 34]), ([33], [33]), ([36, 33], [33, 36]), ([35, 37, 33], [33, 35, 37]), ([33, 38], [33, 38]), ([39, 33], [39]), ([40], [40]), ([41, 40], [40, 41]), ([40], [40]), ([43, 40], [40, 43]), ([42, 44, 40], [40, 42, 44]), ([40, 45], [40, 45]), ([46, 40], [46]), ([47], [47]), ([48, 47], [47, 48]), ([49, 47], [47, 49]), ([47], [47]), ([51, 47], [47, 51]), ([52, 47], [47, 52]), ([50, 53, 47], [47, 50, 53]), ([47, 54], [47, 54]), ([55, 47], [55]), ([56], [56]), ([57, 56], [56, 57]), ([56], [56]), ([58, 59, 56], [56, 58, 59]), ([60, 56], [56, 60]), ([61, 56], [56, 61]), ([56], [56]), ([63, 56], [56, 63]), ([56], [56]), ([64, 65, 56], [56, 64, 65]), ([66, 56], [56, 66]), ([67, 56], [56, 67]), ([62, 68, 56], [56, 62, 68]), ([56, 69], [56, 69])])
def treelineref24_SameTopo.B7 : List Nat := [0, 1, 0, 4, 15, 31, 63, 127, 63, 319, 1023, 2047, 4095, 8191, 16383, 8191, 40959, 131071, 262143, 524287, 1048575, 2097151, 1048575, 5242879, 16777215, 33554431, 67108863, 134217727, 268435455, 134217727, 671088639, 2147483647, 4294967295, 8589934591, 17179869183, 34359738367, 17179869183, 85899345919, 274877906943, 549755813887, 1099511627775, 2199023255551, 4398046511103, 2199023255551, 10995116277759, 35184372088831, 70368744177663, 140737488355327, 281474976710655, 562949953421311, 1125899906842623, 281474976710655, 2533274790395903, 7036874417766399, 18014398509481983, 36028797018963967, 72057594037927935, 144115188075855871, 288230376151711743, 144115188075855871, 1152921504606846975, 2305843009213693951, 4611686018427387903, 144115188075855871, 9367487224930631679, 144115188075855871, 64707719446059286527, 138494695740897492991, 286068648330573905919, 590295810358705651711, 1180591620717411303423]
theorem treelineref24_SameTopo.tab7 : rtab .any (opsOf Tryd.f11 7) = treelineref24_SameTopo.T7 := by kernel_rfl
theorem treelineref24_SameTopo.bits7 : waitsOk treelineref24_SameTopo.T7.2 treelineref24_SameTopo.B7 = true := by kernel_rfl
def treelineref24_SameTopo.T12 : Bool × List (List Nat × List Nat) := (true, [([], []), ([0], [0]), ([], []), ([1, 2], [1, 2]), ([3], [3]), ([], []), ([5], [5]), ([], []), ([6, 7], [6, 7]), ([8], [8]), ([4, 9], [4, 9]), ([10], [10]), ([11], [11]), ([12, 11], [11, 12]), ([11], [11]), ([13, 14, 11], [11, 13, 14]), ([15, 11], [11, 15]), ([11], [11]), ([16, 17, 11], [11, 16, 17]), ([18, 11], [11, 18]), ([11], [11]), ([20, 11], [11, 20]), ([11], [11]), ([21, 22, 11], [11, 21, 22]), ([23, 11], [11, 23]), ([11], [11]), ([24, 25, 11], [11, 24, 25]), ([26, 11], [11, 26]), ([19, 27, 11], [11, 19, 27]), ([11, 28], [11, 28])])
def treelineref24_SameTopo.B12 : List Nat := [0, 1, 0, 7, 15, 0, 32, 0, 224, 480, 1023, 2047, 4095, 8191, 4095, 32767, 65535, 4095, 262143, 524287, 4095, 1052671, 4095, 7344127, 15732735, 4095, 66064383, 133173247, 268435455, 536870911]
theorem treelineref24_SameTopo.tab12 : rtab .any (opsOf Tryd.f11 12) = treelineref24_SameTopo.T12 := by kernel_rfl
theorem treelineref24_SameTopo.bits12 : waitsOk treelineref24_SameTopo.T12.2 treelineref24_SameTopo.B12 = true := by kernel_rfl
def treelineref24_SameTopo.T17 : Bool × List (List Nat × List Nat) := (true, [([], []), ([0], [0]), ([], []), ([1, 2], [1, 2]), ([3], [3]), ([], []), ([5], [5]), ([], []), ([6, 7], [6, 7]), ([8], [8]), ([4, 9], [4, 9])])
def treelineref24_SameTopo.B17 : List Nat := [0, 1, 0, 7, 15, 0, 32, 0, 224, 480, 1023]
theorem treelineref24_SameTopo.tab17 : rtab .any (opsOf Tryd.f11 17) = treelineref24_SameTopo.T17 := by kernel_rfl
theorem treelineref24_SameTopo.bits17 : waitsOk treelineref24_SameTopo.T17.2 treelineref24_SameTopo.B17 = true := by kernel_rfl
set_option maxHeartbeats 8000000 in
set_option maxRecDepth 100000 in
theorem treelineref24_SameTopo.calls (k : Nat) (a0_0 : Int) (A0_1 : Option Addr) (c0_1 : Nat) (l0_1 : List (S51)) (A0_2 : Option Addr) (c0_2 : Nat) (l0_2 : List (List Int)) (A0_3 : Option Addr) (c0_3 : Nat) (l0_3 : List (S66)) (a1_0 : Int) (A1_1 : Option Addr) (c1_1 : Nat) (l1_1 : List (S51)) (A1_2 : Option Addr) (c1_2 : Nat) (l1_2 : List (List Int)) (A1_3 : Option Addr) (c1_3 : Nat) (l1_3 : List (S66)) (r : Bool) (w : World) (hr0_1 : Kd.C k51 w A0_1 l0_1.length l0_1) (hc0_1 : l0_1.length ≤ c0_1) (hr0_2 : Kd.C (Kd.slice 3 (Kd.int .i64)) w A0_2 l0_2.length l0_2) (hc0_2 : l0_2.length ≤ c0_2) (hr0_3 : Kd.C k66 w A0_3 l0_3.length l0_3) (hc0_3 : l0_3.length ≤ c0_3) (hr1_1 : Kd.C k51 w A1_1 l1_1.length l1_1) (hc1_1 : l1_1.length ≤ c1_1) (hr1_2 : Kd.C (Kd.slice 3 (Kd.int .i64)) w A1_2 l1_2.length l1_2) (hc1_2 : l1_2.length ≤ c1_2) (hr1_3 : Kd.C k66 w A1_3 l1_3.length l1_3) (hc1_3 : l1_3.length ≤ c1_3) (h : treelineref24_SameTopo.f k a0_0 l0_1 l0_2 l0_3 a1_0 l1_1 l1_2 l1_3 = some r) :
  Calls Tryd.prog 11 #[.agg #[.int .i64 a0_0, .slice A0_1 l0_1.length c0_1, .slice A0_2 l0_2.length c0_2, .slice A0_3 l0_3.length c0_3], .agg #[.int .i64 a1_0, .slice A1_1 l1_1.length c1_1, .slice A1_2 l1_2.length c1_2, .slice A1_3 l1_3.length c1_3]] w fun e w' => e = .returned (.bool r) ∧ Below w.heap.size w w' := by
 have hu28 := Tryd.underlying28
 have hu51 := Tryd.underlying51
 have hu63 := Tryd.underlying63
 have hu66 := Tryd.underlying66
 have HR0_1 := Aside0.mk hr0_1
 have HC0_1 := Aside0.mk hc0_1
 clear hr0_1 hc0_1
 have HR0_2 := Aside0.mk hr0_2
 have HC0_2 := Aside0.mk hc0_2
 clear hr0_2 hc0_2
 have HR0_3 := Aside0.mk hr0_3
 have HC0_3 := Aside0.mk hc0_3
 clear hr0_3 hc0_3
 have HR1_1 := Aside0.mk hr1_1
 have HC1_1 := Aside0.mk hc1_1
 clear hr1_1 hc1_1
 have HR1_2 := Aside0.mk hr1_2
 have HC1_2 := Aside0.mk hc1_2
 clear hr1_2 hc1_2
 have HR1_3 := Aside0.mk hr1_3
 have HC1_3 := Aside0.mk hc1_3
 clear hr1_3 hc1_3
 have HB := Aside0.mk (Below.refl w.heap.size w)
 have hE_ : a0_0 = a1_0 ∧ l0_1 = l1_1 ∧ l0_2 = l1_2 ∧ l0_3 = l1_3 := by
  by_cases c : (a0_0 = a1_0 ∧ l0_1 = l1_1 ∧ l0_2 = l1_2 ∧ l0_3 = l1_3)
  ·exact c
  ·unfold treelineref24_SameTopo.f at h; rw [if_neg c] at h; cases h
 obtain ⟨e0_, e1_, e2_, e3_⟩ := hE_
 have H : (if a0_0 = a1_0 then (if (l0_1.length : Int) = (l1_1.length : Int) then (if (l0_2.length : Int) = (l1_2.length : Int) then (treelineref24_SameTopo.j0 k ((l0_3.length : Int) != (l1_3.length : Int)) a0_0 l0_1 l0_2 l0_3 a1_0 l1_1 l1_2 l1_3) else (treelineref24_SameTopo.j0 k true a0_0 l0_1 l0_2 l0_3 a1_0 l1_1 l1_2 l1_3)) else (treelineref24_SameTopo.j0 k true a0_0 l0_1 l0_2 l0_3 a1_0 l1_1 l1_2 l1_3)) else (treelineref24_SameTopo.j0 k true a0_0 l0_1 l0_2 l0_3 a1_0 l1_1 l1_2 l1_3)) = some r := by unfold treelineref24_SameTopo.f at h; rw [if_pos ⟨e0_, e1_, e2_, e3_⟩] at h; exact h
 have E0 := Aside0.mk e0_
 have E1 := Aside0.mk e1_
 have E2 := Aside0.mk e2_
 have E3 := Aside0.mk e3_
 clear e0_ e1_ e2_ e3_
 clear h
 have HC3 := Aside0.mk H
 clear H
 go_enter Tryd.func11, Tryd.ntmps11
 go_upto_region 1 with (first | ((with_reducible refine gate_dst (N := 2) rfl ?_); (try (refine gate_guard (by rfl) ?_; dsimp only)); refine box_event ?hg (N := 2) ?hd (cs := #[.int .i64 a0_0, .slice A0_1 l0_1.length c0_1, .slice A0_2 l0_2.length c0_2, .slice A0_3 l0_3.length c0_3]) (t := 28) ?hr ?_; (case hd => rfl); (case hg => rfl); (case hr => first | (go_simp; done) | (go_simp; rfl)); intro gb306 hg w4 hbox hb; have BK306 := Aside0.mk (hbox); have GW306 := Aside0.mk ((by rw [hg]; exact (below_size bB) : w.heap.size ≤ gb306)); have GE306 := Aside0.mk ((by rw [hg]; exact (below_size bB) : w.heap.size ≤ gb306)); replace HB := Aside0.mk (below_step bB hb); clear hb hbox hg) | ((with_reducible refine gate_dst (N := 3) rfl ?_); (try (refine gate_guard (by rfl) ?_; dsimp only)); refine box_event ?hg (N := 3) ?hd (cs := #[.int .i64 a1_0, .slice A1_1 l1_1.length c1_1, .slice A1_2 l1_2.length c1_2, .slice A1_3 l1_3.length c1_3]) (t := 28) ?hr ?_; (case hd => rfl); (case hg => rfl); (case hr => first | (go_simp; done) | (go_simp; rfl)); intro gb307 hg w5 hbox hb; have BK307 := Aside0.mk (hbox); have GW307 := Aside0.mk ((by rw [hg]; exact (below_size bB) : w.heap.size ≤ gb307)); have GE307 := Aside0.mk ((by rw [hg]; exact (below_size bB) : w.heap.size ≤ gb307)); replace HB := Aside0.mk (below_step bB hb); have NB306_307 := Aside0.mk (nbL (bw BK306.out) hg : gb306 ≠ gb307); have NB307_306 := Aside0.mk (nbL (bw BK306.out) hg : gb306 ≠ gb307).symm; replace BK306 := Aside0.mk (blk_below (g := gb306) (o := .cells #[.int .i64 a0_0, .slice A0_1 l0_1.length c0_1, .slice A0_2 l0_2.length c0_2, .slice A0_3 l0_3.length c0_3] 28 (0, 0)) (bw BK306.out) hb); clear hb hbox hg))
 (try simp only [Act.put, List.setIfInBounds_toArray, List.set_cons_zero, List.set_cons_succ])
 go_cut [41] (fun v41 wc => ∃ (kq : Nat) (x41_2 : Bool), v41 = .bool x41_2 ∧ Aside0 (treelineref24_SameTopo.j0 kq x41_2 a0_0 l0_1 l0_2 l0_3 a1_0 l1_1 l1_2 l1_3 = some r) ∧ Aside0 (kq ≤ k) ∧ Aside0 (wc.heap[gb306]? = some (.cells #[.int .i64 a0_0, (.slice A0_1 l0_1.length c0_1), (.slice A0_2 l0_2.length c0_2), (.slice A0_3 l0_3.length c0_3)] 28 (0, 0))) ∧ Aside0 (wc.heap[gb307]? = some (.cells #[.int .i64 a1_0, (.slice A1_1 l1_1.length c1_1), (.slice A1_2 l1_2.length c1_2), (.slice A1_3 l1_3.length c1_3)] 28 (0, 0))) ∧ Aside0 (Below w.heap.size w wc))
 case first =>
  have H := HC3.out
  clear HC3
  by_cases c6 : a0_0 = a1_0
  rotate_left
  ·exact absurd E0.out c6
  rw [if_pos c6] at H
  have c6b0 : (a0_0 == a1_0) = true := beq_iff_eq.mpr c6
  have c6b1 : (a0_0 != a1_0) = false := bne_eq_false_iff_eq.mpr c6
  clear c6
  (first | rw [c6b0] | (simp only [i64_w, i32_w]; rw [c6b0]) | skip)
  by_cases c7 : (l0_1.length : Int) = (l1_1.length : Int)
  rotate_left
  ·exact absurd (by rw [E1.out]) c7
  rw [if_pos c7] at H
  have c7b0 : ((l0_1.length : Int) == (l1_1.length : Int)) = true := beq_iff_eq.mpr c7
  have c7b1 : ((l0_1.length : Int) != (l1_1.length : Int)) = false := bne_eq_false_iff_eq.mpr c7
  have c7b2 : (l0_1.length == l1_1.length) = true := by first | simpa using c7 | (simp at c7 ⊢; omega)
  clear c7
  by_cases c8 : (l0_2.length : Int) = (l1_2.length : Int)
  rotate_left
  ·exact absurd (by rw [E2.out]) c8
  rw [if_pos c8] at H
  have c8b0 : ((l0_2.length : Int) == (l1_2.length : Int)) = true := beq_iff_eq.mpr c8
  have c8b1 : ((l0_2.length : Int) != (l1_2.length : Int)) = false := bne_eq_false_iff_eq.mpr c8
  have c8b2 : (l0_2.length == l1_2.length) = true := by first | simpa using c8 | (simp at c8 ⊢; omega)
  clear c8
  have H' := Aside0.mk H
  clear H
  have hnb9 := NB306_307.out
  have hnc9 := NB307_306.out
  obtain ⟨hcz10_0, hcz10_1, hcz10_2, hcz10_3⟩ := cZ4 BK306.out
  obtain ⟨hfz10_0, hfz10_1, hfz10_2, hfz10_3⟩ := fZ4 BK306.out
  obtain ⟨hcz11_0, hcz11_1, hcz11_2, hcz11_3⟩ := cZ4 BK307.out
  obtain ⟨hfz11_0, hfz11_1, hfz11_2, hfz11_3⟩ := fZ4 BK307.out
  go_wp2
  go_meet
  case rel => exact ⟨_, (((l0_3.length : Int) != (l1_3.length : Int))), (by first | rfl | (simp; done) | (simp [*]; done)), H', ⟨by first | omega | exact Nat.le_refl _⟩, ⟨bw BK306.out⟩, ⟨bw BK307.out⟩, ⟨bB⟩⟩
 clear HC3
 try clear p2
 try clear c6
 try clear c6b0
 try clear c6b1
 try clear c7b0
 try clear c7b1
 try clear c7b2
 try clear c8b0
 try clear c8b1
 try clear c8b2
 obtain ⟨kq, x41_2, rfl, HA, HJ2, BK306, BK307, HB⟩ := hcut
 cases kq with
 | zero => exact absurd HA.out (by simp [treelineref24_SameTopo.j0])
 | succ kj2 => ?_
 have H := HA.out
 clear HA
 simp only [treelineref24_SameTopo.j0] at H
 by_cases c21 : x41_2 = true
 ·subst c21
  rw [if_pos rfl] at H
  obtain rfl := Option.some.inj H
  go_wp2
  go_ret
  exact ⟨by first | rfl | (simp [errW_none, errW_some] <;> rfl) | (simp [*, errW_none, errW_some] <;> rfl), by exact bB⟩
 replace c21 := Bool.eq_false_iff.mpr c21
 subst c21
 rw [if_neg (show ¬ (false = true) by decide)] at H
 have H' := Aside0.mk H
 clear H
 go_wp2
 go_loopg [5] kj2 (fun kq v5 w' => ∃ (x5_2 : Int), v5 = .int .i64 x5_2 ∧ Aside0 (treelineref24_SameTopo.l0 kq x5_2 a0_0 l0_1 l0_2 l0_3 a1_0 l1_1 l1_2 l1_3 = some r) ∧ Aside0 (kq ≤ kj2) ∧ Aside0 (w'.heap[gb306]? = some (.cells #[.int .i64 a0_0, (.slice A0_1 l0_1.length c0_1), (.slice A0_2 l0_2.length c0_2), (.slice A0_3 l0_3.length c0_3)] 28 (0, 0))) ∧ Aside0 (w'.heap[gb307]? = some (.cells #[.int .i64 a1_0, (.slice A1_1 l1_1.length c1_1), (.slice A1_2 l1_2.length c1_2), (.slice A1_3 l1_3.length c1_3)] 28 (0, 0))) ∧ Aside0 (Below w.heap.size w w'))
 case atStart => exact ⟨(0), (by first | rfl | (simp; done) | (simp [*]; done)), H', ⟨Nat.le_refl _⟩, ⟨bw BK306.out⟩, ⟨bw BK307.out⟩, ⟨bB⟩⟩
 clear H'
 try clear p2
 try clear c6b0
 try clear c6b1
 try clear c7b0
 try clear c7b1
 try clear c7b2
 try clear c8b0
 try clear c8b1
 try clear c8b2
 try clear c21
 try clear p2
 obtain ⟨x5_2, rfl, HA, HK2, BK306, BK307, HB⟩ := hrel
 cases gk with
 | zero => exact absurd HA.out (by simp [treelineref24_SameTopo.l0])
 | succ k2 => ?_
 have H := HA.out
 clear HA
 simp only [treelineref24_SameTopo.l0] at H
 by_cases c22 : x5_2 < (l0_1.length : Int)
 rotate_left
 ·rw [if_neg c22] at H
  have c22b0 : decide (x5_2 < (l0_1.length : Int)) = false := decide_eq_false c22
  clear c22
  have H' := Aside0.mk H
  clear H
  have hnb106 := NB306_307.out
  have hnc106 := NB307_306.out
  obtain ⟨hcz107_0, hcz107_1, hcz107_2, hcz107_3⟩ := cZ4 BK306.out
  obtain ⟨hfz107_0, hfz107_1, hfz107_2, hfz107_3⟩ := fZ4 BK306.out
  go_wp2
  go_loopg [9] k2 (fun kq v9 w' => ∃ (x9_3 : Int), v9 = .int .i64 x9_3 ∧ Aside0 (treelineref24_SameTopo.l2 kq x9_3 a0_0 l0_1 l0_2 l0_3 a1_0 l1_1 l1_2 l1_3 = some r) ∧ Aside0 (kq ≤ k2) ∧ Aside0 (w'.heap[gb306]? = some (.cells #[.int .i64 a0_0, (.slice A0_1 l0_1.length c0_1), (.slice A0_2 l0_2.length c0_2), (.slice A0_3 l0_3.length c0_3)] 28 (0, 0))) ∧ Aside0 (w'.heap[gb307]? = some (.cells #[.int .i64 a1_0, (.slice A1_1 l1_1.length c1_1), (.slice A1_2 l1_2.length c1_2), (.slice A1_3 l1_3.length c1_3)] 28 (0, 0))) ∧ Aside0 (Below w.heap.size w w'))
  case atStart => exact ⟨(0), (by first | rfl | (simp; done) | (simp [*]; done)), H', ⟨Nat.le_refl _⟩, ⟨bw BK306.out⟩, ⟨bw BK307.out⟩, ⟨bB⟩⟩
  clear H'
  try clear p2
  try clear p3
  try clear q3
  try clear hx3
  try clear p6
  try clear c22
  try clear c22b0
  try clear p31
  try clear q31
  try clear hx31
  try clear p64
  try clear c77b0
  try clear c91b0
  try clear c91b1
  try clear hcz107_0
  try clear hcz107_1
  try clear hcz107_2
  try clear hcz107_3
  try clear hfz107_0
  try clear hfz107_1
  try clear hfz107_2
  try clear hfz107_3
  try clear hx314_0
  try clear hx314_1
  try clear hx314_2
  try clear hx315_0
  try clear hx315_1
  try clear hx315_2
  try clear hx316_0
  try clear hx317_0
  try clear hx318_0
  try clear hx319_0
  try clear p314
  try clear p315
  try clear p316
  try clear p317
  try clear p318
  try clear p319
  try clear q314
  try clear q315
  try clear q316
  try clear q317
  try clear q318
  try clear q319
  obtain ⟨x9_3, rfl, HA, HK3, BK306, BK307, HB⟩ := hrel
  cases gk with
  | zero => exact absurd HA.out (by simp [treelineref24_SameTopo.l2])
  | succ k3 => ?_
  have H := HA.out
  clear HA
  simp only [treelineref24_SameTopo.l2] at H
  by_cases c108 : x9_3 < (l0_3.length : Int)
  rotate_left
  ·rw [if_neg c108] at H
   have c108b0 : decide (x9_3 < (l0_3.length : Int)) = false := decide_eq_false c108
   clear c108
   obtain rfl := Option.some.inj H
   have hnb118 := NB306_307.out
   have hnc118 := NB307_306.out
   obtain ⟨hcz119_0, hcz119_1, hcz119_2, hcz119_3⟩ := cZ4 BK306.out
   obtain ⟨hfz119_0, hfz119_1, hfz119_2, hfz119_3⟩ := fZ4 BK306.out
   go_wp2
   go_ret
   exact ⟨by first | rfl | (simp [errW_none, errW_some] <;> rfl) | (simp [*, errW_none, errW_some] <;> rfl), by exact bB⟩
  rw [if_pos c108] at H
  have c108b0 : decide (x9_3 < (l0_3.length : Int)) = true := decide_eq_true c108
  clear c108
  by_cases c109 : 0 ≤ x9_3
  rotate_left
  ·rw [if_neg c109] at H
   exact absurd H (by simp)
  rw [if_pos c109] at H
  have c109b0 : decide (0 ≤ x9_3) = true := decide_eq_true c109
  clear c109
  by_cases c110 : x9_3 < (l1_3.length : Int)
  rotate_left
  ·rw [if_neg c110] at H
   exact absurd H (by simp)
  rw [if_pos c110] at H
  have c110b0 : decide (x9_3 < (l1_3.length : Int)) = true := decide_eq_true c110
  clear c110
  by_cases c111 : (!(((rd_T66 l0_3 x9_3).f0) == ((rd_T66 l1_3 x9_3).f0)) || (!(((rd_T66 l0_3 x9_3).f1) == ((rd_T66 l1_3 x9_3).f1)))) = true
  ·exact absurd c111 (by rw [E3.out]; simp)
  rw [if_neg c111] at H
  have c111b0 : (!(((rd_T66 l0_3 x9_3).f0) == ((rd_T66 l1_3 x9_3).f0)) || (!(((rd_T66 l0_3 x9_3).f1) == ((rd_T66 l1_3 x9_3).f1)))) = false := by simpa using c111
  clear c111
  have H' := Aside0.mk H
  clear H
  have hnb115 := NB306_307.out
  have hnc115 := NB307_306.out
  obtain ⟨hcz116_0, hcz116_1, hcz116_2, hcz116_3⟩ := cZ4 BK306.out
  obtain ⟨hfz116_0, hfz116_1, hfz116_2, hfz116_3⟩ := fZ4 BK306.out
  try go_wp2
  replace BK306 := Aside0.mk (blk_drew BK306.out)
  replace BK307 := Aside0.mk (blk_drew BK307.out)
  replace HB := Aside0.mk (below_drew1 HB.out)
  have p320 : 0 ≤ (x9_3 : Int) := of_decide_eq_true (by first | (with_reducible assumption) | assumption)
  have q320 : x9_3 < (l0_3.length : Int) := of_decide_eq_true (by first | (with_reducible assumption) | assumption)
  obtain ⟨ad320, e320, hx320_0, hx320_1⟩ := at_T66 HR0_3.out x9_3 p320 q320
  have hw320_1 := hx320_1
  have hw320_0 := hx320_0
  cases e320
  replace hx320_0 := (HB.out.cell (World.block_lt_of_cell? w _ hx320_0)).trans hx320_0
  replace hx320_1 := (HB.out.cell (World.block_lt_of_cell? w _ hx320_1)).trans hx320_1
  replace p320 := eq_true p320
  replace q320 := eq_true q320
  have p321 : 0 ≤ (x9_3 : Int) := of_decide_eq_true (by first | (with_reducible assumption) | assumption)
  have q321 : x9_3 < (l1_3.length : Int) := of_decide_eq_true (by first | (with_reducible assumption) | assumption)
  obtain ⟨ad321, e321, hx321_0, hx321_1⟩ := at_T66 HR1_3.out x9_3 p321 q321
  have hw321_1 := hx321_1
  have hw321_0 := hx321_0
  cases e321
  replace hx321_0 := (HB.out.cell (World.block_lt_of_cell? w _ hx321_0)).trans hx321_0
  replace hx321_1 := (HB.out.cell (World.block_lt_of_cell? w _ hx321_1)).trans hx321_1
  replace p321 := eq_true p321
  replace q321 := eq_true q321
  refine start_ (n := 11) (S := fun w' => w'.cell? ⟨gb306, 0, none⟩ = some (.int .i64 a0_0) ∧ w'.cell? ⟨gb306, 1, none⟩ = some (.slice A0_1 l0_1.length c0_1) ∧ w'.cell? ⟨gb306, 2, none⟩ = some (.slice A0_2 l0_2.length c0_2) ∧ w'.cell? ⟨gb306, 3, none⟩ = some (.slice (some ad320) l0_3.length c0_3) ∧ w'.cell? ⟨gb307, 0, none⟩ = some (.int .i64 a1_0) ∧ w'.cell? ⟨gb307, 1, none⟩ = some (.slice A1_1 l1_1.length c1_1) ∧ w'.cell? ⟨gb307, 2, none⟩ = some (.slice A1_2 l1_2.length c1_2) ∧ w'.cell? ⟨gb307, 3, none⟩ = some (.slice (some ad321) l1_3.length c1_3) ∧ w'.cell? (ad320.add ((x9_3).toNat * 2)) = some (.int .u64 ((rd_T66 l0_3 x9_3).f0)) ∧ w'.cell? ⟨(ad320.add ((x9_3).toNat * 2)).block, (ad320.add ((x9_3).toNat * 2)).off + 1, none⟩ = some (.int .i64 ((rd_T66 l0_3 x9_3).f1)) ∧ w'.cell? (ad321.add ((x9_3).toNat * 2)) = some (.int .u64 ((rd_T66 l1_3 x9_3).f0)) ∧ w'.cell? ⟨(ad321.add ((x9_3).toNat * 2)).block, (ad321.add ((x9_3).toNat * 2)).off + 1, none⟩ = some (.int .i64 ((rd_T66 l1_3 x9_3).f1))) (ds := []) #[false, false, false, false, false, false, false, false, false, false, false] (by kernel_rfl) rfl rfl ⟨(blk_cell BK306.out 0).trans rfl, (blk_cell BK306.out 1).trans rfl, (blk_cell BK306.out 2).trans rfl, (blk_cell BK306.out 3).trans rfl, (blk_cell BK307.out 0).trans rfl, (blk_cell BK307.out 1).trans rfl, (blk_cell BK307.out 2).trans rfl, (blk_cell BK307.out 3).trans rfl, ((HB.out.cell (World.block_lt_of_cell? w _ hw320_0)).trans hw320_0), ((HB.out.cell (World.block_lt_of_cell? w _ hw320_1)).trans hw320_1), ((HB.out.cell (World.block_lt_of_cell? w _ hw321_0)).trans hw321_0), ((HB.out.cell (World.block_lt_of_cell? w _ hw321_1)).trans hw321_1)⟩ (fun hHeld => ?_); refine with_tabW treelineref24_SameTopo.tab17 treelineref24_SameTopo.bits17 (fun HT_ HW_ => ?_)
  generalize wr.drew = w117 at BK306 BK307 HB hx320_0 hx320_1 hx321_0 hx321_1 hHeld ⊢
  refine pS 0 174 HT_ ?_
  refine pS 2 176 HT_ ?_
  refine pS 5 179 HT_ ?_
  refine pS 7 181 HT_ ?_
  refine tS 1 175 HT_ HW_ hHeld ?_
  refine pS 3 177 HT_ ?_
  refine tS 4 178 HT_ HW_ hHeld ?_
  refine tS 6 180 HT_ HW_ hHeld ?_
  refine pS 8 182 HT_ ?_
  refine tS 9 183 HT_ HW_ hHeld ?_
  refine pS 10 184 HT_ ?_
  refine done_ (done_of HT_.out (by kernel_rfl)) ?_
  try go_wp2
  go_roundg k3
  case measure => have := HJ2.out; have := HK2.out; have := HK3.out; omega
  case rel => exact ⟨(wrap64 (x9_3 + 1)), (by first | rfl | (simp; done) | (simp [*]; done)), H', ⟨by have := HJ2.out; have := HK2.out; have := HK3.out; omega⟩, ⟨bw BK306.out⟩, ⟨bw BK307.out⟩, ⟨bB⟩⟩
 rw [if_pos c22] at H
 have c22b0 : decide (x5_2 < (l0_1.length : Int)) = true := decide_eq_true c22
 clear c22
 by_cases c23 : 0 ≤ x5_2
 rotate_left
 ·rw [if_neg c23] at H
  exact absurd H (by simp)
 rw [if_pos c23] at H
 have c23b0 : decide (0 ≤ x5_2) = true := decide_eq_true c23
 clear c23
 by_cases c24 : x5_2 < (l1_1.length : Int)
 rotate_left
 ·rw [if_neg c24] at H
  exact absurd H (by simp)
 rw [if_pos c24] at H
 have c24b0 : decide (x5_2 < (l1_1.length : Int)) = true := decide_eq_true c24
 clear c24
 have HC25 := Aside0.mk H
 clear H
 have hnb26 := NB306_307.out
 have hnc26 := NB307_306.out
 obtain ⟨hcz27_0, hcz27_1, hcz27_2, hcz27_3⟩ := cZ4 BK306.out
 obtain ⟨hfz27_0, hfz27_1, hfz27_2, hfz27_3⟩ := fZ4 BK306.out
 try go_wp2
 replace BK306 := Aside0.mk (blk_drew BK306.out)
 replace BK307 := Aside0.mk (blk_drew BK307.out)
 replace HB := Aside0.mk (below_drew1 HB.out)
 have p308 : 0 ≤ (x5_2 : Int) := of_decide_eq_true (by first | (with_reducible assumption) | assumption)
 have q308 : x5_2 < (l0_1.length : Int) := of_decide_eq_true (by first | (with_reducible assumption) | assumption)
 obtain ⟨ad308, A308_7, c308_7, e308, hx308_0, hx308_1, hx308_2, hx308_3, hx308_4, hx308_5, hx308_6, hx308_7, hl308_7, hi308_7⟩ := at_T51 HR0_1.out x5_2 p308 q308
 have hw308_7 := hx308_7
 have hw308_6 := hx308_6
 have hw308_5 := hx308_5
 have hw308_4 := hx308_4
 have hw308_3 := hx308_3
 have hw308_2 := hx308_2
 have hw308_1 := hx308_1
 have hw308_0 := hx308_0
 cases e308
 replace hx308_0 := (HB.out.cell (World.block_lt_of_cell? w _ hx308_0)).trans hx308_0
 replace hx308_1 := (HB.out.cell (World.block_lt_of_cell? w _ hx308_1)).trans hx308_1
 replace hx308_2 := (HB.out.cell (World.block_lt_of_cell? w _ hx308_2)).trans hx308_2
 replace hx308_3 := (HB.out.cell (World.block_lt_of_cell? w _ hx308_3)).trans hx308_3
 replace hx308_4 := (HB.out.cell (World.block_lt_of_cell? w _ hx308_4)).trans hx308_4
 replace hx308_5 := (HB.out.cell (World.block_lt_of_cell? w _ hx308_5)).trans hx308_5
 replace hx308_6 := (HB.out.cell (World.block_lt_of_cell? w _ hx308_6)).trans hx308_6
 replace hx308_7 := (HB.out.cell (World.block_lt_of_cell? w _ hx308_7)).trans hx308_7
 have HR308_7 := Aside0.mk hi308_7
 have HC308_7 := Aside0.mk hl308_7
 clear hi308_7 hl308_7
 replace p308 := eq_true p308
 replace q308 := eq_true q308
 have p309 : 0 ≤ (x5_2 : Int) := of_decide_eq_true (by first | (with_reducible assumption) | assumption)
 have q309 : x5_2 < (l1_1.length : Int) := of_decide_eq_true (by first | (with_reducible assumption) | assumption)
 obtain ⟨ad309, A309_7, c309_7, e309, hx309_0, hx309_1, hx309_2, hx309_3, hx309_4, hx309_5, hx309_6, hx309_7, hl309_7, hi309_7⟩ := at_T51 HR1_1.out x5_2 p309 q309
 have hw309_7 := hx309_7
 have hw309_6 := hx309_6
 have hw309_5 := hx309_5
 have hw309_4 := hx309_4
 have hw309_3 := hx309_3
 have hw309_2 := hx309_2
 have hw309_1 := hx309_1
 have hw309_0 := hx309_0
 cases e309
 replace hx309_0 := (HB.out.cell (World.block_lt_of_cell? w _ hx309_0)).trans hx309_0
 replace hx309_1 := (HB.out.cell (World.block_lt_of_cell? w _ hx309_1)).trans hx309_1
 replace hx309_2 := (HB.out.cell (World.block_lt_of_cell? w _ hx309_2)).trans hx309_2
 replace hx309_3 := (HB.out.cell (World.block_lt_of_cell? w _ hx309_3)).trans hx309_3
 replace hx309_4 := (HB.out.cell (World.block_lt_of_cell? w _ hx309_4)).trans hx309_4
 replace hx309_5 := (HB.out.cell (World.block_lt_of_cell? w _ hx309_5)).trans hx309_5
 replace hx309_6 := (HB.out.cell (World.block_lt_of_cell? w _ hx309_6)).trans hx309_6
 replace hx309_7 := (HB.out.cell (World.block_lt_of_cell? w _ hx309_7)).trans hx309_7
 have HR309_7 := Aside0.mk hi309_7
 have HC309_7 := Aside0.mk hl309_7
 clear hi309_7 hl309_7
 replace p309 := eq_true p309
 replace q309 := eq_true q309
 refine start_ (n := 14) (S := fun w' => w'.cell? ⟨gb306, 0, none⟩ = some (.int .i64 a0_0) ∧ w'.cell? ⟨gb306, 1, none⟩ = some (.slice (some ad308) l0_1.length c0_1) ∧ w'.cell? ⟨gb306, 2, none⟩ = some (.slice A0_2 l0_2.length c0_2) ∧ w'.cell? ⟨gb306, 3, none⟩ = some (.slice A0_3 l0_3.length c0_3) ∧ w'.cell? ⟨gb307, 0, none⟩ = some (.int .i64 a1_0) ∧ w'.cell? ⟨gb307, 1, none⟩ = some (.slice (some ad309) l1_1.length c1_1) ∧ w'.cell? ⟨gb307, 2, none⟩ = some (.slice A1_2 l1_2.length c1_2) ∧ w'.cell? ⟨gb307, 3, none⟩ = some (.slice A1_3 l1_3.length c1_3) ∧ w'.cell? (ad308.add ((x5_2).toNat * 8)) = some (.int .u64 ((rd_T51 l0_1 x5_2).f0)) ∧ w'.cell? ⟨(ad308.add ((x5_2).toNat * 8)).block, (ad308.add ((x5_2).toNat * 8)).off + 1, none⟩ = some (.int .u16 ((rd_T51 l0_1 x5_2).f1)) ∧ w'.cell? ⟨(ad308.add ((x5_2).toNat * 8)).block, (ad308.add ((x5_2).toNat * 8)).off + 2, none⟩ = some (.int .i64 ((rd_T51 l0_1 x5_2).f2)) ∧ w'.cell? ⟨(ad308.add ((x5_2).toNat * 8)).block, (ad308.add ((x5_2).toNat * 8)).off + 3, none⟩ = some (.int .i64 ((rd_T51 l0_1 x5_2).f3)) ∧ w'.cell? ⟨(ad308.add ((x5_2).toNat * 8)).block, (ad308.add ((x5_2).toNat * 8)).off + 4, none⟩ = some (.int .i64 ((rd_T51 l0_1 x5_2).f4)) ∧ w'.cell? ⟨(ad308.add ((x5_2).toNat * 8)).block, (ad308.add ((x5_2).toNat * 8)).off + 5, none⟩ = some (.int .i64 ((rd_T51 l0_1 x5_2).f5)) ∧ w'.cell? ⟨(ad308.add ((x5_2).toNat * 8)).block, (ad308.add ((x5_2).toNat * 8)).off + 6, none⟩ = some (.int .i64 ((rd_T51 l0_1 x5_2).f6)) ∧ w'.cell? ⟨(ad308.add ((x5_2).toNat * 8)).block, (ad308.add ((x5_2).toNat * 8)).off + 7, none⟩ = some (.slice A308_7 ((rd_T51 l0_1 x5_2).f7).length c308_7) ∧ w'.cell? (ad309.add ((x5_2).toNat * 8)) = some (.int .u64 ((rd_T51 l1_1 x5_2).f0)) ∧ w'.cell? ⟨(ad309.add ((x5_2).toNat * 8)).block, (ad309.add ((x5_2).toNat * 8)).off + 1, none⟩ = some (.int .u16 ((rd_T51 l1_1 x5_2).f1)) ∧ w'.cell? ⟨(ad309.add ((x5_2).toNat * 8)).block, (ad309.add ((x5_2).toNat * 8)).off + 2, none⟩ = some (.int .i64 ((rd_T51 l1_1 x5_2).f2)) ∧ w'.cell? ⟨(ad309.add ((x5_2).toNat * 8)).block, (ad309.add ((x5_2).toNat * 8)).off + 3, none⟩ = some (.int .i64 ((rd_T51 l1_1 x5_2).f3)) ∧ w'.cell? ⟨(ad309.add ((x5_2).toNat * 8)).block, (ad309.add ((x5_2).toNat * 8)).off + 4, none⟩ = some (.int .i64 ((rd_T51 l1_1 x5_2).f4)) ∧ w'.cell? ⟨(ad309.add ((x5_2).toNat * 8)).block, (ad309.add ((x5_2).toNat * 8)).off + 5, none⟩ = some (.int .i64 ((rd_T51 l1_1 x5_2).f5)) ∧ w'.cell? ⟨(ad309.add ((x5_2).toNat * 8)).block, (ad309.add ((x5_2).toNat * 8)).off + 6, none⟩ = some (.int .i64 ((rd_T51 l1_1 x5_2).f6)) ∧ w'.cell? ⟨(ad309.add ((x5_2).toNat * 8)).block, (ad309.add ((x5_2).toNat * 8)).off + 7, none⟩ = some (.slice A309_7 ((rd_T51 l1_1 x5_2).f7).length c309_7)) (ds := []) #[false, false, false, false, false, false, false, false, false, false, false, false, false, false] (by kernel_rfl) rfl rfl ⟨(blk_cell BK306.out 0).trans rfl, (blk_cell BK306.out 1).trans rfl, (blk_cell BK306.out 2).trans rfl, (blk_cell BK306.out 3).trans rfl, (blk_cell BK307.out 0).trans rfl, (blk_cell BK307.out 1).trans rfl, (blk_cell BK307.out 2).trans rfl, (blk_cell BK307.out 3).trans rfl, ((HB.out.cell (World.block_lt_of_cell? w _ hw308_0)).trans hw308_0), ((HB.out.cell (World.block_lt_of_cell? w _ hw308_1)).trans hw308_1), ((HB.out.cell (World.block_lt_of_cell? w _ hw308_2)).trans hw308_2), ((HB.out.cell (World.block_lt_of_cell? w _ hw308_3)).trans hw308_3), ((HB.out.cell (World.block_lt_of_cell? w _ hw308_4)).trans hw308_4), ((HB.out.cell (World.block_lt_of_cell? w _ hw308_5)).trans hw308_5), ((HB.out.cell (World.block_lt_of_cell? w _ hw308_6)).trans hw308_6), ((HB.out.cell (World.block_lt_of_cell? w _ hw308_7)).trans hw308_7), ((HB.out.cell (World.block_lt_of_cell? w _ hw309_0)).trans hw309_0), ((HB.out.cell (World.block_lt_of_cell? w _ hw309_1)).trans hw309_1), ((HB.out.cell (World.block_lt_of_cell? w _ hw309_2)).trans hw309_2), ((HB.out.cell (World.block_lt_of_cell? w _ hw309_3)).trans hw309_3), ((HB.out.cell (World.block_lt_of_cell? w _ hw309_4)).trans hw309_4), ((HB.out.cell (World.block_lt_of_cell? w _ hw309_5)).trans hw309_5), ((HB.out.cell (World.block_lt_of_cell? w _ hw309_6)).trans hw309_6), ((HB.out.cell (World.block_lt_of_cell? w _ hw309_7)).trans hw309_7)⟩ (fun hHeld => ?_); refine with_tabW treelineref24_SameTopo.tab6 treelineref24_SameTopo.bits6 (fun HT_ HW_ => ?_)
 generalize wr.drew = w28 at BK306 BK307 HB HR308_7 HR309_7 hx308_0 hx308_1 hx308_2 hx308_3 hx308_4 hx308_5 hx308_6 hx308_7 hx309_0 hx309_1 hx309_2 hx309_3 hx309_4 hx309_5 hx309_6 hx309_7 hHeld ⊢
 refine pS 0 49 HT_ ?_
 refine pS 2 51 HT_ ?_
 refine pS 5 54 HT_ ?_
 refine pS 7 56 HT_ ?_
 refine tS 1 50 HT_ HW_ hHeld ?_
 refine pS 3 52 HT_ ?_
 refine tS 4 53 HT_ HW_ hHeld ?_
 refine tS 6 55 HT_ HW_ hHeld ?_
 refine pS 8 57 HT_ ?_
 refine tS 9 58 HT_ HW_ hHeld ?_
 refine join_ (σ := Nat × Nat) 2 #[true, true, true, true, true, true, true, true, true, true, true, true, false, false] (fun s_ => [(6, .pointer (some ⟨s_.1, 0, none⟩)), (7, .pointer (some ⟨s_.2, 0, none⟩))]) (fun s_ w' => (w'.cell? ⟨gb306, 0, none⟩ = some (.int .i64 a0_0) ∧ w'.cell? ⟨gb306, 1, none⟩ = some (.slice (some ad308) l0_1.length c0_1) ∧ w'.cell? ⟨gb306, 2, none⟩ = some (.slice A0_2 l0_2.length c0_2) ∧ w'.cell? ⟨gb306, 3, none⟩ = some (.slice A0_3 l0_3.length c0_3) ∧ w'.cell? ⟨gb307, 0, none⟩ = some (.int .i64 a1_0) ∧ w'.cell? ⟨gb307, 1, none⟩ = some (.slice (some ad309) l1_1.length c1_1) ∧ w'.cell? ⟨gb307, 2, none⟩ = some (.slice A1_2 l1_2.length c1_2) ∧ w'.cell? ⟨gb307, 3, none⟩ = some (.slice A1_3 l1_3.length c1_3) ∧ w'.cell? (ad308.add ((x5_2).toNat * 8)) = some (.int .u64 ((rd_T51 l0_1 x5_2).f0)) ∧ w'.cell? ⟨(ad308.add ((x5_2).toNat * 8)).block, (ad308.add ((x5_2).toNat * 8)).off + 1, none⟩ = some (.int .u16 ((rd_T51 l0_1 x5_2).f1)) ∧ w'.cell? ⟨(ad308.add ((x5_2).toNat * 8)).block, (ad308.add ((x5_2).toNat * 8)).off + 2, none⟩ = some (.int .i64 ((rd_T51 l0_1 x5_2).f2)) ∧ w'.cell? ⟨(ad308.add ((x5_2).toNat * 8)).block, (ad308.add ((x5_2).toNat * 8)).off + 3, none⟩ = some (.int .i64 ((rd_T51 l0_1 x5_2).f3)) ∧ w'.cell? ⟨(ad308.add ((x5_2).toNat * 8)).block, (ad308.add ((x5_2).toNat * 8)).off + 4, none⟩ = some (.int .i64 ((rd_T51 l0_1 x5_2).f4)) ∧ w'.cell? ⟨(ad308.add ((x5_2).toNat * 8)).block, (ad308.add ((x5_2).toNat * 8)).off + 5, none⟩ = some (.int .i64 ((rd_T51 l0_1 x5_2).f5)) ∧ w'.cell? ⟨(ad308.add ((x5_2).toNat * 8)).block, (ad308.add ((x5_2).toNat * 8)).off + 6, none⟩ = some (.int .i64 ((rd_T51 l0_1 x5_2).f6)) ∧ w'.cell? ⟨(ad308.add ((x5_2).toNat * 8)).block, (ad308.add ((x5_2).toNat * 8)).off + 7, none⟩ = some (.slice A308_7 ((rd_T51 l0_1 x5_2).f7).length c308_7) ∧ w'.cell? (ad309.add ((x5_2).toNat * 8)) = some (.int .u64 ((rd_T51 l1_1 x5_2).f0)) ∧ w'.cell? ⟨(ad309.add ((x5_2).toNat * 8)).block, (ad309.add ((x5_2).toNat * 8)).off + 1, none⟩ = some (.int .u16 ((rd_T51 l1_1 x5_2).f1)) ∧ w'.cell? ⟨(ad309.add ((x5_2).toNat * 8)).block, (ad309.add ((x5_2).toNat * 8)).off + 2, none⟩ = some (.int .i64 ((rd_T51 l1_1 x5_2).f2)) ∧ w'.cell? ⟨(ad309.add ((x5_2).toNat * 8)).block, (ad309.add ((x5_2).toNat * 8)).off + 3, none⟩ = some (.int .i64 ((rd_T51 l1_1 x5_2).f3)) ∧ w'.cell? ⟨(ad309.add ((x5_2).toNat * 8)).block, (ad309.add ((x5_2).toNat * 8)).off + 4, none⟩ = some (.int .i64 ((rd_T51 l1_1 x5_2).f4)) ∧ w'.cell? ⟨(ad309.add ((x5_2).toNat * 8)).block, (ad309.add ((x5_2).toNat * 8)).off + 5, none⟩ = some (.int .i64 ((rd_T51 l1_1 x5_2).f5)) ∧ w'.cell? ⟨(ad309.add ((x5_2).toNat * 8)).block, (ad309.add ((x5_2).toNat * 8)).off + 6, none⟩ = some (.int .i64 ((rd_T51 l1_1 x5_2).f6)) ∧ w'.cell? ⟨(ad309.add ((x5_2).toNat * 8)).block, (ad309.add ((x5_2).toNat * 8)).off + 7, none⟩ = some (.slice A309_7 ((rd_T51 l1_1 x5_2).f7).length c309_7)) ∧ (w'.heap[gb306]? = some (.cells #[.int .i64 a0_0, .slice (some ad308) l0_1.length c0_1, .slice A0_2 l0_2.length c0_2, .slice A0_3 l0_3.length c0_3] 28 (0, 0))) ∧ (w'.heap[gb307]? = some (.cells #[.int .i64 a1_0, .slice (some ad309) l1_1.length c1_1, .slice A1_2 l1_2.length c1_2, .slice A1_3 l1_3.length c1_3] 28 (0, 0))) ∧ (w'.heap[s_.1]? = some (.cells #[.int .u64 0, .int .u16 0, .int .i64 0, .int .i64 0, .int .i64 0, .int .i64 0, .int .i64 0, .slice none 0 0] 51 (0, 0))) ∧ (w'.heap[s_.2]? = some (.cells #[.int .u64 0, .int .u16 0, .int .i64 0, .int .i64 0, .int .i64 0, .int .i64 0, .int .i64 0, .slice none 0 0] 51 (0, 0))) ∧ (w.heap.size ≤ s_.1) ∧ (w.heap.size ≤ s_.1) ∧ (gb306 ≠ s_.1) ∧ (s_.1 ≠ gb306) ∧ (gb307 ≠ s_.1) ∧ (s_.1 ≠ gb307) ∧ (s_.2 ≠ s_.1) ∧ (s_.1 ≠ s_.2) ∧ (w.heap.size ≤ s_.2) ∧ (w.heap.size ≤ s_.2) ∧ (gb306 ≠ s_.2) ∧ (s_.2 ≠ gb306) ∧ (gb307 ≠ s_.2) ∧ (s_.2 ≠ gb307) ∧ (Below w.heap.size w w')) ?_ ?_
 rotate_left
 ·intro hCont
  refine two_ (i := 10) (j := 11) (Ni := some 6) (Nj := some 7) #[true, true, true, true, true, true, true, true, true, true, true, false, false, false] #[true, true, true, true, true, true, true, true, true, true, false, true, false, false] rfl rfl rfl rfl (two_of HT_.out (by kernel_rfl)) (by decide) (by decide) (fun K hK => ?_) (fun K hK => ?_)
  ·skip
   refine box_step ?hg (N := 6) ?hd (cs := #[.int .u64 0, .int .u16 0, .int .i64 0, .int .i64 0, .int .i64 0, .int .i64 0, .int .i64 0, .slice none 0 0]) (t := 51) ?hr ?_; (case hd => rfl); (case hg => rfl); (case hr => first | (go_simp; done) | (go_simp; rfl))
   intro gb310 hg w29 hbox hb
   have BK310 := Aside0.mk (hbox)
   have GW310 := Aside0.mk ((by rw [hg]; exact (below_size bB) : w.heap.size ≤ gb310))
   have GE310 := Aside0.mk ((by rw [hg]; exact (below_size bB) : w.heap.size ≤ gb310))
   replace HB := Aside0.mk (below_step bB hb)
   have NB306_310 := Aside0.mk (nbL (bw BK306.out) hg : gb306 ≠ gb310)
   have NB310_306 := Aside0.mk (nbL (bw BK306.out) hg : gb306 ≠ gb310).symm
   replace BK306 := Aside0.mk (blk_below (g := gb306) (o := .cells #[.int .i64 a0_0, .slice (some ad308) l0_1.length c0_1, .slice A0_2 l0_2.length c0_2, .slice A0_3 l0_3.length c0_3] 28 (0, 0)) (bw BK306.out) hb)
   have NB307_310 := Aside0.mk (nbL (bw BK307.out) hg : gb307 ≠ gb310)
   have NB310_307 := Aside0.mk (nbL (bw BK307.out) hg : gb307 ≠ gb310).symm
   replace BK307 := Aside0.mk (blk_below (g := gb307) (o := .cells #[.int .i64 a1_0, .slice (some ad309) l1_1.length c1_1, .slice A1_2 l1_2.length c1_2, .slice A1_3 l1_3.length c1_3] 28 (0, 0)) (bw BK307.out) hb)
   clear hb hbox hg
   refine hK.out _ _ ⟨(blk_cell BK306.out 0).trans rfl, (blk_cell BK306.out 1).trans rfl, (blk_cell BK306.out 2).trans rfl, (blk_cell BK306.out 3).trans rfl, (blk_cell BK307.out 0).trans rfl, (blk_cell BK307.out 1).trans rfl, (blk_cell BK307.out 2).trans rfl, (blk_cell BK307.out 3).trans rfl, ((HB.out.cell (World.block_lt_of_cell? w _ hw308_0)).trans hw308_0), ((HB.out.cell (World.block_lt_of_cell? w _ hw308_1)).trans hw308_1), ((HB.out.cell (World.block_lt_of_cell? w _ hw308_2)).trans hw308_2), ((HB.out.cell (World.block_lt_of_cell? w _ hw308_3)).trans hw308_3), ((HB.out.cell (World.block_lt_of_cell? w _ hw308_4)).trans hw308_4), ((HB.out.cell (World.block_lt_of_cell? w _ hw308_5)).trans hw308_5), ((HB.out.cell (World.block_lt_of_cell? w _ hw308_6)).trans hw308_6), ((HB.out.cell (World.block_lt_of_cell? w _ hw308_7)).trans hw308_7), ((HB.out.cell (World.block_lt_of_cell? w _ hw309_0)).trans hw309_0), ((HB.out.cell (World.block_lt_of_cell? w _ hw309_1)).trans hw309_1), ((HB.out.cell (World.block_lt_of_cell? w _ hw309_2)).trans hw309_2), ((HB.out.cell (World.block_lt_of_cell? w _ hw309_3)).trans hw309_3), ((HB.out.cell (World.block_lt_of_cell? w _ hw309_4)).trans hw309_4), ((HB.out.cell (World.block_lt_of_cell? w _ hw309_5)).trans hw309_5), ((HB.out.cell (World.block_lt_of_cell? w _ hw309_6)).trans hw309_6), ((HB.out.cell (World.block_lt_of_cell? w _ hw309_7)).trans hw309_7)⟩ (fun hHeld => ?_)
   clear hK K
   refine nS 6 ?_
   refine one_ (i := 11) (N := some 7) #[true, true, true, true, true, true, true, true, true, true, true, true, false, false] rfl rfl (one_of HT_.out (by kernel_rfl)) (by decide) (fun K hK => ?_)
   refine box_step ?hg (N := 7) ?hd (cs := #[.int .u64 0, .int .u16 0, .int .i64 0, .int .i64 0, .int .i64 0, .int .i64 0, .int .i64 0, .slice none 0 0]) (t := 51) ?hr ?_; (case hd => rfl); (case hg => rfl); (case hr => first | (go_simp; done) | (go_simp; rfl))
   intro gb311 hg w30 hbox hb
   have BK311 := Aside0.mk (hbox)
   have GW311 := Aside0.mk ((by rw [hg]; exact (below_size bB) : w.heap.size ≤ gb311))
   have GE311 := Aside0.mk ((by rw [hg]; exact (below_size bB) : w.heap.size ≤ gb311))
   replace HB := Aside0.mk (below_step bB hb)
   have NB306_311 := Aside0.mk (nbL (bw BK306.out) hg : gb306 ≠ gb311)
   have NB311_306 := Aside0.mk (nbL (bw BK306.out) hg : gb306 ≠ gb311).symm
   replace BK306 := Aside0.mk (blk_below (g := gb306) (o := .cells #[.int .i64 a0_0, .slice (some ad308) l0_1.length c0_1, .slice A0_2 l0_2.length c0_2, .slice A0_3 l0_3.length c0_3] 28 (0, 0)) (bw BK306.out) hb)
   have NB307_311 := Aside0.mk (nbL (bw BK307.out) hg : gb307 ≠ gb311)
   have NB311_307 := Aside0.mk (nbL (bw BK307.out) hg : gb307 ≠ gb311).symm
   replace BK307 := Aside0.mk (blk_below (g := gb307) (o := .cells #[.int .i64 a1_0, .slice (some ad309) l1_1.length c1_1, .slice A1_2 l1_2.length c1_2, .slice A1_3 l1_3.length c1_3] 28 (0, 0)) (bw BK307.out) hb)
   have NB310_311 := Aside0.mk (nbL (bw BK310.out) hg : gb310 ≠ gb311)
   have NB311_310 := Aside0.mk (nbL (bw BK310.out) hg : gb310 ≠ gb311).symm
   replace BK310 := Aside0.mk (blk_below (g := gb310) (o := .cells #[.int .u64 0, .int .u16 0, .int .i64 0, .int .i64 0, .int .i64 0, .int .i64 0, .int .i64 0, .slice none 0 0] 51 (0, 0)) (bw BK310.out) hb)
   clear hb hbox hg
   refine hK.out _ _ ⟨(blk_cell BK306.out 0).trans rfl, (blk_cell BK306.out 1).trans rfl, (blk_cell BK306.out 2).trans rfl, (blk_cell BK306.out 3).trans rfl, (blk_cell BK307.out 0).trans rfl, (blk_cell BK307.out 1).trans rfl, (blk_cell BK307.out 2).trans rfl, (blk_cell BK307.out 3).trans rfl, ((HB.out.cell (World.block_lt_of_cell? w _ hw308_0)).trans hw308_0), ((HB.out.cell (World.block_lt_of_cell? w _ hw308_1)).trans hw308_1), ((HB.out.cell (World.block_lt_of_cell? w _ hw308_2)).trans hw308_2), ((HB.out.cell (World.block_lt_of_cell? w _ hw308_3)).trans hw308_3), ((HB.out.cell (World.block_lt_of_cell? w _ hw308_4)).trans hw308_4), ((HB.out.cell (World.block_lt_of_cell? w _ hw308_5)).trans hw308_5), ((HB.out.cell (World.block_lt_of_cell? w _ hw308_6)).trans hw308_6), ((HB.out.cell (World.block_lt_of_cell? w _ hw308_7)).trans hw308_7), ((HB.out.cell (World.block_lt_of_cell? w _ hw309_0)).trans hw309_0), ((HB.out.cell (World.block_lt_of_cell? w _ hw309_1)).trans hw309_1), ((HB.out.cell (World.block_lt_of_cell? w _ hw309_2)).trans hw309_2), ((HB.out.cell (World.block_lt_of_cell? w _ hw309_3)).trans hw309_3), ((HB.out.cell (World.block_lt_of_cell? w _ hw309_4)).trans hw309_4), ((HB.out.cell (World.block_lt_of_cell? w _ hw309_5)).trans hw309_5), ((HB.out.cell (World.block_lt_of_cell? w _ hw309_6)).trans hw309_6), ((HB.out.cell (World.block_lt_of_cell? w _ hw309_7)).trans hw309_7)⟩ (fun hHeld => ?_)
   clear hK K
   refine nS 7 ?_
   exact norm_ (by simp only [putAll, Act.put, List.setIfInBounds_toArray, List.set_cons_zero, List.set_cons_succ]) (hCont (gb310, gb311) _ ⟨hHeld, (bw BK306.out), (bw BK307.out), (bw BK310.out), (bw BK311.out), GW310.out, GE310.out, NB306_310.out, NB310_306.out, NB307_310.out, NB310_307.out, NB311_310.out, NB310_311.out, GW311.out, GE311.out, NB306_311.out, NB311_306.out, NB307_311.out, NB311_307.out, bB⟩)
  skip
  refine box_step ?hg (N := 7) ?hd (cs := #[.int .u64 0, .int .u16 0, .int .i64 0, .int .i64 0, .int .i64 0, .int .i64 0, .int .i64 0, .slice none 0 0]) (t := 51) ?hr ?_; (case hd => rfl); (case hg => rfl); (case hr => first | (go_simp; done) | (go_simp; rfl))
  intro gb311 hg w29 hbox hb
  have BK311 := Aside0.mk (hbox)
  have GW311 := Aside0.mk ((by rw [hg]; exact (below_size bB) : w.heap.size ≤ gb311))
  have GE311 := Aside0.mk ((by rw [hg]; exact (below_size bB) : w.heap.size ≤ gb311))
  replace HB := Aside0.mk (below_step bB hb)
  have NB306_311 := Aside0.mk (nbL (bw BK306.out) hg : gb306 ≠ gb311)
  have NB311_306 := Aside0.mk (nbL (bw BK306.out) hg : gb306 ≠ gb311).symm
  replace BK306 := Aside0.mk (blk_below (g := gb306) (o := .cells #[.int .i64 a0_0, .slice (some ad308) l0_1.length c0_1, .slice A0_2 l0_2.length c0_2, .slice A0_3 l0_3.length c0_3] 28 (0, 0)) (bw BK306.out) hb)
  have NB307_311 := Aside0.mk (nbL (bw BK307.out) hg : gb307 ≠ gb311)
  have NB311_307 := Aside0.mk (nbL (bw BK307.out) hg : gb307 ≠ gb311).symm
  replace BK307 := Aside0.mk (blk_below (g := gb307) (o := .cells #[.int .i64 a1_0, .slice (some ad309) l1_1.length c1_1, .slice A1_2 l1_2.length c1_2, .slice A1_3 l1_3.length c1_3] 28 (0, 0)) (bw BK307.out) hb)
  clear hb hbox hg
  refine hK.out _ _ ⟨(blk_cell BK306.out 0).trans rfl, (blk_cell BK306.out 1).trans rfl, (blk_cell BK306.out 2).trans rfl, (blk_cell BK306.out 3).trans rfl, (blk_cell BK307.out 0).trans rfl, (blk_cell BK307.out 1).trans rfl, (blk_cell BK307.out 2).trans rfl, (blk_cell BK307.out 3).trans rfl, ((HB.out.cell (World.block_lt_of_cell? w _ hw308_0)).trans hw308_0), ((HB.out.cell (World.block_lt_of_cell? w _ hw308_1)).trans hw308_1), ((HB.out.cell (World.block_lt_of_cell? w _ hw308_2)).trans hw308_2), ((HB.out.cell (World.block_lt_of_cell? w _ hw308_3)).trans hw308_3), ((HB.out.cell (World.block_lt_of_cell? w _ hw308_4)).trans hw308_4), ((HB.out.cell (World.block_lt_of_cell? w _ hw308_5)).trans hw308_5), ((HB.out.cell (World.block_lt_of_cell? w _ hw308_6)).trans hw308_6), ((HB.out.cell (World.block_lt_of_cell? w _ hw308_7)).trans hw308_7), ((HB.out.cell (World.block_lt_of_cell? w _ hw309_0)).trans hw309_0), ((HB.out.cell (World.block_lt_of_cell? w _ hw309_1)).trans hw309_1), ((HB.out.cell (World.block_lt_of_cell? w _ hw309_2)).trans hw309_2), ((HB.out.cell (World.block_lt_of_cell? w _ hw309_3)).trans hw309_3), ((HB.out.cell (World.block_lt_of_cell? w _ hw309_4)).trans hw309_4), ((HB.out.cell (World.block_lt_of_cell? w _ hw309_5)).trans hw309_5), ((HB.out.cell (World.block_lt_of_cell? w _ hw309_6)).trans hw309_6), ((HB.out.cell (World.block_lt_of_cell? w _ hw309_7)).trans hw309_7)⟩ (fun hHeld => ?_)
  clear hK K
  refine nS 7 ?_
  refine one_ (i := 10) (N := some 6) #[true, true, true, true, true, true, true, true, true, true, true, true, false, false] rfl rfl (one_of HT_.out (by kernel_rfl)) (by decide) (fun K hK => ?_)
  refine box_step ?hg (N := 6) ?hd (cs := #[.int .u64 0, .int .u16 0, .int .i64 0, .int .i64 0, .int .i64 0, .int .i64 0, .int .i64 0, .slice none 0 0]) (t := 51) ?hr ?_; (case hd => rfl); (case hg => rfl); (case hr => first | (go_simp; done) | (go_simp; rfl))
  intro gb310 hg w30 hbox hb
  have BK310 := Aside0.mk (hbox)
  have GW310 := Aside0.mk ((by rw [hg]; exact (below_size bB) : w.heap.size ≤ gb310))
  have GE310 := Aside0.mk ((by rw [hg]; exact (below_size bB) : w.heap.size ≤ gb310))
  replace HB := Aside0.mk (below_step bB hb)
  have NB306_310 := Aside0.mk (nbL (bw BK306.out) hg : gb306 ≠ gb310)
  have NB310_306 := Aside0.mk (nbL (bw BK306.out) hg : gb306 ≠ gb310).symm
  replace BK306 := Aside0.mk (blk_below (g := gb306) (o := .cells #[.int .i64 a0_0, .slice (some ad308) l0_1.length c0_1, .slice A0_2 l0_2.length c0_2, .slice A0_3 l0_3.length c0_3] 28 (0, 0)) (bw BK306.out) hb)
  have NB307_310 := Aside0.mk (nbL (bw BK307.out) hg : gb307 ≠ gb310)
  have NB310_307 := Aside0.mk (nbL (bw BK307.out) hg : gb307 ≠ gb310).symm
  replace BK307 := Aside0.mk (blk_below (g := gb307) (o := .cells #[.int .i64 a1_0, .slice (some ad309) l1_1.length c1_1, .slice A1_2 l1_2.length c1_2, .slice A1_3 l1_3.length c1_3] 28 (0, 0)) (bw BK307.out) hb)
  have NB311_310 := Aside0.mk (nbL (bw BK311.out) hg : gb311 ≠ gb310)
  have NB310_311 := Aside0.mk (nbL (bw BK311.out) hg : gb311 ≠ gb310).symm
  replace BK311 := Aside0.mk (blk_below (g := gb311) (o := .cells #[.int .u64 0, .int .u16 0, .int .i64 0, .int .i64 0, .int .i64 0, .int .i64 0, .int .i64 0, .slice none 0 0] 51 (0, 0)) (bw BK311.out) hb)
  clear hb hbox hg
  refine hK.out _ _ ⟨(blk_cell BK306.out 0).trans rfl, (blk_cell BK306.out 1).trans rfl, (blk_cell BK306.out 2).trans rfl, (blk_cell BK306.out 3).trans rfl, (blk_cell BK307.out 0).trans rfl, (blk_cell BK307.out 1).trans rfl, (blk_cell BK307.out 2).trans rfl, (blk_cell BK307.out 3).trans rfl, ((HB.out.cell (World.block_lt_of_cell? w _ hw308_0)).trans hw308_0), ((HB.out.cell (World.block_lt_of_cell? w _ hw308_1)).trans hw308_1), ((HB.out.cell (World.block_lt_of_cell? w _ hw308_2)).trans hw308_2), ((HB.out.cell (World.block_lt_of_cell? w _ hw308_3)).trans hw308_3), ((HB.out.cell (World.block_lt_of_cell? w _ hw308_4)).trans hw308_4), ((HB.out.cell (World.block_lt_of_cell? w _ hw308_5)).trans hw308_5), ((HB.out.cell (World.block_lt_of_cell? w _ hw308_6)).trans hw308_6), ((HB.out.cell (World.block_lt_of_cell? w _ hw308_7)).trans hw308_7), ((HB.out.cell (World.block_lt_of_cell? w _ hw309_0)).trans hw309_0), ((HB.out.cell (World.block_lt_of_cell? w _ hw309_1)).trans hw309_1), ((HB.out.cell (World.block_lt_of_cell? w _ hw309_2)).trans hw309_2), ((HB.out.cell (World.block_lt_of_cell? w _ hw309_3)).trans hw309_3), ((HB.out.cell (World.block_lt_of_cell? w _ hw309_4)).trans hw309_4), ((HB.out.cell (World.block_lt_of_cell? w _ hw309_5)).trans hw309_5), ((HB.out.cell (World.block_lt_of_cell? w _ hw309_6)).trans hw309_6), ((HB.out.cell (World.block_lt_of_cell? w _ hw309_7)).trans hw309_7)⟩ (fun hHeld => ?_)
  clear hK K
  refine nS 6 ?_
  exact norm_ (by simp only [putAll, Act.put, List.setIfInBounds_toArray, List.set_cons_zero, List.set_cons_succ]) (hCont (gb310, gb311) _ ⟨hHeld, (bw BK306.out), (bw BK307.out), (bw BK310.out), (bw BK311.out), GW310.out, GE310.out, NB306_310.out, NB310_306.out, NB307_310.out, NB310_307.out, NB311_310.out, NB310_311.out, GW311.out, GE311.out, NB306_311.out, NB311_306.out, NB307_311.out, NB311_307.out, bB⟩)
 rintro ⟨gb310, gb311⟩ w31 ⟨hS_, h0_, h1_, h2_, h3_, h4_, h5_, h6_, h7_, h8_, h9_, h10_, h11_, h12_, h13_, h14_, h15_, h16_, h17_, h18_⟩
 replace BK306 : Aside0 (w31.heap[gb306]? = some (.cells #[.int .i64 a0_0, .slice (some ad308) l0_1.length c0_1, .slice A0_2 l0_2.length c0_2, .slice A0_3 l0_3.length c0_3] 28 (0, 0))) := ⟨h0_⟩
 replace BK307 : Aside0 (w31.heap[gb307]? = some (.cells #[.int .i64 a1_0, .slice (some ad309) l1_1.length c1_1, .slice A1_2 l1_2.length c1_2, .slice A1_3 l1_3.length c1_3] 28 (0, 0))) := ⟨h1_⟩
 have BK310 : Aside0 (w31.heap[gb310]? = some (.cells #[.int .u64 0, .int .u16 0, .int .i64 0, .int .i64 0, .int .i64 0, .int .i64 0, .int .i64 0, .slice none 0 0] 51 (0, 0))) := ⟨h2_⟩
 have BK311 : Aside0 (w31.heap[gb311]? = some (.cells #[.int .u64 0, .int .u16 0, .int .i64 0, .int .i64 0, .int .i64 0, .int .i64 0, .int .i64 0, .slice none 0 0] 51 (0, 0))) := ⟨h3_⟩
 have GW310 : Aside0 (w.heap.size ≤ gb310) := ⟨h4_⟩
 have GE310 : Aside0 (w.heap.size ≤ gb310) := ⟨h5_⟩
 have NB306_310 : Aside0 (gb306 ≠ gb310) := ⟨h6_⟩
 have NB310_306 : Aside0 (gb310 ≠ gb306) := ⟨h7_⟩
 have NB307_310 : Aside0 (gb307 ≠ gb310) := ⟨h8_⟩
 have NB310_307 : Aside0 (gb310 ≠ gb307) := ⟨h9_⟩
 have NB311_310 : Aside0 (gb311 ≠ gb310) := ⟨h10_⟩
 have NB310_311 : Aside0 (gb310 ≠ gb311) := ⟨h11_⟩
 have GW311 : Aside0 (w.heap.size ≤ gb311) := ⟨h12_⟩
 have GE311 : Aside0 (w.heap.size ≤ gb311) := ⟨h13_⟩
 have NB306_311 : Aside0 (gb306 ≠ gb311) := ⟨h14_⟩
 have NB311_306 : Aside0 (gb311 ≠ gb306) := ⟨h15_⟩
 have NB307_311 : Aside0 (gb307 ≠ gb311) := ⟨h16_⟩
 have NB311_307 : Aside0 (gb311 ≠ gb307) := ⟨h17_⟩
 replace HB : Aside0 (Below w.heap.size w w31) := ⟨h18_⟩
 clear h0_ h1_ h2_ h3_ h4_ h5_ h6_ h7_ h8_ h9_ h10_ h11_ h12_ h13_ h14_ h15_ h16_ h17_ h18_
 have hHeld : w31.cell? ⟨gb306, 0, none⟩ = some (.int .i64 a0_0) ∧ w31.cell? ⟨gb306, 1, none⟩ = some (.slice (some ad308) l0_1.length c0_1) ∧ w31.cell? ⟨gb306, 2, none⟩ = some (.slice A0_2 l0_2.length c0_2) ∧ w31.cell? ⟨gb306, 3, none⟩ = some (.slice A0_3 l0_3.length c0_3) ∧ w31.cell? ⟨gb307, 0, none⟩ = some (.int .i64 a1_0) ∧ w31.cell? ⟨gb307, 1, none⟩ = some (.slice (some ad309) l1_1.length c1_1) ∧ w31.cell? ⟨gb307, 2, none⟩ = some (.slice A1_2 l1_2.length c1_2) ∧ w31.cell? ⟨gb307, 3, none⟩ = some (.slice A1_3 l1_3.length c1_3) ∧ w31.cell? (ad308.add ((x5_2).toNat * 8)) = some (.int .u64 ((rd_T51 l0_1 x5_2).f0)) ∧ w31.cell? ⟨(ad308.add ((x5_2).toNat * 8)).block, (ad308.add ((x5_2).toNat * 8)).off + 1, none⟩ = some (.int .u16 ((rd_T51 l0_1 x5_2).f1)) ∧ w31.cell? ⟨(ad308.add ((x5_2).toNat * 8)).block, (ad308.add ((x5_2).toNat * 8)).off + 2, none⟩ = some (.int .i64 ((rd_T51 l0_1 x5_2).f2)) ∧ w31.cell? ⟨(ad308.add ((x5_2).toNat * 8)).block, (ad308.add ((x5_2).toNat * 8)).off + 3, none⟩ = some (.int .i64 ((rd_T51 l0_1 x5_2).f3)) ∧ w31.cell? ⟨(ad308.add ((x5_2).toNat * 8)).block, (ad308.add ((x5_2).toNat * 8)).off + 4, none⟩ = some (.int .i64 ((rd_T51 l0_1 x5_2).f4)) ∧ w31.cell? ⟨(ad308.add ((x5_2).toNat * 8)).block, (ad308.add ((x5_2).toNat * 8)).off + 5, none⟩ = some (.int .i64 ((rd_T51 l0_1 x5_2).f5)) ∧ w31.cell? ⟨(ad308.add ((x5_2).toNat * 8)).block, (ad308.add ((x5_2).toNat * 8)).off + 6, none⟩ = some (.int .i64 ((rd_T51 l0_1 x5_2).f6)) ∧ w31.cell? ⟨(ad308.add ((x5_2).toNat * 8)).block, (ad308.add ((x5_2).toNat * 8)).off + 7, none⟩ = some (.slice A308_7 ((rd_T51 l0_1 x5_2).f7).length c308_7) ∧ w31.cell? (ad309.add ((x5_2).toNat * 8)) = some (.int .u64 ((rd_T51 l1_1 x5_2).f0)) ∧ w31.cell? ⟨(ad309.add ((x5_2).toNat * 8)).block, (ad309.add ((x5_2).toNat * 8)).off + 1, none⟩ = some (.int .u16 ((rd_T51 l1_1 x5_2).f1)) ∧ w31.cell? ⟨(ad309.add ((x5_2).toNat * 8)).block, (ad309.add ((x5_2).toNat * 8)).off + 2, none⟩ = some (.int .i64 ((rd_T51 l1_1 x5_2).f2)) ∧ w31.cell? ⟨(ad309.add ((x5_2).toNat * 8)).block, (ad309.add ((x5_2).toNat * 8)).off + 3, none⟩ = some (.int .i64 ((rd_T51 l1_1 x5_2).f3)) ∧ w31.cell? ⟨(ad309.add ((x5_2).toNat * 8)).block, (ad309.add ((x5_2).toNat * 8)).off + 4, none⟩ = some (.int .i64 ((rd_T51 l1_1 x5_2).f4)) ∧ w31.cell? ⟨(ad309.add ((x5_2).toNat * 8)).block, (ad309.add ((x5_2).toNat * 8)).off + 5, none⟩ = some (.int .i64 ((rd_T51 l1_1 x5_2).f5)) ∧ w31.cell? ⟨(ad309.add ((x5_2).toNat * 8)).block, (ad309.add ((x5_2).toNat * 8)).off + 6, none⟩ = some (.int .i64 ((rd_T51 l1_1 x5_2).f6)) ∧ w31.cell? ⟨(ad309.add ((x5_2).toNat * 8)).block, (ad309.add ((x5_2).toNat * 8)).off + 7, none⟩ = some (.slice A309_7 ((rd_T51 l1_1 x5_2).f7).length c309_7) := hS_
 refine norm_ (a' := ?_) ?_ ?_
 rotate_left
 ·simp only [putAll, Act.put, List.setIfInBounds_toArray, List.set_cons_zero, List.set_cons_succ]
  rfl
 refine one_ (i := 12) (N := none) #[true, true, true, true, true, true, true, true, true, true, true, true, true, false] rfl rfl (one_of HT_.out (by kernel_rfl)) (by decide) (fun K hK => ?_)
 have hs32 : w31.cell? ⟨gb310, 0, none⟩ = some (.int .u64 0) := (blk_cell BK310.out 0).trans rfl
 have hfs32 := blk_frozen BK310.out 0
 have hns32_0 := NB306_310.out
 have hns32_1 := NB307_310.out
 have hns32_3 := NB311_310.out
 have hms32_0 := NB310_306.out
 have hms32_1 := NB310_307.out
 have hms32_3 := NB310_311.out
 have hs33 : w31.cell? ⟨gb310, 1, none⟩ = some (.int .u16 0) := (blk_cell BK310.out 1).trans rfl
 have hfs33 := blk_frozen BK310.out 1
 have hns33_0 := NB306_310.out
 have hns33_1 := NB307_310.out
 have hns33_3 := NB311_310.out
 have hms33_0 := NB310_306.out
 have hms33_1 := NB310_307.out
 have hms33_3 := NB310_311.out
 have hs34 : w31.cell? ⟨gb310, 2, none⟩ = some (.int .i64 0) := (blk_cell BK310.out 2).trans rfl
 have hfs34 := blk_frozen BK310.out 2
 have hns34_0 := NB306_310.out
 have hns34_1 := NB307_310.out
 have hns34_3 := NB311_310.out
 have hms34_0 := NB310_306.out
 have hms34_1 := NB310_307.out
 have hms34_3 := NB310_311.out
 have hs35 : w31.cell? ⟨gb310, 3, none⟩ = some (.int .i64 0) := (blk_cell BK310.out 3).trans rfl
 have hfs35 := blk_frozen BK310.out 3
 have hns35_0 := NB306_310.out
 have hns35_1 := NB307_310.out
 have hns35_3 := NB311_310.out
 have hms35_0 := NB310_306.out
 have hms35_1 := NB310_307.out
 have hms35_3 := NB310_311.out
 have hs36 : w31.cell? ⟨gb310, 4, none⟩ = some (.int .i64 0) := (blk_cell BK310.out 4).trans rfl
 have hfs36 := blk_frozen BK310.out 4
 have hns36_0 := NB306_310.out
 have hns36_1 := NB307_310.out
 have hns36_3 := NB311_310.out
 have hms36_0 := NB310_306.out
 have hms36_1 := NB310_307.out
 have hms36_3 := NB310_311.out
 have hs37 : w31.cell? ⟨gb310, 5, none⟩ = some (.int .i64 0) := (blk_cell BK310.out 5).trans rfl
 have hfs37 := blk_frozen BK310.out 5
 have hns37_0 := NB306_310.out
 have hns37_1 := NB307_310.out
 have hns37_3 := NB311_310.out
 have hms37_0 := NB310_306.out
 have hms37_1 := NB310_307.out
 have hms37_3 := NB310_311.out
 have hs38 : w31.cell? ⟨gb310, 6, none⟩ = some (.int .i64 0) := (blk_cell BK310.out 6).trans rfl
 have hfs38 := blk_frozen BK310.out 6
 have hns38_0 := NB306_310.out
 have hns38_1 := NB307_310.out
 have hns38_3 := NB311_310.out
 have hms38_0 := NB310_306.out
 have hms38_1 := NB310_307.out
 have hms38_3 := NB310_311.out
 have hs39 : w31.cell? ⟨gb310, 7, none⟩ = some (.slice none 0 0) := (blk_cell BK310.out 7).trans rfl
 have hfs39 := blk_frozen BK310.out 7
 have hns39_0 := NB306_310.out
 have hns39_1 := NB307_310.out
 have hns39_3 := NB311_310.out
 have hms39_0 := NB310_306.out
 have hms39_1 := NB310_307.out
 have hms39_3 := NB310_311.out
 refine skip_ (w1 := ?_) (by rfl) rfl ?_ ?_
 rotate_left
 ·go_simp
  rfl
 refine hK.out _ _ ⟨(far8 hHeld.1 NB306_310.out), (far8 hHeld.2.1 NB306_310.out), (far8 hHeld.2.2.1 NB306_310.out), (far8 hHeld.2.2.2.1 NB306_310.out), (far8 hHeld.2.2.2.2.1 NB307_310.out), (far8 hHeld.2.2.2.2.2.1 NB307_310.out), (far8 hHeld.2.2.2.2.2.2.1 NB307_310.out), (far8 hHeld.2.2.2.2.2.2.2.1 NB307_310.out), (far8 hHeld.2.2.2.2.2.2.2.2.1 (by have := cfC_ hw308_0 GW310.out; first | rwa [add_block] at this | exact this)), (far8 hHeld.2.2.2.2.2.2.2.2.2.1 (by have := cfC_ hw308_1 GW310.out; first | rwa [add_block] at this | exact this)), (far8 hHeld.2.2.2.2.2.2.2.2.2.2.1 (by have := cfC_ hw308_2 GW310.out; first | rwa [add_block] at this | exact this)), (far8 hHeld.2.2.2.2.2.2.2.2.2.2.2.1 (by have := cfC_ hw308_3 GW310.out; first | rwa [add_block] at this | exact this)), (far8 hHeld.2.2.2.2.2.2.2.2.2.2.2.2.1 (by have := cfC_ hw308_4 GW310.out; first | rwa [add_block] at this | exact this)), (far8 hHeld.2.2.2.2.2.2.2.2.2.2.2.2.2.1 (by have := cfC_ hw308_5 GW310.out; first | rwa [add_block] at this | exact this)), (far8 hHeld.2.2.2.2.2.2.2.2.2.2.2.2.2.2.1 (by have := cfC_ hw308_6 GW310.out; first | rwa [add_block] at this | exact this)), (far8 hHeld.2.2.2.2.2.2.2.2.2.2.2.2.2.2.2.1 (by have := cfC_ hw308_7 GW310.out; first | rwa [add_block] at this | exact this)), (far8 hHeld.2.2.2.2.2.2.2.2.2.2.2.2.2.2.2.2.1 (by have := cfC_ hw309_0 GW310.out; first | rwa [add_block] at this | exact this)), (far8 hHeld.2.2.2.2.2.2.2.2.2.2.2.2.2.2.2.2.2.1 (by have := cfC_ hw309_1 GW310.out; first | rwa [add_block] at this | exact this)), (far8 hHeld.2.2.2.2.2.2.2.2.2.2.2.2.2.2.2.2.2.2.1 (by have := cfC_ hw309_2 GW310.out; first | rwa [add_block] at this | exact this)), (far8 hHeld.2.2.2.2.2.2.2.2.2.2.2.2.2.2.2.2.2.2.2.1 (by have := cfC_ hw309_3 GW310.out; first | rwa [add_block] at this | exact this)), (far8 hHeld.2.2.2.2.2.2.2.2.2.2.2.2.2.2.2.2.2.2.2.2.1 (by have := cfC_ hw309_4 GW310.out; first | rwa [add_block] at this | exact this)), (far8 hHeld.2.2.2.2.2.2.2.2.2.2.2.2.2.2.2.2.2.2.2.2.2.1 (by have := cfC_ hw309_5 GW310.out; first | rwa [add_block] at this | exact this)), (far8 hHeld.2.2.2.2.2.2.2.2.2.2.2.2.2.2.2.2.2.2.2.2.2.2.1 (by have := cfC_ hw309_6 GW310.out; first | rwa [add_block] at this | exact this)), (far8 hHeld.2.2.2.2.2.2.2.2.2.2.2.2.2.2.2.2.2.2.2.2.2.2.2 (by have := cfC_ hw309_7 GW310.out; first | rwa [add_block] at this | exact this))⟩ (fun hHeld => ?_)
 clear hK K
 generalize hW32 : ((((((((w31.setCell ⟨gb310, 0, none⟩ (.int .u64 ((rd_T51 l0_1 x5_2).f0))).setCell ⟨gb310, 1, none⟩ (.int .u16 ((rd_T51 l0_1 x5_2).f1))).setCell ⟨gb310, 2, none⟩ (.int .i64 ((rd_T51 l0_1 x5_2).f2))).setCell ⟨gb310, 3, none⟩ (.int .i64 ((rd_T51 l0_1 x5_2).f3))).setCell ⟨gb310, 4, none⟩ (.int .i64 ((rd_T51 l0_1 x5_2).f4))).setCell ⟨gb310, 5, none⟩ (.int .i64 ((rd_T51 l0_1 x5_2).f5))).setCell ⟨gb310, 6, none⟩ (.int .i64 ((rd_T51 l0_1 x5_2).f6))).setCell ⟨gb310, 7, none⟩ (.slice A308_7 ((rd_T51 l0_1 x5_2).f7).length c308_7)) = w32 at hHeld ⊢
 replace BK306 : Aside0 (w32.heap[gb306]? = some (.cells #[.int .i64 a0_0, .slice (some ad308) l0_1.length c0_1, .slice A0_2 l0_2.length c0_2, .slice A0_3 l0_3.length c0_3] 28 (0, 0))) := ⟨by rw [← hW32]; exact bfar8 BK306.out NB306_310.out⟩
 replace BK307 : Aside0 (w32.heap[gb307]? = some (.cells #[.int .i64 a1_0, .slice (some ad309) l1_1.length c1_1, .slice A1_2 l1_2.length c1_2, .slice A1_3 l1_3.length c1_3] 28 (0, 0))) := ⟨by rw [← hW32]; exact bfar8 BK307.out NB307_310.out⟩
 replace BK310 : Aside0 (w32.heap[gb310]? = some (.cells #[.int .u64 ((rd_T51 l0_1 x5_2).f0), .int .u16 ((rd_T51 l0_1 x5_2).f1), .int .i64 ((rd_T51 l0_1 x5_2).f2), .int .i64 ((rd_T51 l0_1 x5_2).f3), .int .i64 ((rd_T51 l0_1 x5_2).f4), .int .i64 ((rd_T51 l0_1 x5_2).f5), .int .i64 ((rd_T51 l0_1 x5_2).f6), .slice A308_7 ((rd_T51 l0_1 x5_2).f7).length c308_7] 51 (0, 0))) := ⟨by rw [← hW32]; exact put8 BK310.out⟩
 replace BK311 : Aside0 (w32.heap[gb311]? = some (.cells #[.int .u64 0, .int .u16 0, .int .i64 0, .int .i64 0, .int .i64 0, .int .i64 0, .int .i64 0, .slice none 0 0] 51 (0, 0))) := ⟨by rw [← hW32]; exact bfar8 BK311.out NB311_310.out⟩
 replace HB : Aside0 (Below w.heap.size w w32) := ⟨by rw [← hW32]; exact bel8 HB.out GE310.out⟩
 clear hW32
 refine one_ (i := 13) (N := none) #[true, true, true, true, true, true, true, true, true, true, true, true, true, true] rfl rfl (one_of HT_.out (by kernel_rfl)) (by decide) (fun K hK => ?_)
 have hs40 : w32.cell? ⟨gb311, 0, none⟩ = some (.int .u64 0) := (blk_cell BK311.out 0).trans rfl
 have hfs40 := blk_frozen BK311.out 0
 have hns40_0 := NB306_311.out
 have hns40_1 := NB307_311.out
 have hns40_2 := NB310_311.out
 have hms40_0 := NB311_306.out
 have hms40_1 := NB311_307.out
 have hms40_2 := NB311_310.out
 have hs41 : w32.cell? ⟨gb311, 1, none⟩ = some (.int .u16 0) := (blk_cell BK311.out 1).trans rfl
 have hfs41 := blk_frozen BK311.out 1
 have hns41_0 := NB306_311.out
 have hns41_1 := NB307_311.out
 have hns41_2 := NB310_311.out
 have hms41_0 := NB311_306.out
 have hms41_1 := NB311_307.out
 have hms41_2 := NB311_310.out
 have hs42 : w32.cell? ⟨gb311, 2, none⟩ = some (.int .i64 0) := (blk_cell BK311.out 2).trans rfl
 have hfs42 := blk_frozen BK311.out 2
 have hns42_0 := NB306_311.out
 have hns42_1 := NB307_311.out
 have hns42_2 := NB310_311.out
 have hms42_0 := NB311_306.out
 have hms42_1 := NB311_307.out
 have hms42_2 := NB311_310.out
 have hs43 : w32.cell? ⟨gb311, 3, none⟩ = some (.int .i64 0) := (blk_cell BK311.out 3).trans rfl
 have hfs43 := blk_frozen BK311.out 3
 have hns43_0 := NB306_311.out
 have hns43_1 := NB307_311.out
 have hns43_2 := NB310_311.out
 have hms43_0 := NB311_306.out
 have hms43_1 := NB311_307.out
 have hms43_2 := NB311_310.out
 have hs44 : w32.cell? ⟨gb311, 4, none⟩ = some (.int .i64 0) := (blk_cell BK311.out 4).trans rfl
 have hfs44 := blk_frozen BK311.out 4
 have hns44_0 := NB306_311.out
 have hns44_1 := NB307_311.out
 have hns44_2 := NB310_311.out
 have hms44_0 := NB311_306.out
 have hms44_1 := NB311_307.out
 have hms44_2 := NB311_310.out
 have hs45 : w32.cell? ⟨gb311, 5, none⟩ = some (.int .i64 0) := (blk_cell BK311.out 5).trans rfl
 have hfs45 := blk_frozen BK311.out 5
 have hns45_0 := NB306_311.out
 have hns45_1 := NB307_311.out
 have hns45_2 := NB310_311.out
 have hms45_0 := NB311_306.out
 have hms45_1 := NB311_307.out
 have hms45_2 := NB311_310.out
 have hs46 : w32.cell? ⟨gb311, 6, none⟩ = some (.int .i64 0) := (blk_cell BK311.out 6).trans rfl
 have hfs46 := blk_frozen BK311.out 6
 have hns46_0 := NB306_311.out
 have hns46_1 := NB307_311.out
 have hns46_2 := NB310_311.out
 have hms46_0 := NB311_306.out
 have hms46_1 := NB311_307.out
 have hms46_2 := NB311_310.out
 have hs47 : w32.cell? ⟨gb311, 7, none⟩ = some (.slice none 0 0) := (blk_cell BK311.out 7).trans rfl
 have hfs47 := blk_frozen BK311.out 7
 have hns47_0 := NB306_311.out
 have hns47_1 := NB307_311.out
 have hns47_2 := NB310_311.out
 have hms47_0 := NB311_306.out
 have hms47_1 := NB311_307.out
 have hms47_2 := NB311_310.out
 refine skip_ (w1 := ?_) (by rfl) rfl ?_ ?_
 rotate_left
 ·go_simp
  rfl
 refine hK.out _ _ ⟨(far8 hHeld.1 NB306_311.out), (far8 hHeld.2.1 NB306_311.out), (far8 hHeld.2.2.1 NB306_311.out), (far8 hHeld.2.2.2.1 NB306_311.out), (far8 hHeld.2.2.2.2.1 NB307_311.out), (far8 hHeld.2.2.2.2.2.1 NB307_311.out), (far8 hHeld.2.2.2.2.2.2.1 NB307_311.out), (far8 hHeld.2.2.2.2.2.2.2.1 NB307_311.out), (far8 hHeld.2.2.2.2.2.2.2.2.1 (by have := cfC_ hw308_0 GW311.out; first | rwa [add_block] at this | exact this)), (far8 hHeld.2.2.2.2.2.2.2.2.2.1 (by have := cfC_ hw308_1 GW311.out; first | rwa [add_block] at this | exact this)), (far8 hHeld.2.2.2.2.2.2.2.2.2.2.1 (by have := cfC_ hw308_2 GW311.out; first | rwa [add_block] at this | exact this)), (far8 hHeld.2.2.2.2.2.2.2.2.2.2.2.1 (by have := cfC_ hw308_3 GW311.out; first | rwa [add_block] at this | exact this)), (far8 hHeld.2.2.2.2.2.2.2.2.2.2.2.2.1 (by have := cfC_ hw308_4 GW311.out; first | rwa [add_block] at this | exact this)), (far8 hHeld.2.2.2.2.2.2.2.2.2.2.2.2.2.1 (by have := cfC_ hw308_5 GW311.out; first | rwa [add_block] at this | exact this)), (far8 hHeld.2.2.2.2.2.2.2.2.2.2.2.2.2.2.1 (by have := cfC_ hw308_6 GW311.out; first | rwa [add_block] at this | exact this)), (far8 hHeld.2.2.2.2.2.2.2.2.2.2.2.2.2.2.2.1 (by have := cfC_ hw308_7 GW311.out; first | rwa [add_block] at this | exact this)), (far8 hHeld.2.2.2.2.2.2.2.2.2.2.2.2.2.2.2.2.1 (by have := cfC_ hw309_0 GW311.out; first | rwa [add_block] at this | exact this)), (far8 hHeld.2.2.2.2.2.2.2.2.2.2.2.2.2.2.2.2.2.1 (by have := cfC_ hw309_1 GW311.out; first | rwa [add_block] at this | exact this)), (far8 hHeld.2.2.2.2.2.2.2.2.2.2.2.2.2.2.2.2.2.2.1 (by have := cfC_ hw309_2 GW311.out; first | rwa [add_block] at this | exact this)), (far8 hHeld.2.2.2.2.2.2.2.2.2.2.2.2.2.2.2.2.2.2.2.1 (by have := cfC_ hw309_3 GW311.out; first | rwa [add_block] at this | exact this)), (far8 hHeld.2.2.2.2.2.2.2.2.2.2.2.2.2.2.2.2.2.2.2.2.1 (by have := cfC_ hw309_4 GW311.out; first | rwa [add_block] at this | exact this)), (far8 hHeld.2.2.2.2.2.2.2.2.2.2.2.2.2.2.2.2.2.2.2.2.2.1 (by have := cfC_ hw309_5 GW311.out; first | rwa [add_block] at this | exact this)), (far8 hHeld.2.2.2.2.2.2.2.2.2.2.2.2.2.2.2.2.2.2.2.2.2.2.1 (by have := cfC_ hw309_6 GW311.out; first | rwa [add_block] at this | exact this)), (far8 hHeld.2.2.2.2.2.2.2.2.2.2.2.2.2.2.2.2.2.2.2.2.2.2.2 (by have := cfC_ hw309_7 GW311.out; first | rwa [add_block] at this | exact this))⟩ (fun hHeld => ?_)
 clear hK K
 refine done_ (done_of HT_.out (by kernel_rfl)) ?_
 go_upto_region 7 with (fail)
 go_cut [129] (fun v129 wc => ∃ (kq : Nat) (x129_24 : Bool), v129 = .bool x129_24 ∧ Aside0 (treelineref24_SameTopo.j2 kq x5_2 x129_24 a0_0 l0_1 l0_2 l0_3 a1_0 l1_1 l1_2 l1_3 ((rd_T51 l0_1 x5_2).f0) ((rd_T51 l0_1 x5_2).f1) ((rd_T51 l0_1 x5_2).f2) ((rd_T51 l0_1 x5_2).f3) ((rd_T51 l0_1 x5_2).f4) ((rd_T51 l0_1 x5_2).f5) ((rd_T51 l0_1 x5_2).f6) ((rd_T51 l0_1 x5_2).f7) ((rd_T51 l1_1 x5_2).f0) ((rd_T51 l1_1 x5_2).f1) ((rd_T51 l1_1 x5_2).f2) ((rd_T51 l1_1 x5_2).f3) ((rd_T51 l1_1 x5_2).f4) ((rd_T51 l1_1 x5_2).f5) ((rd_T51 l1_1 x5_2).f6) ((rd_T51 l1_1 x5_2).f7) = some r) ∧ Aside0 (kq ≤ k2) ∧ Aside0 (wc.heap[gb306]? = some (.cells #[.int .i64 a0_0, (.slice (some ad308) l0_1.length c0_1), (.slice A0_2 l0_2.length c0_2), (.slice A0_3 l0_3.length c0_3)] 28 (0, 0))) ∧ Aside0 (wc.heap[gb307]? = some (.cells #[.int .i64 a1_0, (.slice (some ad309) l1_1.length c1_1), (.slice A1_2 l1_2.length c1_2), (.slice A1_3 l1_3.length c1_3)] 28 (0, 0))) ∧ Aside0 (wc.heap[gb310]? = some (.cells #[.int .u64 ((rd_T51 l0_1 x5_2).f0), .int .u16 ((rd_T51 l0_1 x5_2).f1), .int .i64 ((rd_T51 l0_1 x5_2).f2), .int .i64 ((rd_T51 l0_1 x5_2).f3), .int .i64 ((rd_T51 l0_1 x5_2).f4), .int .i64 ((rd_T51 l0_1 x5_2).f5), .int .i64 ((rd_T51 l0_1 x5_2).f6), (.slice A308_7 ((rd_T51 l0_1 x5_2).f7).length c308_7)] 51 (0, 0))) ∧ Aside0 (wc.heap[gb311]? = some (.cells #[.int .u64 ((rd_T51 l1_1 x5_2).f0), .int .u16 ((rd_T51 l1_1 x5_2).f1), .int .i64 ((rd_T51 l1_1 x5_2).f2), .int .i64 ((rd_T51 l1_1 x5_2).f3), .int .i64 ((rd_T51 l1_1 x5_2).f4), .int .i64 ((rd_T51 l1_1 x5_2).f5), .int .i64 ((rd_T51 l1_1 x5_2).f6), (.slice A309_7 ((rd_T51 l1_1 x5_2).f7).length c309_7)] 51 (0, 0))) ∧ Aside0 (Below w.heap.size w wc))
 case first =>
  have H := HC25.out
  clear HC25
  by_cases c48 : ((rd_T51 l0_1 x5_2).f0) = ((rd_T51 l1_1 x5_2).f0)
  rotate_left
  ·exact absurd (by rw [E1.out]) c48
  rw [if_pos c48] at H
  have c48b0 : (((rd_T51 l0_1 x5_2).f0) == ((rd_T51 l1_1 x5_2).f0)) = true := beq_iff_eq.mpr c48
  have c48b1 : (((rd_T51 l0_1 x5_2).f0) != ((rd_T51 l1_1 x5_2).f0)) = false := bne_eq_false_iff_eq.mpr c48
  clear c48
  (first | rw [c48b0] | (simp only [i64_w, i32_w]; rw [c48b0]) | skip)
  by_cases c49 : ((rd_T51 l0_1 x5_2).f1) = ((rd_T51 l1_1 x5_2).f1)
  rotate_left
  ·exact absurd (by rw [E1.out]) c49
  rw [if_pos c49] at H
  have c49b0 : (((rd_T51 l0_1 x5_2).f1) == ((rd_T51 l1_1 x5_2).f1)) = true := beq_iff_eq.mpr c49
  have c49b1 : (((rd_T51 l0_1 x5_2).f1) != ((rd_T51 l1_1 x5_2).f1)) = false := bne_eq_false_iff_eq.mpr c49
  clear c49
  by_cases c50 : ((rd_T51 l0_1 x5_2).f2) = ((rd_T51 l1_1 x5_2).f2)
  rotate_left
  ·exact absurd (by rw [E1.out]) c50
  rw [if_pos c50] at H
  have c50b0 : (((rd_T51 l0_1 x5_2).f2) == ((rd_T51 l1_1 x5_2).f2)) = true := beq_iff_eq.mpr c50
  have c50b1 : (((rd_T51 l0_1 x5_2).f2) != ((rd_T51 l1_1 x5_2).f2)) = false := bne_eq_false_iff_eq.mpr c50
  clear c50
  by_cases c51 : ((rd_T51 l0_1 x5_2).f3) = ((rd_T51 l1_1 x5_2).f3)
  rotate_left
  ·exact absurd (by rw [E1.out]) c51
  rw [if_pos c51] at H
  have c51b0 : (((rd_T51 l0_1 x5_2).f3) == ((rd_T51 l1_1 x5_2).f3)) = true := beq_iff_eq.mpr c51
  have c51b1 : (((rd_T51 l0_1 x5_2).f3) != ((rd_T51 l1_1 x5_2).f3)) = false := bne_eq_false_iff_eq.mpr c51
  clear c51
  by_cases c52 : ((rd_T51 l0_1 x5_2).f4) = ((rd_T51 l1_1 x5_2).f4)
  rotate_left
  ·exact absurd (by rw [E1.out]) c52
  rw [if_pos c52] at H
  have c52b0 : (((rd_T51 l0_1 x5_2).f4) == ((rd_T51 l1_1 x5_2).f4)) = true := beq_iff_eq.mpr c52
  have c52b1 : (((rd_T51 l0_1 x5_2).f4) != ((rd_T51 l1_1 x5_2).f4)) = false := bne_eq_false_iff_eq.mpr c52
  clear c52
  by_cases c53 : ((rd_T51 l0_1 x5_2).f5) = ((rd_T51 l1_1 x5_2).f5)
  rotate_left
  ·exact absurd (by rw [E1.out]) c53
  rw [if_pos c53] at H
  have c53b0 : (((rd_T51 l0_1 x5_2).f5) == ((rd_T51 l1_1 x5_2).f5)) = true := beq_iff_eq.mpr c53
  have c53b1 : (((rd_T51 l0_1 x5_2).f5) != ((rd_T51 l1_1 x5_2).f5)) = false := bne_eq_false_iff_eq.mpr c53
  clear c53
  by_cases c54 : ((rd_T51 l0_1 x5_2).f6) = ((rd_T51 l1_1 x5_2).f6)
  rotate_left
  ·exact absurd (by rw [E1.out]) c54
  rw [if_pos c54] at H
  have c54b0 : (((rd_T51 l0_1 x5_2).f6) == ((rd_T51 l1_1 x5_2).f6)) = true := beq_iff_eq.mpr c54
  have c54b1 : (((rd_T51 l0_1 x5_2).f6) != ((rd_T51 l1_1 x5_2).f6)) = false := bne_eq_false_iff_eq.mpr c54
  clear c54
  by_cases c55 : (((rd_T51 l0_1 x5_2).f7).length : Int) = (((rd_T51 l1_1 x5_2).f7).length : Int)
  rotate_left
  ·exact absurd (by rw [E1.out]) c55
  rw [if_pos c55] at H
  have c55b0 : ((((rd_T51 l0_1 x5_2).f7).length : Int) == (((rd_T51 l1_1 x5_2).f7).length : Int)) = true := beq_iff_eq.mpr c55
  have c55b1 : ((((rd_T51 l0_1 x5_2).f7).length : Int) != (((rd_T51 l1_1 x5_2).f7).length : Int)) = false := bne_eq_false_iff_eq.mpr c55
  have c55b2 : (((rd_T51 l0_1 x5_2).f7).length == ((rd_T51 l1_1 x5_2).f7).length) = true := by first | simpa using c55 | (simp at c55 ⊢; omega)
  clear c55
  by_cases c56 : x5_2 < (l0_2.length : Int)
  rotate_left
  ·rw [if_neg c56] at H
   exact absurd H (by simp)
  rw [if_pos c56] at H
  have c56b0 : decide (x5_2 < (l0_2.length : Int)) = true := decide_eq_true c56
  clear c56
  by_cases c57 : x5_2 < (l1_2.length : Int)
  rotate_left
  ·rw [if_neg c57] at H
   exact absurd H (by simp)
  rw [if_pos c57] at H
  have c57b0 : decide (x5_2 < (l1_2.length : Int)) = true := decide_eq_true c57
  clear c57
  have H' := Aside0.mk H
  clear H
  try go_wp2
  have n0_ : Aside0 (((((((((w32.setCell ⟨gb311, 0, none⟩ (.int .u64 ((rd_T51 l1_1 x5_2).f0))).setCell ⟨gb311, 1, none⟩ (.int .u16 ((rd_T51 l1_1 x5_2).f1))).setCell ⟨gb311, 2, none⟩ (.int .i64 ((rd_T51 l1_1 x5_2).f2))).setCell ⟨gb311, 3, none⟩ (.int .i64 ((rd_T51 l1_1 x5_2).f3))).setCell ⟨gb311, 4, none⟩ (.int .i64 ((rd_T51 l1_1 x5_2).f4))).setCell ⟨gb311, 5, none⟩ (.int .i64 ((rd_T51 l1_1 x5_2).f5))).setCell ⟨gb311, 6, none⟩ (.int .i64 ((rd_T51 l1_1 x5_2).f6))).setCell ⟨gb311, 7, none⟩ (.slice A309_7 ((rd_T51 l1_1 x5_2).f7).length c309_7)).heap[gb306]? = some (.cells #[.int .i64 a0_0, .slice (some ad308) l0_1.length c0_1, .slice A0_2 l0_2.length c0_2, .slice A0_3 l0_3.length c0_3] 28 (0, 0))) := ⟨bfar8 BK306.out NB306_311.out⟩
  have n1_ : Aside0 (((((((((w32.setCell ⟨gb311, 0, none⟩ (.int .u64 ((rd_T51 l1_1 x5_2).f0))).setCell ⟨gb311, 1, none⟩ (.int .u16 ((rd_T51 l1_1 x5_2).f1))).setCell ⟨gb311, 2, none⟩ (.int .i64 ((rd_T51 l1_1 x5_2).f2))).setCell ⟨gb311, 3, none⟩ (.int .i64 ((rd_T51 l1_1 x5_2).f3))).setCell ⟨gb311, 4, none⟩ (.int .i64 ((rd_T51 l1_1 x5_2).f4))).setCell ⟨gb311, 5, none⟩ (.int .i64 ((rd_T51 l1_1 x5_2).f5))).setCell ⟨gb311, 6, none⟩ (.int .i64 ((rd_T51 l1_1 x5_2).f6))).setCell ⟨gb311, 7, none⟩ (.slice A309_7 ((rd_T51 l1_1 x5_2).f7).length c309_7)).heap[gb307]? = some (.cells #[.int .i64 a1_0, .slice (some ad309) l1_1.length c1_1, .slice A1_2 l1_2.length c1_2, .slice A1_3 l1_3.length c1_3] 28 (0, 0))) := ⟨bfar8 BK307.out NB307_311.out⟩
  have n2_ : Aside0 (((((((((w32.setCell ⟨gb311, 0, none⟩ (.int .u64 ((rd_T51 l1_1 x5_2).f0))).setCell ⟨gb311, 1, none⟩ (.int .u16 ((rd_T51 l1_1 x5_2).f1))).setCell ⟨gb311, 2, none⟩ (.int .i64 ((rd_T51 l1_1 x5_2).f2))).setCell ⟨gb311, 3, none⟩ (.int .i64 ((rd_T51 l1_1 x5_2).f3))).setCell ⟨gb311, 4, none⟩ (.int .i64 ((rd_T51 l1_1 x5_2).f4))).setCell ⟨gb311, 5, none⟩ (.int .i64 ((rd_T51 l1_1 x5_2).f5))).setCell ⟨gb311, 6, none⟩ (.int .i64 ((rd_T51 l1_1 x5_2).f6))).setCell ⟨gb311, 7, none⟩ (.slice A309_7 ((rd_T51 l1_1 x5_2).f7).length c309_7)).heap[gb310]? = some (.cells #[.int .u64 ((rd_T51 l0_1 x5_2).f0), .int .u16 ((rd_T51 l0_1 x5_2).f1), .int .i64 ((rd_T51 l0_1 x5_2).f2), .int .i64 ((rd_T51 l0_1 x5_2).f3), .int .i64 ((rd_T51 l0_1 x5_2).f4), .int .i64 ((rd_T51 l0_1 x5_2).f5), .int .i64 ((rd_T51 l0_1 x5_2).f6), .slice A308_7 ((rd_T51 l0_1 x5_2).f7).length c308_7] 51 (0, 0))) := ⟨bfar8 BK310.out NB310_311.out⟩
  have n3_ : Aside0 (((((((((w32.setCell ⟨gb311, 0, none⟩ (.int .u64 ((rd_T51 l1_1 x5_2).f0))).setCell ⟨gb311, 1, none⟩ (.int .u16 ((rd_T51 l1_1 x5_2).f1))).setCell ⟨gb311, 2, none⟩ (.int .i64 ((rd_T51 l1_1 x5_2).f2))).setCell ⟨gb311, 3, none⟩ (.int .i64 ((rd_T51 l1_1 x5_2).f3))).setCell ⟨gb311, 4, none⟩ (.int .i64 ((rd_T51 l1_1 x5_2).f4))).setCell ⟨gb311, 5, none⟩ (.int .i64 ((rd_T51 l1_1 x5_2).f5))).setCell ⟨gb311, 6, none⟩ (.int .i64 ((rd_T51 l1_1 x5_2).f6))).setCell ⟨gb311, 7, none⟩ (.slice A309_7 ((rd_T51 l1_1 x5_2).f7).length c309_7)).heap[gb311]? = some (.cells #[.int .u64 ((rd_T51 l1_1 x5_2).f0), .int .u16 ((rd_T51 l1_1 x5_2).f1), .int .i64 ((rd_T51 l1_1 x5_2).f2), .int .i64 ((rd_T51 l1_1 x5_2).f3), .int .i64 ((rd_T51 l1_1 x5_2).f4), .int .i64 ((rd_T51 l1_1 x5_2).f5), .int .i64 ((rd_T51 l1_1 x5_2).f6), .slice A309_7 ((rd_T51 l1_1 x5_2).f7).length c309_7] 51 (0, 0))) := ⟨put8 BK311.out⟩
  have n4_ : Aside0 (Below w.heap.size w ((((((((w32.setCell ⟨gb311, 0, none⟩ (.int .u64 ((rd_T51 l1_1 x5_2).f0))).setCell ⟨gb311, 1, none⟩ (.int .u16 ((rd_T51 l1_1 x5_2).f1))).setCell ⟨gb311, 2, none⟩ (.int .i64 ((rd_T51 l1_1 x5_2).f2))).setCell ⟨gb311, 3, none⟩ (.int .i64 ((rd_T51 l1_1 x5_2).f3))).setCell ⟨gb311, 4, none⟩ (.int .i64 ((rd_T51 l1_1 x5_2).f4))).setCell ⟨gb311, 5, none⟩ (.int .i64 ((rd_T51 l1_1 x5_2).f5))).setCell ⟨gb311, 6, none⟩ (.int .i64 ((rd_T51 l1_1 x5_2).f6))).setCell ⟨gb311, 7, none⟩ (.slice A309_7 ((rd_T51 l1_1 x5_2).f7).length c309_7))) := ⟨bel8 HB.out GE311.out⟩
  (try clear BK306)
  (try clear BK307)
  (try clear BK310)
  (try clear BK311)
  (try clear HB)
  (try simp only [setCell_drewN_])
  generalize ((((((((w32.setCell ⟨gb311, 0, none⟩ (.int .u64 ((rd_T51 l1_1 x5_2).f0))).setCell ⟨gb311, 1, none⟩ (.int .u16 ((rd_T51 l1_1 x5_2).f1))).setCell ⟨gb311, 2, none⟩ (.int .i64 ((rd_T51 l1_1 x5_2).f2))).setCell ⟨gb311, 3, none⟩ (.int .i64 ((rd_T51 l1_1 x5_2).f3))).setCell ⟨gb311, 4, none⟩ (.int .i64 ((rd_T51 l1_1 x5_2).f4))).setCell ⟨gb311, 5, none⟩ (.int .i64 ((rd_T51 l1_1 x5_2).f5))).setCell ⟨gb311, 6, none⟩ (.int .i64 ((rd_T51 l1_1 x5_2).f6))).setCell ⟨gb311, 7, none⟩ (.slice A309_7 ((rd_T51 l1_1 x5_2).f7).length c309_7)) = w58 at n0_ n1_ n2_ n3_ n4_ ⊢
  have BK306 := n0_
  have BK307 := n1_
  have BK310 := n2_
  have BK311 := n3_
  have HB := n4_
  clear n0_ n1_ n2_ n3_ n4_
  replace BK306 := Aside0.mk (blk_drew BK306.out)
  replace BK307 := Aside0.mk (blk_drew BK307.out)
  replace BK310 := Aside0.mk (blk_drew BK310.out)
  replace BK311 := Aside0.mk (blk_drew BK311.out)
  replace HB := Aside0.mk (below_drew1 HB.out)
  have p312 : 0 ≤ (x5_2 : Int) := of_decide_eq_true (by first | (with_reducible assumption) | assumption)
  have q312 : x5_2 < (l0_2.length : Int) := of_decide_eq_true (by first | (with_reducible assumption) | assumption)
  obtain ⟨ad312, A312_0, c312_0, e312, hx312_0, hl312_0, hi312_0⟩ := at_L9 HR0_2.out x5_2 p312 q312
  have hw312_0 := hx312_0
  cases e312
  replace hx312_0 := (HB.out.cell (World.block_lt_of_cell? w _ hx312_0)).trans hx312_0
  have HR312_0 := Aside0.mk hi312_0
  have HC312_0 := Aside0.mk hl312_0
  clear hi312_0 hl312_0
  replace p312 := eq_true p312
  replace q312 := eq_true q312
  have p313 : 0 ≤ (x5_2 : Int) := of_decide_eq_true (by first | (with_reducible assumption) | assumption)
  have q313 : x5_2 < (l1_2.length : Int) := of_decide_eq_true (by first | (with_reducible assumption) | assumption)
  obtain ⟨ad313, A313_0, c313_0, e313, hx313_0, hl313_0, hi313_0⟩ := at_L9 HR1_2.out x5_2 p313 q313
  have hw313_0 := hx313_0
  cases e313
  replace hx313_0 := (HB.out.cell (World.block_lt_of_cell? w _ hx313_0)).trans hx313_0
  have HR313_0 := Aside0.mk hi313_0
  have HC313_0 := Aside0.mk hl313_0
  clear hi313_0 hl313_0
  replace p313 := eq_true p313
  replace q313 := eq_true q313
  refine start_ (n := 71) (S := fun w' => w'.cell? ⟨gb310, 0, none⟩ = some (.int .u64 ((rd_T51 l0_1 x5_2).f0)) ∧ w'.cell? ⟨gb310, 1, none⟩ = some (.int .u16 ((rd_T51 l0_1 x5_2).f1)) ∧ w'.cell? ⟨gb310, 2, none⟩ = some (.int .i64 ((rd_T51 l0_1 x5_2).f2)) ∧ w'.cell? ⟨gb310, 3, none⟩ = some (.int .i64 ((rd_T51 l0_1 x5_2).f3)) ∧ w'.cell? ⟨gb310, 4, none⟩ = some (.int .i64 ((rd_T51 l0_1 x5_2).f4)) ∧ w'.cell? ⟨gb310, 5, none⟩ = some (.int .i64 ((rd_T51 l0_1 x5_2).f5)) ∧ w'.cell? ⟨gb310, 6, none⟩ = some (.int .i64 ((rd_T51 l0_1 x5_2).f6)) ∧ w'.cell? ⟨gb310, 7, none⟩ = some (.slice A308_7 ((rd_T51 l0_1 x5_2).f7).length c308_7) ∧ w'.cell? ⟨gb311, 0, none⟩ = some (.int .u64 ((rd_T51 l1_1 x5_2).f0)) ∧ w'.cell? ⟨gb311, 1, none⟩ = some (.int .u16 ((rd_T51 l1_1 x5_2).f1)) ∧ w'.cell? ⟨gb311, 2, none⟩ = some (.int .i64 ((rd_T51 l1_1 x5_2).f2)) ∧ w'.cell? ⟨gb311, 3, none⟩ = some (.int .i64 ((rd_T51 l1_1 x5_2).f3)) ∧ w'.cell? ⟨gb311, 4, none⟩ = some (.int .i64 ((rd_T51 l1_1 x5_2).f4)) ∧ w'.cell? ⟨gb311, 5, none⟩ = some (.int .i64 ((rd_T51 l1_1 x5_2).f5)) ∧ w'.cell? ⟨gb311, 6, none⟩ = some (.int .i64 ((rd_T51 l1_1 x5_2).f6)) ∧ w'.cell? ⟨gb311, 7, none⟩ = some (.slice A309_7 ((rd_T51 l1_1 x5_2).f7).length c309_7) ∧ w'.cell? ⟨gb306, 0, none⟩ = some (.int .i64 a0_0) ∧ w'.cell? ⟨gb306, 1, none⟩ = some (.slice (some ad308) l0_1.length c0_1) ∧ w'.cell? ⟨gb306, 2, none⟩ = some (.slice (some ad312) l0_2.length c0_2) ∧ w'.cell? ⟨gb306, 3, none⟩ = some (.slice A0_3 l0_3.length c0_3) ∧ w'.cell? ⟨gb307, 0, none⟩ = some (.int .i64 a1_0) ∧ w'.cell? ⟨gb307, 1, none⟩ = some (.slice (some ad309) l1_1.length c1_1) ∧ w'.cell? ⟨gb307, 2, none⟩ = some (.slice (some ad313) l1_2.length c1_2) ∧ w'.cell? ⟨gb307, 3, none⟩ = some (.slice A1_3 l1_3.length c1_3) ∧ w'.cell? (ad312.add (x5_2).toNat) = some (.slice A312_0 (rd_L9 l0_2 x5_2).length c312_0) ∧ w'.cell? (ad313.add (x5_2).toNat) = some (.slice A313_0 (rd_L9 l1_2 x5_2).length c313_0)) (ds := []) #[false, false, false, false, false, false, false, false, false, false, false, false, false, false, false, false, false, false, false, false, false, false, false, false, false, false, false, false, false, false, false, false, false, false, false, false, false, false, false, false, false, false, false, false, false, false, false, false, false, false, false, false, false, false, false, false, false, false, false, false, false, false, false, false, false, false, false, false, false, false, false] (by kernel_rfl) rfl rfl ⟨(blk_cell BK310.out 0).trans rfl, (blk_cell BK310.out 1).trans rfl, (blk_cell BK310.out 2).trans rfl, (blk_cell BK310.out 3).trans rfl, (blk_cell BK310.out 4).trans rfl, (blk_cell BK310.out 5).trans rfl, (blk_cell BK310.out 6).trans rfl, (blk_cell BK310.out 7).trans rfl, (blk_cell BK311.out 0).trans rfl, (blk_cell BK311.out 1).trans rfl, (blk_cell BK311.out 2).trans rfl, (blk_cell BK311.out 3).trans rfl, (blk_cell BK311.out 4).trans rfl, (blk_cell BK311.out 5).trans rfl, (blk_cell BK311.out 6).trans rfl, (blk_cell BK311.out 7).trans rfl, (blk_cell BK306.out 0).trans rfl, (blk_cell BK306.out 1).trans rfl, (blk_cell BK306.out 2).trans rfl, (blk_cell BK306.out 3).trans rfl, (blk_cell BK307.out 0).trans rfl, (blk_cell BK307.out 1).trans rfl, (blk_cell BK307.out 2).trans rfl, (blk_cell BK307.out 3).trans rfl, ((HB.out.cell (World.block_lt_of_cell? w _ hw312_0)).trans hw312_0), ((HB.out.cell (World.block_lt_of_cell? w _ hw313_0)).trans hw313_0)⟩ (fun hHeld => ?_); refine with_tabW treelineref24_SameTopo.tab7 treelineref24_SameTopo.bits7 (fun HT_ HW_ => ?_)
  generalize w58.drew = w59 at BK306 BK307 BK310 BK311 HB HR312_0 HR313_0 hx312_0 hx313_0 hHeld ⊢
  refine pS 0 59 HT_ ?_
  refine pS 2 61 HT_ ?_
  refine tS 1 60 HT_ HW_ hHeld ?_
  refine tS 3 62 HT_ HW_ hHeld ?_
  refine pS 4 63 HT_ ?_
  refine pS 5 64 HT_ ?_
  refine pS 6 65 HT_ ?_
  refine pS 8 67 HT_ ?_
  refine tS 7 66 HT_ HW_ hHeld ?_
  refine tS 9 68 HT_ HW_ hHeld ?_
  refine pS 10 69 HT_ ?_
  refine pS 11 70 HT_ ?_
  refine pS 12 71 HT_ ?_
  refine pS 13 72 HT_ ?_
  refine pS 15 74 HT_ ?_
  refine tS 14 73 HT_ HW_ hHeld ?_
  refine tS 16 75 HT_ HW_ hHeld ?_
  refine pS 17 76 HT_ ?_
  refine pS 18 77 HT_ ?_
  refine pS 19 78 HT_ ?_
  refine pS 20 79 HT_ ?_
  refine pS 22 81 HT_ ?_
  refine tS 21 80 HT_ HW_ hHeld ?_
  refine tS 23 82 HT_ HW_ hHeld ?_
  refine pS 24 83 HT_ ?_
  refine pS 25 84 HT_ ?_
  refine pS 26 85 HT_ ?_
  refine pS 27 86 HT_ ?_
  refine pS 29 88 HT_ ?_
  refine tS 28 87 HT_ HW_ hHeld ?_
  refine tS 30 89 HT_ HW_ hHeld ?_
  refine pS 31 90 HT_ ?_
  refine pS 32 91 HT_ ?_
  refine pS 33 92 HT_ ?_
  refine pS 34 93 HT_ ?_
  refine pS 36 95 HT_ ?_
  refine tS 35 94 HT_ HW_ hHeld ?_
  refine tS 37 96 HT_ HW_ hHeld ?_
  refine pS 38 97 HT_ ?_
  refine pS 39 98 HT_ ?_
  refine pS 40 99 HT_ ?_
  refine pS 41 100 HT_ ?_
  refine pS 43 102 HT_ ?_
  refine tS 42 101 HT_ HW_ hHeld ?_
  refine tS 44 103 HT_ HW_ hHeld ?_
  refine pS 45 104 HT_ ?_
  refine pS 46 105 HT_ ?_
  refine pS 47 106 HT_ ?_
  refine pS 48 107 HT_ ?_
  refine pS 51 110 HT_ ?_
  refine tS 49 108 HT_ HW_ hHeld ?_
  refine pS 50 109 HT_ ?_
  refine tS 52 111 HT_ HW_ hHeld ?_
  refine pS 53 112 HT_ ?_
  refine pS 54 113 HT_ ?_
  refine pS 55 114 HT_ ?_
  refine pS 56 115 HT_ ?_
  refine pS 57 116 HT_ ?_
  refine pS 59 118 HT_ ?_
  refine pS 63 122 HT_ ?_
  refine pS 65 124 HT_ ?_
  refine tS 58 117 HT_ HW_ hHeld ?_
  refine pS 60 119 HT_ ?_
  refine tS 61 120 HT_ HW_ hHeld ?_
  refine pS 62 121 HT_ ?_
  refine tS 64 123 HT_ HW_ hHeld ?_
  refine pS 66 125 HT_ ?_
  refine tS 67 126 HT_ HW_ hHeld ?_
  refine pS 68 127 HT_ ?_
  refine pS 69 128 HT_ ?_
  refine pS 70 129 HT_ ?_
  refine done_ (done_of HT_.out (by kernel_rfl)) ?_
  try go_wp2
  go_meet
  case rel => exact ⟨_, ((((rd_L9 l0_2 x5_2).length : Int) != ((rd_L9 l1_2 x5_2).length : Int))), (by first | rfl | (simp; done) | (simp [*]; done)), H', ⟨by have := HJ2.out; have := HK2.out; first | omega | exact Nat.le_refl _⟩, ⟨bw BK306.out⟩, ⟨bw BK307.out⟩, ⟨bw BK310.out⟩, ⟨bw BK311.out⟩, ⟨bB⟩⟩
 clear HC25
 try clear p2
 try clear c48
 try clear c48b0
 try clear c48b1
 obtain ⟨kq, x129_24, rfl, HA, HJ24, BK306, BK307, BK310, BK311, HB⟩ := hcut
 cases kq with
 | zero => exact absurd HA.out (by simp [treelineref24_SameTopo.j2])
 | succ kj24 => ?_
 have H := HA.out
 clear HA
 simp only [treelineref24_SameTopo.j2] at H
 by_cases c76 : x129_24 = true
 ·subst c76
  rw [if_pos rfl] at H
  obtain rfl := Option.some.inj H
  go_wp2
  go_ret
  exact ⟨by first | rfl | (simp [errW_none, errW_some] <;> rfl) | (simp [*, errW_none, errW_some] <;> rfl), by exact bB⟩
 replace c76 := Bool.eq_false_iff.mpr c76
 subst c76
 rw [if_neg (show ¬ (false = true) by decide)] at H
 have H' := Aside0.mk H
 clear H
 go_wp2
 go_loopg [8] kj24 (fun kq v8 w' => ∃ (x8_4 : Int), v8 = .int .i64 x8_4 ∧ Aside0 (treelineref24_SameTopo.l1 kq x5_2 x8_4 a0_0 l0_1 l0_2 l0_3 a1_0 l1_1 l1_2 l1_3 ((rd_T51 l0_1 x5_2).f0) ((rd_T51 l0_1 x5_2).f1) ((rd_T51 l0_1 x5_2).f2) ((rd_T51 l0_1 x5_2).f3) ((rd_T51 l0_1 x5_2).f4) ((rd_T51 l0_1 x5_2).f5) ((rd_T51 l0_1 x5_2).f6) ((rd_T51 l0_1 x5_2).f7) ((rd_T51 l1_1 x5_2).f0) ((rd_T51 l1_1 x5_2).f1) ((rd_T51 l1_1 x5_2).f2) ((rd_T51 l1_1 x5_2).f3) ((rd_T51 l1_1 x5_2).f4) ((rd_T51 l1_1 x5_2).f5) ((rd_T51 l1_1 x5_2).f6) ((rd_T51 l1_1 x5_2).f7) = some r) ∧ Aside0 (kq ≤ kj24) ∧ Aside0 (w'.heap[gb306]? = some (.cells #[.int .i64 a0_0, (.slice (some ad308) l0_1.length c0_1), (.slice A0_2 l0_2.length c0_2), (.slice A0_3 l0_3.length c0_3)] 28 (0, 0))) ∧ Aside0 (w'.heap[gb307]? = some (.cells #[.int .i64 a1_0, (.slice (some ad309) l1_1.length c1_1), (.slice A1_2 l1_2.length c1_2), (.slice A1_3 l1_3.length c1_3)] 28 (0, 0))) ∧ Aside0 (w'.heap[gb310]? = some (.cells #[.int .u64 ((rd_T51 l0_1 x5_2).f0), .int .u16 ((rd_T51 l0_1 x5_2).f1), .int .i64 ((rd_T51 l0_1 x5_2).f2), .int .i64 ((rd_T51 l0_1 x5_2).f3), .int .i64 ((rd_T51 l0_1 x5_2).f4), .int .i64 ((rd_T51 l0_1 x5_2).f5), .int .i64 ((rd_T51 l0_1 x5_2).f6), (.slice A308_7 ((rd_T51 l0_1 x5_2).f7).length c308_7)] 51 (0, 0))) ∧ Aside0 (w'.heap[gb311]? = some (.cells #[.int .u64 ((rd_T51 l1_1 x5_2).f0), .int .u16 ((rd_T51 l1_1 x5_2).f1), .int .i64 ((rd_T51 l1_1 x5_2).f2), .int .i64 ((rd_T51 l1_1 x5_2).f3), .int .i64 ((rd_T51 l1_1 x5_2).f4), .int .i64 ((rd_T51 l1_1 x5_2).f5), .int .i64 ((rd_T51 l1_1 x5_2).f6), (.slice A309_7 ((rd_T51 l1_1 x5_2).f7).length c309_7)] 51 (0, 0))) ∧ Aside0 (Below w.heap.size w w'))
 case atStart => exact ⟨(0), (by first | rfl | (simp; done) | (simp [*]; done)), H', ⟨Nat.le_refl _⟩, ⟨bw BK306.out⟩, ⟨bw BK307.out⟩, ⟨bw BK310.out⟩, ⟨bw BK311.out⟩, ⟨bB⟩⟩
 clear H'
 try clear p2
 try clear c48b0
 try clear c48b1
 try clear p2
 obtain ⟨x8_4, rfl, HA, HK4, BK306, BK307, BK310, BK311, HB⟩ := hrel
 cases gk with
 | zero => exact absurd HA.out (by simp [treelineref24_SameTopo.l1])
 | succ k4 => ?_
 have H := HA.out
 clear HA
 simp only [treelineref24_SameTopo.l1] at H
 by_cases c77 : x8_4 < (((rd_T51 l0_1 x5_2).f7).length : Int)
 rotate_left
 ·rw [if_neg c77] at H
  have c77b0 : decide (x8_4 < (((rd_T51 l0_1 x5_2).f7).length : Int)) = false := decide_eq_false c77
  clear c77
  have H' := Aside0.mk H
  clear H
  have hnb102 := NB310_306.out
  have hnc102 := NB306_310.out
  have hnb103 := NB310_307.out
  have hnc103 := NB307_310.out
  have hnb104 := NB310_311.out
  have hnc104 := NB311_310.out
  obtain ⟨hcz105_0, hcz105_1, hcz105_2, hcz105_3, hcz105_4, hcz105_5, hcz105_6, hcz105_7⟩ := cZ8 BK310.out
  obtain ⟨hfz105_0, hfz105_1, hfz105_2, hfz105_3, hfz105_4, hfz105_5, hfz105_6, hfz105_7⟩ := fZ8 BK310.out
  go_wp2
  go_roundg k4
  case measure => have := HJ2.out; have := HK2.out; have := HJ24.out; have := HK4.out; omega
  case rel => exact ⟨(wrap64 (x5_2 + 1)), (by first | rfl | (simp; done) | (simp [*]; done)), H', ⟨by have := HJ2.out; have := HK2.out; have := HJ24.out; have := HK4.out; omega⟩, ⟨bw BK306.out⟩, ⟨bw BK307.out⟩, ⟨bB⟩⟩
 rw [if_pos c77] at H
 have c77b0 : decide (x8_4 < (((rd_T51 l0_1 x5_2).f7).length : Int)) = true := decide_eq_true c77
 clear c77
 by_cases c78 : 0 ≤ x8_4
 rotate_left
 ·rw [if_neg c78] at H
  exact absurd H (by simp)
 rw [if_pos c78] at H
 have c78b0 : decide (0 ≤ x8_4) = true := decide_eq_true c78
 clear c78
 by_cases c79 : x8_4 < (((rd_T51 l1_1 x5_2).f7).length : Int)
 rotate_left
 ·rw [if_neg c79] at H
  exact absurd H (by simp)
 rw [if_pos c79] at H
 have c79b0 : decide (x8_4 < (((rd_T51 l1_1 x5_2).f7).length : Int)) = true := decide_eq_true c79
 clear c79
 by_cases c80 : (!(((rd_T63 ((rd_T51 l0_1 x5_2).f7) x8_4).f0) == ((rd_T63 ((rd_T51 l1_1 x5_2).f7) x8_4).f0)) || (!(((rd_T63 ((rd_T51 l0_1 x5_2).f7) x8_4).f1) == ((rd_T63 ((rd_T51 l1_1 x5_2).f7) x8_4).f1)) || (!(((rd_T63 ((rd_T51 l0_1 x5_2).f7) x8_4).f2) == ((rd_T63 ((rd_T51 l1_1 x5_2).f7) x8_4).f2))))) = true
 ·exact absurd c80 (by rw [E1.out]; simp)
 rw [if_neg c80] at H
 have c80b0 : (!(((rd_T63 ((rd_T51 l0_1 x5_2).f7) x8_4).f0) == ((rd_T63 ((rd_T51 l1_1 x5_2).f7) x8_4).f0)) || (!(((rd_T63 ((rd_T51 l0_1 x5_2).f7) x8_4).f1) == ((rd_T63 ((rd_T51 l1_1 x5_2).f7) x8_4).f1)) || (!(((rd_T63 ((rd_T51 l0_1 x5_2).f7) x8_4).f2) == ((rd_T63 ((rd_T51 l1_1 x5_2).f7) x8_4).f2))))) = false := by simpa using c80
 clear c80
 by_cases c86 : 0 ≤ x5_2
 rotate_left
 ·rw [if_neg c86] at H
  exact absurd H (by simp)
 rw [if_pos c86] at H
 have c86b0 : decide (0 ≤ x5_2) = true := decide_eq_true c86
 clear c86
 by_cases c87 : x5_2 < (l0_2.length : Int)
 rotate_left
 ·rw [if_neg c87] at H
  exact absurd H (by simp)
 rw [if_pos c87] at H
 have c87b0 : decide (x5_2 < (l0_2.length : Int)) = true := decide_eq_true c87
 clear c87
 by_cases c88 : x8_4 < ((rd_L9 l0_2 x5_2).length : Int)
 rotate_left
 ·rw [if_neg c88] at H
  exact absurd H (by simp)
 rw [if_pos c88] at H
 have c88b0 : decide (x8_4 < ((rd_L9 l0_2 x5_2).length : Int)) = true := decide_eq_true c88
 clear c88
 by_cases c89 : x5_2 < (l1_2.length : Int)
 rotate_left
 ·rw [if_neg c89] at H
  exact absurd H (by simp)
 rw [if_pos c89] at H
 have c89b0 : decide (x5_2 < (l1_2.length : Int)) = true := decide_eq_true c89
 clear c89
 by_cases c90 : x8_4 < ((rd_L9 l1_2 x5_2).length : Int)
 rotate_left
 ·rw [if_neg c90] at H
  exact absurd H (by simp)
 rw [if_pos c90] at H
 have c90b0 : decide (x8_4 < ((rd_L9 l1_2 x5_2).length : Int)) = true := decide_eq_true c90
 clear c90
 by_cases c91 : (rd (rd_L9 l0_2 x5_2) x8_4) = (rd (rd_L9 l1_2 x5_2) x8_4)
 rotate_left
 ·exact absurd (by rw [E2.out]) c91
 rw [if_pos c91] at H
 have c91b0 : ((rd (rd_L9 l0_2 x5_2) x8_4) == (rd (rd_L9 l1_2 x5_2) x8_4)) = true := beq_iff_eq.mpr c91
 have c91b1 : ((rd (rd_L9 l0_2 x5_2) x8_4) != (rd (rd_L9 l1_2 x5_2) x8_4)) = false := bne_eq_false_iff_eq.mpr c91
 clear c91
 have H' := Aside0.mk H
 clear H
 have hnb92 := NB310_306.out
 have hnc92 := NB306_310.out
 have hnb93 := NB310_307.out
 have hnc93 := NB307_310.out
 have hnb94 := NB310_311.out
 have hnc94 := NB311_310.out
 obtain ⟨hcz95_0, hcz95_1, hcz95_2, hcz95_3, hcz95_4, hcz95_5, hcz95_6, hcz95_7⟩ := cZ8 BK310.out
 obtain ⟨hfz95_0, hfz95_1, hfz95_2, hfz95_3, hfz95_4, hfz95_5, hfz95_6, hfz95_7⟩ := fZ8 BK310.out
 try go_wp2
 replace BK306 := Aside0.mk (blk_drew BK306.out)
 replace BK307 := Aside0.mk (blk_drew BK307.out)
 replace BK310 := Aside0.mk (blk_drew BK310.out)
 replace BK311 := Aside0.mk (blk_drew BK311.out)
 replace HB := Aside0.mk (below_drew1 HB.out)
 have p314 : 0 ≤ (x8_4 : Int) := of_decide_eq_true (by first | (with_reducible assumption) | assumption)
 have q314 : x8_4 < (((rd_T51 l0_1 x5_2).f7).length : Int) := of_decide_eq_true (by first | (with_reducible assumption) | assumption)
 obtain ⟨ad314, e314, hx314_0, hx314_1, hx314_2⟩ := at_T63 HR308_7.out x8_4 p314 q314
 have hw314_2 := hx314_2
 have hw314_1 := hx314_1
 have hw314_0 := hx314_0
 cases e314
 replace hx314_0 := (HB.out.cell (World.block_lt_of_cell? w _ hx314_0)).trans hx314_0
 replace hx314_1 := (HB.out.cell (World.block_lt_of_cell? w _ hx314_1)).trans hx314_1
 replace hx314_2 := (HB.out.cell (World.block_lt_of_cell? w _ hx314_2)).trans hx314_2
 replace p314 := eq_true p314
 replace q314 := eq_true q314
 have p315 : 0 ≤ (x8_4 : Int) := of_decide_eq_true (by first | (with_reducible assumption) | assumption)
 have q315 : x8_4 < (((rd_T51 l1_1 x5_2).f7).length : Int) := of_decide_eq_true (by first | (with_reducible assumption) | assumption)
 obtain ⟨ad315, e315, hx315_0, hx315_1, hx315_2⟩ := at_T63 HR309_7.out x8_4 p315 q315
 have hw315_2 := hx315_2
 have hw315_1 := hx315_1
 have hw315_0 := hx315_0
 cases e315
 replace hx315_0 := (HB.out.cell (World.block_lt_of_cell? w _ hx315_0)).trans hx315_0
 replace hx315_1 := (HB.out.cell (World.block_lt_of_cell? w _ hx315_1)).trans hx315_1
 replace hx315_2 := (HB.out.cell (World.block_lt_of_cell? w _ hx315_2)).trans hx315_2
 replace p315 := eq_true p315
 replace q315 := eq_true q315
 have p316 : 0 ≤ (x5_2 : Int) := of_decide_eq_true (by first | (with_reducible assumption) | assumption)
 have q316 : x5_2 < (l0_2.length : Int) := of_decide_eq_true (by first | (with_reducible assumption) | assumption)
 obtain ⟨ad316, A316_0, c316_0, e316, hx316_0, hl316_0, hi316_0⟩ := at_L9 HR0_2.out x5_2 p316 q316
 have hw316_0 := hx316_0
 cases e316
 replace hx316_0 := (HB.out.cell (World.block_lt_of_cell? w _ hx316_0)).trans hx316_0
 have HR316_0 := Aside0.mk hi316_0
 have HC316_0 := Aside0.mk hl316_0
 clear hi316_0 hl316_0
 replace p316 := eq_true p316
 replace q316 := eq_true q316
 have p317 : 0 ≤ (x8_4 : Int) := of_decide_eq_true (by first | (with_reducible assumption) | assumption)
 have q317 : x8_4 < ((rd_L9 l0_2 x5_2).length : Int) := of_decide_eq_true (by first | (with_reducible assumption) | assumption)
 obtain ⟨ad317, e317, hx317_0⟩ := Kd.at_int HR316_0.out x8_4 p317 q317
 have hw317_0 := hx317_0
 cases e317
 replace hx317_0 := (HB.out.cell (World.block_lt_of_cell? w _ hx317_0)).trans hx317_0
 replace p317 := eq_true p317
 replace q317 := eq_true q317
 have p318 : 0 ≤ (x5_2 : Int) := of_decide_eq_true (by first | (with_reducible assumption) | assumption)
 have q318 : x5_2 < (l1_2.length : Int) := of_decide_eq_true (by first | (with_reducible assumption) | assumption)
 obtain ⟨ad318, A318_0, c318_0, e318, hx318_0, hl318_0, hi318_0⟩ := at_L9 HR1_2.out x5_2 p318 q318
 have hw318_0 := hx318_0
 cases e318
 replace hx318_0 := (HB.out.cell (World.block_lt_of_cell? w _ hx318_0)).trans hx318_0
 have HR318_0 := Aside0.mk hi318_0
 have HC318_0 := Aside0.mk hl318_0
 clear hi318_0 hl318_0
 replace p318 := eq_true p318
 replace q318 := eq_true q318
 have p319 : 0 ≤ (x8_4 : Int) := of_decide_eq_true (by first | (with_reducible assumption) | assumption)
 have q319 : x8_4 < ((rd_L9 l1_2 x5_2).length : Int) := of_decide_eq_true (by first | (with_reducible assumption) | assumption)
 obtain ⟨ad319, e319, hx319_0⟩ := Kd.at_int HR318_0.out x8_4 p319 q319
 have hw319_0 := hx319_0
 cases e319
 replace hx319_0 := (HB.out.cell (World.block_lt_of_cell? w _ hx319_0)).trans hx319_0
 replace p319 := eq_true p319
 replace q319 := eq_true q319
 refine start_ (n := 30) (S := fun w' => w'.cell? ⟨gb310, 0, none⟩ = some (.int .u64 ((rd_T51 l0_1 x5_2).f0)) ∧ w'.cell? ⟨gb310, 1, none⟩ = some (.int .u16 ((rd_T51 l0_1 x5_2).f1)) ∧ w'.cell? ⟨gb310, 2, none⟩ = some (.int .i64 ((rd_T51 l0_1 x5_2).f2)) ∧ w'.cell? ⟨gb310, 3, none⟩ = some (.int .i64 ((rd_T51 l0_1 x5_2).f3)) ∧ w'.cell? ⟨gb310, 4, none⟩ = some (.int .i64 ((rd_T51 l0_1 x5_2).f4)) ∧ w'.cell? ⟨gb310, 5, none⟩ = some (.int .i64 ((rd_T51 l0_1 x5_2).f5)) ∧ w'.cell? ⟨gb310, 6, none⟩ = some (.int .i64 ((rd_T51 l0_1 x5_2).f6)) ∧ w'.cell? ⟨gb310, 7, none⟩ = some (.slice (some ad314) ((rd_T51 l0_1 x5_2).f7).length c308_7) ∧ w'.cell? ⟨gb311, 0, none⟩ = some (.int .u64 ((rd_T51 l1_1 x5_2).f0)) ∧ w'.cell? ⟨gb311, 1, none⟩ = some (.int .u16 ((rd_T51 l1_1 x5_2).f1)) ∧ w'.cell? ⟨gb311, 2, none⟩ = some (.int .i64 ((rd_T51 l1_1 x5_2).f2)) ∧ w'.cell? ⟨gb311, 3, none⟩ = some (.int .i64 ((rd_T51 l1_1 x5_2).f3)) ∧ w'.cell? ⟨gb311, 4, none⟩ = some (.int .i64 ((rd_T51 l1_1 x5_2).f4)) ∧ w'.cell? ⟨gb311, 5, none⟩ = some (.int .i64 ((rd_T51 l1_1 x5_2).f5)) ∧ w'.cell? ⟨gb311, 6, none⟩ = some (.int .i64 ((rd_T51 l1_1 x5_2).f6)) ∧ w'.cell? ⟨gb311, 7, none⟩ = some (.slice (some ad315) ((rd_T51 l1_1 x5_2).f7).length c309_7) ∧ w'.cell? ⟨gb306, 0, none⟩ = some (.int .i64 a0_0) ∧ w'.cell? ⟨gb306, 1, none⟩ = some (.slice (some ad308) l0_1.length c0_1) ∧ w'.cell? ⟨gb306, 2, none⟩ = some (.slice (some ad316) l0_2.length c0_2) ∧ w'.cell? ⟨gb306, 3, none⟩ = some (.slice A0_3 l0_3.length c0_3) ∧ w'.cell? ⟨gb307, 0, none⟩ = some (.int .i64 a1_0) ∧ w'.cell? ⟨gb307, 1, none⟩ = some (.slice (some ad309) l1_1.length c1_1) ∧ w'.cell? ⟨gb307, 2, none⟩ = some (.slice (some ad318) l1_2.length c1_2) ∧ w'.cell? ⟨gb307, 3, none⟩ = some (.slice A1_3 l1_3.length c1_3) ∧ w'.cell? (ad314.add ((x8_4).toNat * 3)) = some (.int .u8 ((rd_T63 ((rd_T51 l0_1 x5_2).f7) x8_4).f0)) ∧ w'.cell? ⟨(ad314.add ((x8_4).toNat * 3)).block, (ad314.add ((x8_4).toNat * 3)).off + 1, none⟩ = some (.int .u32 ((rd_T63 ((rd_T51 l0_1 x5_2).f7) x8_4).f1)) ∧ w'.cell? ⟨(ad314.add ((x8_4).toNat * 3)).block, (ad314.add ((x8_4).toNat * 3)).off + 2, none⟩ = some (.bool ((rd_T63 ((rd_T51 l0_1 x5_2).f7) x8_4).f2)) ∧ w'.cell? (ad315.add ((x8_4).toNat * 3)) = some (.int .u8 ((rd_T63 ((rd_T51 l1_1 x5_2).f7) x8_4).f0)) ∧ w'.cell? ⟨(ad315.add ((x8_4).toNat * 3)).block, (ad315.add ((x8_4).toNat * 3)).off + 1, none⟩ = some (.int .u32 ((rd_T63 ((rd_T51 l1_1 x5_2).f7) x8_4).f1)) ∧ w'.cell? ⟨(ad315.add ((x8_4).toNat * 3)).block, (ad315.add ((x8_4).toNat * 3)).off + 2, none⟩ = some (.bool ((rd_T63 ((rd_T51 l1_1 x5_2).f7) x8_4).f2)) ∧ w'.cell? (ad316.add (x5_2).toNat) = some (.slice (some ad317) (rd_L9 l0_2 x5_2).length c316_0) ∧ w'.cell? (ad317.add (x8_4).toNat) = some (.int .i64 (rd (rd_L9 l0_2 x5_2) x8_4)) ∧ w'.cell? (ad318.add (x5_2).toNat) = some (.slice (some ad319) (rd_L9 l1_2 x5_2).length c318_0) ∧ w'.cell? (ad319.add (x8_4).toNat) = some (.int .i64 (rd (rd_L9 l1_2 x5_2) x8_4))) (ds := []) #[false, false, false, false, false, false, false, false, false, false, false, false, false, false, false, false, false, false, false, false, false, false, false, false, false, false, false, false, false, false] (by kernel_rfl) rfl rfl ⟨(blk_cell BK310.out 0).trans rfl, (blk_cell BK310.out 1).trans rfl, (blk_cell BK310.out 2).trans rfl, (blk_cell BK310.out 3).trans rfl, (blk_cell BK310.out 4).trans rfl, (blk_cell BK310.out 5).trans rfl, (blk_cell BK310.out 6).trans rfl, (blk_cell BK310.out 7).trans rfl, (blk_cell BK311.out 0).trans rfl, (blk_cell BK311.out 1).trans rfl, (blk_cell BK311.out 2).trans rfl, (blk_cell BK311.out 3).trans rfl, (blk_cell BK311.out 4).trans rfl, (blk_cell BK311.out 5).trans rfl, (blk_cell BK311.out 6).trans rfl, (blk_cell BK311.out 7).trans rfl, (blk_cell BK306.out 0).trans rfl, (blk_cell BK306.out 1).trans rfl, (blk_cell BK306.out 2).trans rfl, (blk_cell BK306.out 3).trans rfl, (blk_cell BK307.out 0).trans rfl, (blk_cell BK307.out 1).trans rfl, (blk_cell BK307.out 2).trans rfl, (blk_cell BK307.out 3).trans rfl, ((HB.out.cell (World.block_lt_of_cell? w _ hw314_0)).trans hw314_0), ((HB.out.cell (World.block_lt_of_cell? w _ hw314_1)).trans hw314_1), ((HB.out.cell (World.block_lt_of_cell? w _ hw314_2)).trans hw314_2), ((HB.out.cell (World.block_lt_of_cell? w _ hw315_0)).trans hw315_0), ((HB.out.cell (World.block_lt_of_cell? w _ hw315_1)).trans hw315_1), ((HB.out.cell (World.block_lt_of_cell? w _ hw315_2)).trans hw315_2), ((HB.out.cell (World.block_lt_of_cell? w _ hw316_0)).trans hw316_0), ((HB.out.cell (World.block_lt_of_cell? w _ hw317_0)).trans hw317_0), ((HB.out.cell (World.block_lt_of_cell? w _ hw318_0)).trans hw318_0), ((HB.out.cell (World.block_lt_of_cell? w _ hw319_0)).trans hw319_0)⟩ (fun hHeld => ?_); refine with_tabW treelineref24_SameTopo.tab12 treelineref24_SameTopo.bits12 (fun HT_ HW_ => ?_)
 generalize wr.drew = w96 at BK306 BK307 BK310 BK311 HB HR316_0 HR318_0 hx314_0 hx314_1 hx314_2 hx315_0 hx315_1 hx315_2 hx316_0 hx317_0 hx318_0 hx319_0 hHeld ⊢
 refine pS 0 137 HT_ ?_
 refine pS 2 139 HT_ ?_
 refine pS 5 142 HT_ ?_
 refine pS 7 144 HT_ ?_
 refine tS 1 138 HT_ HW_ hHeld ?_
 refine pS 3 140 HT_ ?_
 refine tS 4 141 HT_ HW_ hHeld ?_
 refine tS 6 143 HT_ HW_ hHeld ?_
 refine pS 8 145 HT_ ?_
 refine tS 9 146 HT_ HW_ hHeld ?_
 refine pS 10 147 HT_ ?_
 refine pS 11 148 HT_ ?_
 refine pS 12 149 HT_ ?_
 refine pS 14 151 HT_ ?_
 refine pS 17 154 HT_ ?_
 refine pS 20 157 HT_ ?_
 refine pS 22 159 HT_ ?_
 refine pS 25 162 HT_ ?_
 refine tS 13 150 HT_ HW_ hHeld ?_
 refine pS 15 152 HT_ ?_
 refine tS 16 153 HT_ HW_ hHeld ?_
 refine pS 18 155 HT_ ?_
 refine tS 19 156 HT_ HW_ hHeld ?_
 refine tS 21 158 HT_ HW_ hHeld ?_
 refine pS 23 160 HT_ ?_
 refine tS 24 161 HT_ HW_ hHeld ?_
 refine pS 26 163 HT_ ?_
 refine tS 27 164 HT_ HW_ hHeld ?_
 refine pS 28 165 HT_ ?_
 refine pS 29 166 HT_ ?_
 refine done_ (done_of HT_.out (by kernel_rfl)) ?_
 try go_wp2
 go_roundg k4
 case measure => have := HJ2.out; have := HK2.out; have := HJ24.out; have := HK4.out; omega
 case rel => exact ⟨(wrap64 (x8_4 + 1)), (by first | rfl | (simp; done) | (simp [*]; done)), H', ⟨by have := HJ2.out; have := HK2.out; have := HJ24.out; have := HK4.out; omega⟩, ⟨bw BK306.out⟩, ⟨bw BK307.out⟩, ⟨bw BK310.out⟩, ⟨bw BK311.out⟩, ⟨bB⟩⟩
end Go.Proofs.YtiikllgppmmiaaaDoor.OScriptReads
