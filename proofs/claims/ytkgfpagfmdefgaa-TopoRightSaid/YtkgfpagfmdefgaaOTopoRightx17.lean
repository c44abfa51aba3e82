/- What Go functions that the law TopoRight uses come to, and why: part 17. Made out of the kit's print by a program of this session (wip/tools/stub.py, splice.py), functions that it does not take told by hand. -/
import Derived.Test.YtkgfpagfmdefgaaOTopoRightx16
namespace Go.Proofs.Ytkgfpagfmdefgaa.OTopoRight
open Go.RowKit Go.Proofs.YtkgfpagfmdefgaaW.PrintWords Go.Proofs.YtkgfpagfmdefgaaW.PrintLast Go.Proofs.YtkgfpagfmdefgaaW.PrintMore
attribute [local go_sem] max2_int min2_int max_two min_two max_three min_three max_four min_four   -- for this text's walks alone
set_option linter.unusedVariables false
set_option linter.unusedSimpArgs false
private theorem setCell_drewN_ (w : World) (n : Nat) (p : Addr) (u : Value) : (w.drewN n).setCell p u = (w.setCell p u).drewN n := by
  unfold World.setCell World.drewN
  split <;> rfl

/-! ### treelinelaw20_TopoRight: function 6 -/
mutual
def treelinelaw20_TopoRight.j0 : Nat → Bool → Int → List (S48) → List (List Int) → List (S59) → Option (Bool)
  | 0, _, _, _, _, _ => none
  | k + 1, x17, x258000, x258001, x258002, x258003 => if x17 = true then ((treelinelaw20_awake.f k).bind fun t260 => (some t260)) else ((topo_Copy.f k x258000 x258001 x258002 x258003).bind fun bt261 => ((topo_Check.f k bt261.1 bt261.2.1 bt261.2.2.1 bt261.2.2.2).bind fun t272 => ((topo_Check.f k x258000 x258001 x258002 x258003).bind fun t273 => (if t272 = t273 then (if (bt261.2.2.1.length : Int) = (x258002.length : Int) then (treelinelaw20_TopoRight.j1 k ((bt261.2.1.length : Int) != (x258001.length : Int)) x258000 x258001 x258002 x258003 bt261.1 bt261.2.1 bt261.2.2.1 bt261.2.2.2) else (treelinelaw20_TopoRight.j1 k true x258000 x258001 x258002 x258003 bt261.1 bt261.2.1 bt261.2.2.1 bt261.2.2.2)) else (treelinelaw20_TopoRight.j1 k true x258000 x258001 x258002 x258003 bt261.1 bt261.2.1 bt261.2.2.1 bt261.2.2.2)))))
def treelinelaw20_TopoRight.j1 : Nat → Bool → Int → List (S48) → List (List Int) → List (S59) → Int → List (S48) → List (List Int) → List (S59) → Option (Bool)
  | 0, _, _, _, _, _, _, _, _, _ => none
  | k + 1, x43, x258000, x258001, x258002, x258003, x272000, x272001, x272002, x272003 => if x43 = true then (some false) else (treelinelaw20_TopoRight.l0 k 0 0 x258000 x258001 x258002 x258003 x272000 x272001 x272002 x272003)
def treelinelaw20_TopoRight.l0 : Nat → Int → Int → Int → List (S48) → List (List Int) → List (S59) → Int → List (S48) → List (List Int) → List (S59) → Option (Bool)
  | 0, _, _, _, _, _, _, _, _, _, _ => none
  | k + 1, x4, x5, x258000, x258001, x258002, x258003, x272000, x272001, x272002, x272003 => if x5 < x258000 then ((topo_Ends.f k x258000 x258001 x258002 x258003 x5).bind fun t274 => (treelinelaw20_TopoRight.l0 k (wrap64 (x4 + (t274.length : Int))) (wrap64 (x5 + 1)) x258000 x258001 x258002 x258003 x272000 x272001 x272002 x272003)) else (treelinelaw20_TopoRight.l1 k x4 0 x258000 x258001 x258002 x258003 x272000 x272001 x272002 x272003)
def treelinelaw20_TopoRight.l1 : Nat → Int → Int → Int → List (S48) → List (List Int) → List (S59) → Int → List (S48) → List (List Int) → List (S59) → Option (Bool)
  | 0, _, _, _, _, _, _, _, _, _, _ => none
  | k + 1, x4, x6, x258000, x258001, x258002, x258003, x272000, x272001, x272002, x272003 => if x6 < (x272001.length : Int) then (treelinelaw20_TopoRight.l2 k x4 x6 0 x258000 x258001 x258002 x258003 x272000 x272001 x272002 x272003) else ((topo_Check.f k x258000 x258001 x258002 x258003).bind fun t286 => (if t286 = 0 then (treelinelaw20_TopoRight.l3 k x4 0 x258000 x258001 x258002 x258003) else (some true)))
def treelinelaw20_TopoRight.l2 : Nat → Int → Int → Int → Int → List (S48) → List (List Int) → List (S59) → Int → List (S48) → List (List Int) → List (S59) → Option (Bool)
  | 0, _, _, _, _, _, _, _, _, _, _, _ => none
  | k + 1, x4, x6, x7, x258000, x258001, x258002, x258003, x272000, x272001, x272002, x272003 => if 0 ≤ x6 then (if x6 < (x272001.length : Int) then (if x7 < (((rd_T48 x272001 x6).f7).length : Int) then (if x6 < (x258001.length : Int) then (if 0 ≤ x7 then (if x7 < (((rd_T48 x258001 x6).f7).length : Int) then (if ((rd_T51 ((rd_T48 x258001 x6).f7) x7).f1) = ((rd_T51 ((rd_T48 x258001 x6).f7) x7).f1) then (treelinelaw20_TopoRight.l2 k x4 x6 (wrap64 (x7 + 1)) x258000 x258001 x258002 x258003 x272000 (x272001.set (x6 : Int).toNat (⟨(rd_T48 x272001 x6).f0, (rd_T48 x272001 x6).f1, (rd_T48 x272001 x6).f2, (rd_T48 x272001 x6).f3, (rd_T48 x272001 x6).f4, (rd_T48 x272001 x6).f5, (rd_T48 x272001 x6).f6, (((rd_T48 x272001 x6).f7).set (x7 : Int).toNat (⟨(rd_T51 ((rd_T48 x272001 x6).f7) x7).f0, (((rd_T51 ((rd_T48 x258001 x6).f7) x7).f1) + 1) % 4294967296, (rd_T51 ((rd_T48 x272001 x6).f7) x7).f2⟩ : S51))⟩ : S48)) x272002 x272003) else (some false)) else (none)) else (none)) else (none)) else (treelinelaw20_TopoRight.l1 k x4 (wrap64 (x6 + 1)) x258000 x258001 x258002 x258003 x272000 x272001 x272002 x272003)) else (none)) else (none)
def treelinelaw20_TopoRight.l3 : Nat → Int → Int → Int → List (S48) → List (List Int) → List (S59) → Option (Bool)
  | 0, _, _, _, _, _, _ => none
  | k + 1, x4, x9, x258000, x258001, x258002, x258003 => if x9 < (x258001.length : Int) then (treelinelaw20_TopoRight.l4 k x4 x9 0 x258000 x258001 x258002 x258003) else (some (x4 == (x258003.length : Int)))
def treelinelaw20_TopoRight.l4 : Nat → Int → Int → Int → Int → List (S48) → List (List Int) → List (S59) → Option (Bool)
  | 0, _, _, _, _, _, _, _ => none
  | k + 1, x4, x9, x10, x258000, x258001, x258002, x258003 => if x10 < x9 then (if 0 ≤ x9 then (if x9 < (x258001.length : Int) then ((conf_Id.f ((rd_T48 x258001 x9).f0) ((rd_T48 x258001 x9).f1) ((rd_T48 x258001 x9).f2) ((rd_T48 x258001 x9).f3) ((rd_T48 x258001 x9).f4) ((rd_T48 x258001 x9).f5) ((rd_T48 x258001 x9).f6) ((rd_T48 x258001 x9).f7)).bind fun t289 => (if 0 ≤ x10 then (if x10 < (x258001.length : Int) then ((conf_Id.f ((rd_T48 x258001 x10).f0) ((rd_T48 x258001 x10).f1) ((rd_T48 x258001 x10).f2) ((rd_T48 x258001 x10).f3) ((rd_T48 x258001 x10).f4) ((rd_T48 x258001 x10).f5) ((rd_T48 x258001 x10).f6) ((rd_T48 x258001 x10).f7)).bind fun t291 => (if t289 = t291 then (some false) else (treelinelaw20_TopoRight.l4 k x4 x9 (wrap64 (x10 + 1)) x258000 x258001 x258002 x258003))) else (none)) else (none))) else (none)) else (none)) else (if 0 ≤ x9 then (if x9 < (x258001.length : Int) then (treelinelaw20_TopoRight.l3 k (wrap64 (x4 - (((rd_T48 x258001 x9).f7).length : Int))) (wrap64 (x9 + 1)) x258000 x258001 x258002 x258003) else (none)) else (none))
end
def treelinelaw20_TopoRight.f (k : Nat) (a0_0 : Int) (l0_1 : List (S48)) (l0_2 : List (List Int)) (l0_3 : List (S59)) : Option (Bool) := (treelinelaw20_awake.f k).bind fun t258 => (if t258 = true then ((treelineref20_Few.f k a0_0 l0_1 l0_2 l0_3).bind fun t259 => (treelinelaw20_TopoRight.j0 k (!t259) a0_0 l0_1 l0_2 l0_3)) else (treelinelaw20_TopoRight.j0 k true a0_0 l0_1 l0_2 l0_3))
theorem treelinelaw20_TopoRight.mono_l : ∀ k, (∀ y0 y1 y2 y3 y4, LeO (treelinelaw20_TopoRight.j0 k y0 y1 y2 y3 y4) (treelinelaw20_TopoRight.j0 (k + 1) y0 y1 y2 y3 y4)) ∧ (∀ y0 y1 y2 y3 y4 y5 y6 y7 y8, LeO (treelinelaw20_TopoRight.j1 k y0 y1 y2 y3 y4 y5 y6 y7 y8) (treelinelaw20_TopoRight.j1 (k + 1) y0 y1 y2 y3 y4 y5 y6 y7 y8)) ∧ (∀ y0 y1 y2 y3 y4 y5 y6 y7 y8 y9, LeO (treelinelaw20_TopoRight.l0 k y0 y1 y2 y3 y4 y5 y6 y7 y8 y9) (treelinelaw20_TopoRight.l0 (k + 1) y0 y1 y2 y3 y4 y5 y6 y7 y8 y9)) ∧ (∀ y0 y1 y2 y3 y4 y5 y6 y7 y8 y9, LeO (treelinelaw20_TopoRight.l1 k y0 y1 y2 y3 y4 y5 y6 y7 y8 y9) (treelinelaw20_TopoRight.l1 (k + 1) y0 y1 y2 y3 y4 y5 y6 y7 y8 y9)) ∧ (∀ y0 y1 y2 y3 y4 y5 y6 y7 y8 y9 y10, LeO (treelinelaw20_TopoRight.l2 k y0 y1 y2 y3 y4 y5 y6 y7 y8 y9 y10) (treelinelaw20_TopoRight.l2 (k + 1) y0 y1 y2 y3 y4 y5 y6 y7 y8 y9 y10)) ∧ (∀ y0 y1 y2 y3 y4 y5, LeO (treelinelaw20_TopoRight.l3 k y0 y1 y2 y3 y4 y5) (treelinelaw20_TopoRight.l3 (k + 1) y0 y1 y2 y3 y4 y5)) ∧ (∀ y0 y1 y2 y3 y4 y5 y6, LeO (treelinelaw20_TopoRight.l4 k y0 y1 y2 y3 y4 y5 y6) (treelinelaw20_TopoRight.l4 (k + 1) y0 y1 y2 y3 y4 y5 y6))
  | 0 => ⟨fun _ _ _ _ _ r h => by simp [treelinelaw20_TopoRight.j0] at h, fun _ _ _ _ _ _ _ _ _ r h => by simp [treelinelaw20_TopoRight.j1] at h, fun _ _ _ _ _ _ _ _ _ _ r h => by simp [treelinelaw20_TopoRight.l0] at h, fun _ _ _ _ _ _ _ _ _ _ r h => by simp [treelinelaw20_TopoRight.l1] at h, fun _ _ _ _ _ _ _ _ _ _ _ r h => by simp [treelinelaw20_TopoRight.l2] at h, fun _ _ _ _ _ _ r h => by simp [treelinelaw20_TopoRight.l3] at h, fun _ _ _ _ _ _ _ r h => by simp [treelinelaw20_TopoRight.l4] at h⟩
  | k + 1 => by
    obtain ⟨ih0, ih1, ih2, ih3, ih4, ih5, ih6⟩ := treelinelaw20_TopoRight.mono_l k
    refine ⟨?_, ?_, ?_, ?_, ?_, ?_, ?_⟩
    · intro y0 y1 y2 y3 y4
      unfold treelinelaw20_TopoRight.j0
      repeat' first
      | (with_reducible exact ih0 _ _ _ _ _)
      | (with_reducible exact ih1 _ _ _ _ _ _ _ _ _)
      | (with_reducible exact ih2 _ _ _ _ _ _ _ _ _ _)
      | (with_reducible exact ih3 _ _ _ _ _ _ _ _ _ _)
      | (with_reducible exact ih4 _ _ _ _ _ _ _ _ _ _ _)
      | (with_reducible exact ih5 _ _ _ _ _ _)
      | (with_reducible exact ih6 _ _ _ _ _ _ _)
      | (with_reducible exact topo_Check.mono _ _ _ _ _)
      | (with_reducible exact topo_Copy.mono _ _ _ _ _)
      | (with_reducible exact topo_Ends.mono _ _ _ _ _ _)
      | (with_reducible exact treelinelaw20_awake.mono _)
      | (with_reducible exact treelineref20_Few.mono _ _ _ _ _)
      | (with_reducible exact LeO.refl _)
      | (with_reducible exact LeO.none _)
      | (with_reducible refine LeO.ite ?_ ?_)
      | (with_reducible refine LeO.bind ?_ (fun _ => ?_))
      | exact ih0 _ _ _ _ _
      | exact ih1 _ _ _ _ _ _ _ _ _
      | exact ih2 _ _ _ _ _ _ _ _ _ _
      | exact ih3 _ _ _ _ _ _ _ _ _ _
      | exact ih4 _ _ _ _ _ _ _ _ _ _ _
      | exact ih5 _ _ _ _ _ _
      | exact ih6 _ _ _ _ _ _ _
      | exact topo_Check.mono _ _ _ _ _
      | exact topo_Copy.mono _ _ _ _ _
      | exact topo_Ends.mono _ _ _ _ _ _
      | exact treelinelaw20_awake.mono _
      | exact treelineref20_Few.mono _ _ _ _ _
      | exact LeO.none _
      | refine LeO.ite ?_ ?_
      | refine LeO.bind ?_ (fun _ => ?_)
    · intro y0 y1 y2 y3 y4 y5 y6 y7 y8
      unfold treelinelaw20_TopoRight.j1
      repeat' first
      | (with_reducible exact ih0 _ _ _ _ _)
      | (with_reducible exact ih1 _ _ _ _ _ _ _ _ _)
      | (with_reducible exact ih2 _ _ _ _ _ _ _ _ _ _)
      | (with_reducible exact ih3 _ _ _ _ _ _ _ _ _ _)
      | (with_reducible exact ih4 _ _ _ _ _ _ _ _ _ _ _)
      | (with_reducible exact ih5 _ _ _ _ _ _)
      | (with_reducible exact ih6 _ _ _ _ _ _ _)
      | (with_reducible exact topo_Check.mono _ _ _ _ _)
      | (with_reducible exact topo_Copy.mono _ _ _ _ _)
      | (with_reducible exact topo_Ends.mono _ _ _ _ _ _)
      | (with_reducible exact treelinelaw20_awake.mono _)
      | (with_reducible exact treelineref20_Few.mono _ _ _ _ _)
      | (with_reducible exact LeO.refl _)
      | (with_reducible exact LeO.none _)
      | (with_reducible refine LeO.ite ?_ ?_)
      | (with_reducible refine LeO.bind ?_ (fun _ => ?_))
      | exact ih0 _ _ _ _ _
      | exact ih1 _ _ _ _ _ _ _ _ _
      | exact ih2 _ _ _ _ _ _ _ _ _ _
      | exact ih3 _ _ _ _ _ _ _ _ _ _
      | exact ih4 _ _ _ _ _ _ _ _ _ _ _
      | exact ih5 _ _ _ _ _ _
      | exact ih6 _ _ _ _ _ _ _
      | exact topo_Check.mono _ _ _ _ _
      | exact topo_Copy.mono _ _ _ _ _
      | exact topo_Ends.mono _ _ _ _ _ _
      | exact treelinelaw20_awake.mono _
      | exact treelineref20_Few.mono _ _ _ _ _
      | exact LeO.none _
      | refine LeO.ite ?_ ?_
      | refine LeO.bind ?_ (fun _ => ?_)
    · intro y0 y1 y2 y3 y4 y5 y6 y7 y8 y9
      unfold treelinelaw20_TopoRight.l0
      repeat' first
      | (with_reducible exact ih0 _ _ _ _ _)
      | (with_reducible exact ih1 _ _ _ _ _ _ _ _ _)
      | (with_reducible exact ih2 _ _ _ _ _ _ _ _ _ _)
      | (with_reducible exact ih3 _ _ _ _ _ _ _ _ _ _)
      | (with_reducible exact ih4 _ _ _ _ _ _ _ _ _ _ _)
      | (with_reducible exact ih5 _ _ _ _ _ _)
      | (with_reducible exact ih6 _ _ _ _ _ _ _)
      | (with_reducible exact topo_Check.mono _ _ _ _ _)
      | (with_reducible exact topo_Copy.mono _ _ _ _ _)
      | (with_reducible exact topo_Ends.mono _ _ _ _ _ _)
      | (with_reducible exact treelinelaw20_awake.mono _)
      | (with_reducible exact treelineref20_Few.mono _ _ _ _ _)
      | (with_reducible exact LeO.refl _)
      | (with_reducible exact LeO.none _)
      | (with_reducible refine LeO.ite ?_ ?_)
      | (with_reducible refine LeO.bind ?_ (fun _ => ?_))
      | exact ih0 _ _ _ _ _
      | exact ih1 _ _ _ _ _ _ _ _ _
      | exact ih2 _ _ _ _ _ _ _ _ _ _
      | exact ih3 _ _ _ _ _ _ _ _ _ _
      | exact ih4 _ _ _ _ _ _ _ _ _ _ _
      | exact ih5 _ _ _ _ _ _
      | exact ih6 _ _ _ _ _ _ _
      | exact topo_Check.mono _ _ _ _ _
      | exact topo_Copy.mono _ _ _ _ _
      | exact topo_Ends.mono _ _ _ _ _ _
      | exact treelinelaw20_awake.mono _
      | exact treelineref20_Few.mono _ _ _ _ _
      | exact LeO.none _
      | refine LeO.ite ?_ ?_
      | refine LeO.bind ?_ (fun _ => ?_)
    · intro y0 y1 y2 y3 y4 y5 y6 y7 y8 y9
      unfold treelinelaw20_TopoRight.l1
      repeat' first
      | (with_reducible exact ih0 _ _ _ _ _)
      | (with_reducible exact ih1 _ _ _ _ _ _ _ _ _)
      | (with_reducible exact ih2 _ _ _ _ _ _ _ _ _ _)
      | (with_reducible exact ih3 _ _ _ _ _ _ _ _ _ _)
      | (with_reducible exact ih4 _ _ _ _ _ _ _ _ _ _ _)
      | (with_reducible exact ih5 _ _ _ _ _ _)
      | (with_reducible exact ih6 _ _ _ _ _ _ _)
      | (with_reducible exact topo_Check.mono _ _ _ _ _)
      | (with_reducible exact topo_Copy.mono _ _ _ _ _)
      | (with_reducible exact topo_Ends.mono _ _ _ _ _ _)
      | (with_reducible exact treelinelaw20_awake.mono _)
      | (with_reducible exact treelineref20_Few.mono _ _ _ _ _)
      | (with_reducible exact LeO.refl _)
      | (with_reducible exact LeO.none _)
      | (with_reducible refine LeO.ite ?_ ?_)
      | (with_reducible refine LeO.bind ?_ (fun _ => ?_))
      | exact ih0 _ _ _ _ _
      | exact ih1 _ _ _ _ _ _ _ _ _
      | exact ih2 _ _ _ _ _ _ _ _ _ _
      | exact ih3 _ _ _ _ _ _ _ _ _ _
      | exact ih4 _ _ _ _ _ _ _ _ _ _ _
      | exact ih5 _ _ _ _ _ _
      | exact ih6 _ _ _ _ _ _ _
      | exact topo_Check.mono _ _ _ _ _
      | exact topo_Copy.mono _ _ _ _ _
      | exact topo_Ends.mono _ _ _ _ _ _
      | exact treelinelaw20_awake.mono _
      | exact treelineref20_Few.mono _ _ _ _ _
      | exact LeO.none _
      | refine LeO.ite ?_ ?_
      | refine LeO.bind ?_ (fun _ => ?_)
    · intro y0 y1 y2 y3 y4 y5 y6 y7 y8 y9 y10
      unfold treelinelaw20_TopoRight.l2
      repeat' first
      | (with_reducible exact ih0 _ _ _ _ _)
      | (with_reducible exact ih1 _ _ _ _ _ _ _ _ _)
      | (with_reducible exact ih2 _ _ _ _ _ _ _ _ _ _)
      | (with_reducible exact ih3 _ _ _ _ _ _ _ _ _ _)
      | (with_reducible exact ih4 _ _ _ _ _ _ _ _ _ _ _)
      | (with_reducible exact ih5 _ _ _ _ _ _)
      | (with_reducible exact ih6 _ _ _ _ _ _ _)
      | (with_reducible exact topo_Check.mono _ _ _ _ _)
      | (with_reducible exact topo_Copy.mono _ _ _ _ _)
      | (with_reducible exact topo_Ends.mono _ _ _ _ _ _)
      | (with_reducible exact treelinelaw20_awake.mono _)
      | (with_reducible exact treelineref20_Few.mono _ _ _ _ _)
      | (with_reducible exact LeO.refl _)
      | (with_reducible exact LeO.none _)
      | (with_reducible refine LeO.ite ?_ ?_)
      | (with_reducible refine LeO.bind ?_ (fun _ => ?_))
      | exact ih0 _ _ _ _ _
      | exact ih1 _ _ _ _ _ _ _ _ _
      | exact ih2 _ _ _ _ _ _ _ _ _ _
      | exact ih3 _ _ _ _ _ _ _ _ _ _
      | exact ih4 _ _ _ _ _ _ _ _ _ _ _
      | exact ih5 _ _ _ _ _ _
      | exact ih6 _ _ _ _ _ _ _
      | exact topo_Check.mono _ _ _ _ _
      | exact topo_Copy.mono _ _ _ _ _
      | exact topo_Ends.mono _ _ _ _ _ _
      | exact treelinelaw20_awake.mono _
      | exact treelineref20_Few.mono _ _ _ _ _
      | exact LeO.none _
      | refine LeO.ite ?_ ?_
      | refine LeO.bind ?_ (fun _ => ?_)
    · intro y0 y1 y2 y3 y4 y5
      unfold treelinelaw20_TopoRight.l3
      repeat' first
      | (with_reducible exact ih0 _ _ _ _ _)
      | (with_reducible exact ih1 _ _ _ _ _ _ _ _ _)
      | (with_reducible exact ih2 _ _ _ _ _ _ _ _ _ _)
      | (with_reducible exact ih3 _ _ _ _ _ _ _ _ _ _)
      | (with_reducible exact ih4 _ _ _ _ _ _ _ _ _ _ _)
      | (with_reducible exact ih5 _ _ _ _ _ _)
      | (with_reducible exact ih6 _ _ _ _ _ _ _)
      | (with_reducible exact topo_Check.mono _ _ _ _ _)
      | (with_reducible exact topo_Copy.mono _ _ _ _ _)
      | (with_reducible exact topo_Ends.mono _ _ _ _ _ _)
      | (with_reducible exact treelinelaw20_awake.mono _)
      | (with_reducible exact treelineref20_Few.mono _ _ _ _ _)
      | (with_reducible exact LeO.refl _)
      | (with_reducible exact LeO.none _)
      | (with_reducible refine LeO.ite ?_ ?_)
      | (with_reducible refine LeO.bind ?_ (fun _ => ?_))
      | exact ih0 _ _ _ _ _
      | exact ih1 _ _ _ _ _ _ _ _ _
      | exact ih2 _ _ _ _ _ _ _ _ _ _
      | exact ih3 _ _ _ _ _ _ _ _ _ _
      | exact ih4 _ _ _ _ _ _ _ _ _ _ _
      | exact ih5 _ _ _ _ _ _
      | exact ih6 _ _ _ _ _ _ _
      | exact topo_Check.mono _ _ _ _ _
      | exact topo_Copy.mono _ _ _ _ _
      | exact topo_Ends.mono _ _ _ _ _ _
      | exact treelinelaw20_awake.mono _
      | exact treelineref20_Few.mono _ _ _ _ _
      | exact LeO.none _
      | refine LeO.ite ?_ ?_
      | refine LeO.bind ?_ (fun _ => ?_)
    · intro y0 y1 y2 y3 y4 y5 y6
      unfold treelinelaw20_TopoRight.l4
      repeat' first
      | (with_reducible exact ih0 _ _ _ _ _)
      | (with_reducible exact ih1 _ _ _ _ _ _ _ _ _)
      | (with_reducible exact ih2 _ _ _ _ _ _ _ _ _ _)
      | (with_reducible exact ih3 _ _ _ _ _ _ _ _ _ _)
      | (with_reducible exact ih4 _ _ _ _ _ _ _ _ _ _ _)
      | (with_reducible exact ih5 _ _ _ _ _ _)
      | (with_reducible exact ih6 _ _ _ _ _ _ _)
      | (with_reducible exact topo_Check.mono _ _ _ _ _)
      | (with_reducible exact topo_Copy.mono _ _ _ _ _)
      | (with_reducible exact topo_Ends.mono _ _ _ _ _ _)
      | (with_reducible exact treelinelaw20_awake.mono _)
      | (with_reducible exact treelineref20_Few.mono _ _ _ _ _)
      | (with_reducible exact LeO.refl _)
      | (with_reducible exact LeO.none _)
      | (with_reducible refine LeO.ite ?_ ?_)
      | (with_reducible refine LeO.bind ?_ (fun _ => ?_))
      | exact ih0 _ _ _ _ _
      | exact ih1 _ _ _ _ _ _ _ _ _
      | exact ih2 _ _ _ _ _ _ _ _ _ _
      | exact ih3 _ _ _ _ _ _ _ _ _ _
      | exact ih4 _ _ _ _ _ _ _ _ _ _ _
      | exact ih5 _ _ _ _ _ _
      | exact ih6 _ _ _ _ _ _ _
      | exact topo_Check.mono _ _ _ _ _
      | exact topo_Copy.mono _ _ _ _ _
      | exact topo_Ends.mono _ _ _ _ _ _
      | exact treelinelaw20_awake.mono _
      | exact treelineref20_Few.mono _ _ _ _ _
      | exact LeO.none _
      | refine LeO.ite ?_ ?_
      | refine LeO.bind ?_ (fun _ => ?_)
theorem treelinelaw20_TopoRight.mono : ∀ a0 a1 a2 a3 k, LeO (treelinelaw20_TopoRight.f k a0 a1 a2 a3) (treelinelaw20_TopoRight.f (k + 1) a0 a1 a2 a3) := by
  intro a0 a1 a2 a3 k
  obtain ⟨ih0, ih1, ih2, ih3, ih4, ih5, ih6⟩ := treelinelaw20_TopoRight.mono_l k
  unfold treelinelaw20_TopoRight.f
  repeat' first
      | (with_reducible exact ih0 _ _ _ _ _)
      | (with_reducible exact ih1 _ _ _ _ _ _ _ _ _)
      | (with_reducible exact ih2 _ _ _ _ _ _ _ _ _ _)
      | (with_reducible exact ih3 _ _ _ _ _ _ _ _ _ _)
      | (with_reducible exact ih4 _ _ _ _ _ _ _ _ _ _ _)
      | (with_reducible exact ih5 _ _ _ _ _ _)
      | (with_reducible exact ih6 _ _ _ _ _ _ _)
      | (with_reducible exact topo_Check.mono _ _ _ _ _)
      | (with_reducible exact topo_Copy.mono _ _ _ _ _)
      | (with_reducible exact topo_Ends.mono _ _ _ _ _ _)
      | (with_reducible exact treelinelaw20_awake.mono _)
      | (with_reducible exact treelineref20_Few.mono _ _ _ _ _)
      | (with_reducible exact LeO.refl _)
      | (with_reducible exact LeO.none _)
      | (with_reducible refine LeO.ite ?_ ?_)
      | (with_reducible refine LeO.bind ?_ (fun _ => ?_))
      | exact ih0 _ _ _ _ _
      | exact ih1 _ _ _ _ _ _ _ _ _
      | exact ih2 _ _ _ _ _ _ _ _ _ _
      | exact ih3 _ _ _ _ _ _ _ _ _ _
      | exact ih4 _ _ _ _ _ _ _ _ _ _ _
      | exact ih5 _ _ _ _ _ _
      | exact ih6 _ _ _ _ _ _ _
      | exact topo_Check.mono _ _ _ _ _
      | exact topo_Copy.mono _ _ _ _ _
      | exact topo_Ends.mono _ _ _ _ _ _
      | exact treelinelaw20_awake.mono _
      | exact treelineref20_Few.mono _ _ _ _ _
      | exact LeO.none _
      | refine LeO.ite ?_ ?_
      | refine LeO.bind ?_ (fun _ => ?_)
def treelinelaw20_TopoRight.T4 : Bool × List (List Nat × List Nat) := (true, [([], []), ([0], [0]), ([], []), ([2, 1], [2]), ([1, 3], [1, 3]), ([4, 3], [4]), ([5], [5]), ([6, 5], [5, 6]), ([7, 5], [5, 7]), ([5], [5]), ([9, 5], [5, 9]), ([10, 5], [5, 10]), ([8, 11, 5], [5, 8, 11]), ([5, 12], [5, 12]), ([13, 5], [13]), ([14], [14]), ([15, 14], [14, 15]), ([16, 14], [14, 16]), ([14], [14]), ([18, 14], [14, 18]), ([19, 14], [14, 19]), ([17, 20, 14], [14, 17, 20]), ([14, 21], [14, 21])])
def treelinelaw20_TopoRight.B4 : List Nat := [0, 1, 0, 7, 15, 31, 63, 127, 255, 63, 575, 1599, 4095, 8191, 16383, 32767, 65535, 131071, 32767, 294911, 819199, 2097151, 4194303]
theorem treelinelaw20_TopoRight.tab4 : rtab .any (opsOf Try.f6 4) = treelinelaw20_TopoRight.T4 := by kernel_rfl
theorem treelinelaw20_TopoRight.bits4 : waitsOk treelinelaw20_TopoRight.T4.2 treelinelaw20_TopoRight.B4 = true := by kernel_rfl
def treelinelaw20_TopoRight.T29 : Bool × List (List Nat × List Nat) := (true, [([], []), ([0], [0]), ([], []), ([1, 2], [1, 2]), ([3], [3]), ([4], [4]), ([], []), ([6], [6]), ([], []), ([7, 8], [7, 8]), ([9], [9]), ([10, 5], [10]), ([5, 11], [5, 11])])
def treelinelaw20_TopoRight.B29 : List Nat := [0, 1, 0, 7, 15, 31, 0, 64, 0, 448, 960, 2047, 4095]
theorem treelinelaw20_TopoRight.tab29 : rtab .any (opsOf Try.f6 29) = treelinelaw20_TopoRight.T29 := by kernel_rfl
theorem treelinelaw20_TopoRight.bits29 : waitsOk treelinelaw20_TopoRight.T29.2 treelinelaw20_TopoRight.B29 = true := by kernel_rfl
set_option maxHeartbeats 8000000 in
set_option maxRecDepth 100000 in
theorem treelinelaw20_TopoRight.calls (k : Nat) (a0_0 : Int) (A0_1 : Option Addr) (c0_1 : Nat) (l0_1 : List (S48)) (A0_2 : Option Addr) (c0_2 : Nat) (l0_2 : List (List Int)) (A0_3 : Option Addr) (c0_3 : Nat) (l0_3 : List (S59)) (r : Bool) (w : World) (hr0_1 : Kd.C k48 w A0_1 l0_1.length l0_1) (hc0_1 : l0_1.length ≤ c0_1) (hr0_2 : Kd.C (Kd.slice 3 (Kd.int .i64)) w A0_2 l0_2.length l0_2) (hc0_2 : l0_2.length ≤ c0_2) (hr0_3 : Kd.C k59 w A0_3 l0_3.length l0_3) (hc0_3 : l0_3.length ≤ c0_3) (h : treelinelaw20_TopoRight.f k a0_0 l0_1 l0_2 l0_3 = some r) (LRT : Aside0 (r = true)) :
  Calls Try.prog 6 #[.agg #[.int .i64 a0_0, .slice A0_1 l0_1.length c0_1, .slice A0_2 l0_2.length c0_2, .slice A0_3 l0_3.length c0_3]] w fun e w' => e = .returned (.bool r) ∧ Below w.heap.size w w' := by
 have hu26 := Try.underlying26
 have hu48 := Try.underlying48
 have HR0_1 := Aside0.mk hr0_1
 have HC0_1 := Aside0.mk hc0_1
 clear hr0_1 hc0_1
 have HR0_2 := Aside0.mk hr0_2
 have HC0_2 := Aside0.mk hc0_2
 clear hr0_2 hc0_2
 have HR0_3 := Aside0.mk hr0_3
 have HC0_3 := Aside0.mk hc0_3
 clear hr0_3 hc0_3
 have HB := Aside0.mk (Below.refl w.heap.size w)
 have H : ((treelinelaw20_awake.f k).bind fun t258 => (if t258 = true then ((treelineref20_Few.f k a0_0 l0_1 l0_2 l0_3).bind fun t259 => (treelinelaw20_TopoRight.j0 k (!t259) a0_0 l0_1 l0_2 l0_3)) else (treelinelaw20_TopoRight.j0 k true a0_0 l0_1 l0_2 l0_3))) = some r := h
 clear h
 have HC2 := Aside0.mk H
 clear H
 go_enter Try.func6, Try.ntmps6
 go_upto_region 1 with (first | ((with_reducible refine gate_dst (N := 1) rfl ?_); (try (refine gate_guard (by rfl) ?_; dsimp only)); refine box_event ?hg (N := 1) ?hd (cs := #[.int .i64 a0_0, .slice A0_1 l0_1.length c0_1, .slice A0_2 l0_2.length c0_2, .slice A0_3 l0_3.length c0_3]) (t := 26) ?hr ?_; (case hd => rfl); (case hg => rfl); (case hr => first | (go_simp; done) | (go_simp; rfl)); intro gb257 hg w3 hbox hb; have n0_ := Aside0.mk (below_step (by repeat (first | (with_reducible first | exact HB.out | apply below_alloc | apply pw_below_drewN | apply below_drew1) | exact HB.out)) hb); have n1_ := Aside0.mk (hbox); have n2_ := Aside0.mk ((by rw [hg]; exact (below_size (by repeat (first | (with_reducible first | exact HB.out | apply below_alloc | apply pw_below_drewN | apply below_drew1) | exact HB.out))) : w.heap.size ≤ gb257)); have n3_ := Aside0.mk ((by rw [hg]; exact (below_size (by repeat (first | (with_reducible first | exact HB.out | apply below_alloc | apply pw_below_drewN | apply below_drew1) | exact HB.out))) : w.heap.size ≤ gb257)); clear HB; have HB := n0_; have BK257 := n1_; have GW257 := n2_; have GE257 := n3_; clear n0_ n1_ n2_ n3_; clear hb hbox hg))
 (try simp only [Act.put, List.setIfInBounds_toArray, List.set_cons_zero, List.set_cons_succ])
 go_cut [17] (fun v17 wc => ∃ (kq : Nat) (x17_1 : Bool), v17 = .bool x17_1 ∧ Aside0 (treelinelaw20_TopoRight.j0 kq x17_1 a0_0 l0_1 l0_2 l0_3 = some r) ∧ Aside0 (kq ≤ k) ∧ Aside0 (wc.heap[gb257]? = some (.cells #[.int .i64 a0_0, (.slice A0_1 l0_1.length c0_1), (.slice A0_2 l0_2.length c0_2), (.slice A0_3 l0_3.length c0_3)] 26 (0, 0))) ∧ Aside0 (Below w.heap.size w wc))
 case first =>
  have H := HC2.out
  clear HC2
  replace H := Option.bind_eq_some_iff.mp H
  obtain ⟨t258, A40, H⟩ := H
  replace H : (if t258 = true then ((treelineref20_Few.f k a0_0 l0_1 l0_2 l0_3).bind fun t259 => (treelinelaw20_TopoRight.j0 k (!t259) a0_0 l0_1 l0_2 l0_3)) else (treelinelaw20_TopoRight.j0 k true a0_0 l0_1 l0_2 l0_3)) = some r := H
  have A4 := Aside0.mk A40
  clear A40
  by_cases c5 : t258 = true
  rotate_left
  ·replace c5 := Bool.eq_false_iff.mpr c5
   subst c5
   have H1 : (treelinelaw20_TopoRight.j0 k true a0_0 l0_1 l0_2 l0_3) = some r := by rw [if_neg (show ¬ (false = true) by decide)] at H; exact H
   clear H
   have H := H1
   clear H1
   have H' := Aside0.mk H
   clear H
   go_wp2_with (first | ((with_reducible refine gate_callee (f := 7) rfl ?_); refine goesL_ (some 11) rfl rfl Try.func7 (by kernel_rfl) rfl #[] rfl (by (try simp only [List.map_toArray, List.map_cons, List.map_nil]); first | done | rfl | (simp only [List.length_drop, List.length_take]; rfl)) ?_; (with_reducible refine (treelinelaw20_awake.calls k  false _ A4.out).mono ?_); rintro e w10 ⟨rfl, hb⟩; refine ⟨_, rfl, ?_⟩; have n0_ := Aside0.mk (blk_below (g := gb257) (o := .cells #[.int .i64 a0_0, .slice A0_1 l0_1.length c0_1, .slice A0_2 l0_2.length c0_2, .slice A0_3 l0_3.length c0_3] 26 (0, 0)) (by (with_reducible repeat (first | refine blk_drewN ?_ _ | refine blk_drew ?_ | refine blk_alloc ?_ _)); exact BK257.out) hb); have n1_ := Aside0.mk (below_step (by repeat (first | (with_reducible first | exact HB.out | apply below_alloc | apply pw_below_drewN | apply below_drew1 | refine below_set ?_ GE257.out) | exact HB.out)) hb); clear BK257; clear HB; have BK257 := n0_; have HB := n1_; clear n0_ n1_; (try clear hb); (try clear hb2); (try clear hk); (try clear hi)) | (go_at_call 7; (with_reducible refine (treelinelaw20_awake.calls k  false _ A4.out).mono ?_); rintro e w10 ⟨rfl, hb⟩; have n0_ := Aside0.mk (blk_below (g := gb257) (o := .cells #[.int .i64 a0_0, .slice A0_1 l0_1.length c0_1, .slice A0_2 l0_2.length c0_2, .slice A0_3 l0_3.length c0_3] 26 (0, 0)) (by (with_reducible repeat (first | refine blk_drewN ?_ _ | refine blk_drew ?_ | refine blk_alloc ?_ _)); exact BK257.out) hb); have n1_ := Aside0.mk (below_step (by repeat (first | (with_reducible first | exact HB.out | apply below_alloc | apply pw_below_drewN | apply below_drew1 | refine below_set ?_ GE257.out) | exact HB.out)) hb); clear BK257; clear HB; have BK257 := n0_; have HB := n1_; clear n0_ n1_; (try clear hb); (try clear hb2); (try clear hk); (try clear hi)))
   go_meet
   case rel => exact ⟨_, (true), (by first | rfl | (simp; done) | (simp [*]; done)), H', ⟨by first | omega | exact Nat.le_refl _⟩, ⟨by (with_reducible repeat (first | refine blk_drewN ?_ _ | refine blk_drew ?_ | refine blk_alloc ?_ _)); exact BK257.out⟩, ⟨by repeat (first | (with_reducible first | exact HB.out | apply below_alloc | apply pw_below_drewN | apply below_drew1 | refine below_set ?_ GE257.out) | exact HB.out)⟩⟩
  subst c5
  have H1 : ((treelineref20_Few.f k a0_0 l0_1 l0_2 l0_3).bind fun t259 => (treelinelaw20_TopoRight.j0 k (!t259) a0_0 l0_1 l0_2 l0_3)) = some r := by rw [if_pos rfl] at H; exact H
  clear H
  have H := H1
  clear H1
  replace H := Option.bind_eq_some_iff.mp H
  obtain ⟨t259, A60, H⟩ := H
  replace H : (treelinelaw20_TopoRight.j0 k (!t259) a0_0 l0_1 l0_2 l0_3) = some r := H
  have A6 := Aside0.mk A60
  clear A60
  have H' := Aside0.mk H
  clear H
  go_wp2_with (first | ((with_reducible refine gate_callee (f := 7) rfl ?_); refine goesL_ (some 11) rfl rfl Try.func7 (by kernel_rfl) rfl #[] rfl (by (try simp only [List.map_toArray, List.map_cons, List.map_nil]); first | done | rfl | (simp only [List.length_drop, List.length_take]; rfl)) ?_; (with_reducible refine (treelinelaw20_awake.calls k  true _ A4.out).mono ?_); rintro e w7 ⟨rfl, hb⟩; refine ⟨_, rfl, ?_⟩; have n0_ := Aside0.mk (blk_below (g := gb257) (o := .cells #[.int .i64 a0_0, .slice A0_1 l0_1.length c0_1, .slice A0_2 l0_2.length c0_2, .slice A0_3 l0_3.length c0_3] 26 (0, 0)) (by (with_reducible repeat (first | refine blk_drewN ?_ _ | refine blk_drew ?_ | refine blk_alloc ?_ _)); exact BK257.out) hb); have n1_ := Aside0.mk (below_step (by repeat (first | (with_reducible first | exact HB.out | apply below_alloc | apply pw_below_drewN | apply below_drew1 | refine below_set ?_ GE257.out) | exact HB.out)) hb); clear BK257; clear HB; have BK257 := n0_; have HB := n1_; clear n0_ n1_; (try clear hb); (try clear hb2); (try clear hk); (try clear hi); have hcz8_0 : w7.cell? ⟨gb257, 0, none⟩ = some (.int .i64 a0_0) := (blk_cell BK257.out 0).trans rfl; have hcz8_1 : w7.cell? ⟨gb257, 1, none⟩ = some (.slice A0_1 l0_1.length c0_1) := (blk_cell BK257.out 1).trans rfl; have hcz8_2 : w7.cell? ⟨gb257, 2, none⟩ = some (.slice A0_2 l0_2.length c0_2) := (blk_cell BK257.out 2).trans rfl; have hcz8_3 : w7.cell? ⟨gb257, 3, none⟩ = some (.slice A0_3 l0_3.length c0_3) := (blk_cell BK257.out 3).trans rfl; have hfz8_0 := blk_frozen BK257.out 0; have hfz8_1 := blk_frozen BK257.out 1; have hfz8_2 := blk_frozen BK257.out 2; have hfz8_3 := blk_frozen BK257.out 3) | (go_at_call 8; (with_reducible refine (treelineref20_Few.calls k a0_0 _ _ l0_1 _ _ l0_2 _ _ l0_3 t259 _ ?side1 ?side2 ?side3 ?side4 ?side5 ?side6 A6.out).mono ?_); (case side1 => repeat (first | exact (Kd.C_below HR0_1.out HB.out) | (with_reducible refine Kd.C_alloc ?_ _) | (with_reducible refine Kd.C_drewN ?_ _) | (with_reducible refine Kd.C_drew ?_))); (case side2 => exact HC0_1.out); (case side3 => repeat (first | exact (Kd.C_below HR0_2.out HB.out) | (with_reducible refine Kd.C_alloc ?_ _) | (with_reducible refine Kd.C_drewN ?_ _) | (with_reducible refine Kd.C_drew ?_))); (case side4 => exact HC0_2.out); (case side5 => repeat (first | exact (Kd.C_below HR0_3.out HB.out) | (with_reducible refine Kd.C_alloc ?_ _) | (with_reducible refine Kd.C_drewN ?_ _) | (with_reducible refine Kd.C_drew ?_))); (case side6 => exact HC0_3.out); rintro e w9 ⟨rfl, hb⟩; have n0_ := Aside0.mk (blk_below (g := gb257) (o := .cells #[.int .i64 a0_0, .slice A0_1 l0_1.length c0_1, .slice A0_2 l0_2.length c0_2, .slice A0_3 l0_3.length c0_3] 26 (0, 0)) (by (with_reducible repeat (first | refine blk_drewN ?_ _ | refine blk_drew ?_ | refine blk_alloc ?_ _)); exact BK257.out) hb); have n1_ := Aside0.mk (below_step (by repeat (first | (with_reducible first | exact HB.out | apply below_alloc | apply pw_below_drewN | apply below_drew1 | refine below_set ?_ GE257.out) | exact HB.out)) hb); clear BK257; clear HB; have BK257 := n0_; have HB := n1_; clear n0_ n1_; (try clear hb); (try clear hb2); (try clear hk); (try clear hi)) | (go_at_call 7; (with_reducible refine (treelinelaw20_awake.calls k  true _ A4.out).mono ?_); rintro e w7 ⟨rfl, hb⟩; have n0_ := Aside0.mk (blk_below (g := gb257) (o := .cells #[.int .i64 a0_0, .slice A0_1 l0_1.length c0_1, .slice A0_2 l0_2.length c0_2, .slice A0_3 l0_3.length c0_3] 26 (0, 0)) (by (with_reducible repeat (first | refine blk_drewN ?_ _ | refine blk_drew ?_ | refine blk_alloc ?_ _)); exact BK257.out) hb); have n1_ := Aside0.mk (below_step (by repeat (first | (with_reducible first | exact HB.out | apply below_alloc | apply pw_below_drewN | apply below_drew1 | refine below_set ?_ GE257.out) | exact HB.out)) hb); clear BK257; clear HB; have BK257 := n0_; have HB := n1_; clear n0_ n1_; (try clear hb); (try clear hb2); (try clear hk); (try clear hi); have hcz8_0 : w7.cell? ⟨gb257, 0, none⟩ = some (.int .i64 a0_0) := (blk_cell BK257.out 0).trans rfl; have hcz8_1 : w7.cell? ⟨gb257, 1, none⟩ = some (.slice A0_1 l0_1.length c0_1) := (blk_cell BK257.out 1).trans rfl; have hcz8_2 : w7.cell? ⟨gb257, 2, none⟩ = some (.slice A0_2 l0_2.length c0_2) := (blk_cell BK257.out 2).trans rfl; have hcz8_3 : w7.cell? ⟨gb257, 3, none⟩ = some (.slice A0_3 l0_3.length c0_3) := (blk_cell BK257.out 3).trans rfl; have hfz8_0 := blk_frozen BK257.out 0; have hfz8_1 := blk_frozen BK257.out 1; have hfz8_2 := blk_frozen BK257.out 2; have hfz8_3 := blk_frozen BK257.out 3))
  go_meet
  case rel => exact ⟨_, (!t259), (by first | rfl | (simp; done) | (simp [*]; done)), H', ⟨by first | omega | exact Nat.le_refl _⟩, ⟨by (with_reducible repeat (first | refine blk_drewN ?_ _ | refine blk_drew ?_ | refine blk_alloc ?_ _)); exact BK257.out⟩, ⟨by repeat (first | (with_reducible first | exact HB.out | apply below_alloc | apply pw_below_drewN | apply below_drew1 | refine below_set ?_ GE257.out) | exact HB.out)⟩⟩
 clear HC2
 try clear p2
 try clear c5
 try clear c6
 try clear c7
 try clear hcz8_0
 try clear hcz8_1
 try clear hcz8_2
 try clear hcz8_3
 try clear hfz8_0
 try clear hfz8_1
 try clear hfz8_2
 try clear hfz8_3
 obtain ⟨kq, x17_1, rfl, HA, HJ1, BK257, HB⟩ := hcut
 cases kq with
 | zero => exact absurd HA.out (by simp [treelinelaw20_TopoRight.j0])
 | succ kj1 => ?_
 have H := HA.out
 clear HA
 simp only [treelinelaw20_TopoRight.j0] at H
 by_cases c11 : x17_1 = true
 ·subst c11
  have H1 : ((treelinelaw20_awake.f kj1).bind fun t260 => (some t260)) = some r := by rw [if_pos rfl] at H; exact H
  clear H
  have H := H1
  clear H1
  replace H := Option.bind_eq_some_iff.mp H
  obtain ⟨t260, A120, H⟩ := H
  replace H : (some t260) = some r := H
  have A12 := Aside0.mk A120
  clear A120
  obtain rfl := Option.some.inj H
  (try exact absurd LRT.out (by decide))
  all_goals
   go_wp2_with (first | ((with_reducible refine gate_callee (f := 7) rfl ?_); refine goesL_ (some 18) rfl rfl Try.func7 (by kernel_rfl) rfl #[] rfl (by (try simp only [List.map_toArray, List.map_cons, List.map_nil]); first | done | rfl | (simp only [List.length_drop, List.length_take]; rfl)) ?_; (with_reducible refine (treelinelaw20_awake.calls kj1  t260 _ A12.out).mono ?_); rintro e w13 ⟨rfl, hb⟩; refine ⟨_, rfl, ?_⟩; have n0_ := Aside0.mk (blk_below (g := gb257) (o := .cells #[.int .i64 a0_0, .slice A0_1 l0_1.length c0_1, .slice A0_2 l0_2.length c0_2, .slice A0_3 l0_3.length c0_3] 26 (0, 0)) (by (with_reducible repeat (first | refine blk_drewN ?_ _ | refine blk_drew ?_ | refine blk_alloc ?_ _)); exact BK257.out) hb); have n1_ := Aside0.mk (below_step (by repeat (first | (with_reducible first | exact HB.out | apply below_alloc | apply pw_below_drewN | apply below_drew1 | refine below_set ?_ GE257.out) | exact HB.out)) hb); clear BK257; clear HB; have BK257 := n0_; have HB := n1_; clear n0_ n1_; (try clear hb); (try clear hb2); (try clear hk); (try clear hi)) | (go_at_call 7; (with_reducible refine (treelinelaw20_awake.calls kj1  t260 _ A12.out).mono ?_); rintro e w13 ⟨rfl, hb⟩; have n0_ := Aside0.mk (blk_below (g := gb257) (o := .cells #[.int .i64 a0_0, .slice A0_1 l0_1.length c0_1, .slice A0_2 l0_2.length c0_2, .slice A0_3 l0_3.length c0_3] 26 (0, 0)) (by (with_reducible repeat (first | refine blk_drewN ?_ _ | refine blk_drew ?_ | refine blk_alloc ?_ _)); exact BK257.out) hb); have n1_ := Aside0.mk (below_step (by repeat (first | (with_reducible first | exact HB.out | apply below_alloc | apply pw_below_drewN | apply below_drew1 | refine below_set ?_ GE257.out) | exact HB.out)) hb); clear BK257; clear HB; have BK257 := n0_; have HB := n1_; clear n0_ n1_; (try clear hb); (try clear hb2); (try clear hk); (try clear hi)))
   go_ret
   exact ⟨by first | rfl | (simp [errW_none, errW_some] <;> rfl) | (simp [*, errW_none, errW_some] <;> rfl), by repeat (first | (with_reducible first | exact HB.out | apply below_alloc | apply pw_below_drewN | apply below_drew1 | refine below_set ?_ GE257.out) | exact HB.out)⟩
 replace c11 := Bool.eq_false_iff.mpr c11
 subst c11
 have H1 : ((topo_Copy.f kj1 a0_0 l0_1 l0_2 l0_3).bind fun bt261 => ((topo_Check.f kj1 bt261.1 bt261.2.1 bt261.2.2.1 bt261.2.2.2).bind fun t272 => ((topo_Check.f kj1 a0_0 l0_1 l0_2 l0_3).bind fun t273 => (if t272 = t273 then (if (bt261.2.2.1.length : Int) = (l0_2.length : Int) then (treelinelaw20_TopoRight.j1 kj1 ((bt261.2.1.length : Int) != (l0_1.length : Int)) a0_0 l0_1 l0_2 l0_3 bt261.1 bt261.2.1 bt261.2.2.1 bt261.2.2.2) else (treelinelaw20_TopoRight.j1 kj1 true a0_0 l0_1 l0_2 l0_3 bt261.1 bt261.2.1 bt261.2.2.1 bt261.2.2.2)) else (treelinelaw20_TopoRight.j1 kj1 true a0_0 l0_1 l0_2 l0_3 bt261.1 bt261.2.1 bt261.2.2.1 bt261.2.2.2))))) = some r := by rw [if_neg (show ¬ (false = true) by decide)] at H; exact H
 clear H
 have H := H1
 clear H1
 replace H := Option.bind_eq_some_iff.mp H
 obtain ⟨⟨t261, t262, t265, t268⟩, A140, H⟩ := H
 replace H : ((topo_Check.f kj1 t261 t262 t265 t268).bind fun t272 => ((topo_Check.f kj1 a0_0 l0_1 l0_2 l0_3).bind fun t273 => (if t272 = t273 then (if (t265.length : Int) = (l0_2.length : Int) then (treelinelaw20_TopoRight.j1 kj1 ((t262.length : Int) != (l0_1.length : Int)) a0_0 l0_1 l0_2 l0_3 t261 t262 t265 t268) else (treelinelaw20_TopoRight.j1 kj1 true a0_0 l0_1 l0_2 l0_3 t261 t262 t265 t268)) else (treelinelaw20_TopoRight.j1 kj1 true a0_0 l0_1 l0_2 l0_3 t261 t262 t265 t268)))) = some r := H
 have A14 := Aside0.mk A140
 clear A140
 have HC15 := Aside0.mk H
 clear H
 have hcz16_0 : wc.cell? ⟨gb257, 0, none⟩ = some (.int .i64 a0_0) := (blk_cell BK257.out 0).trans rfl
 have hcz16_1 : wc.cell? ⟨gb257, 1, none⟩ = some (.slice A0_1 l0_1.length c0_1) := (blk_cell BK257.out 1).trans rfl
 have hcz16_2 : wc.cell? ⟨gb257, 2, none⟩ = some (.slice A0_2 l0_2.length c0_2) := (blk_cell BK257.out 2).trans rfl
 have hcz16_3 : wc.cell? ⟨gb257, 3, none⟩ = some (.slice A0_3 l0_3.length c0_3) := (blk_cell BK257.out 3).trans rfl
 have hfz16_0 := blk_frozen BK257.out 0
 have hfz16_1 := blk_frozen BK257.out 1
 have hfz16_2 := blk_frozen BK257.out 2
 have hfz16_3 := blk_frozen BK257.out 3
 go_upto_region 4 with (first | ((with_reducible refine gate_callee (f := 15) rfl ?_); refine goesL_ (some 20) rfl rfl Try.func15 (by kernel_rfl) rfl #[.agg #[.int .i64 a0_0, .slice A0_1 l0_1.length c0_1, .slice A0_2 l0_2.length c0_2, .slice A0_3 l0_3.length c0_3]] rfl (by (try simp only [List.map_toArray, List.map_cons, List.map_nil]); first | done | rfl | (simp only [List.length_drop, List.length_take]; rfl)) ?_; (with_reducible refine (topo_Copy.calls kj1 a0_0 _ _ l0_1 _ _ l0_2 _ _ l0_3 t261 t262 t265 t268 _ ?side1 ?side2 ?side3 ?side4 ?side5 ?side6 A14.out).mono ?_); (case side1 => repeat (first | exact (Kd.C_below HR0_1.out HB.out) | (with_reducible refine Kd.C_alloc ?_ _) | (with_reducible refine Kd.C_drewN ?_ _) | (with_reducible refine Kd.C_drew ?_))); (case side2 => exact HC0_1.out); (case side3 => repeat (first | exact (Kd.C_below HR0_2.out HB.out) | (with_reducible refine Kd.C_alloc ?_ _) | (with_reducible refine Kd.C_drewN ?_ _) | (with_reducible refine Kd.C_drew ?_))); (case side4 => exact HC0_2.out); (case side5 => repeat (first | exact (Kd.C_below HR0_3.out HB.out) | (with_reducible refine Kd.C_alloc ?_ _) | (with_reducible refine Kd.C_drewN ?_ _) | (with_reducible refine Kd.C_drew ?_))); (case side6 => exact HC0_3.out); rintro e w17 ⟨v263, v266, v269, rfl, ho0, ho1, ho2, hb⟩; refine ⟨_, rfl, ?_⟩; have n0_ := Aside0.mk (Kd.S_lower ho0 (below_size (by repeat (first | (with_reducible first | exact HB.out | apply below_alloc | apply pw_below_drewN | apply below_drew1 | refine below_set ?_ GE257.out) | exact HB.out)))); have n1_ := Aside0.mk (Kd.S_lower ho1 (below_size (by repeat (first | (with_reducible first | exact HB.out | apply below_alloc | apply pw_below_drewN | apply below_drew1 | refine below_set ?_ GE257.out) | exact HB.out)))); have n2_ := Aside0.mk (Kd.R_lower ho2 (below_size (by repeat (first | (with_reducible first | exact HB.out | apply below_alloc | apply pw_below_drewN | apply below_drew1 | refine below_set ?_ GE257.out) | exact HB.out)))); have n3_ := Aside0.mk (blk_below (g := gb257) (o := .cells #[.int .i64 a0_0, .slice A0_1 l0_1.length c0_1, .slice A0_2 l0_2.length c0_2, .slice A0_3 l0_3.length c0_3] 26 (0, 0)) (by (with_reducible repeat (first | refine blk_drewN ?_ _ | refine blk_drew ?_ | refine blk_alloc ?_ _)); exact BK257.out) hb); have n4_ := Aside0.mk (below_step (by repeat (first | (with_reducible first | exact HB.out | apply below_alloc | apply pw_below_drewN | apply below_drew1 | refine below_set ?_ GE257.out) | exact HB.out)) hb); clear BK257; clear HB; have HO264 := n0_; have HO267 := n1_; have HO270 := n2_; have BK257 := n3_; have HB := n4_; clear n0_ n1_ n2_ n3_ n4_; (try clear hb); (try clear hb2); (try clear hk); (try clear hi); (try clear ho0); (try clear ho1); (try clear ho2)) | ((with_reducible refine gate_dst (N := 3) rfl ?_); (try (refine gate_guard (by rfl) ?_; dsimp only)); refine box_event ?hg (N := 3) ?hd (cs := #[.int .i64 0, .slice none 0 0, .slice none 0 0, .slice none 0 0]) (t := 26) ?hr ?_; (case hd => rfl); (case hg => rfl); (case hr => first | (go_simp; done) | (go_simp; rfl)); intro gb271 hg w18 hbox hb; have n0_ := Aside0.mk (Kd.S_below (by (with_reducible repeat (first | apply Kd.S_alloc | apply Kd.S_drewN | apply Kd.S_drew)); exact HO264.out) hb); have n1_ := Aside0.mk (Kd.S_below (by (with_reducible repeat (first | apply Kd.S_alloc | apply Kd.S_drewN | apply Kd.S_drew)); exact HO267.out) hb); have n2_ := Aside0.mk (Kd.R_below (by (with_reducible repeat (first | apply Kd.R_alloc | apply Kd.R_drewN | apply Kd.R_drew)); exact HO270.out) hb); have n3_ := Aside0.mk (blk_below (g := gb257) (o := .cells #[.int .i64 a0_0, .slice A0_1 l0_1.length c0_1, .slice A0_2 l0_2.length c0_2, .slice A0_3 l0_3.length c0_3] 26 (0, 0)) (by (with_reducible repeat (first | refine blk_drewN ?_ _ | refine blk_drew ?_ | refine blk_alloc ?_ _)); exact BK257.out) hb); have n4_ := Aside0.mk (below_step (by repeat (first | (with_reducible first | exact HB.out | apply below_alloc | apply pw_below_drewN | apply below_drew1 | refine below_set ?_ GE257.out) | exact HB.out)) hb); have n5_ := Aside0.mk (hbox); have n6_ := Aside0.mk ((by rw [hg]; exact (below_size (by repeat (first | (with_reducible first | exact HB.out | apply below_alloc | apply pw_below_drewN | apply below_drew1 | refine below_set ?_ GE257.out) | exact HB.out))) : w.heap.size ≤ gb271)); have n7_ := Aside0.mk ((by rw [hg]; exact (below_size (by repeat (first | (with_reducible first | exact HB.out | apply below_alloc | apply pw_below_drewN | apply below_drew1 | refine below_set ?_ GE257.out) | exact HB.out))) : w.heap.size ≤ gb271)); have n8_ := Aside0.mk ((by rw [hg]; exact Nat.ne_of_lt (blk_lt (g := gb257) (o := .cells #[.int .i64 a0_0, .slice A0_1 l0_1.length c0_1, .slice A0_2 l0_2.length c0_2, .slice A0_3 l0_3.length c0_3] 26 (0, 0)) (by (with_reducible repeat (first | refine blk_drewN ?_ _ | refine blk_drew ?_ | refine blk_alloc ?_ _)); exact BK257.out)) : gb257 ≠ gb271)); have n9_ := Aside0.mk ((by rw [hg]; exact Nat.ne_of_gt (blk_lt (g := gb257) (o := .cells #[.int .i64 a0_0, .slice A0_1 l0_1.length c0_1, .slice A0_2 l0_2.length c0_2, .slice A0_3 l0_3.length c0_3] 26 (0, 0)) (by (with_reducible repeat (first | refine blk_drewN ?_ _ | refine blk_drew ?_ | refine blk_alloc ?_ _)); exact BK257.out)) : gb271 ≠ gb257)); clear HO264; clear HO267; clear HO270; clear BK257; clear HB; have HO264 := n0_; have HO267 := n1_; have HO270 := n2_; have BK257 := n3_; have HB := n4_; have BK271 := n5_; have GW271 := n6_; have GE271 := n7_; have NB257_271 := n8_; have NB271_257 := n9_; clear n0_ n1_ n2_ n3_ n4_ n5_ n6_ n7_ n8_ n9_; clear hb hbox hg; have hnb19 := NB271_257.out; have hnc19 := NB257_271.out; have hcz20_0 : w18.cell? ⟨gb271, 0, none⟩ = some (.int .i64 0) := (blk_cell BK271.out 0).trans rfl; have hcz20_1 : w18.cell? ⟨gb271, 1, none⟩ = some (.slice none 0 0) := (blk_cell BK271.out 1).trans rfl; have hcz20_2 : w18.cell? ⟨gb271, 2, none⟩ = some (.slice none 0 0) := (blk_cell BK271.out 2).trans rfl; have hcz20_3 : w18.cell? ⟨gb271, 3, none⟩ = some (.slice none 0 0) := (blk_cell BK271.out 3).trans rfl; have hfz20_0 := blk_frozen BK271.out 0; have hfz20_1 := blk_frozen BK271.out 1; have hfz20_2 := blk_frozen BK271.out 2; have hfz20_3 := blk_frozen BK271.out 3; obtain ⟨Ao21, co21, eo21⟩ := Kd.S_slice HO264.out; subst eo21; obtain ⟨Ao22, co22, eo22⟩ := Kd.S_slice HO267.out; subst eo22; obtain ⟨Ao23, co23, eo23⟩ := Kd.R_slice HO270.out; subst eo23))
 (try simp only [Act.put, List.setIfInBounds_toArray, List.set_cons_zero, List.set_cons_succ])
 go_cut [43] (fun v43 wc => ∃ (kq : Nat) (x43_14 : Bool), v43 = .bool x43_14 ∧ Aside0 (treelinelaw20_TopoRight.j1 kq x43_14 a0_0 l0_1 l0_2 l0_3 t261 t262 t265 t268 = some r) ∧ Aside0 (kq ≤ kj1) ∧ Aside0 (Kd.S k48 48 wc w.heap.size (fun _ => True) (.slice Ao21 t262.length co21) t262) ∧ Aside0 (Kd.S (Kd.slice 3 (Kd.int .i64)) 33 wc w.heap.size (fun _ => True) (.slice Ao22 t265.length co22) t265) ∧ Aside0 (Kd.R k59 59 wc w.heap.size (fun _ => True) (.slice Ao23 t268.length co23) t268) ∧ Aside0 (wc.heap[gb257]? = some (.cells #[.int .i64 a0_0, (.slice A0_1 l0_1.length c0_1), (.slice A0_2 l0_2.length c0_2), (.slice A0_3 l0_3.length c0_3)] 26 (0, 0))) ∧ Aside0 (wc.heap[gb271]? = some (.cells #[.int .i64 t261, (.slice Ao21 t262.length co21), (.slice Ao22 t265.length co22), (.slice Ao23 t268.length co23)] 26 (0, 0))) ∧ Aside0 (Below w.heap.size w wc))
 case first =>
  have H := HC15.out
  clear HC15
  replace H := Option.bind_eq_some_iff.mp H
  obtain ⟨t272, A240, H⟩ := H
  replace H : ((topo_Check.f kj1 a0_0 l0_1 l0_2 l0_3).bind fun t273 => (if t272 = t273 then (if (t265.length : Int) = (l0_2.length : Int) then (treelinelaw20_TopoRight.j1 kj1 ((t262.length : Int) != (l0_1.length : Int)) a0_0 l0_1 l0_2 l0_3 t261 t262 t265 t268) else (treelinelaw20_TopoRight.j1 kj1 true a0_0 l0_1 l0_2 l0_3 t261 t262 t265 t268)) else (treelinelaw20_TopoRight.j1 kj1 true a0_0 l0_1 l0_2 l0_3 t261 t262 t265 t268))) = some r := H
  have A24 := Aside0.mk A240
  clear A240
  replace H := Option.bind_eq_some_iff.mp H
  obtain ⟨t273, A250, H⟩ := H
  replace H : (if t272 = t273 then (if (t265.length : Int) = (l0_2.length : Int) then (treelinelaw20_TopoRight.j1 kj1 ((t262.length : Int) != (l0_1.length : Int)) a0_0 l0_1 l0_2 l0_3 t261 t262 t265 t268) else (treelinelaw20_TopoRight.j1 kj1 true a0_0 l0_1 l0_2 l0_3 t261 t262 t265 t268)) else (treelinelaw20_TopoRight.j1 kj1 true a0_0 l0_1 l0_2 l0_3 t261 t262 t265 t268)) = some r := H
  have A25 := Aside0.mk A250
  clear A250
  by_cases c26 : t272 = t273
  rotate_left
  ·rw [if_neg c26] at H
   have c26b0 : (t272 == t273) = false := beq_eq_false_iff_ne.mpr c26
   have c26b1 : (t272 != t273) = true := bne_iff_ne.mpr c26
   (first | rw [c26b0] | (simp only [i64_w, i32_w]; rw [c26b0]) | skip)
   have H' := Aside0.mk H
   clear H
   try go_wp2
   have n0_ : Aside0 (Kd.S k48 48 ((((w18.setCell ⟨gb271, 0, none⟩ (.int .i64 t261)).setCell ⟨gb271, 1, none⟩ (.slice Ao21 t262.length co21)).setCell ⟨gb271, 2, none⟩ (.slice Ao22 t265.length co22)).setCell ⟨gb271, 3, none⟩ (.slice Ao23 t268.length co23)) w.heap.size (fun _ => True) (.slice Ao21 t262.length co21) t262) := ⟨by (with_reducible repeat (first | apply Kd.S_alloc | apply Kd.S_drewN | apply Kd.S_drew)); exact Kd.S_mono (Kd.S_far (p := ⟨gb271, 3, none⟩) (Kd.S_far (p := ⟨gb271, 2, none⟩) (Kd.S_far (p := ⟨gb271, 1, none⟩) (Kd.S_far (p := ⟨gb271, 0, none⟩) (Kd.S_types HO264.out BK271.out (by decide)) (fun _ hk => hk.2) (.int .i64 t261)) (fun _ hk => hk.2) (.slice Ao21 t262.length co21)) (fun _ hk => hk.2) (.slice Ao22 t265.length co22)) (fun _ hk => hk.2) (.slice Ao23 t268.length co23)) (fun _ hk => trivial)⟩
   have n1_ : Aside0 (Kd.S (Kd.slice 3 (Kd.int .i64)) 33 ((((w18.setCell ⟨gb271, 0, none⟩ (.int .i64 t261)).setCell ⟨gb271, 1, none⟩ (.slice Ao21 t262.length co21)).setCell ⟨gb271, 2, none⟩ (.slice Ao22 t265.length co22)).setCell ⟨gb271, 3, none⟩ (.slice Ao23 t268.length co23)) w.heap.size (fun _ => True) (.slice Ao22 t265.length co22) t265) := ⟨by (with_reducible repeat (first | apply Kd.S_alloc | apply Kd.S_drewN | apply Kd.S_drew)); exact Kd.S_mono (Kd.S_far (p := ⟨gb271, 3, none⟩) (Kd.S_far (p := ⟨gb271, 2, none⟩) (Kd.S_far (p := ⟨gb271, 1, none⟩) (Kd.S_far (p := ⟨gb271, 0, none⟩) (Kd.S_types HO267.out BK271.out (by decide)) (fun _ hk => hk.2) (.int .i64 t261)) (fun _ hk => hk.2) (.slice Ao21 t262.length co21)) (fun _ hk => hk.2) (.slice Ao22 t265.length co22)) (fun _ hk => hk.2) (.slice Ao23 t268.length co23)) (fun _ hk => trivial)⟩
   have n2_ : Aside0 (Kd.R k59 59 ((((w18.setCell ⟨gb271, 0, none⟩ (.int .i64 t261)).setCell ⟨gb271, 1, none⟩ (.slice Ao21 t262.length co21)).setCell ⟨gb271, 2, none⟩ (.slice Ao22 t265.length co22)).setCell ⟨gb271, 3, none⟩ (.slice Ao23 t268.length co23)) w.heap.size (fun _ => True) (.slice Ao23 t268.length co23) t268) := ⟨by (with_reducible repeat (first | apply Kd.R_alloc | apply Kd.R_drewN | apply Kd.R_drew)); exact Kd.R_mono (Kd.R_far (p := ⟨gb271, 3, none⟩) (Kd.R_far (p := ⟨gb271, 2, none⟩) (Kd.R_far (p := ⟨gb271, 1, none⟩) (Kd.R_far (p := ⟨gb271, 0, none⟩) (Kd.R_types HO270.out BK271.out (by decide)) (fun _ hk => hk.2) (.int .i64 t261)) (fun _ hk => hk.2) (.slice Ao21 t262.length co21)) (fun _ hk => hk.2) (.slice Ao22 t265.length co22)) (fun _ hk => hk.2) (.slice Ao23 t268.length co23)) (fun _ hk => trivial)⟩
   have n3_ : Aside0 (((((w18.setCell ⟨gb271, 0, none⟩ (.int .i64 t261)).setCell ⟨gb271, 1, none⟩ (.slice Ao21 t262.length co21)).setCell ⟨gb271, 2, none⟩ (.slice Ao22 t265.length co22)).setCell ⟨gb271, 3, none⟩ (.slice Ao23 t268.length co23)).heap[gb257]? = some (.cells #[.int .i64 a0_0, .slice A0_1 l0_1.length c0_1, .slice A0_2 l0_2.length c0_2, .slice A0_3 l0_3.length c0_3] 26 (0, 0))) := ⟨by (with_reducible repeat (first | refine blk_drewN ?_ _ | refine blk_drew ?_ | refine blk_alloc ?_ _)); refine blk_far ?_ NB257_271.out _; (with_reducible repeat (first | refine blk_drewN ?_ _ | refine blk_drew ?_ | refine blk_alloc ?_ _)); refine blk_far ?_ NB257_271.out _; (with_reducible repeat (first | refine blk_drewN ?_ _ | refine blk_drew ?_ | refine blk_alloc ?_ _)); refine blk_far ?_ NB257_271.out _; (with_reducible repeat (first | refine blk_drewN ?_ _ | refine blk_drew ?_ | refine blk_alloc ?_ _)); refine blk_far ?_ NB257_271.out _; (with_reducible repeat (first | refine blk_drewN ?_ _ | refine blk_drew ?_ | refine blk_alloc ?_ _)); exact BK257.out⟩
   have n4_ : Aside0 (((((w18.setCell ⟨gb271, 0, none⟩ (.int .i64 t261)).setCell ⟨gb271, 1, none⟩ (.slice Ao21 t262.length co21)).setCell ⟨gb271, 2, none⟩ (.slice Ao22 t265.length co22)).setCell ⟨gb271, 3, none⟩ (.slice Ao23 t268.length co23)).heap[gb271]? = some (.cells #[.int .i64 t261, .slice Ao21 t262.length co21, .slice Ao22 t265.length co22, .slice Ao23 t268.length co23] 26 (0, 0))) := ⟨by (with_reducible repeat (first | refine blk_drewN ?_ _ | refine blk_drew ?_ | refine blk_alloc ?_ _)); refine blk_put (cs := #[.int .i64 t261, .slice Ao21 t262.length co21, .slice Ao22 t265.length co22, .slice none 0 0]) ?_ 3 _ rfl; (with_reducible repeat (first | refine blk_drewN ?_ _ | refine blk_drew ?_ | refine blk_alloc ?_ _)); refine blk_put (cs := #[.int .i64 t261, .slice Ao21 t262.length co21, .slice none 0 0, .slice none 0 0]) ?_ 2 _ rfl; (with_reducible repeat (first | refine blk_drewN ?_ _ | refine blk_drew ?_ | refine blk_alloc ?_ _)); refine blk_put (cs := #[.int .i64 t261, .slice none 0 0, .slice none 0 0, .slice none 0 0]) ?_ 1 _ rfl; (with_reducible repeat (first | refine blk_drewN ?_ _ | refine blk_drew ?_ | refine blk_alloc ?_ _)); refine blk_put (cs := #[.int .i64 0, .slice none 0 0, .slice none 0 0, .slice none 0 0]) ?_ 0 _ rfl; (with_reducible repeat (first | refine blk_drewN ?_ _ | refine blk_drew ?_ | refine blk_alloc ?_ _)); exact BK271.out⟩
   have n5_ : Aside0 (Below w.heap.size w ((((w18.setCell ⟨gb271, 0, none⟩ (.int .i64 t261)).setCell ⟨gb271, 1, none⟩ (.slice Ao21 t262.length co21)).setCell ⟨gb271, 2, none⟩ (.slice Ao22 t265.length co22)).setCell ⟨gb271, 3, none⟩ (.slice Ao23 t268.length co23))) := ⟨by repeat (first | (with_reducible first | exact HB.out | apply below_alloc | apply pw_below_drewN | apply below_drew1 | refine below_set ?_ GE257.out | refine below_set ?_ GE271.out) | exact HB.out)⟩
   (try clear HO264)
   (try clear HO267)
   (try clear HO270)
   (try clear BK257)
   (try clear BK271)
   (try clear HB)
   (try simp only [setCell_drewN_])
   generalize ((((w18.setCell ⟨gb271, 0, none⟩ (.int .i64 t261)).setCell ⟨gb271, 1, none⟩ (.slice Ao21 t262.length co21)).setCell ⟨gb271, 2, none⟩ (.slice Ao22 t265.length co22)).setCell ⟨gb271, 3, none⟩ (.slice Ao23 t268.length co23)) = w36 at n0_ n1_ n2_ n3_ n4_ n5_ ⊢
   have HO264 := n0_
   have HO267 := n1_
   have HO270 := n2_
   have BK257 := n3_
   have BK271 := n4_
   have HB := n5_
   clear n0_ n1_ n2_ n3_ n4_ n5_
   have n0_ := Aside0.mk (Kd.S_drew HO264.out)
   have n1_ := Aside0.mk (Kd.S_drew HO267.out)
   have n2_ := Aside0.mk (Kd.R_drew HO270.out)
   have n3_ := Aside0.mk (blk_drew BK257.out)
   have n4_ := Aside0.mk (blk_drew BK271.out)
   have n5_ := Aside0.mk (below_drew1 HB.out)
   clear HO264
   clear HO267
   clear HO270
   clear BK257
   clear BK271
   clear HB
   have HO264 := n0_
   have HO267 := n1_
   have HO270 := n2_
   have BK257 := n3_
   have BK271 := n4_
   have HB := n5_
   clear n0_ n1_ n2_ n3_ n4_ n5_
   refine start_ (n := 23) (S := fun w' => w'.cell? ⟨gb271, 0, none⟩ = some (.int .i64 t261) ∧ w'.cell? ⟨gb271, 1, none⟩ = some (.slice Ao21 t262.length co21) ∧ w'.cell? ⟨gb271, 2, none⟩ = some (.slice Ao22 t265.length co22) ∧ w'.cell? ⟨gb271, 3, none⟩ = some (.slice Ao23 t268.length co23) ∧ w'.cell? ⟨gb257, 0, none⟩ = some (.int .i64 a0_0) ∧ w'.cell? ⟨gb257, 1, none⟩ = some (.slice A0_1 l0_1.length c0_1) ∧ w'.cell? ⟨gb257, 2, none⟩ = some (.slice A0_2 l0_2.length c0_2) ∧ w'.cell? ⟨gb257, 3, none⟩ = some (.slice A0_3 l0_3.length c0_3)) (ds := []) #[false, false, false, false, false, false, false, false, false, false, false, false, false, false, false, false, false, false, false, false, false, false, false] (by kernel_rfl) rfl rfl ⟨(blk_cell BK271.out 0).trans rfl, (blk_cell BK271.out 1).trans rfl, (blk_cell BK271.out 2).trans rfl, (blk_cell BK271.out 3).trans rfl, (blk_cell BK257.out 0).trans rfl, (blk_cell BK257.out 1).trans rfl, (blk_cell BK257.out 2).trans rfl, (blk_cell BK257.out 3).trans rfl⟩ (fun hHeld => ?_); refine with_tabW treelinelaw20_TopoRight.tab4 treelinelaw20_TopoRight.bits4 (fun HT_ HW_ => ?_)
   generalize w36.drew = w37 at HO264 HO267 HO270 BK257 BK271 HB hHeld ⊢
   refine take_ (i := 0) (N := some 21) (v := ?_) (a' := ?_) #[true, false, false, false, false, false, false, false, false, false, false, false, false, false, false, false, false, false, false, false, false, false, false] rfl rfl (take_ofW HT_.out HW_.out (by kernel_rfl)) (fun _ _ _ h => h) (Or.inl ⟨by rfl, ?_⟩) hHeld ?_ ?_
   rotate_left
   ·rintro w' ⟨s0, s1, s2, s3, s4, s5, s6, s7⟩
    go_simp
    with_reducible rfl
   rotate_left
   ·simp only [Act.put, List.setIfInBounds_toArray, List.set_cons_zero, List.set_cons_succ, i64_w, i32_w]
    rfl
   refine take_ (i := 2) (N := some 23) (v := ?_) (a' := ?_) #[true, false, true, false, false, false, false, false, false, false, false, false, false, false, false, false, false, false, false, false, false, false, false] rfl rfl (take_ofW HT_.out HW_.out (by kernel_rfl)) (fun _ _ _ h => h) (Or.inl ⟨by rfl, ?_⟩) hHeld ?_ ?_
   rotate_left
   ·rintro w' ⟨s0, s1, s2, s3, s4, s5, s6, s7⟩
    go_simp
    with_reducible rfl
   rotate_left
   ·simp only [Act.put, List.setIfInBounds_toArray, List.set_cons_zero, List.set_cons_succ, i64_w, i32_w]
    rfl
   refine one_ (i := 1) (N := some 22) #[true, true, true, false, false, false, false, false, false, false, false, false, false, false, false, false, false, false, false, false, false, false, false] rfl rfl (one_of HT_.out (by kernel_rfl)) (by decide) (fun K hK => ?_)
   refine goes_ Try.func9 (by kernel_rfl) rfl #[.agg #[.int .i64 t261, .slice Ao21 t262.length co21, .slice Ao22 t265.length co22, .slice Ao23 t268.length co23]] (by rfl) rfl rfl (by (try simp only [List.map_toArray, List.map_cons, List.map_nil]); first | done | rfl | (simp only [List.length_drop, List.length_take]; rfl)) ?_
   with_reducible refine (topo_Check.calls kj1 t261 _ _ t262 _ _ t265 _ _ t268 t272 _ ?side1 ?side2 ?side3 ?side4 ?side5 ?side6 A24.out).mono ?_
   (case side1 => repeat (first | exact (Kd.S_reads' HO264.out).2.2 | (with_reducible refine Kd.C_alloc ?_ _) | (with_reducible refine Kd.C_drewN ?_ _) | (with_reducible refine Kd.C_drew ?_)))
   (case side2 => exact (Kd.S_reads' HO264.out).2.1)
   (case side3 => repeat (first | exact (Kd.S_reads' HO267.out).2.2 | (with_reducible refine Kd.C_alloc ?_ _) | (with_reducible refine Kd.C_drewN ?_ _) | (with_reducible refine Kd.C_drew ?_)))
   (case side4 => exact (Kd.S_reads' HO267.out).2.1)
   (case side5 => repeat (first | exact (Kd.R_reads' HO270.out).2.2 | (with_reducible refine Kd.C_alloc ?_ _) | (with_reducible refine Kd.C_drewN ?_ _) | (with_reducible refine Kd.C_drew ?_)))
   (case side6 => exact (Kd.R_reads' HO270.out).2.1)
   rintro e w38 ⟨rfl, hb⟩
   refine ⟨_, rfl, ?_⟩
   have n0_ := Aside0.mk (Kd.S_below (by (with_reducible repeat (first | apply Kd.S_alloc | apply Kd.S_drewN | apply Kd.S_drew)); exact HO264.out) hb)
   have n1_ := Aside0.mk (Kd.S_below (by (with_reducible repeat (first | apply Kd.S_alloc | apply Kd.S_drewN | apply Kd.S_drew)); exact HO267.out) hb)
   have n2_ := Aside0.mk (Kd.R_below (by (with_reducible repeat (first | apply Kd.R_alloc | apply Kd.R_drewN | apply Kd.R_drew)); exact HO270.out) hb)
   have n3_ := Aside0.mk (blk_below (g := gb257) (o := .cells #[.int .i64 a0_0, .slice A0_1 l0_1.length c0_1, .slice A0_2 l0_2.length c0_2, .slice A0_3 l0_3.length c0_3] 26 (0, 0)) (by (with_reducible repeat (first | refine blk_drewN ?_ _ | refine blk_drew ?_ | refine blk_alloc ?_ _)); exact BK257.out) hb)
   have n4_ := Aside0.mk (blk_below (g := gb271) (o := .cells #[.int .i64 t261, .slice Ao21 t262.length co21, .slice Ao22 t265.length co22, .slice Ao23 t268.length co23] 26 (0, 0)) (by (with_reducible repeat (first | refine blk_drewN ?_ _ | refine blk_drew ?_ | refine blk_alloc ?_ _)); exact BK271.out) hb)
   have n5_ := Aside0.mk (below_step (by repeat (first | (with_reducible first | exact HB.out | apply below_alloc | apply pw_below_drewN | apply below_drew1 | refine below_set ?_ GE257.out | refine below_set ?_ GE271.out) | exact HB.out)) hb)
   clear HO264
   clear HO267
   clear HO270
   clear BK257
   clear BK271
   clear HB
   have HO264 := n0_
   have HO267 := n1_
   have HO270 := n2_
   have BK257 := n3_
   have BK271 := n4_
   have HB := n5_
   clear n0_ n1_ n2_ n3_ n4_ n5_
   (try clear hb)
   (try clear hb2)
   (try clear hk)
   (try clear hi)
   refine hK.out _ _ ⟨(blk_cell BK271.out 0).trans rfl, (blk_cell BK271.out 1).trans rfl, (blk_cell BK271.out 2).trans rfl, (blk_cell BK271.out 3).trans rfl, (blk_cell BK257.out 0).trans rfl, (blk_cell BK257.out 1).trans rfl, (blk_cell BK257.out 2).trans rfl, (blk_cell BK257.out 3).trans rfl⟩ (fun hHeld => ?_)
   clear hK K
   refine norm_ (a' := ?_) ?_ ?_
   rotate_left
   ·show Act.put _ (some 22) _ = _
    simp only [Act.put, List.setIfInBounds_toArray, List.set_cons_zero, List.set_cons_succ, i64_w, i32_w]
    rfl
   refine one_ (i := 3) (N := some 24) #[true, true, true, true, false, false, false, false, false, false, false, false, false, false, false, false, false, false, false, false, false, false, false] rfl rfl (one_of HT_.out (by kernel_rfl)) (by decide) (fun K hK => ?_)
   refine goes_ Try.func9 (by kernel_rfl) rfl #[.agg #[.int .i64 a0_0, .slice A0_1 l0_1.length c0_1, .slice A0_2 l0_2.length c0_2, .slice A0_3 l0_3.length c0_3]] (by rfl) rfl rfl (by (try simp only [List.map_toArray, List.map_cons, List.map_nil]); first | done | rfl | (simp only [List.length_drop, List.length_take]; rfl)) ?_
   with_reducible refine (topo_Check.calls kj1 a0_0 _ _ l0_1 _ _ l0_2 _ _ l0_3 t273 _ ?side1 ?side2 ?side3 ?side4 ?side5 ?side6 A25.out).mono ?_
   (case side1 => repeat (first | exact (Kd.C_below HR0_1.out HB.out) | (with_reducible refine Kd.C_alloc ?_ _) | (with_reducible refine Kd.C_drewN ?_ _) | (with_reducible refine Kd.C_drew ?_)))
   (case side2 => exact HC0_1.out)
   (case side3 => repeat (first | exact (Kd.C_below HR0_2.out HB.out) | (with_reducible refine Kd.C_alloc ?_ _) | (with_reducible refine Kd.C_drewN ?_ _) | (with_reducible refine Kd.C_drew ?_)))
   (case side4 => exact HC0_2.out)
   (case side5 => repeat (first | exact (Kd.C_below HR0_3.out HB.out) | (with_reducible refine Kd.C_alloc ?_ _) | (with_reducible refine Kd.C_drewN ?_ _) | (with_reducible refine Kd.C_drew ?_)))
   (case side6 => exact HC0_3.out)
   rintro e w39 ⟨rfl, hb⟩
   refine ⟨_, rfl, ?_⟩
   have n0_ := Aside0.mk (Kd.S_below (by (with_reducible repeat (first | apply Kd.S_alloc | apply Kd.S_drewN | apply Kd.S_drew)); exact HO264.out) hb)
   have n1_ := Aside0.mk (Kd.S_below (by (with_reducible repeat (first | apply Kd.S_alloc | apply Kd.S_drewN | apply Kd.S_drew)); exact HO267.out) hb)
   have n2_ := Aside0.mk (Kd.R_below (by (with_reducible repeat (first | apply Kd.R_alloc | apply Kd.R_drewN | apply Kd.R_drew)); exact HO270.out) hb)
   have n3_ := Aside0.mk (blk_below (g := gb257) (o := .cells #[.int .i64 a0_0, .slice A0_1 l0_1.length c0_1, .slice A0_2 l0_2.length c0_2, .slice A0_3 l0_3.length c0_3] 26 (0, 0)) (by (with_reducible repeat (first | refine blk_drewN ?_ _ | refine blk_drew ?_ | refine blk_alloc ?_ _)); exact BK257.out) hb)
   have n4_ := Aside0.mk (blk_below (g := gb271) (o := .cells #[.int .i64 t261, .slice Ao21 t262.length co21, .slice Ao22 t265.length co22, .slice Ao23 t268.length co23] 26 (0, 0)) (by (with_reducible repeat (first | refine blk_drewN ?_ _ | refine blk_drew ?_ | refine blk_alloc ?_ _)); exact BK271.out) hb)
   have n5_ := Aside0.mk (below_step (by repeat (first | (with_reducible first | exact HB.out | apply below_alloc | apply pw_below_drewN | apply below_drew1 | refine below_set ?_ GE257.out | refine below_set ?_ GE271.out) | exact HB.out)) hb)
   clear HO264
   clear HO267
   clear HO270
   clear BK257
   clear BK271
   clear HB
   have HO264 := n0_
   have HO267 := n1_
   have HO270 := n2_
   have BK257 := n3_
   have BK271 := n4_
   have HB := n5_
   clear n0_ n1_ n2_ n3_ n4_ n5_
   (try clear hb)
   (try clear hb2)
   (try clear hk)
   (try clear hi)
   refine hK.out _ _ ⟨(blk_cell BK271.out 0).trans rfl, (blk_cell BK271.out 1).trans rfl, (blk_cell BK271.out 2).trans rfl, (blk_cell BK271.out 3).trans rfl, (blk_cell BK257.out 0).trans rfl, (blk_cell BK257.out 1).trans rfl, (blk_cell BK257.out 2).trans rfl, (blk_cell BK257.out 3).trans rfl⟩ (fun hHeld => ?_)
   clear hK K
   refine norm_ (a' := ?_) ?_ ?_
   rotate_left
   ·show Act.put _ (some 24) _ = _
    simp only [Act.put, List.setIfInBounds_toArray, List.set_cons_zero, List.set_cons_succ, i64_w, i32_w]
    rfl
   refine pure_ (i := 4) (N := some 25) (v := ?_) (a' := ?_) #[true, true, true, true, true, false, false, false, false, false, false, false, false, false, false, false, false, false, false, false, false, false, false] rfl rfl (any_of HT_.out (by kernel_rfl)) (fun _ _ _ h => h) (Or.inl ⟨by rfl, ?_⟩) ?_ ?_
   rotate_left
   ·intro w'
    go_simp
    with_reducible rfl
   rotate_left
   ·simp only [Act.put, List.setIfInBounds_toArray, List.set_cons_zero, List.set_cons_succ, i64_w, i32_w]
    rfl
   refine pure_ (i := 5) (N := some 26) (v := ?_) (a' := ?_) #[true, true, true, true, true, true, false, false, false, false, false, false, false, false, false, false, false, false, false, false, false, false, false] rfl rfl (any_of HT_.out (by kernel_rfl)) (fun _ _ _ h => h) (Or.inl ⟨by rfl, ?_⟩) ?_ ?_
   rotate_left
   ·intro w'
    go_simp
    with_reducible rfl
   rotate_left
   ·simp only [Act.put, List.setIfInBounds_toArray, List.set_cons_zero, List.set_cons_succ, i64_w, i32_w]
    rfl
   refine pure_ (i := 6) (N := some 27) (v := undef) (a' := ?_) #[true, true, true, true, true, true, true, false, false, false, false, false, false, false, false, false, false, false, false, false, false, false, false] rfl rfl (any_of HT_.out (by kernel_rfl)) (fun _ _ _ h => h) (Or.inr ⟨by rfl, rfl⟩) ?_ ?_
   rotate_left
   ·simp only [Act.put, List.setIfInBounds_toArray, List.set_cons_zero, List.set_cons_succ, i64_w, i32_w]
    rfl
   refine pure_ (i := 7) (N := some 28) (v := undef) (a' := ?_) #[true, true, true, true, true, true, true, true, false, false, false, false, false, false, false, false, false, false, false, false, false, false, false] rfl rfl (any_of HT_.out (by kernel_rfl)) (fun _ _ _ h => h) (Or.inr ⟨by rfl, rfl⟩) ?_ ?_
   rotate_left
   ·simp only [Act.put, List.setIfInBounds_toArray, List.set_cons_zero, List.set_cons_succ, i64_w, i32_w]
    rfl
   refine pure_ (i := 8) (N := some 29) (v := undef) (a' := ?_) #[true, true, true, true, true, true, true, true, true, false, false, false, false, false, false, false, false, false, false, false, false, false, false] rfl rfl (any_of HT_.out (by kernel_rfl)) (fun _ _ _ h => h) (Or.inr ⟨by rfl, rfl⟩) ?_ ?_
   rotate_left
   ·simp only [Act.put, List.setIfInBounds_toArray, List.set_cons_zero, List.set_cons_succ, i64_w, i32_w]
    rfl
   refine pure_ (i := 9) (N := some 30) (v := undef) (a' := ?_) #[true, true, true, true, true, true, true, true, true, true, false, false, false, false, false, false, false, false, false, false, false, false, false] rfl rfl (any_of HT_.out (by kernel_rfl)) (fun _ _ _ h => h) (Or.inr ⟨by rfl, rfl⟩) ?_ ?_
   rotate_left
   ·simp only [Act.put, List.setIfInBounds_toArray, List.set_cons_zero, List.set_cons_succ, i64_w, i32_w]
    rfl
   refine pure_ (i := 10) (N := some 31) (v := undef) (a' := ?_) #[true, true, true, true, true, true, true, true, true, true, true, false, false, false, false, false, false, false, false, false, false, false, false] rfl rfl (any_of HT_.out (by kernel_rfl)) (fun _ _ _ h => h) (Or.inr ⟨by rfl, rfl⟩) ?_ ?_
   rotate_left
   ·simp only [Act.put, List.setIfInBounds_toArray, List.set_cons_zero, List.set_cons_succ, i64_w, i32_w]
    rfl
   refine pure_ (i := 11) (N := some 32) (v := undef) (a' := ?_) #[true, true, true, true, true, true, true, true, true, true, true, true, false, false, false, false, false, false, false, false, false, false, false] rfl rfl (any_of HT_.out (by kernel_rfl)) (fun _ _ _ h => h) (Or.inr ⟨by rfl, rfl⟩) ?_ ?_
   rotate_left
   ·simp only [Act.put, List.setIfInBounds_toArray, List.set_cons_zero, List.set_cons_succ, i64_w, i32_w]
    rfl
   refine pure_ (i := 12) (N := some 33) (v := undef) (a' := ?_) #[true, true, true, true, true, true, true, true, true, true, true, true, true, false, false, false, false, false, false, false, false, false, false] rfl rfl (any_of HT_.out (by kernel_rfl)) (fun _ _ _ h => h) (Or.inr ⟨by rfl, rfl⟩) ?_ ?_
   rotate_left
   ·simp only [Act.put, List.setIfInBounds_toArray, List.set_cons_zero, List.set_cons_succ, i64_w, i32_w]
    rfl
   refine pure_ (i := 13) (N := some 34) (v := ?_) (a' := ?_) #[true, true, true, true, true, true, true, true, true, true, true, true, true, true, false, false, false, false, false, false, false, false, false] rfl rfl (any_of HT_.out (by kernel_rfl)) (fun _ _ _ h => h) (Or.inl ⟨by rfl, ?_⟩) ?_ ?_
   rotate_left
   ·intro w'
    go_simp
    with_reducible rfl
   rotate_left
   ·simp only [Act.put, List.setIfInBounds_toArray, List.set_cons_zero, List.set_cons_succ, i64_w, i32_w]
    rfl
   refine pure_ (i := 14) (N := some 35) (v := ?_) (a' := ?_) #[true, true, true, true, true, true, true, true, true, true, true, true, true, true, true, false, false, false, false, false, false, false, false] rfl rfl (any_of HT_.out (by kernel_rfl)) (fun _ _ _ h => h) (Or.inl ⟨by rfl, ?_⟩) ?_ ?_
   rotate_left
   ·intro w'
    go_simp
    with_reducible rfl
   rotate_left
   ·simp only [Act.put, List.setIfInBounds_toArray, List.set_cons_zero, List.set_cons_succ, i64_w, i32_w]
    rfl
   refine pure_ (i := 15) (N := some 36) (v := undef) (a' := ?_) #[true, true, true, true, true, true, true, true, true, true, true, true, true, true, true, true, false, false, false, false, false, false, false] rfl rfl (any_of HT_.out (by kernel_rfl)) (fun _ _ _ h => h) (Or.inr ⟨by rfl, rfl⟩) ?_ ?_
   rotate_left
   ·simp only [Act.put, List.setIfInBounds_toArray, List.set_cons_zero, List.set_cons_succ, i64_w, i32_w]
    rfl
   refine pure_ (i := 16) (N := some 37) (v := undef) (a' := ?_) #[true, true, true, true, true, true, true, true, true, true, true, true, true, true, true, true, true, false, false, false, false, false, false] rfl rfl (any_of HT_.out (by kernel_rfl)) (fun _ _ _ h => h) (Or.inr ⟨by rfl, rfl⟩) ?_ ?_
   rotate_left
   ·simp only [Act.put, List.setIfInBounds_toArray, List.set_cons_zero, List.set_cons_succ, i64_w, i32_w]
    rfl
   refine pure_ (i := 17) (N := some 38) (v := undef) (a' := ?_) #[true, true, true, true, true, true, true, true, true, true, true, true, true, true, true, true, true, true, false, false, false, false, false] rfl rfl (any_of HT_.out (by kernel_rfl)) (fun _ _ _ h => h) (Or.inr ⟨by rfl, rfl⟩) ?_ ?_
   rotate_left
   ·simp only [Act.put, List.setIfInBounds_toArray, List.set_cons_zero, List.set_cons_succ, i64_w, i32_w]
    rfl
   refine pure_ (i := 18) (N := some 39) (v := undef) (a' := ?_) #[true, true, true, true, true, true, true, true, true, true, true, true, true, true, true, true, true, true, true, false, false, false, false] rfl rfl (any_of HT_.out (by kernel_rfl)) (fun _ _ _ h => h) (Or.inr ⟨by rfl, rfl⟩) ?_ ?_
   rotate_left
   ·simp only [Act.put, List.setIfInBounds_toArray, List.set_cons_zero, List.set_cons_succ, i64_w, i32_w]
    rfl
   refine pure_ (i := 19) (N := some 40) (v := undef) (a' := ?_) #[true, true, true, true, true, true, true, true, true, true, true, true, true, true, true, true, true, true, true, true, false, false, false] rfl rfl (any_of HT_.out (by kernel_rfl)) (fun _ _ _ h => h) (Or.inr ⟨by rfl, rfl⟩) ?_ ?_
   rotate_left
   ·simp only [Act.put, List.setIfInBounds_toArray, List.set_cons_zero, List.set_cons_succ, i64_w, i32_w]
    rfl
   refine pure_ (i := 20) (N := some 41) (v := undef) (a' := ?_) #[true, true, true, true, true, true, true, true, true, true, true, true, true, true, true, true, true, true, true, true, true, false, false] rfl rfl (any_of HT_.out (by kernel_rfl)) (fun _ _ _ h => h) (Or.inr ⟨by rfl, rfl⟩) ?_ ?_
   rotate_left
   ·simp only [Act.put, List.setIfInBounds_toArray, List.set_cons_zero, List.set_cons_succ, i64_w, i32_w]
    rfl
   refine pure_ (i := 21) (N := some 42) (v := undef) (a' := ?_) #[true, true, true, true, true, true, true, true, true, true, true, true, true, true, true, true, true, true, true, true, true, true, false] rfl rfl (any_of HT_.out (by kernel_rfl)) (fun _ _ _ h => h) (Or.inr ⟨by rfl, rfl⟩) ?_ ?_
   rotate_left
   ·simp only [Act.put, List.setIfInBounds_toArray, List.set_cons_zero, List.set_cons_succ, i64_w, i32_w]
    rfl
   refine pure_ (i := 22) (N := some 43) (v := ?_) (a' := ?_) #[true, true, true, true, true, true, true, true, true, true, true, true, true, true, true, true, true, true, true, true, true, true, true] rfl rfl (any_of HT_.out (by kernel_rfl)) (fun _ _ _ h => h) (Or.inl ⟨by rfl, ?_⟩) ?_ ?_
   rotate_left
   ·intro w'
    go_simp
    with_reducible rfl
   rotate_left
   ·simp only [Act.put, List.setIfInBounds_toArray, List.set_cons_zero, List.set_cons_succ, i64_w, i32_w]
    rfl
   refine done_ (done_of HT_.out (by kernel_rfl)) ?_
   try go_wp2
   go_meet
   case rel => exact ⟨_, (true), (by first | rfl | (simp; done) | (simp [*]; done)), H', ⟨by have := HJ1.out; first | omega | exact Nat.le_refl _⟩, ⟨by (with_reducible repeat (first | apply Kd.S_alloc | apply Kd.S_drewN | apply Kd.S_drew)); exact HO264.out⟩, ⟨by (with_reducible repeat (first | apply Kd.S_alloc | apply Kd.S_drewN | apply Kd.S_drew)); exact HO267.out⟩, ⟨by (with_reducible repeat (first | apply Kd.R_alloc | apply Kd.R_drewN | apply Kd.R_drew)); exact HO270.out⟩, ⟨by (with_reducible repeat (first | refine blk_drewN ?_ _ | refine blk_drew ?_ | refine blk_alloc ?_ _)); exact BK257.out⟩, ⟨by (with_reducible repeat (first | refine blk_drewN ?_ _ | refine blk_drew ?_ | refine blk_alloc ?_ _)); exact BK271.out⟩, ⟨by repeat (first | (with_reducible first | exact HB.out | apply below_alloc | apply pw_below_drewN | apply below_drew1 | refine below_set ?_ GE257.out | refine below_set ?_ GE271.out) | exact HB.out)⟩⟩
  rw [if_pos c26] at H
  have c26b0 : (t272 == t273) = true := beq_iff_eq.mpr c26
  have c26b1 : (t272 != t273) = false := bne_eq_false_iff_eq.mpr c26
  clear c26
  (first | rw [c26b0] | (simp only [i64_w, i32_w]; rw [c26b0]) | skip)
  by_cases c27 : (t265.length : Int) = (l0_2.length : Int)
  rotate_left
  ·rw [if_neg c27] at H
   have c27b0 : ((t265.length : Int) == (l0_2.length : Int)) = false := beq_eq_false_iff_ne.mpr c27
   have c27b1 : ((t265.length : Int) != (l0_2.length : Int)) = true := bne_iff_ne.mpr c27
   have c27b2 : (t265.length == l0_2.length) = false := by first | simpa using c27 | (simp at c27 ⊢; omega)
   have H' := Aside0.mk H
   clear H
   try go_wp2
   have n0_ : Aside0 (Kd.S k48 48 ((((w18.setCell ⟨gb271, 0, none⟩ (.int .i64 t261)).setCell ⟨gb271, 1, none⟩ (.slice Ao21 t262.length co21)).setCell ⟨gb271, 2, none⟩ (.slice Ao22 t265.length co22)).setCell ⟨gb271, 3, none⟩ (.slice Ao23 t268.length co23)) w.heap.size (fun _ => True) (.slice Ao21 t262.length co21) t262) := ⟨by (with_reducible repeat (first | apply Kd.S_alloc | apply Kd.S_drewN | apply Kd.S_drew)); exact Kd.S_mono (Kd.S_far (p := ⟨gb271, 3, none⟩) (Kd.S_far (p := ⟨gb271, 2, none⟩) (Kd.S_far (p := ⟨gb271, 1, none⟩) (Kd.S_far (p := ⟨gb271, 0, none⟩) (Kd.S_types HO264.out BK271.out (by decide)) (fun _ hk => hk.2) (.int .i64 t261)) (fun _ hk => hk.2) (.slice Ao21 t262.length co21)) (fun _ hk => hk.2) (.slice Ao22 t265.length co22)) (fun _ hk => hk.2) (.slice Ao23 t268.length co23)) (fun _ hk => trivial)⟩
   have n1_ : Aside0 (Kd.S (Kd.slice 3 (Kd.int .i64)) 33 ((((w18.setCell ⟨gb271, 0, none⟩ (.int .i64 t261)).setCell ⟨gb271, 1, none⟩ (.slice Ao21 t262.length co21)).setCell ⟨gb271, 2, none⟩ (.slice Ao22 t265.length co22)).setCell ⟨gb271, 3, none⟩ (.slice Ao23 t268.length co23)) w.heap.size (fun _ => True) (.slice Ao22 t265.length co22) t265) := ⟨by (with_reducible repeat (first | apply Kd.S_alloc | apply Kd.S_drewN | apply Kd.S_drew)); exact Kd.S_mono (Kd.S_far (p := ⟨gb271, 3, none⟩) (Kd.S_far (p := ⟨gb271, 2, none⟩) (Kd.S_far (p := ⟨gb271, 1, none⟩) (Kd.S_far (p := ⟨gb271, 0, none⟩) (Kd.S_types HO267.out BK271.out (by decide)) (fun _ hk => hk.2) (.int .i64 t261)) (fun _ hk => hk.2) (.slice Ao21 t262.length co21)) (fun _ hk => hk.2) (.slice Ao22 t265.length co22)) (fun _ hk => hk.2) (.slice Ao23 t268.length co23)) (fun _ hk => trivial)⟩
   have n2_ : Aside0 (Kd.R k59 59 ((((w18.setCell ⟨gb271, 0, none⟩ (.int .i64 t261)).setCell ⟨gb271, 1, none⟩ (.slice Ao21 t262.length co21)).setCell ⟨gb271, 2, none⟩ (.slice Ao22 t265.length co22)).setCell ⟨gb271, 3, none⟩ (.slice Ao23 t268.length co23)) w.heap.size (fun _ => True) (.slice Ao23 t268.length co23) t268) := ⟨by (with_reducible repeat (first | apply Kd.R_alloc | apply Kd.R_drewN | apply Kd.R_drew)); exact Kd.R_mono (Kd.R_far (p := ⟨gb271, 3, none⟩) (Kd.R_far (p := ⟨gb271, 2, none⟩) (Kd.R_far (p := ⟨gb271, 1, none⟩) (Kd.R_far (p := ⟨gb271, 0, none⟩) (Kd.R_types HO270.out BK271.out (by decide)) (fun _ hk => hk.2) (.int .i64 t261)) (fun _ hk => hk.2) (.slice Ao21 t262.length co21)) (fun _ hk => hk.2) (.slice Ao22 t265.length co22)) (fun _ hk => hk.2) (.slice Ao23 t268.length co23)) (fun _ hk => trivial)⟩
   have n3_ : Aside0 (((((w18.setCell ⟨gb271, 0, none⟩ (.int .i64 t261)).setCell ⟨gb271, 1, none⟩ (.slice Ao21 t262.length co21)).setCell ⟨gb271, 2, none⟩ (.slice Ao22 t265.length co22)).setCell ⟨gb271, 3, none⟩ (.slice Ao23 t268.length co23)).heap[gb257]? = some (.cells #[.int .i64 a0_0, .slice A0_1 l0_1.length c0_1, .slice A0_2 l0_2.length c0_2, .slice A0_3 l0_3.length c0_3] 26 (0, 0))) := ⟨by (with_reducible repeat (first | refine blk_drewN ?_ _ | refine blk_drew ?_ | refine blk_alloc ?_ _)); refine blk_far ?_ NB257_271.out _; (with_reducible repeat (first | refine blk_drewN ?_ _ | refine blk_drew ?_ | refine blk_alloc ?_ _)); refine blk_far ?_ NB257_271.out _; (with_reducible repeat (first | refine blk_drewN ?_ _ | refine blk_drew ?_ | refine blk_alloc ?_ _)); refine blk_far ?_ NB257_271.out _; (with_reducible repeat (first | refine blk_drewN ?_ _ | refine blk_drew ?_ | refine blk_alloc ?_ _)); refine blk_far ?_ NB257_271.out _; (with_reducible repeat (first | refine blk_drewN ?_ _ | refine blk_drew ?_ | refine blk_alloc ?_ _)); exact BK257.out⟩
   have n4_ : Aside0 (((((w18.setCell ⟨gb271, 0, none⟩ (.int .i64 t261)).setCell ⟨gb271, 1, none⟩ (.slice Ao21 t262.length co21)).setCell ⟨gb271, 2, none⟩ (.slice Ao22 t265.length co22)).setCell ⟨gb271, 3, none⟩ (.slice Ao23 t268.length co23)).heap[gb271]? = some (.cells #[.int .i64 t261, .slice Ao21 t262.length co21, .slice Ao22 t265.length co22, .slice Ao23 t268.length co23] 26 (0, 0))) := ⟨by (with_reducible repeat (first | refine blk_drewN ?_ _ | refine blk_drew ?_ | refine blk_alloc ?_ _)); refine blk_put (cs := #[.int .i64 t261, .slice Ao21 t262.length co21, .slice Ao22 t265.length co22, .slice none 0 0]) ?_ 3 _ rfl; (with_reducible repeat (first | refine blk_drewN ?_ _ | refine blk_drew ?_ | refine blk_alloc ?_ _)); refine blk_put (cs := #[.int .i64 t261, .slice Ao21 t262.length co21, .slice none 0 0, .slice none 0 0]) ?_ 2 _ rfl; (with_reducible repeat (first | refine blk_drewN ?_ _ | refine blk_drew ?_ | refine blk_alloc ?_ _)); refine blk_put (cs := #[.int .i64 t261, .slice none 0 0, .slice none 0 0, .slice none 0 0]) ?_ 1 _ rfl; (with_reducible repeat (first | refine blk_drewN ?_ _ | refine blk_drew ?_ | refine blk_alloc ?_ _)); refine blk_put (cs := #[.int .i64 0, .slice none 0 0, .slice none 0 0, .slice none 0 0]) ?_ 0 _ rfl; (with_reducible repeat (first | refine blk_drewN ?_ _ | refine blk_drew ?_ | refine blk_alloc ?_ _)); exact BK271.out⟩
   have n5_ : Aside0 (Below w.heap.size w ((((w18.setCell ⟨gb271, 0, none⟩ (.int .i64 t261)).setCell ⟨gb271, 1, none⟩ (.slice Ao21 t262.length co21)).setCell ⟨gb271, 2, none⟩ (.slice Ao22 t265.length co22)).setCell ⟨gb271, 3, none⟩ (.slice Ao23 t268.length co23))) := ⟨by repeat (first | (with_reducible first | exact HB.out | apply below_alloc | apply pw_below_drewN | apply below_drew1 | refine below_set ?_ GE257.out | refine below_set ?_ GE271.out) | exact HB.out)⟩
   (try clear HO264)
   (try clear HO267)
   (try clear HO270)
   (try clear BK257)
   (try clear BK271)
   (try clear HB)
   (try simp only [setCell_drewN_])
   generalize ((((w18.setCell ⟨gb271, 0, none⟩ (.int .i64 t261)).setCell ⟨gb271, 1, none⟩ (.slice Ao21 t262.length co21)).setCell ⟨gb271, 2, none⟩ (.slice Ao22 t265.length co22)).setCell ⟨gb271, 3, none⟩ (.slice Ao23 t268.length co23)) = w32 at n0_ n1_ n2_ n3_ n4_ n5_ ⊢
   have HO264 := n0_
   have HO267 := n1_
   have HO270 := n2_
   have BK257 := n3_
   have BK271 := n4_
   have HB := n5_
   clear n0_ n1_ n2_ n3_ n4_ n5_
   have n0_ := Aside0.mk (Kd.S_drew HO264.out)
   have n1_ := Aside0.mk (Kd.S_drew HO267.out)
   have n2_ := Aside0.mk (Kd.R_drew HO270.out)
   have n3_ := Aside0.mk (blk_drew BK257.out)
   have n4_ := Aside0.mk (blk_drew BK271.out)
   have n5_ := Aside0.mk (below_drew1 HB.out)
   clear HO264
   clear HO267
   clear HO270
   clear BK257
   clear BK271
   clear HB
   have HO264 := n0_
   have HO267 := n1_
   have HO270 := n2_
   have BK257 := n3_
   have BK271 := n4_
   have HB := n5_
   clear n0_ n1_ n2_ n3_ n4_ n5_
   refine start_ (n := 23) (S := fun w' => w'.cell? ⟨gb271, 0, none⟩ = some (.int .i64 t261) ∧ w'.cell? ⟨gb271, 1, none⟩ = some (.slice Ao21 t262.length co21) ∧ w'.cell? ⟨gb271, 2, none⟩ = some (.slice Ao22 t265.length co22) ∧ w'.cell? ⟨gb271, 3, none⟩ = some (.slice Ao23 t268.length co23) ∧ w'.cell? ⟨gb257, 0, none⟩ = some (.int .i64 a0_0) ∧ w'.cell? ⟨gb257, 1, none⟩ = some (.slice A0_1 l0_1.length c0_1) ∧ w'.cell? ⟨gb257, 2, none⟩ = some (.slice A0_2 l0_2.length c0_2) ∧ w'.cell? ⟨gb257, 3, none⟩ = some (.slice A0_3 l0_3.length c0_3)) (ds := []) #[false, false, false, false, false, false, false, false, false, false, false, false, false, false, false, false, false, false, false, false, false, false, false] (by kernel_rfl) rfl rfl ⟨(blk_cell BK271.out 0).trans rfl, (blk_cell BK271.out 1).trans rfl, (blk_cell BK271.out 2).trans rfl, (blk_cell BK271.out 3).trans rfl, (blk_cell BK257.out 0).trans rfl, (blk_cell BK257.out 1).trans rfl, (blk_cell BK257.out 2).trans rfl, (blk_cell BK257.out 3).trans rfl⟩ (fun hHeld => ?_); refine with_tabW treelinelaw20_TopoRight.tab4 treelinelaw20_TopoRight.bits4 (fun HT_ HW_ => ?_)
   generalize w32.drew = w33 at HO264 HO267 HO270 BK257 BK271 HB hHeld ⊢
   refine take_ (i := 0) (N := some 21) (v := ?_) (a' := ?_) #[true, false, false, false, false, false, false, false, false, false, false, false, false, false, false, false, false, false, false, false, false, false, false] rfl rfl (take_ofW HT_.out HW_.out (by kernel_rfl)) (fun _ _ _ h => h) (Or.inl ⟨by rfl, ?_⟩) hHeld ?_ ?_
   rotate_left
   ·rintro w' ⟨s0, s1, s2, s3, s4, s5, s6, s7⟩
    go_simp
    with_reducible rfl
   rotate_left
   ·simp only [Act.put, List.setIfInBounds_toArray, List.set_cons_zero, List.set_cons_succ, i64_w, i32_w]
    rfl
   refine take_ (i := 2) (N := some 23) (v := ?_) (a' := ?_) #[true, false, true, false, false, false, false, false, false, false, false, false, false, false, false, false, false, false, false, false, false, false, false] rfl rfl (take_ofW HT_.out HW_.out (by kernel_rfl)) (fun _ _ _ h => h) (Or.inl ⟨by rfl, ?_⟩) hHeld ?_ ?_
   rotate_left
   ·rintro w' ⟨s0, s1, s2, s3, s4, s5, s6, s7⟩
    go_simp
    with_reducible rfl
   rotate_left
   ·simp only [Act.put, List.setIfInBounds_toArray, List.set_cons_zero, List.set_cons_succ, i64_w, i32_w]
    rfl
   refine one_ (i := 1) (N := some 22) #[true, true, true, false, false, false, false, false, false, false, false, false, false, false, false, false, false, false, false, false, false, false, false] rfl rfl (one_of HT_.out (by kernel_rfl)) (by decide) (fun K hK => ?_)
   refine goes_ Try.func9 (by kernel_rfl) rfl #[.agg #[.int .i64 t261, .slice Ao21 t262.length co21, .slice Ao22 t265.length co22, .slice Ao23 t268.length co23]] (by rfl) rfl rfl (by (try simp only [List.map_toArray, List.map_cons, List.map_nil]); first | done | rfl | (simp only [List.length_drop, List.length_take]; rfl)) ?_
   with_reducible refine (topo_Check.calls kj1 t261 _ _ t262 _ _ t265 _ _ t268 t272 _ ?side1 ?side2 ?side3 ?side4 ?side5 ?side6 A24.out).mono ?_
   (case side1 => repeat (first | exact (Kd.S_reads' HO264.out).2.2 | (with_reducible refine Kd.C_alloc ?_ _) | (with_reducible refine Kd.C_drewN ?_ _) | (with_reducible refine Kd.C_drew ?_)))
   (case side2 => exact (Kd.S_reads' HO264.out).2.1)
   (case side3 => repeat (first | exact (Kd.S_reads' HO267.out).2.2 | (with_reducible refine Kd.C_alloc ?_ _) | (with_reducible refine Kd.C_drewN ?_ _) | (with_reducible refine Kd.C_drew ?_)))
   (case side4 => exact (Kd.S_reads' HO267.out).2.1)
   (case side5 => repeat (first | exact (Kd.R_reads' HO270.out).2.2 | (with_reducible refine Kd.C_alloc ?_ _) | (with_reducible refine Kd.C_drewN ?_ _) | (with_reducible refine Kd.C_drew ?_)))
   (case side6 => exact (Kd.R_reads' HO270.out).2.1)
   rintro e w34 ⟨rfl, hb⟩
   refine ⟨_, rfl, ?_⟩
   have n0_ := Aside0.mk (Kd.S_below (by (with_reducible repeat (first | apply Kd.S_alloc | apply Kd.S_drewN | apply Kd.S_drew)); exact HO264.out) hb)
   have n1_ := Aside0.mk (Kd.S_below (by (with_reducible repeat (first | apply Kd.S_alloc | apply Kd.S_drewN | apply Kd.S_drew)); exact HO267.out) hb)
   have n2_ := Aside0.mk (Kd.R_below (by (with_reducible repeat (first | apply Kd.R_alloc | apply Kd.R_drewN | apply Kd.R_drew)); exact HO270.out) hb)
   have n3_ := Aside0.mk (blk_below (g := gb257) (o := .cells #[.int .i64 a0_0, .slice A0_1 l0_1.length c0_1, .slice A0_2 l0_2.length c0_2, .slice A0_3 l0_3.length c0_3] 26 (0, 0)) (by (with_reducible repeat (first | refine blk_drewN ?_ _ | refine blk_drew ?_ | refine blk_alloc ?_ _)); exact BK257.out) hb)
   have n4_ := Aside0.mk (blk_below (g := gb271) (o := .cells #[.int .i64 t261, .slice Ao21 t262.length co21, .slice Ao22 t265.length co22, .slice Ao23 t268.length co23] 26 (0, 0)) (by (with_reducible repeat (first | refine blk_drewN ?_ _ | refine blk_drew ?_ | refine blk_alloc ?_ _)); exact BK271.out) hb)
   have n5_ := Aside0.mk (below_step (by repeat (first | (with_reducible first | exact HB.out | apply below_alloc | apply pw_below_drewN | apply below_drew1 | refine below_set ?_ GE257.out | refine below_set ?_ GE271.out) | exact HB.out)) hb)
   clear HO264
   clear HO267
   clear HO270
   clear BK257
   clear BK271
   clear HB
   have HO264 := n0_
   have HO267 := n1_
   have HO270 := n2_
   have BK257 := n3_
   have BK271 := n4_
   have HB := n5_
   clear n0_ n1_ n2_ n3_ n4_ n5_
   (try clear hb)
   (try clear hb2)
   (try clear hk)
   (try clear hi)
   refine hK.out _ _ ⟨(blk_cell BK271.out 0).trans rfl, (blk_cell BK271.out 1).trans rfl, (blk_cell BK271.out 2).trans rfl, (blk_cell BK271.out 3).trans rfl, (blk_cell BK257.out 0).trans rfl, (blk_cell BK257.out 1).trans rfl, (blk_cell BK257.out 2).trans rfl, (blk_cell BK257.out 3).trans rfl⟩ (fun hHeld => ?_)
   clear hK K
   refine norm_ (a' := ?_) ?_ ?_
   rotate_left
   ·show Act.put _ (some 22) _ = _
    simp only [Act.put, List.setIfInBounds_toArray, List.set_cons_zero, List.set_cons_succ, i64_w, i32_w]
    rfl
   refine one_ (i := 3) (N := some 24) #[true, true, true, true, false, false, false, false, false, false, false, false, false, false, false, false, false, false, false, false, false, false, false] rfl rfl (one_of HT_.out (by kernel_rfl)) (by decide) (fun K hK => ?_)
   refine goes_ Try.func9 (by kernel_rfl) rfl #[.agg #[.int .i64 a0_0, .slice A0_1 l0_1.length c0_1, .slice A0_2 l0_2.length c0_2, .slice A0_3 l0_3.length c0_3]] (by rfl) rfl rfl (by (try simp only [List.map_toArray, List.map_cons, List.map_nil]); first | done | rfl | (simp only [List.length_drop, List.length_take]; rfl)) ?_
   with_reducible refine (topo_Check.calls kj1 a0_0 _ _ l0_1 _ _ l0_2 _ _ l0_3 t273 _ ?side1 ?side2 ?side3 ?side4 ?side5 ?side6 A25.out).mono ?_
   (case side1 => repeat (first | exact (Kd.C_below HR0_1.out HB.out) | (with_reducible refine Kd.C_alloc ?_ _) | (with_reducible refine Kd.C_drewN ?_ _) | (with_reducible refine Kd.C_drew ?_)))
   (case side2 => exact HC0_1.out)
   (case side3 => repeat (first | exact (Kd.C_below HR0_2.out HB.out) | (with_reducible refine Kd.C_alloc ?_ _) | (with_reducible refine Kd.C_drewN ?_ _) | (with_reducible refine Kd.C_drew ?_)))
   (case side4 => exact HC0_2.out)
   (case side5 => repeat (first | exact (Kd.C_below HR0_3.out HB.out) | (with_reducible refine Kd.C_alloc ?_ _) | (with_reducible refine Kd.C_drewN ?_ _) | (with_reducible refine Kd.C_drew ?_)))
   (case side6 => exact HC0_3.out)
   rintro e w35 ⟨rfl, hb⟩
   refine ⟨_, rfl, ?_⟩
   have n0_ := Aside0.mk (Kd.S_below (by (with_reducible repeat (first | apply Kd.S_alloc | apply Kd.S_drewN | apply Kd.S_drew)); exact HO264.out) hb)
   have n1_ := Aside0.mk (Kd.S_below (by (with_reducible repeat (first | apply Kd.S_alloc | apply Kd.S_drewN | apply Kd.S_drew)); exact HO267.out) hb)
   have n2_ := Aside0.mk (Kd.R_below (by (with_reducible repeat (first | apply Kd.R_alloc | apply Kd.R_drewN | apply Kd.R_drew)); exact HO270.out) hb)
   have n3_ := Aside0.mk (blk_below (g := gb257) (o := .cells #[.int .i64 a0_0, .slice A0_1 l0_1.length c0_1, .slice A0_2 l0_2.length c0_2, .slice A0_3 l0_3.length c0_3] 26 (0, 0)) (by (with_reducible repeat (first | refine blk_drewN ?_ _ | refine blk_drew ?_ | refine blk_alloc ?_ _)); exact BK257.out) hb)
   have n4_ := Aside0.mk (blk_below (g := gb271) (o := .cells #[.int .i64 t261, .slice Ao21 t262.length co21, .slice Ao22 t265.length co22, .slice Ao23 t268.length co23] 26 (0, 0)) (by (with_reducible repeat (first | refine blk_drewN ?_ _ | refine blk_drew ?_ | refine blk_alloc ?_ _)); exact BK271.out) hb)
   have n5_ := Aside0.mk (below_step (by repeat (first | (with_reducible first | exact HB.out | apply below_alloc | apply pw_below_drewN | apply below_drew1 | refine below_set ?_ GE257.out | refine below_set ?_ GE271.out) | exact HB.out)) hb)
   clear HO264
   clear HO267
   clear HO270
   clear BK257
   clear BK271
   clear HB
   have HO264 := n0_
   have HO267 := n1_
   have HO270 := n2_
   have BK257 := n3_
   have BK271 := n4_
   have HB := n5_
   clear n0_ n1_ n2_ n3_ n4_ n5_
   (try clear hb)
   (try clear hb2)
   (try clear hk)
   (try clear hi)
   refine hK.out _ _ ⟨(blk_cell BK271.out 0).trans rfl, (blk_cell BK271.out 1).trans rfl, (blk_cell BK271.out 2).trans rfl, (blk_cell BK271.out 3).trans rfl, (blk_cell BK257.out 0).trans rfl, (blk_cell BK257.out 1).trans rfl, (blk_cell BK257.out 2).trans rfl, (blk_cell BK257.out 3).trans rfl⟩ (fun hHeld => ?_)
   clear hK K
   refine norm_ (a' := ?_) ?_ ?_
   rotate_left
   ·show Act.put _ (some 24) _ = _
    simp only [Act.put, List.setIfInBounds_toArray, List.set_cons_zero, List.set_cons_succ, i64_w, i32_w]
    rfl
   refine pure_ (i := 4) (N := some 25) (v := ?_) (a' := ?_) #[true, true, true, true, true, false, false, false, false, false, false, false, false, false, false, false, false, false, false, false, false, false, false] rfl rfl (any_of HT_.out (by kernel_rfl)) (fun _ _ _ h => h) (Or.inl ⟨by rfl, ?_⟩) ?_ ?_
   rotate_left
   ·intro w'
    go_simp
    with_reducible rfl
   rotate_left
   ·simp only [Act.put, List.setIfInBounds_toArray, List.set_cons_zero, List.set_cons_succ, i64_w, i32_w]
    rfl
   refine pure_ (i := 5) (N := some 26) (v := ?_) (a' := ?_) #[true, true, true, true, true, true, false, false, false, false, false, false, false, false, false, false, false, false, false, false, false, false, false] rfl rfl (any_of HT_.out (by kernel_rfl)) (fun _ _ _ h => h) (Or.inl ⟨by rfl, ?_⟩) ?_ ?_
   rotate_left
   ·intro w'
    go_simp
    with_reducible rfl
   rotate_left
   ·simp only [Act.put, List.setIfInBounds_toArray, List.set_cons_zero, List.set_cons_succ, i64_w, i32_w]
    rfl
   refine pure_ (i := 6) (N := some 27) (v := ?_) (a' := ?_) #[true, true, true, true, true, true, true, false, false, false, false, false, false, false, false, false, false, false, false, false, false, false, false] rfl rfl (any_of HT_.out (by kernel_rfl)) (fun _ _ _ h => h) (Or.inl ⟨by rfl, ?_⟩) ?_ ?_
   rotate_left
   ·intro w'
    go_simp
    with_reducible rfl
   rotate_left
   ·simp only [Act.put, List.setIfInBounds_toArray, List.set_cons_zero, List.set_cons_succ, i64_w, i32_w]
    rfl
   refine pure_ (i := 9) (N := some 30) (v := ?_) (a' := ?_) #[true, true, true, true, true, true, true, false, false, true, false, false, false, false, false, false, false, false, false, false, false, false, false] rfl rfl (any_of HT_.out (by kernel_rfl)) (fun _ _ _ h => h) (Or.inl ⟨by rfl, ?_⟩) ?_ ?_
   rotate_left
   ·intro w'
    go_simp
    with_reducible rfl
   rotate_left
   ·simp only [Act.put, List.setIfInBounds_toArray, List.set_cons_zero, List.set_cons_succ, i64_w, i32_w]
    rfl
   refine take_ (i := 7) (N := some 28) (v := ?_) (a' := ?_) #[true, true, true, true, true, true, true, true, false, true, false, false, false, false, false, false, false, false, false, false, false, false, false] rfl rfl (take_ofW HT_.out HW_.out (by kernel_rfl)) (fun _ _ _ h => h) (Or.inl ⟨by rfl, ?_⟩) hHeld ?_ ?_
   rotate_left
   ·rintro w' ⟨s0, s1, s2, s3, s4, s5, s6, s7⟩
    go_simp
    with_reducible rfl
   rotate_left
   ·simp only [Act.put, List.setIfInBounds_toArray, List.set_cons_zero, List.set_cons_succ, i64_w, i32_w]
    rfl
   refine pure_ (i := 8) (N := some 29) (v := ?_) (a' := ?_) #[true, true, true, true, true, true, true, true, true, true, false, false, false, false, false, false, false, false, false, false, false, false, false] rfl rfl (any_of HT_.out (by kernel_rfl)) (fun _ _ _ h => h) (Or.inl ⟨by rfl, ?_⟩) ?_ ?_
   rotate_left
   ·intro w'
    go_simp
    with_reducible rfl
   rotate_left
   ·simp only [Act.put, List.setIfInBounds_toArray, List.set_cons_zero, List.set_cons_succ, i64_w, i32_w]
    rfl
   refine take_ (i := 10) (N := some 31) (v := ?_) (a' := ?_) #[true, true, true, true, true, true, true, true, true, true, true, false, false, false, false, false, false, false, false, false, false, false, false] rfl rfl (take_ofW HT_.out HW_.out (by kernel_rfl)) (fun _ _ _ h => h) (Or.inl ⟨by rfl, ?_⟩) hHeld ?_ ?_
   rotate_left
   ·rintro w' ⟨s0, s1, s2, s3, s4, s5, s6, s7⟩
    go_simp
    with_reducible rfl
   rotate_left
   ·simp only [Act.put, List.setIfInBounds_toArray, List.set_cons_zero, List.set_cons_succ, i64_w, i32_w]
    rfl
   refine pure_ (i := 11) (N := some 32) (v := ?_) (a' := ?_) #[true, true, true, true, true, true, true, true, true, true, true, true, false, false, false, false, false, false, false, false, false, false, false] rfl rfl (any_of HT_.out (by kernel_rfl)) (fun _ _ _ h => h) (Or.inl ⟨by rfl, ?_⟩) ?_ ?_
   rotate_left
   ·intro w'
    go_simp
    with_reducible rfl
   rotate_left
   ·simp only [Act.put, List.setIfInBounds_toArray, List.set_cons_zero, List.set_cons_succ, i64_w, i32_w]
    rfl
   refine pure_ (i := 12) (N := some 33) (v := ?_) (a' := ?_) #[true, true, true, true, true, true, true, true, true, true, true, true, true, false, false, false, false, false, false, false, false, false, false] rfl rfl (any_of HT_.out (by kernel_rfl)) (fun _ _ _ h => h) (Or.inl ⟨by rfl, ?_⟩) ?_ ?_
   rotate_left
   ·intro w'
    go_simp
    with_reducible rfl
   rotate_left
   ·simp only [Act.put, List.setIfInBounds_toArray, List.set_cons_zero, List.set_cons_succ, i64_w, i32_w]
    rfl
   refine pure_ (i := 13) (N := some 34) (v := ?_) (a' := ?_) #[true, true, true, true, true, true, true, true, true, true, true, true, true, true, false, false, false, false, false, false, false, false, false] rfl rfl (any_of HT_.out (by kernel_rfl)) (fun _ _ _ h => h) (Or.inl ⟨by rfl, ?_⟩) ?_ ?_
   rotate_left
   ·intro w'
    go_simp
    with_reducible rfl
   rotate_left
   ·simp only [Act.put, List.setIfInBounds_toArray, List.set_cons_zero, List.set_cons_succ, i64_w, i32_w]
    rfl
   refine pure_ (i := 14) (N := some 35) (v := ?_) (a' := ?_) #[true, true, true, true, true, true, true, true, true, true, true, true, true, true, true, false, false, false, false, false, false, false, false] rfl rfl (any_of HT_.out (by kernel_rfl)) (fun _ _ _ h => h) (Or.inl ⟨by rfl, ?_⟩) ?_ ?_
   rotate_left
   ·intro w'
    go_simp
    with_reducible rfl
   rotate_left
   ·simp only [Act.put, List.setIfInBounds_toArray, List.set_cons_zero, List.set_cons_succ, i64_w, i32_w]
    rfl
   refine pure_ (i := 15) (N := some 36) (v := undef) (a' := ?_) #[true, true, true, true, true, true, true, true, true, true, true, true, true, true, true, true, false, false, false, false, false, false, false] rfl rfl (any_of HT_.out (by kernel_rfl)) (fun _ _ _ h => h) (Or.inr ⟨by rfl, rfl⟩) ?_ ?_
   rotate_left
   ·simp only [Act.put, List.setIfInBounds_toArray, List.set_cons_zero, List.set_cons_succ, i64_w, i32_w]
    rfl
   refine pure_ (i := 16) (N := some 37) (v := undef) (a' := ?_) #[true, true, true, true, true, true, true, true, true, true, true, true, true, true, true, true, true, false, false, false, false, false, false] rfl rfl (any_of HT_.out (by kernel_rfl)) (fun _ _ _ h => h) (Or.inr ⟨by rfl, rfl⟩) ?_ ?_
   rotate_left
   ·simp only [Act.put, List.setIfInBounds_toArray, List.set_cons_zero, List.set_cons_succ, i64_w, i32_w]
    rfl
   refine pure_ (i := 17) (N := some 38) (v := undef) (a' := ?_) #[true, true, true, true, true, true, true, true, true, true, true, true, true, true, true, true, true, true, false, false, false, false, false] rfl rfl (any_of HT_.out (by kernel_rfl)) (fun _ _ _ h => h) (Or.inr ⟨by rfl, rfl⟩) ?_ ?_
   rotate_left
   ·simp only [Act.put, List.setIfInBounds_toArray, List.set_cons_zero, List.set_cons_succ, i64_w, i32_w]
    rfl
   refine pure_ (i := 18) (N := some 39) (v := undef) (a' := ?_) #[true, true, true, true, true, true, true, true, true, true, true, true, true, true, true, true, true, true, true, false, false, false, false] rfl rfl (any_of HT_.out (by kernel_rfl)) (fun _ _ _ h => h) (Or.inr ⟨by rfl, rfl⟩) ?_ ?_
   rotate_left
   ·simp only [Act.put, List.setIfInBounds_toArray, List.set_cons_zero, List.set_cons_succ, i64_w, i32_w]
    rfl
   refine pure_ (i := 19) (N := some 40) (v := undef) (a' := ?_) #[true, true, true, true, true, true, true, true, true, true, true, true, true, true, true, true, true, true, true, true, false, false, false] rfl rfl (any_of HT_.out (by kernel_rfl)) (fun _ _ _ h => h) (Or.inr ⟨by rfl, rfl⟩) ?_ ?_
   rotate_left
   ·simp only [Act.put, List.setIfInBounds_toArray, List.set_cons_zero, List.set_cons_succ, i64_w, i32_w]
    rfl
   refine pure_ (i := 20) (N := some 41) (v := undef) (a' := ?_) #[true, true, true, true, true, true, true, true, true, true, true, true, true, true, true, true, true, true, true, true, true, false, false] rfl rfl (any_of HT_.out (by kernel_rfl)) (fun _ _ _ h => h) (Or.inr ⟨by rfl, rfl⟩) ?_ ?_
   rotate_left
   ·simp only [Act.put, List.setIfInBounds_toArray, List.set_cons_zero, List.set_cons_succ, i64_w, i32_w]
    rfl
   refine pure_ (i := 21) (N := some 42) (v := undef) (a' := ?_) #[true, true, true, true, true, true, true, true, true, true, true, true, true, true, true, true, true, true, true, true, true, true, false] rfl rfl (any_of HT_.out (by kernel_rfl)) (fun _ _ _ h => h) (Or.inr ⟨by rfl, rfl⟩) ?_ ?_
   rotate_left
   ·simp only [Act.put, List.setIfInBounds_toArray, List.set_cons_zero, List.set_cons_succ, i64_w, i32_w]
    rfl
   refine pure_ (i := 22) (N := some 43) (v := ?_) (a' := ?_) #[true, true, true, true, true, true, true, true, true, true, true, true, true, true, true, true, true, true, true, true, true, true, true] rfl rfl (any_of HT_.out (by kernel_rfl)) (fun _ _ _ h => h) (Or.inl ⟨by rfl, ?_⟩) ?_ ?_
   rotate_left
   ·intro w'
    go_simp
    with_reducible rfl
   rotate_left
   ·simp only [Act.put, List.setIfInBounds_toArray, List.set_cons_zero, List.set_cons_succ, i64_w, i32_w]
    rfl
   refine done_ (done_of HT_.out (by kernel_rfl)) ?_
   try go_wp2
   go_meet
   case rel => exact ⟨_, (true), (by first | rfl | (simp; done) | (simp [*]; done)), H', ⟨by have := HJ1.out; first | omega | exact Nat.le_refl _⟩, ⟨by (with_reducible repeat (first | apply Kd.S_alloc | apply Kd.S_drewN | apply Kd.S_drew)); exact HO264.out⟩, ⟨by (with_reducible repeat (first | apply Kd.S_alloc | apply Kd.S_drewN | apply Kd.S_drew)); exact HO267.out⟩, ⟨by (with_reducible repeat (first | apply Kd.R_alloc | apply Kd.R_drewN | apply Kd.R_drew)); exact HO270.out⟩, ⟨by (with_reducible repeat (first | refine blk_drewN ?_ _ | refine blk_drew ?_ | refine blk_alloc ?_ _)); exact BK257.out⟩, ⟨by (with_reducible repeat (first | refine blk_drewN ?_ _ | refine blk_drew ?_ | refine blk_alloc ?_ _)); exact BK271.out⟩, ⟨by repeat (first | (with_reducible first | exact HB.out | apply below_alloc | apply pw_below_drewN | apply below_drew1 | refine below_set ?_ GE257.out | refine below_set ?_ GE271.out) | exact HB.out)⟩⟩
  rw [if_pos c27] at H
  have c27b0 : ((t265.length : Int) == (l0_2.length : Int)) = true := beq_iff_eq.mpr c27
  have c27b1 : ((t265.length : Int) != (l0_2.length : Int)) = false := bne_eq_false_iff_eq.mpr c27
  have c27b2 : (t265.length == l0_2.length) = true := by first | simpa using c27 | (simp at c27 ⊢; omega)
  clear c27
  have H' := Aside0.mk H
  clear H
  try go_wp2
  have n0_ : Aside0 (Kd.S k48 48 ((((w18.setCell ⟨gb271, 0, none⟩ (.int .i64 t261)).setCell ⟨gb271, 1, none⟩ (.slice Ao21 t262.length co21)).setCell ⟨gb271, 2, none⟩ (.slice Ao22 t265.length co22)).setCell ⟨gb271, 3, none⟩ (.slice Ao23 t268.length co23)) w.heap.size (fun _ => True) (.slice Ao21 t262.length co21) t262) := ⟨by (with_reducible repeat (first | apply Kd.S_alloc | apply Kd.S_drewN | apply Kd.S_drew)); exact Kd.S_mono (Kd.S_far (p := ⟨gb271, 3, none⟩) (Kd.S_far (p := ⟨gb271, 2, none⟩) (Kd.S_far (p := ⟨gb271, 1, none⟩) (Kd.S_far (p := ⟨gb271, 0, none⟩) (Kd.S_types HO264.out BK271.out (by decide)) (fun _ hk => hk.2) (.int .i64 t261)) (fun _ hk => hk.2) (.slice Ao21 t262.length co21)) (fun _ hk => hk.2) (.slice Ao22 t265.length co22)) (fun _ hk => hk.2) (.slice Ao23 t268.length co23)) (fun _ hk => trivial)⟩
  have n1_ : Aside0 (Kd.S (Kd.slice 3 (Kd.int .i64)) 33 ((((w18.setCell ⟨gb271, 0, none⟩ (.int .i64 t261)).setCell ⟨gb271, 1, none⟩ (.slice Ao21 t262.length co21)).setCell ⟨gb271, 2, none⟩ (.slice Ao22 t265.length co22)).setCell ⟨gb271, 3, none⟩ (.slice Ao23 t268.length co23)) w.heap.size (fun _ => True) (.slice Ao22 t265.length co22) t265) := ⟨by (with_reducible repeat (first | apply Kd.S_alloc | apply Kd.S_drewN | apply Kd.S_drew)); exact Kd.S_mono (Kd.S_far (p := ⟨gb271, 3, none⟩) (Kd.S_far (p := ⟨gb271, 2, none⟩) (Kd.S_far (p := ⟨gb271, 1, none⟩) (Kd.S_far (p := ⟨gb271, 0, none⟩) (Kd.S_types HO267.out BK271.out (by decide)) (fun _ hk => hk.2) (.int .i64 t261)) (fun _ hk => hk.2) (.slice Ao21 t262.length co21)) (fun _ hk => hk.2) (.slice Ao22 t265.length co22)) (fun _ hk => hk.2) (.slice Ao23 t268.length co23)) (fun _ hk => trivial)⟩
  have n2_ : Aside0 (Kd.R k59 59 ((((w18.setCell ⟨gb271, 0, none⟩ (.int .i64 t261)).setCell ⟨gb271, 1, none⟩ (.slice Ao21 t262.length co21)).setCell ⟨gb271, 2, none⟩ (.slice Ao22 t265.length co22)).setCell ⟨gb271, 3, none⟩ (.slice Ao23 t268.length co23)) w.heap.size (fun _ => True) (.slice Ao23 t268.length co23) t268) := ⟨by (with_reducible repeat (first | apply Kd.R_alloc | apply Kd.R_drewN | apply Kd.R_drew)); exact Kd.R_mono (Kd.R_far (p := ⟨gb271, 3, none⟩) (Kd.R_far (p := ⟨gb271, 2, none⟩) (Kd.R_far (p := ⟨gb271, 1, none⟩) (Kd.R_far (p := ⟨gb271, 0, none⟩) (Kd.R_types HO270.out BK271.out (by decide)) (fun _ hk => hk.2) (.int .i64 t261)) (fun _ hk => hk.2) (.slice Ao21 t262.length co21)) (fun _ hk => hk.2) (.slice Ao22 t265.length co22)) (fun _ hk => hk.2) (.slice Ao23 t268.length co23)) (fun _ hk => trivial)⟩
  have n3_ : Aside0 (((((w18.setCell ⟨gb271, 0, none⟩ (.int .i64 t261)).setCell ⟨gb271, 1, none⟩ (.slice Ao21 t262.length co21)).setCell ⟨gb271, 2, none⟩ (.slice Ao22 t265.length co22)).setCell ⟨gb271, 3, none⟩ (.slice Ao23 t268.length co23)).heap[gb257]? = some (.cells #[.int .i64 a0_0, .slice A0_1 l0_1.length c0_1, .slice A0_2 l0_2.length c0_2, .slice A0_3 l0_3.length c0_3] 26 (0, 0))) := ⟨by (with_reducible repeat (first | refine blk_drewN ?_ _ | refine blk_drew ?_ | refine blk_alloc ?_ _)); refine blk_far ?_ NB257_271.out _; (with_reducible repeat (first | refine blk_drewN ?_ _ | refine blk_drew ?_ | refine blk_alloc ?_ _)); refine blk_far ?_ NB257_271.out _; (with_reducible repeat (first | refine blk_drewN ?_ _ | refine blk_drew ?_ | refine blk_alloc ?_ _)); refine blk_far ?_ NB257_271.out _; (with_reducible repeat (first | refine blk_drewN ?_ _ | refine blk_drew ?_ | refine blk_alloc ?_ _)); refine blk_far ?_ NB257_271.out _; (with_reducible repeat (first | refine blk_drewN ?_ _ | refine blk_drew ?_ | refine blk_alloc ?_ _)); exact BK257.out⟩
  have n4_ : Aside0 (((((w18.setCell ⟨gb271, 0, none⟩ (.int .i64 t261)).setCell ⟨gb271, 1, none⟩ (.slice Ao21 t262.length co21)).setCell ⟨gb271, 2, none⟩ (.slice Ao22 t265.length co22)).setCell ⟨gb271, 3, none⟩ (.slice Ao23 t268.length co23)).heap[gb271]? = some (.cells #[.int .i64 t261, .slice Ao21 t262.length co21, .slice Ao22 t265.length co22, .slice Ao23 t268.length co23] 26 (0, 0))) := ⟨by (with_reducible repeat (first | refine blk_drewN ?_ _ | refine blk_drew ?_ | refine blk_alloc ?_ _)); refine blk_put (cs := #[.int .i64 t261, .slice Ao21 t262.length co21, .slice Ao22 t265.length co22, .slice none 0 0]) ?_ 3 _ rfl; (with_reducible repeat (first | refine blk_drewN ?_ _ | refine blk_drew ?_ | refine blk_alloc ?_ _)); refine blk_put (cs := #[.int .i64 t261, .slice Ao21 t262.length co21, .slice none 0 0, .slice none 0 0]) ?_ 2 _ rfl; (with_reducible repeat (first | refine blk_drewN ?_ _ | refine blk_drew ?_ | refine blk_alloc ?_ _)); refine blk_put (cs := #[.int .i64 t261, .slice none 0 0, .slice none 0 0, .slice none 0 0]) ?_ 1 _ rfl; (with_reducible repeat (first | refine blk_drewN ?_ _ | refine blk_drew ?_ | refine blk_alloc ?_ _)); refine blk_put (cs := #[.int .i64 0, .slice none 0 0, .slice none 0 0, .slice none 0 0]) ?_ 0 _ rfl; (with_reducible repeat (first | refine blk_drewN ?_ _ | refine blk_drew ?_ | refine blk_alloc ?_ _)); exact BK271.out⟩
  have n5_ : Aside0 (Below w.heap.size w ((((w18.setCell ⟨gb271, 0, none⟩ (.int .i64 t261)).setCell ⟨gb271, 1, none⟩ (.slice Ao21 t262.length co21)).setCell ⟨gb271, 2, none⟩ (.slice Ao22 t265.length co22)).setCell ⟨gb271, 3, none⟩ (.slice Ao23 t268.length co23))) := ⟨by repeat (first | (with_reducible first | exact HB.out | apply below_alloc | apply pw_below_drewN | apply below_drew1 | refine below_set ?_ GE257.out | refine below_set ?_ GE271.out) | exact HB.out)⟩
  (try clear HO264)
  (try clear HO267)
  (try clear HO270)
  (try clear BK257)
  (try clear BK271)
  (try clear HB)
  (try simp only [setCell_drewN_])
  generalize ((((w18.setCell ⟨gb271, 0, none⟩ (.int .i64 t261)).setCell ⟨gb271, 1, none⟩ (.slice Ao21 t262.length co21)).setCell ⟨gb271, 2, none⟩ (.slice Ao22 t265.length co22)).setCell ⟨gb271, 3, none⟩ (.slice Ao23 t268.length co23)) = w28 at n0_ n1_ n2_ n3_ n4_ n5_ ⊢
  have HO264 := n0_
  have HO267 := n1_
  have HO270 := n2_
  have BK257 := n3_
  have BK271 := n4_
  have HB := n5_
  clear n0_ n1_ n2_ n3_ n4_ n5_
  have n0_ := Aside0.mk (Kd.S_drew HO264.out)
  have n1_ := Aside0.mk (Kd.S_drew HO267.out)
  have n2_ := Aside0.mk (Kd.R_drew HO270.out)
  have n3_ := Aside0.mk (blk_drew BK257.out)
  have n4_ := Aside0.mk (blk_drew BK271.out)
  have n5_ := Aside0.mk (below_drew1 HB.out)
  clear HO264
  clear HO267
  clear HO270
  clear BK257
  clear BK271
  clear HB
  have HO264 := n0_
  have HO267 := n1_
  have HO270 := n2_
  have BK257 := n3_
  have BK271 := n4_
  have HB := n5_
  clear n0_ n1_ n2_ n3_ n4_ n5_
  refine start_ (n := 23) (S := fun w' => w'.cell? ⟨gb271, 0, none⟩ = some (.int .i64 t261) ∧ w'.cell? ⟨gb271, 1, none⟩ = some (.slice Ao21 t262.length co21) ∧ w'.cell? ⟨gb271, 2, none⟩ = some (.slice Ao22 t265.length co22) ∧ w'.cell? ⟨gb271, 3, none⟩ = some (.slice Ao23 t268.length co23) ∧ w'.cell? ⟨gb257, 0, none⟩ = some (.int .i64 a0_0) ∧ w'.cell? ⟨gb257, 1, none⟩ = some (.slice A0_1 l0_1.length c0_1) ∧ w'.cell? ⟨gb257, 2, none⟩ = some (.slice A0_2 l0_2.length c0_2) ∧ w'.cell? ⟨gb257, 3, none⟩ = some (.slice A0_3 l0_3.length c0_3)) (ds := []) #[false, false, false, false, false, false, false, false, false, false, false, false, false, false, false, false, false, false, false, false, false, false, false] (by kernel_rfl) rfl rfl ⟨(blk_cell BK271.out 0).trans rfl, (blk_cell BK271.out 1).trans rfl, (blk_cell BK271.out 2).trans rfl, (blk_cell BK271.out 3).trans rfl, (blk_cell BK257.out 0).trans rfl, (blk_cell BK257.out 1).trans rfl, (blk_cell BK257.out 2).trans rfl, (blk_cell BK257.out 3).trans rfl⟩ (fun hHeld => ?_); refine with_tabW treelinelaw20_TopoRight.tab4 treelinelaw20_TopoRight.bits4 (fun HT_ HW_ => ?_)
  generalize w28.drew = w29 at HO264 HO267 HO270 BK257 BK271 HB hHeld ⊢
  refine take_ (i := 0) (N := some 21) (v := ?_) (a' := ?_) #[true, false, false, false, false, false, false, false, false, false, false, false, false, false, false, false, false, false, false, false, false, false, false] rfl rfl (take_ofW HT_.out HW_.out (by kernel_rfl)) (fun _ _ _ h => h) (Or.inl ⟨by rfl, ?_⟩) hHeld ?_ ?_
  rotate_left
  ·rintro w' ⟨s0, s1, s2, s3, s4, s5, s6, s7⟩
   go_simp
   with_reducible rfl
  rotate_left
  ·simp only [Act.put, List.setIfInBounds_toArray, List.set_cons_zero, List.set_cons_succ, i64_w, i32_w]
   rfl
  refine take_ (i := 2) (N := some 23) (v := ?_) (a' := ?_) #[true, false, true, false, false, false, false, false, false, false, false, false, false, false, false, false, false, false, false, false, false, false, false] rfl rfl (take_ofW HT_.out HW_.out (by kernel_rfl)) (fun _ _ _ h => h) (Or.inl ⟨by rfl, ?_⟩) hHeld ?_ ?_
  rotate_left
  ·rintro w' ⟨s0, s1, s2, s3, s4, s5, s6, s7⟩
   go_simp
   with_reducible rfl
  rotate_left
  ·simp only [Act.put, List.setIfInBounds_toArray, List.set_cons_zero, List.set_cons_succ, i64_w, i32_w]
   rfl
  refine one_ (i := 1) (N := some 22) #[true, true, true, false, false, false, false, false, false, false, false, false, false, false, false, false, false, false, false, false, false, false, false] rfl rfl (one_of HT_.out (by kernel_rfl)) (by decide) (fun K hK => ?_)
  refine goes_ Try.func9 (by kernel_rfl) rfl #[.agg #[.int .i64 t261, .slice Ao21 t262.length co21, .slice Ao22 t265.length co22, .slice Ao23 t268.length co23]] (by rfl) rfl rfl (by (try simp only [List.map_toArray, List.map_cons, List.map_nil]); first | done | rfl | (simp only [List.length_drop, List.length_take]; rfl)) ?_
  with_reducible refine (topo_Check.calls kj1 t261 _ _ t262 _ _ t265 _ _ t268 t272 _ ?side1 ?side2 ?side3 ?side4 ?side5 ?side6 A24.out).mono ?_
  (case side1 => repeat (first | exact (Kd.S_reads' HO264.out).2.2 | (with_reducible refine Kd.C_alloc ?_ _) | (with_reducible refine Kd.C_drewN ?_ _) | (with_reducible refine Kd.C_drew ?_)))
  (case side2 => exact (Kd.S_reads' HO264.out).2.1)
  (case side3 => repeat (first | exact (Kd.S_reads' HO267.out).2.2 | (with_reducible refine Kd.C_alloc ?_ _) | (with_reducible refine Kd.C_drewN ?_ _) | (with_reducible refine Kd.C_drew ?_)))
  (case side4 => exact (Kd.S_reads' HO267.out).2.1)
  (case side5 => repeat (first | exact (Kd.R_reads' HO270.out).2.2 | (with_reducible refine Kd.C_alloc ?_ _) | (with_reducible refine Kd.C_drewN ?_ _) | (with_reducible refine Kd.C_drew ?_)))
  (case side6 => exact (Kd.R_reads' HO270.out).2.1)
  rintro e w30 ⟨rfl, hb⟩
  refine ⟨_, rfl, ?_⟩
  have n0_ := Aside0.mk (Kd.S_below (by (with_reducible repeat (first | apply Kd.S_alloc | apply Kd.S_drewN | apply Kd.S_drew)); exact HO264.out) hb)
  have n1_ := Aside0.mk (Kd.S_below (by (with_reducible repeat (first | apply Kd.S_alloc | apply Kd.S_drewN | apply Kd.S_drew)); exact HO267.out) hb)
  have n2_ := Aside0.mk (Kd.R_below (by (with_reducible repeat (first | apply Kd.R_alloc | apply Kd.R_drewN | apply Kd.R_drew)); exact HO270.out) hb)
  have n3_ := Aside0.mk (blk_below (g := gb257) (o := .cells #[.int .i64 a0_0, .slice A0_1 l0_1.length c0_1, .slice A0_2 l0_2.length c0_2, .slice A0_3 l0_3.length c0_3] 26 (0, 0)) (by (with_reducible repeat (first | refine blk_drewN ?_ _ | refine blk_drew ?_ | refine blk_alloc ?_ _)); exact BK257.out) hb)
  have n4_ := Aside0.mk (blk_below (g := gb271) (o := .cells #[.int .i64 t261, .slice Ao21 t262.length co21, .slice Ao22 t265.length co22, .slice Ao23 t268.length co23] 26 (0, 0)) (by (with_reducible repeat (first | refine blk_drewN ?_ _ | refine blk_drew ?_ | refine blk_alloc ?_ _)); exact BK271.out) hb)
  have n5_ := Aside0.mk (below_step (by repeat (first | (with_reducible first | exact HB.out | apply below_alloc | apply pw_below_drewN | apply below_drew1 | refine below_set ?_ GE257.out | refine below_set ?_ GE271.out) | exact HB.out)) hb)
  clear HO264
  clear HO267
  clear HO270
  clear BK257
  clear BK271
  clear HB
  have HO264 := n0_
  have HO267 := n1_
  have HO270 := n2_
  have BK257 := n3_
  have BK271 := n4_
  have HB := n5_
  clear n0_ n1_ n2_ n3_ n4_ n5_
  (try clear hb)
  (try clear hb2)
  (try clear hk)
  (try clear hi)
  refine hK.out _ _ ⟨(blk_cell BK271.out 0).trans rfl, (blk_cell BK271.out 1).trans rfl, (blk_cell BK271.out 2).trans rfl, (blk_cell BK271.out 3).trans rfl, (blk_cell BK257.out 0).trans rfl, (blk_cell BK257.out 1).trans rfl, (blk_cell BK257.out 2).trans rfl, (blk_cell BK257.out 3).trans rfl⟩ (fun hHeld => ?_)
  clear hK K
  refine norm_ (a' := ?_) ?_ ?_
  rotate_left
  ·show Act.put _ (some 22) _ = _
   simp only [Act.put, List.setIfInBounds_toArray, List.set_cons_zero, List.set_cons_succ, i64_w, i32_w]
   rfl
  refine one_ (i := 3) (N := some 24) #[true, true, true, true, false, false, false, false, false, false, false, false, false, false, false, false, false, false, false, false, false, false, false] rfl rfl (one_of HT_.out (by kernel_rfl)) (by decide) (fun K hK => ?_)
  refine goes_ Try.func9 (by kernel_rfl) rfl #[.agg #[.int .i64 a0_0, .slice A0_1 l0_1.length c0_1, .slice A0_2 l0_2.length c0_2, .slice A0_3 l0_3.length c0_3]] (by rfl) rfl rfl (by (try simp only [List.map_toArray, List.map_cons, List.map_nil]); first | done | rfl | (simp only [List.length_drop, List.length_take]; rfl)) ?_
  with_reducible refine (topo_Check.calls kj1 a0_0 _ _ l0_1 _ _ l0_2 _ _ l0_3 t273 _ ?side1 ?side2 ?side3 ?side4 ?side5 ?side6 A25.out).mono ?_
  (case side1 => repeat (first | exact (Kd.C_below HR0_1.out HB.out) | (with_reducible refine Kd.C_alloc ?_ _) | (with_reducible refine Kd.C_drewN ?_ _) | (with_reducible refine Kd.C_drew ?_)))
  (case side2 => exact HC0_1.out)
  (case side3 => repeat (first | exact (Kd.C_below HR0_2.out HB.out) | (with_reducible refine Kd.C_alloc ?_ _) | (with_reducible refine Kd.C_drewN ?_ _) | (with_reducible refine Kd.C_drew ?_)))
  (case side4 => exact HC0_2.out)
  (case side5 => repeat (first | exact (Kd.C_below HR0_3.out HB.out) | (with_reducible refine Kd.C_alloc ?_ _) | (with_reducible refine Kd.C_drewN ?_ _) | (with_reducible refine Kd.C_drew ?_)))
  (case side6 => exact HC0_3.out)
  rintro e w31 ⟨rfl, hb⟩
  refine ⟨_, rfl, ?_⟩
  have n0_ := Aside0.mk (Kd.S_below (by (with_reducible repeat (first | apply Kd.S_alloc | apply Kd.S_drewN | apply Kd.S_drew)); exact HO264.out) hb)
  have n1_ := Aside0.mk (Kd.S_below (by (with_reducible repeat (first | apply Kd.S_alloc | apply Kd.S_drewN | apply Kd.S_drew)); exact HO267.out) hb)
  have n2_ := Aside0.mk (Kd.R_below (by (with_reducible repeat (first | apply Kd.R_alloc | apply Kd.R_drewN | apply Kd.R_drew)); exact HO270.out) hb)
  have n3_ := Aside0.mk (blk_below (g := gb257) (o := .cells #[.int .i64 a0_0, .slice A0_1 l0_1.length c0_1, .slice A0_2 l0_2.length c0_2, .slice A0_3 l0_3.length c0_3] 26 (0, 0)) (by (with_reducible repeat (first | refine blk_drewN ?_ _ | refine blk_drew ?_ | refine blk_alloc ?_ _)); exact BK257.out) hb)
  have n4_ := Aside0.mk (blk_below (g := gb271) (o := .cells #[.int .i64 t261, .slice Ao21 t262.length co21, .slice Ao22 t265.length co22, .slice Ao23 t268.length co23] 26 (0, 0)) (by (with_reducible repeat (first | refine blk_drewN ?_ _ | refine blk_drew ?_ | refine blk_alloc ?_ _)); exact BK271.out) hb)
  have n5_ := Aside0.mk (below_step (by repeat (first | (with_reducible first | exact HB.out | apply below_alloc | apply pw_below_drewN | apply below_drew1 | refine below_set ?_ GE257.out | refine below_set ?_ GE271.out) | exact HB.out)) hb)
  clear HO264
  clear HO267
  clear HO270
  clear BK257
  clear BK271
  clear HB
  have HO264 := n0_
  have HO267 := n1_
  have HO270 := n2_
  have BK257 := n3_
  have BK271 := n4_
  have HB := n5_
  clear n0_ n1_ n2_ n3_ n4_ n5_
  (try clear hb)
  (try clear hb2)
  (try clear hk)
  (try clear hi)
  refine hK.out _ _ ⟨(blk_cell BK271.out 0).trans rfl, (blk_cell BK271.out 1).trans rfl, (blk_cell BK271.out 2).trans rfl, (blk_cell BK271.out 3).trans rfl, (blk_cell BK257.out 0).trans rfl, (blk_cell BK257.out 1).trans rfl, (blk_cell BK257.out 2).trans rfl, (blk_cell BK257.out 3).trans rfl⟩ (fun hHeld => ?_)
  clear hK K
  refine norm_ (a' := ?_) ?_ ?_
  rotate_left
  ·show Act.put _ (some 24) _ = _
   simp only [Act.put, List.setIfInBounds_toArray, List.set_cons_zero, List.set_cons_succ, i64_w, i32_w]
   rfl
  refine pure_ (i := 4) (N := some 25) (v := ?_) (a' := ?_) #[true, true, true, true, true, false, false, false, false, false, false, false, false, false, false, false, false, false, false, false, false, false, false] rfl rfl (any_of HT_.out (by kernel_rfl)) (fun _ _ _ h => h) (Or.inl ⟨by rfl, ?_⟩) ?_ ?_
  rotate_left
  ·intro w'
   go_simp
   with_reducible rfl
  rotate_left
  ·simp only [Act.put, List.setIfInBounds_toArray, List.set_cons_zero, List.set_cons_succ, i64_w, i32_w]
   rfl
  refine pure_ (i := 5) (N := some 26) (v := ?_) (a' := ?_) #[true, true, true, true, true, true, false, false, false, false, false, false, false, false, false, false, false, false, false, false, false, false, false] rfl rfl (any_of HT_.out (by kernel_rfl)) (fun _ _ _ h => h) (Or.inl ⟨by rfl, ?_⟩) ?_ ?_
  rotate_left
  ·intro w'
   go_simp
   with_reducible rfl
  rotate_left
  ·simp only [Act.put, List.setIfInBounds_toArray, List.set_cons_zero, List.set_cons_succ, i64_w, i32_w]
   rfl
  refine pure_ (i := 6) (N := some 27) (v := ?_) (a' := ?_) #[true, true, true, true, true, true, true, false, false, false, false, false, false, false, false, false, false, false, false, false, false, false, false] rfl rfl (any_of HT_.out (by kernel_rfl)) (fun _ _ _ h => h) (Or.inl ⟨by rfl, ?_⟩) ?_ ?_
  rotate_left
  ·intro w'
   go_simp
   with_reducible rfl
  rotate_left
  ·simp only [Act.put, List.setIfInBounds_toArray, List.set_cons_zero, List.set_cons_succ, i64_w, i32_w]
   rfl
  refine pure_ (i := 9) (N := some 30) (v := ?_) (a' := ?_) #[true, true, true, true, true, true, true, false, false, true, false, false, false, false, false, false, false, false, false, false, false, false, false] rfl rfl (any_of HT_.out (by kernel_rfl)) (fun _ _ _ h => h) (Or.inl ⟨by rfl, ?_⟩) ?_ ?_
  rotate_left
  ·intro w'
   go_simp
   with_reducible rfl
  rotate_left
  ·simp only [Act.put, List.setIfInBounds_toArray, List.set_cons_zero, List.set_cons_succ, i64_w, i32_w]
   rfl
  refine take_ (i := 7) (N := some 28) (v := ?_) (a' := ?_) #[true, true, true, true, true, true, true, true, false, true, false, false, false, false, false, false, false, false, false, false, false, false, false] rfl rfl (take_ofW HT_.out HW_.out (by kernel_rfl)) (fun _ _ _ h => h) (Or.inl ⟨by rfl, ?_⟩) hHeld ?_ ?_
  rotate_left
  ·rintro w' ⟨s0, s1, s2, s3, s4, s5, s6, s7⟩
   go_simp
   with_reducible rfl
  rotate_left
  ·simp only [Act.put, List.setIfInBounds_toArray, List.set_cons_zero, List.set_cons_succ, i64_w, i32_w]
   rfl
  refine pure_ (i := 8) (N := some 29) (v := ?_) (a' := ?_) #[true, true, true, true, true, true, true, true, true, true, false, false, false, false, false, false, false, false, false, false, false, false, false] rfl rfl (any_of HT_.out (by kernel_rfl)) (fun _ _ _ h => h) (Or.inl ⟨by rfl, ?_⟩) ?_ ?_
  rotate_left
  ·intro w'
   go_simp
   with_reducible rfl
  rotate_left
  ·simp only [Act.put, List.setIfInBounds_toArray, List.set_cons_zero, List.set_cons_succ, i64_w, i32_w]
   rfl
  refine take_ (i := 10) (N := some 31) (v := ?_) (a' := ?_) #[true, true, true, true, true, true, true, true, true, true, true, false, false, false, false, false, false, false, false, false, false, false, false] rfl rfl (take_ofW HT_.out HW_.out (by kernel_rfl)) (fun _ _ _ h => h) (Or.inl ⟨by rfl, ?_⟩) hHeld ?_ ?_
  rotate_left
  ·rintro w' ⟨s0, s1, s2, s3, s4, s5, s6, s7⟩
   go_simp
   with_reducible rfl
  rotate_left
  ·simp only [Act.put, List.setIfInBounds_toArray, List.set_cons_zero, List.set_cons_succ, i64_w, i32_w]
   rfl
  refine pure_ (i := 11) (N := some 32) (v := ?_) (a' := ?_) #[true, true, true, true, true, true, true, true, true, true, true, true, false, false, false, false, false, false, false, false, false, false, false] rfl rfl (any_of HT_.out (by kernel_rfl)) (fun _ _ _ h => h) (Or.inl ⟨by rfl, ?_⟩) ?_ ?_
  rotate_left
  ·intro w'
   go_simp
   with_reducible rfl
  rotate_left
  ·simp only [Act.put, List.setIfInBounds_toArray, List.set_cons_zero, List.set_cons_succ, i64_w, i32_w]
   rfl
  refine pure_ (i := 12) (N := some 33) (v := ?_) (a' := ?_) #[true, true, true, true, true, true, true, true, true, true, true, true, true, false, false, false, false, false, false, false, false, false, false] rfl rfl (any_of HT_.out (by kernel_rfl)) (fun _ _ _ h => h) (Or.inl ⟨by rfl, ?_⟩) ?_ ?_
  rotate_left
  ·intro w'
   go_simp
   with_reducible rfl
  rotate_left
  ·simp only [Act.put, List.setIfInBounds_toArray, List.set_cons_zero, List.set_cons_succ, i64_w, i32_w]
   rfl
  refine pure_ (i := 13) (N := some 34) (v := ?_) (a' := ?_) #[true, true, true, true, true, true, true, true, true, true, true, true, true, true, false, false, false, false, false, false, false, false, false] rfl rfl (any_of HT_.out (by kernel_rfl)) (fun _ _ _ h => h) (Or.inl ⟨by rfl, ?_⟩) ?_ ?_
  rotate_left
  ·intro w'
   go_simp
   with_reducible rfl
  rotate_left
  ·simp only [Act.put, List.setIfInBounds_toArray, List.set_cons_zero, List.set_cons_succ, i64_w, i32_w]
   rfl
  refine pure_ (i := 14) (N := some 35) (v := ?_) (a' := ?_) #[true, true, true, true, true, true, true, true, true, true, true, true, true, true, true, false, false, false, false, false, false, false, false] rfl rfl (any_of HT_.out (by kernel_rfl)) (fun _ _ _ h => h) (Or.inl ⟨by rfl, ?_⟩) ?_ ?_
  rotate_left
  ·intro w'
   go_simp
   with_reducible rfl
  rotate_left
  ·simp only [Act.put, List.setIfInBounds_toArray, List.set_cons_zero, List.set_cons_succ, i64_w, i32_w]
   rfl
  refine pure_ (i := 15) (N := some 36) (v := ?_) (a' := ?_) #[true, true, true, true, true, true, true, true, true, true, true, true, true, true, true, true, false, false, false, false, false, false, false] rfl rfl (any_of HT_.out (by kernel_rfl)) (fun _ _ _ h => h) (Or.inl ⟨by rfl, ?_⟩) ?_ ?_
  rotate_left
  ·intro w'
   go_simp
   with_reducible rfl
  rotate_left
  ·simp only [Act.put, List.setIfInBounds_toArray, List.set_cons_zero, List.set_cons_succ, i64_w, i32_w]
   rfl
  refine pure_ (i := 18) (N := some 39) (v := ?_) (a' := ?_) #[true, true, true, true, true, true, true, true, true, true, true, true, true, true, true, true, false, false, true, false, false, false, false] rfl rfl (any_of HT_.out (by kernel_rfl)) (fun _ _ _ h => h) (Or.inl ⟨by rfl, ?_⟩) ?_ ?_
  rotate_left
  ·intro w'
   go_simp
   with_reducible rfl
  rotate_left
  ·simp only [Act.put, List.setIfInBounds_toArray, List.set_cons_zero, List.set_cons_succ, i64_w, i32_w]
   rfl
  refine take_ (i := 16) (N := some 37) (v := ?_) (a' := ?_) #[true, true, true, true, true, true, true, true, true, true, true, true, true, true, true, true, true, false, true, false, false, false, false] rfl rfl (take_ofW HT_.out HW_.out (by kernel_rfl)) (fun _ _ _ h => h) (Or.inl ⟨by rfl, ?_⟩) hHeld ?_ ?_
  rotate_left
  ·rintro w' ⟨s0, s1, s2, s3, s4, s5, s6, s7⟩
   go_simp
   with_reducible rfl
  rotate_left
  ·simp only [Act.put, List.setIfInBounds_toArray, List.set_cons_zero, List.set_cons_succ, i64_w, i32_w]
   rfl
  refine pure_ (i := 17) (N := some 38) (v := ?_) (a' := ?_) #[true, true, true, true, true, true, true, true, true, true, true, true, true, true, true, true, true, true, true, false, false, false, false] rfl rfl (any_of HT_.out (by kernel_rfl)) (fun _ _ _ h => h) (Or.inl ⟨by rfl, ?_⟩) ?_ ?_
  rotate_left
  ·intro w'
   go_simp
   with_reducible rfl
  rotate_left
  ·simp only [Act.put, List.setIfInBounds_toArray, List.set_cons_zero, List.set_cons_succ, i64_w, i32_w]
   rfl
  refine take_ (i := 19) (N := some 40) (v := ?_) (a' := ?_) #[true, true, true, true, true, true, true, true, true, true, true, true, true, true, true, true, true, true, true, true, false, false, false] rfl rfl (take_ofW HT_.out HW_.out (by kernel_rfl)) (fun _ _ _ h => h) (Or.inl ⟨by rfl, ?_⟩) hHeld ?_ ?_
  rotate_left
  ·rintro w' ⟨s0, s1, s2, s3, s4, s5, s6, s7⟩
   go_simp
   with_reducible rfl
  rotate_left
  ·simp only [Act.put, List.setIfInBounds_toArray, List.set_cons_zero, List.set_cons_succ, i64_w, i32_w]
   rfl
  refine pure_ (i := 20) (N := some 41) (v := ?_) (a' := ?_) #[true, true, true, true, true, true, true, true, true, true, true, true, true, true, true, true, true, true, true, true, true, false, false] rfl rfl (any_of HT_.out (by kernel_rfl)) (fun _ _ _ h => h) (Or.inl ⟨by rfl, ?_⟩) ?_ ?_
  rotate_left
  ·intro w'
   go_simp
   with_reducible rfl
  rotate_left
  ·simp only [Act.put, List.setIfInBounds_toArray, List.set_cons_zero, List.set_cons_succ, i64_w, i32_w]
   rfl
  refine pure_ (i := 21) (N := some 42) (v := ?_) (a' := ?_) #[true, true, true, true, true, true, true, true, true, true, true, true, true, true, true, true, true, true, true, true, true, true, false] rfl rfl (any_of HT_.out (by kernel_rfl)) (fun _ _ _ h => h) (Or.inl ⟨by rfl, ?_⟩) ?_ ?_
  rotate_left
  ·intro w'
   go_simp
   with_reducible rfl
  rotate_left
  ·simp only [Act.put, List.setIfInBounds_toArray, List.set_cons_zero, List.set_cons_succ, i64_w, i32_w]
   rfl
  refine pure_ (i := 22) (N := some 43) (v := ?_) (a' := ?_) #[true, true, true, true, true, true, true, true, true, true, true, true, true, true, true, true, true, true, true, true, true, true, true] rfl rfl (any_of HT_.out (by kernel_rfl)) (fun _ _ _ h => h) (Or.inl ⟨by rfl, ?_⟩) ?_ ?_
  rotate_left
  ·intro w'
   go_simp
   with_reducible rfl
  rotate_left
  ·simp only [Act.put, List.setIfInBounds_toArray, List.set_cons_zero, List.set_cons_succ, i64_w, i32_w]
   rfl
  refine done_ (done_of HT_.out (by kernel_rfl)) ?_
  try go_wp2
  go_meet
  case rel => exact ⟨_, (((t262.length : Int) != (l0_1.length : Int))), (by first | rfl | (simp; done) | (simp [*]; done)), H', ⟨by have := HJ1.out; first | omega | exact Nat.le_refl _⟩, ⟨by (with_reducible repeat (first | apply Kd.S_alloc | apply Kd.S_drewN | apply Kd.S_drew)); exact HO264.out⟩, ⟨by (with_reducible repeat (first | apply Kd.S_alloc | apply Kd.S_drewN | apply Kd.S_drew)); exact HO267.out⟩, ⟨by (with_reducible repeat (first | apply Kd.R_alloc | apply Kd.R_drewN | apply Kd.R_drew)); exact HO270.out⟩, ⟨by (with_reducible repeat (first | refine blk_drewN ?_ _ | refine blk_drew ?_ | refine blk_alloc ?_ _)); exact BK257.out⟩, ⟨by (with_reducible repeat (first | refine blk_drewN ?_ _ | refine blk_drew ?_ | refine blk_alloc ?_ _)); exact BK271.out⟩, ⟨by repeat (first | (with_reducible first | exact HB.out | apply below_alloc | apply pw_below_drewN | apply below_drew1 | refine below_set ?_ GE257.out | refine below_set ?_ GE271.out) | exact HB.out)⟩⟩
 clear HC15
 try clear c2
 try clear p2
 try clear c9
 try clear c26
 try clear c26b0
 try clear c26b1
 try clear c27
 try clear c27b0
 try clear c27b1
 try clear c27b2
 obtain ⟨kq, x43_14, rfl, HA, HJ14, HO_272001, HO_272002, HO_272003, BK257, BK271, HB⟩ := hcut
 cases kq with
 | zero => exact absurd HA.out (by simp [treelinelaw20_TopoRight.j1])
 | succ kj14 => ?_
 have H := HA.out
 clear HA
 simp only [treelinelaw20_TopoRight.j1] at H
 by_cases c40 : x43_14 = true
 ·subst c40
  have H1 : (some false) = some r := by rw [if_pos rfl] at H; exact H
  clear H
  have H := H1
  clear H1
  exact absurd ((Option.some.inj H).trans LRT.out) (by decide)
 replace c40 := Bool.eq_false_iff.mpr c40
 subst c40
 have H1 : (treelinelaw20_TopoRight.l0 kj14 0 0 a0_0 l0_1 l0_2 l0_3 t261 t262 t265 t268) = some r := by rw [if_neg (show ¬ (false = true) by decide)] at H; exact H
 clear H
 have H := H1
 clear H1
 have H' := Aside0.mk H
 clear H
 go_wp2
 go_loopg [4, 5] kj14 (fun kq v4 v5 w' => ∃ (x4_3 : Int) (x5_3 : Int), v4 = .int .i64 x4_3 ∧ v5 = .int .i64 x5_3 ∧ Aside0 (treelinelaw20_TopoRight.l0 kq x4_3 x5_3 a0_0 l0_1 l0_2 l0_3 t261 t262 t265 t268 = some r) ∧ Aside0 (kq ≤ kj14) ∧ Aside0 (Kd.S k48 48 w' w.heap.size (fun _ => True) (.slice Ao21 t262.length co21) t262) ∧ Aside0 (Kd.S (Kd.slice 3 (Kd.int .i64)) 33 w' w.heap.size (fun _ => True) (.slice Ao22 t265.length co22) t265) ∧ Aside0 (Kd.R k59 59 w' w.heap.size (fun _ => True) (.slice Ao23 t268.length co23) t268) ∧ Aside0 (w'.heap[gb257]? = some (.cells #[.int .i64 a0_0, (.slice A0_1 l0_1.length c0_1), (.slice A0_2 l0_2.length c0_2), (.slice A0_3 l0_3.length c0_3)] 26 (0, 0))) ∧ Aside0 (w'.heap[gb271]? = some (.cells #[.int .i64 t261, (.slice Ao21 t262.length co21), (.slice Ao22 t265.length co22), (.slice Ao23 t268.length co23)] 26 (0, 0))) ∧ Aside0 (Below w.heap.size w w'))
 case atStart => exact ⟨(0), (0), (by first | rfl | (simp; done) | (simp [*]; done)), (by first | rfl | (simp; done) | (simp [*]; done)), H', ⟨Nat.le_refl _⟩, ⟨by (with_reducible repeat (first | apply Kd.S_alloc | apply Kd.S_drewN | apply Kd.S_drew)); exact HO_272001.out⟩, ⟨by (with_reducible repeat (first | apply Kd.S_alloc | apply Kd.S_drewN | apply Kd.S_drew)); exact HO_272002.out⟩, ⟨by (with_reducible repeat (first | apply Kd.R_alloc | apply Kd.R_drewN | apply Kd.R_drew)); exact HO_272003.out⟩, ⟨by (with_reducible repeat (first | refine blk_drewN ?_ _ | refine blk_drew ?_ | refine blk_alloc ?_ _)); exact BK257.out⟩, ⟨by (with_reducible repeat (first | refine blk_drewN ?_ _ | refine blk_drew ?_ | refine blk_alloc ?_ _)); exact BK271.out⟩, ⟨by repeat (first | (with_reducible first | exact HB.out | apply below_alloc | apply pw_below_drewN | apply below_drew1 | refine below_set ?_ GE257.out | refine below_set ?_ GE271.out) | exact HB.out)⟩⟩
 clear H'
 try clear c2
 try clear p2
 try clear c4
 try clear c9
 try clear c26
 try clear c26b0
 try clear c26b1
 try clear c27
 try clear c27b0
 try clear c27b1
 try clear c27b2
 try clear c40
 try clear p2
 obtain ⟨x4_3, x5_3, rfl, rfl, HA, HK3, HO_272001, HO_272002, HO_272003, BK257, BK271, HB⟩ := hrel
 cases gk with
 | zero => exact absurd HA.out (by simp [treelinelaw20_TopoRight.l0])
 | succ k3 => ?_
 have H := HA.out
 clear HA
 simp only [treelinelaw20_TopoRight.l0] at H
 by_cases c41 : x5_3 < a0_0
 ·rw [if_pos c41] at H
  have c41b0 : decide (x5_3 < a0_0) = true := decide_eq_true c41
  clear c41
  replace H := Option.bind_eq_some_iff.mp H
  obtain ⟨t274, A420, H⟩ := H
  replace H : (treelinelaw20_TopoRight.l0 k3 (wrap64 (x4_3 + (t274.length : Int))) (wrap64 (x5_3 + 1)) a0_0 l0_1 l0_2 l0_3 t261 t262 t265 t268) = some r := H
  have A42 := Aside0.mk A420
  clear A420
  have H' := Aside0.mk H
  clear H
  have hnb43 := NB257_271.out
  have hnc43 := NB271_257.out
  have hcz44_0 : wr.cell? ⟨gb257, 0, none⟩ = some (.int .i64 a0_0) := (blk_cell BK257.out 0).trans rfl
  have hcz44_1 : wr.cell? ⟨gb257, 1, none⟩ = some (.slice A0_1 l0_1.length c0_1) := (blk_cell BK257.out 1).trans rfl
  have hcz44_2 : wr.cell? ⟨gb257, 2, none⟩ = some (.slice A0_2 l0_2.length c0_2) := (blk_cell BK257.out 2).trans rfl
  have hcz44_3 : wr.cell? ⟨gb257, 3, none⟩ = some (.slice A0_3 l0_3.length c0_3) := (blk_cell BK257.out 3).trans rfl
  have hfz44_0 := blk_frozen BK257.out 0
  have hfz44_1 := blk_frozen BK257.out 1
  have hfz44_2 := blk_frozen BK257.out 2
  have hfz44_3 := blk_frozen BK257.out 3
  go_wp2_with (first | ((with_reducible refine gate_callee (f := 16) rfl ?_); refine goesL_ (some 53) rfl rfl Try.func16 (by kernel_rfl) rfl #[.agg #[.int .i64 a0_0, .slice A0_1 l0_1.length c0_1, .slice A0_2 l0_2.length c0_2, .slice A0_3 l0_3.length c0_3], .int .i64 x5_3] rfl (by (try simp only [List.map_toArray, List.map_cons, List.map_nil]); first | done | rfl | (simp only [List.length_drop, List.length_take]; rfl)) ?_; (with_reducible refine (topo_Ends.calls k3 a0_0 _ _ l0_1 _ _ l0_2 _ _ l0_3 x5_3 t274 _ ?side1 ?side2 ?side3 ?side4 ?side5 ?side6 A42.out).mono ?_); (case side1 => repeat (first | exact (Kd.C_below HR0_1.out HB.out) | (with_reducible refine Kd.C_alloc ?_ _) | (with_reducible refine Kd.C_drewN ?_ _) | (with_reducible refine Kd.C_drew ?_))); (case side2 => exact HC0_1.out); (case side3 => repeat (first | exact (Kd.C_below HR0_2.out HB.out) | (with_reducible refine Kd.C_alloc ?_ _) | (with_reducible refine Kd.C_drewN ?_ _) | (with_reducible refine Kd.C_drew ?_))); (case side4 => exact HC0_2.out); (case side5 => repeat (first | exact (Kd.C_below HR0_3.out HB.out) | (with_reducible refine Kd.C_alloc ?_ _) | (with_reducible refine Kd.C_drewN ?_ _) | (with_reducible refine Kd.C_drew ?_))); (case side6 => exact HC0_3.out); rintro e w45 ⟨v275, rfl, ho0, hb⟩; refine ⟨_, rfl, ?_⟩; have n0_ := Aside0.mk (Kd.S_below (by (with_reducible repeat (first | apply Kd.S_alloc | apply Kd.S_drewN | apply Kd.S_drew)); exact HO_272001.out) hb); have n1_ := Aside0.mk (Kd.S_below (by (with_reducible repeat (first | apply Kd.S_alloc | apply Kd.S_drewN | apply Kd.S_drew)); exact HO_272002.out) hb); have n2_ := Aside0.mk (Kd.R_below (by (with_reducible repeat (first | apply Kd.R_alloc | apply Kd.R_drewN | apply Kd.R_drew)); exact HO_272003.out) hb); have n3_ := Aside0.mk (Kd.R_lower ho0 (below_size (by repeat (first | (with_reducible first | exact HB.out | apply below_alloc | apply pw_below_drewN | apply below_drew1 | refine below_set ?_ GE257.out | refine below_set ?_ GE271.out) | exact HB.out)))); have n4_ := Aside0.mk (blk_below (g := gb257) (o := .cells #[.int .i64 a0_0, .slice A0_1 l0_1.length c0_1, .slice A0_2 l0_2.length c0_2, .slice A0_3 l0_3.length c0_3] 26 (0, 0)) (by (with_reducible repeat (first | refine blk_drewN ?_ _ | refine blk_drew ?_ | refine blk_alloc ?_ _)); exact BK257.out) hb); have n5_ := Aside0.mk (blk_below (g := gb271) (o := .cells #[.int .i64 t261, .slice Ao21 t262.length co21, .slice Ao22 t265.length co22, .slice Ao23 t268.length co23] 26 (0, 0)) (by (with_reducible repeat (first | refine blk_drewN ?_ _ | refine blk_drew ?_ | refine blk_alloc ?_ _)); exact BK271.out) hb); have n6_ := Aside0.mk (below_step (by repeat (first | (with_reducible first | exact HB.out | apply below_alloc | apply pw_below_drewN | apply below_drew1 | refine below_set ?_ GE257.out | refine below_set ?_ GE271.out) | exact HB.out)) hb); clear HO_272001; clear HO_272002; clear HO_272003; clear BK257; clear BK271; clear HB; have HO_272001 := n0_; have HO_272002 := n1_; have HO_272003 := n2_; have HO276 := n3_; have BK257 := n4_; have BK271 := n5_; have HB := n6_; clear n0_ n1_ n2_ n3_ n4_ n5_ n6_; (try clear hb); (try clear hb2); (try clear hk); (try clear hi); (try clear ho0); obtain ⟨Ao46, co46, eo46⟩ := Kd.R_slice HO276.out; subst eo46) | (go_at_call 16; (with_reducible refine (topo_Ends.calls k3 a0_0 _ _ l0_1 _ _ l0_2 _ _ l0_3 x5_3 t274 _ ?side1 ?side2 ?side3 ?side4 ?side5 ?side6 A42.out).mono ?_); (case side1 => repeat (first | exact (Kd.C_below HR0_1.out HB.out) | (with_reducible refine Kd.C_alloc ?_ _) | (with_reducible refine Kd.C_drewN ?_ _) | (with_reducible refine Kd.C_drew ?_))); (case side2 => exact HC0_1.out); (case side3 => repeat (first | exact (Kd.C_below HR0_2.out HB.out) | (with_reducible refine Kd.C_alloc ?_ _) | (with_reducible refine Kd.C_drewN ?_ _) | (with_reducible refine Kd.C_drew ?_))); (case side4 => exact HC0_2.out); (case side5 => repeat (first | exact (Kd.C_below HR0_3.out HB.out) | (with_reducible refine Kd.C_alloc ?_ _) | (with_reducible refine Kd.C_drewN ?_ _) | (with_reducible refine Kd.C_drew ?_))); (case side6 => exact HC0_3.out); rintro e w45 ⟨v275, rfl, ho0, hb⟩; have n0_ := Aside0.mk (Kd.S_below (by (with_reducible repeat (first | apply Kd.S_alloc | apply Kd.S_drewN | apply Kd.S_drew)); exact HO_272001.out) hb); have n1_ := Aside0.mk (Kd.S_below (by (with_reducible repeat (first | apply Kd.S_alloc | apply Kd.S_drewN | apply Kd.S_drew)); exact HO_272002.out) hb); have n2_ := Aside0.mk (Kd.R_below (by (with_reducible repeat (first | apply Kd.R_alloc | apply Kd.R_drewN | apply Kd.R_drew)); exact HO_272003.out) hb); have n3_ := Aside0.mk (Kd.R_lower ho0 (below_size (by repeat (first | (with_reducible first | exact HB.out | apply below_alloc | apply pw_below_drewN | apply below_drew1 | refine below_set ?_ GE257.out | refine below_set ?_ GE271.out) | exact HB.out)))); have n4_ := Aside0.mk (blk_below (g := gb257) (o := .cells #[.int .i64 a0_0, .slice A0_1 l0_1.length c0_1, .slice A0_2 l0_2.length c0_2, .slice A0_3 l0_3.length c0_3] 26 (0, 0)) (by (with_reducible repeat (first | refine blk_drewN ?_ _ | refine blk_drew ?_ | refine blk_alloc ?_ _)); exact BK257.out) hb); have n5_ := Aside0.mk (blk_below (g := gb271) (o := .cells #[.int .i64 t261, .slice Ao21 t262.length co21, .slice Ao22 t265.length co22, .slice Ao23 t268.length co23] 26 (0, 0)) (by (with_reducible repeat (first | refine blk_drewN ?_ _ | refine blk_drew ?_ | refine blk_alloc ?_ _)); exact BK271.out) hb); have n6_ := Aside0.mk (below_step (by repeat (first | (with_reducible first | exact HB.out | apply below_alloc | apply pw_below_drewN | apply below_drew1 | refine below_set ?_ GE257.out | refine below_set ?_ GE271.out) | exact HB.out)) hb); clear HO_272001; clear HO_272002; clear HO_272003; clear BK257; clear BK271; clear HB; have HO_272001 := n0_; have HO_272002 := n1_; have HO_272003 := n2_; have HO276 := n3_; have BK257 := n4_; have BK271 := n5_; have HB := n6_; clear n0_ n1_ n2_ n3_ n4_ n5_ n6_; (try clear hb); (try clear hb2); (try clear hk); (try clear hi); (try clear ho0); obtain ⟨Ao46, co46, eo46⟩ := Kd.R_slice HO276.out; subst eo46))
  go_roundg k3
  case measure => have := HJ1.out; have := HJ14.out; have := HK3.out; omega
  case rel => exact ⟨(wrap64 (x4_3 + (t274.length : Int))), (wrap64 (x5_3 + 1)), (by first | rfl | (simp; done) | (simp [*]; done)), (by first | rfl | (simp; done) | (simp [*]; done)), H', ⟨by have := HJ1.out; have := HJ14.out; have := HK3.out; omega⟩, ⟨by (with_reducible repeat (first | apply Kd.S_alloc | apply Kd.S_drewN | apply Kd.S_drew)); exact HO_272001.out⟩, ⟨by (with_reducible repeat (first | apply Kd.S_alloc | apply Kd.S_drewN | apply Kd.S_drew)); exact HO_272002.out⟩, ⟨by (with_reducible repeat (first | apply Kd.R_alloc | apply Kd.R_drewN | apply Kd.R_drew)); exact HO_272003.out⟩, ⟨by (with_reducible repeat (first | refine blk_drewN ?_ _ | refine blk_drew ?_ | refine blk_alloc ?_ _)); exact BK257.out⟩, ⟨by (with_reducible repeat (first | refine blk_drewN ?_ _ | refine blk_drew ?_ | refine blk_alloc ?_ _)); exact BK271.out⟩, ⟨by repeat (first | (with_reducible first | exact HB.out | apply below_alloc | apply pw_below_drewN | apply below_drew1 | refine below_set ?_ GE257.out | refine below_set ?_ GE271.out) | exact HB.out)⟩⟩
 rw [if_neg c41] at H
 have c41b0 : decide (x5_3 < a0_0) = false := decide_eq_false c41
 clear c41
 have H' := Aside0.mk H
 clear H
 have hnb47 := NB257_271.out
 have hnc47 := NB271_257.out
 have hcz48_0 : wr.cell? ⟨gb257, 0, none⟩ = some (.int .i64 a0_0) := (blk_cell BK257.out 0).trans rfl
 have hcz48_1 : wr.cell? ⟨gb257, 1, none⟩ = some (.slice A0_1 l0_1.length c0_1) := (blk_cell BK257.out 1).trans rfl
 have hcz48_2 : wr.cell? ⟨gb257, 2, none⟩ = some (.slice A0_2 l0_2.length c0_2) := (blk_cell BK257.out 2).trans rfl
 have hcz48_3 : wr.cell? ⟨gb257, 3, none⟩ = some (.slice A0_3 l0_3.length c0_3) := (blk_cell BK257.out 3).trans rfl
 have hfz48_0 := blk_frozen BK257.out 0
 have hfz48_1 := blk_frozen BK257.out 1
 have hfz48_2 := blk_frozen BK257.out 2
 have hfz48_3 := blk_frozen BK257.out 3
 go_wp2
 go_loopg [6] k3 (fun kq v6 w' => ∃ (x6_4 : Int) (x272001_4 : List (S48)) (u272001 : Value), v6 = .int .i64 x6_4 ∧ Aside0 (treelinelaw20_TopoRight.l1 kq x4_3 x6_4 a0_0 l0_1 l0_2 l0_3 t261 x272001_4 t265 t268 = some r) ∧ Aside0 (kq ≤ k3) ∧ Aside0 (Kd.S k48 48 w' w.heap.size (fun _ => True) u272001 x272001_4) ∧ Aside0 (Kd.S (Kd.slice 3 (Kd.int .i64)) 33 w' w.heap.size (fun _ => True) (.slice Ao22 t265.length co22) t265) ∧ Aside0 (Kd.R k59 59 w' w.heap.size (fun _ => True) (.slice Ao23 t268.length co23) t268) ∧ Aside0 (w'.heap[gb257]? = some (.cells #[.int .i64 a0_0, (.slice A0_1 l0_1.length c0_1), (.slice A0_2 l0_2.length c0_2), (.slice A0_3 l0_3.length c0_3)] 26 (0, 0))) ∧ Aside0 (w'.heap[gb271]? = some (.cells #[.int .i64 t261, u272001, (.slice Ao22 t265.length co22), (.slice Ao23 t268.length co23)] 26 (0, 0))) ∧ Aside0 (Below w.heap.size w w'))
 case atStart => exact ⟨(0), (t262), (.slice Ao21 t262.length co21), (by first | rfl | (simp; done) | (simp [*]; done)), H', ⟨Nat.le_refl _⟩, ⟨by (with_reducible repeat (first | apply Kd.S_alloc | apply Kd.S_drewN | apply Kd.S_drew)); exact HO_272001.out⟩, ⟨by (with_reducible repeat (first | apply Kd.S_alloc | apply Kd.S_drewN | apply Kd.S_drew)); exact HO_272002.out⟩, ⟨by (with_reducible repeat (first | apply Kd.R_alloc | apply Kd.R_drewN | apply Kd.R_drew)); exact HO_272003.out⟩, ⟨by (with_reducible repeat (first | refine blk_drewN ?_ _ | refine blk_drew ?_ | refine blk_alloc ?_ _)); exact BK257.out⟩, ⟨by (with_reducible repeat (first | refine blk_drewN ?_ _ | refine blk_drew ?_ | refine blk_alloc ?_ _)); exact BK271.out⟩, ⟨by repeat (first | (with_reducible first | exact HB.out | apply below_alloc | apply pw_below_drewN | apply below_drew1 | refine below_set ?_ GE257.out | refine below_set ?_ GE271.out) | exact HB.out)⟩⟩
 clear H'
 try clear c1
 try clear c2
 try clear p2
 try clear c4
 try clear p6
 try clear c9
 try clear c16
 try clear c26
 try clear c26b0
 try clear c26b1
 try clear c27
 try clear c27b0
 try clear c27b1
 try clear c27b2
 try clear c40
 try clear c41
 try clear c41b0
 try clear c43
 try clear c47
 try clear hcz44_0
 try clear hcz44_1
 try clear hcz44_2
 try clear hcz44_3
 try clear hcz48_0
 try clear hcz48_1
 try clear hcz48_2
 try clear hcz48_3
 try clear hfz44_0
 try clear hfz44_1
 try clear hfz44_2
 try clear hfz44_3
 try clear hfz48_0
 try clear hfz48_1
 try clear hfz48_2
 try clear hfz48_3
 try clear p2
 obtain ⟨x6_4, x272001_4, u272001, rfl, HA, HK4, HO_272001, HO_272002, HO_272003, BK257, BK271, HB⟩ := hrel
 cases gk with
 | zero => exact absurd HA.out (by simp [treelinelaw20_TopoRight.l1])
 | succ k4 => ?_
 have H := HA.out
 clear HA
 simp only [treelinelaw20_TopoRight.l1] at H
 by_cases c49 : x6_4 < (x272001_4.length : Int)
 ·rw [if_pos c49] at H
  have c49b0 : decide (x6_4 < (x272001_4.length : Int)) = true := decide_eq_true c49
  clear c49
  have H' := Aside0.mk H
  clear H
  have hnb50 := NB271_257.out
  have hnc50 := NB257_271.out
  have hcz51_0 : wr.cell? ⟨gb271, 0, none⟩ = some (.int .i64 t261) := (blk_cell BK271.out 0).trans rfl
  have hcz51_1 : wr.cell? ⟨gb271, 1, none⟩ = some (u272001) := (blk_cell BK271.out 1).trans rfl
  have hcz51_2 : wr.cell? ⟨gb271, 2, none⟩ = some (.slice Ao22 t265.length co22) := (blk_cell BK271.out 2).trans rfl
  have hcz51_3 : wr.cell? ⟨gb271, 3, none⟩ = some (.slice Ao23 t268.length co23) := (blk_cell BK271.out 3).trans rfl
  have hfz51_0 := blk_frozen BK271.out 0
  have hfz51_1 := blk_frozen BK271.out 1
  have hfz51_2 := blk_frozen BK271.out 2
  have hfz51_3 := blk_frozen BK271.out 3
  obtain ⟨Ao52, co52, eo52⟩ := Kd.S_slice HO_272001.out
  subst eo52
  go_wp2
  go_loopg [7] k4 (fun kq v7 w' => ∃ (x7_5 : Int) (x272001_5 : List (S48)) (u272001 : Value), v7 = .int .i64 x7_5 ∧ Aside0 (treelinelaw20_TopoRight.l2 kq x4_3 x6_4 x7_5 a0_0 l0_1 l0_2 l0_3 t261 x272001_5 t265 t268 = some r) ∧ Aside0 (kq ≤ k4) ∧ Aside0 (Kd.S k48 48 w' w.heap.size (fun _ => True) u272001 x272001_5) ∧ Aside0 (Kd.S (Kd.slice 3 (Kd.int .i64)) 33 w' w.heap.size (fun _ => True) (.slice Ao22 t265.length co22) t265) ∧ Aside0 (Kd.R k59 59 w' w.heap.size (fun _ => True) (.slice Ao23 t268.length co23) t268) ∧ Aside0 (w'.heap[gb257]? = some (.cells #[.int .i64 a0_0, (.slice A0_1 l0_1.length c0_1), (.slice A0_2 l0_2.length c0_2), (.slice A0_3 l0_3.length c0_3)] 26 (0, 0))) ∧ Aside0 (w'.heap[gb271]? = some (.cells #[.int .i64 t261, u272001, (.slice Ao22 t265.length co22), (.slice Ao23 t268.length co23)] 26 (0, 0))) ∧ Aside0 (Below w.heap.size w w'))
  case atStart => exact ⟨(0), (x272001_4), (.slice Ao52 x272001_4.length co52), (by first | rfl | (simp; done) | (simp [*]; done)), H', ⟨Nat.le_refl _⟩, ⟨by (with_reducible repeat (first | apply Kd.S_alloc | apply Kd.S_drewN | apply Kd.S_drew)); exact HO_272001.out⟩, ⟨by (with_reducible repeat (first | apply Kd.S_alloc | apply Kd.S_drewN | apply Kd.S_drew)); exact HO_272002.out⟩, ⟨by (with_reducible repeat (first | apply Kd.R_alloc | apply Kd.R_drewN | apply Kd.R_drew)); exact HO_272003.out⟩, ⟨by (with_reducible repeat (first | refine blk_drewN ?_ _ | refine blk_drew ?_ | refine blk_alloc ?_ _)); exact BK257.out⟩, ⟨by (with_reducible repeat (first | refine blk_drewN ?_ _ | refine blk_drew ?_ | refine blk_alloc ?_ _)); exact BK271.out⟩, ⟨by repeat (first | (with_reducible first | exact HB.out | apply below_alloc | apply pw_below_drewN | apply below_drew1 | refine below_set ?_ GE257.out | refine below_set ?_ GE271.out) | exact HB.out)⟩⟩
  clear H'
  try clear c1
  try clear c2
  try clear p2
  try clear c4
  try clear c5
  try clear p6
  try clear c9
  try clear c16
  try clear c26
  try clear c26b0
  try clear c26b1
  try clear c27
  try clear c27b0
  try clear c27b1
  try clear c27b2
  try clear c40
  try clear c41
  try clear c41b0
  try clear c43
  try clear c47
  try clear c49
  try clear c49b0
  try clear c50
  try clear hcz44_0
  try clear hcz44_1
  try clear hcz44_2
  try clear hcz44_3
  try clear hcz48_0
  try clear hcz48_1
  try clear hcz48_2
  try clear hcz48_3
  try clear hcz51_0
  try clear hcz51_1
  try clear hcz51_2
  try clear hcz51_3
  try clear hfz44_0
  try clear hfz44_1
  try clear hfz44_2
  try clear hfz44_3
  try clear hfz48_0
  try clear hfz48_1
  try clear hfz48_2
  try clear hfz48_3
  try clear hfz51_0
  try clear hfz51_1
  try clear hfz51_2
  try clear hfz51_3
  try clear p2
  try clear p6
  obtain ⟨x7_5, x272001_5, u272001, rfl, HA, HK5, HO_272001, HO_272002, HO_272003, BK257, BK271, HB⟩ := hrel
  cases gk with
  | zero => exact absurd HA.out (by simp [treelinelaw20_TopoRight.l2])
  | succ k5 => ?_
  have H := HA.out
  clear HA
  simp only [treelinelaw20_TopoRight.l2] at H
  by_cases c53 : 0 ≤ x6_4
  rotate_left
  ·rw [if_neg c53] at H
   exact absurd H (by simp)
  rw [if_pos c53] at H
  have c53b0 : decide (0 ≤ x6_4) = true := decide_eq_true c53
  clear c53
  by_cases c54 : x6_4 < (x272001_5.length : Int)
  rotate_left
  ·rw [if_neg c54] at H
   exact absurd H (by simp)
  rw [if_pos c54] at H
  have c54b0 : decide (x6_4 < (x272001_5.length : Int)) = true := decide_eq_true c54
  clear c54
  by_cases c55 : x7_5 < (((rd_T48 x272001_5 x6_4).f7).length : Int)
  rotate_left
  ·rw [if_neg c55] at H
   have c55b0 : decide (x7_5 < (((rd_T48 x272001_5 x6_4).f7).length : Int)) = false := decide_eq_false c55
   clear c55
   have H' := Aside0.mk H
   clear H
   have hnb75 := NB271_257.out
   have hnc75 := NB257_271.out
   have hcz76_0 : wr.cell? ⟨gb271, 0, none⟩ = some (.int .i64 t261) := (blk_cell BK271.out 0).trans rfl
   have hcz76_1 : wr.cell? ⟨gb271, 1, none⟩ = some (u272001) := (blk_cell BK271.out 1).trans rfl
   have hcz76_2 : wr.cell? ⟨gb271, 2, none⟩ = some (.slice Ao22 t265.length co22) := (blk_cell BK271.out 2).trans rfl
   have hcz76_3 : wr.cell? ⟨gb271, 3, none⟩ = some (.slice Ao23 t268.length co23) := (blk_cell BK271.out 3).trans rfl
   have hfz76_0 := blk_frozen BK271.out 0
   have hfz76_1 := blk_frozen BK271.out 1
   have hfz76_2 := blk_frozen BK271.out 2
   have hfz76_3 := blk_frozen BK271.out 3
   obtain ⟨Ao77, co77, eo77⟩ := Kd.S_slice HO_272001.out
   subst eo77
   have p277 : 0 ≤ (x6_4 : Int) := of_decide_eq_true (by first | (with_reducible assumption) | assumption)
   have q277 : x6_4 < (x272001_5.length : Int) := of_decide_eq_true (by first | (with_reducible assumption) | assumption)
   obtain ⟨ad277, A277_7, c277_7, e277, hx277_0, hx277_1, hx277_2, hx277_3, hx277_4, hx277_5, hx277_6, hx277_7, hl277_7, hi277_7⟩ := at_T48 (Kd.S_reads' HO_272001.out).2.2 x6_4 p277 q277
   cases e277
   obtain ⟨ce277, hce277, hMe277, hcc277⟩ := Kd.S_get HO_272001.out z48 x6_4 p277 (by first | exact q277 | exact of_decide_eq_true (by first | (with_reducible assumption) | assumption) | (have e_ := (Kd.S_reads' HO_272001.out).1; omega))
   obtain ⟨ve277_7, rfl, ge277_7⟩ := k48_openM hMe277
   have hv277_7 := hcc277 7 _ rfl
   rw [add_field _ _ 7 (by omega)] at hv277_7
   replace hv277_7 := Option.some.inj (hv277_7.symm.trans hx277_7)
   rw [hv277_7] at ge277_7
   have HL277_7 := Aside0.mk (show Kd.R k51 51 _ _ _ _ ((rd_T48 x272001_5 x6_4).f7) from ge277_7)
   clear hv277_7 ge277_7
   have HX277_7 := Aside0.mk hx277_7
   clear hcc277 hce277
   have HR277_7 := Aside0.mk hi277_7
   have HC277_7 := Aside0.mk hl277_7
   clear hi277_7 hl277_7
   replace p277 := eq_true p277
   replace q277 := eq_true q277
   go_wp2
   go_roundg k5
   case measure => have := HJ1.out; have := HJ14.out; have := HK3.out; have := HK4.out; have := HK5.out; omega
   case rel => exact ⟨(wrap64 (x6_4 + 1)), (x272001_5), (.slice (some ad277) x272001_5.length co77), (by first | rfl | (simp; done) | (simp [*]; done)), H', ⟨by have := HJ1.out; have := HJ14.out; have := HK3.out; have := HK4.out; have := HK5.out; omega⟩, ⟨by (with_reducible repeat (first | apply Kd.S_alloc | apply Kd.S_drewN | apply Kd.S_drew)); exact HO_272001.out⟩, ⟨by (with_reducible repeat (first | apply Kd.S_alloc | apply Kd.S_drewN | apply Kd.S_drew)); exact HO_272002.out⟩, ⟨by (with_reducible repeat (first | apply Kd.R_alloc | apply Kd.R_drewN | apply Kd.R_drew)); exact HO_272003.out⟩, ⟨by (with_reducible repeat (first | refine blk_drewN ?_ _ | refine blk_drew ?_ | refine blk_alloc ?_ _)); exact BK257.out⟩, ⟨by (with_reducible repeat (first | refine blk_drewN ?_ _ | refine blk_drew ?_ | refine blk_alloc ?_ _)); exact BK271.out⟩, ⟨by repeat (first | (with_reducible first | exact HB.out | apply below_alloc | apply pw_below_drewN | apply below_drew1 | refine below_set ?_ GE257.out | refine below_set ?_ GE271.out) | exact HB.out)⟩⟩
  rw [if_pos c55] at H
  have c55b0 : decide (x7_5 < (((rd_T48 x272001_5 x6_4).f7).length : Int)) = true := decide_eq_true c55
  clear c55
  by_cases c56 : x6_4 < (l0_1.length : Int)
  rotate_left
  ·rw [if_neg c56] at H
   exact absurd H (by simp)
  rw [if_pos c56] at H
  have c56b0 : decide (x6_4 < (l0_1.length : Int)) = true := decide_eq_true c56
  clear c56
  by_cases c57 : 0 ≤ x7_5
  rotate_left
  ·rw [if_neg c57] at H
   exact absurd H (by simp)
  rw [if_pos c57] at H
  have c57b0 : decide (0 ≤ x7_5) = true := decide_eq_true c57
  clear c57
  by_cases c58 : x7_5 < (((rd_T48 l0_1 x6_4).f7).length : Int)
  rotate_left
  ·rw [if_neg c58] at H
   exact absurd H (by simp)
  rw [if_pos c58] at H
  have c58b0 : decide (x7_5 < (((rd_T48 l0_1 x6_4).f7).length : Int)) = true := decide_eq_true c58
  clear c58
  obtain ⟨y281, hy281⟩ : ∃ y_ : List (S51), y_ = (((rd_T48 x272001_5 x6_4).f7).set (x7_5 : Int).toNat (⟨(rd_T51 ((rd_T48 x272001_5 x6_4).f7) x7_5).f0, (((rd_T51 ((rd_T48 l0_1 x6_4).f7) x7_5).f1) + 1) % 4294967296, (rd_T51 ((rd_T48 x272001_5 x6_4).f7) x7_5).f2⟩ : S51)) := ⟨_, rfl⟩
  replace H : (if ((rd_T51 ((rd_T48 l0_1 x6_4).f7) x7_5).f1) = ((rd_T51 ((rd_T48 l0_1 x6_4).f7) x7_5).f1) then (treelinelaw20_TopoRight.l2 k5 x4_3 x6_4 (wrap64 (x7_5 + 1)) a0_0 l0_1 l0_2 l0_3 t261 (x272001_5.set (x6_4 : Int).toNat (⟨(rd_T48 x272001_5 x6_4).f0, (rd_T48 x272001_5 x6_4).f1, (rd_T48 x272001_5 x6_4).f2, (rd_T48 x272001_5 x6_4).f3, (rd_T48 x272001_5 x6_4).f4, (rd_T48 x272001_5 x6_4).f5, (rd_T48 x272001_5 x6_4).f6, y281⟩ : S48)) t265 t268) else (some false)) = some r := by first | (rw [hy281]; with_reducible exact H) | (have H2_ := (Option.bind_some _ _).symm.trans H; rw [hy281]; with_reducible exact H2_) | (have H2_ := (Option.bind_some _ _).symm.trans H; with_reducible exact H2_) | with_reducible exact H | (rw [hy281, if_pos rfl]; rw [if_pos trivial] at H; exact H) | (rw [hy281]; exact H) | exact H
  have Ny281 := Aside0.mk hy281
  clear hy281
  obtain ⟨y283, hy283⟩ : ∃ y_ : List (S48), y_ = (x272001_5.set (x6_4 : Int).toNat (⟨(rd_T48 x272001_5 x6_4).f0, (rd_T48 x272001_5 x6_4).f1, (rd_T48 x272001_5 x6_4).f2, (rd_T48 x272001_5 x6_4).f3, (rd_T48 x272001_5 x6_4).f4, (rd_T48 x272001_5 x6_4).f5, (rd_T48 x272001_5 x6_4).f6, y281⟩ : S48)) := ⟨_, rfl⟩
  replace H : (if ((rd_T51 ((rd_T48 l0_1 x6_4).f7) x7_5).f1) = ((rd_T51 ((rd_T48 l0_1 x6_4).f7) x7_5).f1) then (treelinelaw20_TopoRight.l2 k5 x4_3 x6_4 (wrap64 (x7_5 + 1)) a0_0 l0_1 l0_2 l0_3 t261 y283 t265 t268) else (some false)) = some r := by first | (rw [hy283]; with_reducible exact H) | (have H2_ := (Option.bind_some _ _).symm.trans H; rw [hy283]; with_reducible exact H2_) | (have H2_ := (Option.bind_some _ _).symm.trans H; with_reducible exact H2_) | with_reducible exact H | (rw [hy283]; exact H) | exact H
  have Ny283 := Aside0.mk hy283
  clear hy283
  by_cases c60 : ((rd_T51 ((rd_T48 l0_1 x6_4).f7) x7_5).f1) = ((rd_T51 ((rd_T48 l0_1 x6_4).f7) x7_5).f1)
  rotate_left
  ·(first | rw [if_neg c60] at H | rw [if_neg (fun _ : True => c60 rfl)] at H)
   have c60b0 : (((rd_T51 ((rd_T48 l0_1 x6_4).f7) x7_5).f1) == ((rd_T51 ((rd_T48 l0_1 x6_4).f7) x7_5).f1)) = false := beq_eq_false_iff_ne.mpr c60
   have c60b1 : (((rd_T51 ((rd_T48 l0_1 x6_4).f7) x7_5).f1) != ((rd_T51 ((rd_T48 l0_1 x6_4).f7) x7_5).f1)) = true := bne_iff_ne.mpr c60
   obtain rfl := Option.some.inj H
   (try exact absurd LRT.out (by decide))
   all_goals
    have hnb68 := NB271_257.out
    have hnc68 := NB257_271.out
    have hcz69_0 : wr.cell? ⟨gb271, 0, none⟩ = some (.int .i64 t261) := (blk_cell BK271.out 0).trans rfl
    have hcz69_1 : wr.cell? ⟨gb271, 1, none⟩ = some (u272001) := (blk_cell BK271.out 1).trans rfl
    have hcz69_2 : wr.cell? ⟨gb271, 2, none⟩ = some (.slice Ao22 t265.length co22) := (blk_cell BK271.out 2).trans rfl
    have hcz69_3 : wr.cell? ⟨gb271, 3, none⟩ = some (.slice Ao23 t268.length co23) := (blk_cell BK271.out 3).trans rfl
    have hfz69_0 := blk_frozen BK271.out 0
    have hfz69_1 := blk_frozen BK271.out 1
    have hfz69_2 := blk_frozen BK271.out 2
    have hfz69_3 := blk_frozen BK271.out 3
    obtain ⟨Ao70, co70, eo70⟩ := Kd.S_slice HO_272001.out
    subst eo70
    have p277 : 0 ≤ (x6_4 : Int) := of_decide_eq_true (by first | (with_reducible assumption) | assumption)
    have q277 : x6_4 < (x272001_5.length : Int) := of_decide_eq_true (by first | (with_reducible assumption) | assumption)
    obtain ⟨ad277, A277_7, c277_7, e277, hx277_0, hx277_1, hx277_2, hx277_3, hx277_4, hx277_5, hx277_6, hx277_7, hl277_7, hi277_7⟩ := at_T48 (Kd.S_reads' HO_272001.out).2.2 x6_4 p277 q277
    cases e277
    obtain ⟨ce277, hce277, hMe277, hcc277⟩ := Kd.S_get HO_272001.out z48 x6_4 p277 (by first | exact q277 | exact of_decide_eq_true (by first | (with_reducible assumption) | assumption) | (have e_ := (Kd.S_reads' HO_272001.out).1; omega))
    obtain ⟨ve277_7, rfl, ge277_7⟩ := k48_openM hMe277
    have hv277_7 := hcc277 7 _ rfl
    rw [add_field _ _ 7 (by omega)] at hv277_7
    replace hv277_7 := Option.some.inj (hv277_7.symm.trans hx277_7)
    rw [hv277_7] at ge277_7
    have HL277_7 := Aside0.mk (show Kd.R k51 51 _ _ _ _ ((rd_T48 x272001_5 x6_4).f7) from ge277_7)
    clear hv277_7 ge277_7
    have HX277_7 := Aside0.mk hx277_7
    clear hcc277 hce277
    have HR277_7 := Aside0.mk hi277_7
    have HC277_7 := Aside0.mk hl277_7
    clear hi277_7 hl277_7
    replace p277 := eq_true p277
    replace q277 := eq_true q277
    have hcz71_0 : wr.cell? ⟨gb257, 0, none⟩ = some (.int .i64 a0_0) := (blk_cell BK257.out 0).trans rfl
    have hcz71_1 : wr.cell? ⟨gb257, 1, none⟩ = some (.slice A0_1 l0_1.length c0_1) := (blk_cell BK257.out 1).trans rfl
    have hcz71_2 : wr.cell? ⟨gb257, 2, none⟩ = some (.slice A0_2 l0_2.length c0_2) := (blk_cell BK257.out 2).trans rfl
    have hcz71_3 : wr.cell? ⟨gb257, 3, none⟩ = some (.slice A0_3 l0_3.length c0_3) := (blk_cell BK257.out 3).trans rfl
    have hfz71_0 := blk_frozen BK257.out 0
    have hfz71_1 := blk_frozen BK257.out 1
    have hfz71_2 := blk_frozen BK257.out 2
    have hfz71_3 := blk_frozen BK257.out 3
    have p278 : 0 ≤ (x6_4 : Int) := of_decide_eq_true (by first | (with_reducible assumption) | assumption)
    have q278 : x6_4 < (l0_1.length : Int) := of_decide_eq_true (by first | (with_reducible assumption) | assumption)
    obtain ⟨ad278, A278_7, c278_7, e278, hx278_0, hx278_1, hx278_2, hx278_3, hx278_4, hx278_5, hx278_6, hx278_7, hl278_7, hi278_7⟩ := at_T48 HR0_1.out x6_4 p278 q278
    cases e278
    replace hx278_0 := (HB.out.cell (World.block_lt_of_cell? w _ hx278_0)).trans hx278_0
    replace hx278_1 := (HB.out.cell (World.block_lt_of_cell? w _ hx278_1)).trans hx278_1
    replace hx278_2 := (HB.out.cell (World.block_lt_of_cell? w _ hx278_2)).trans hx278_2
    replace hx278_3 := (HB.out.cell (World.block_lt_of_cell? w _ hx278_3)).trans hx278_3
    replace hx278_4 := (HB.out.cell (World.block_lt_of_cell? w _ hx278_4)).trans hx278_4
    replace hx278_5 := (HB.out.cell (World.block_lt_of_cell? w _ hx278_5)).trans hx278_5
    replace hx278_6 := (HB.out.cell (World.block_lt_of_cell? w _ hx278_6)).trans hx278_6
    replace hx278_7 := (HB.out.cell (World.block_lt_of_cell? w _ hx278_7)).trans hx278_7
    have HR278_7 := Aside0.mk hi278_7
    have HC278_7 := Aside0.mk hl278_7
    clear hi278_7 hl278_7
    replace p278 := eq_true p278
    replace q278 := eq_true q278
    have p279 : 0 ≤ (x7_5 : Int) := of_decide_eq_true (by first | (with_reducible assumption) | assumption)
    have q279 : x7_5 < (((rd_T48 l0_1 x6_4).f7).length : Int) := of_decide_eq_true (by first | (with_reducible assumption) | assumption)
    obtain ⟨ad279, e279, hx279_0, hx279_1, hx279_2⟩ := at_T51 HR278_7.out x7_5 p279 q279
    cases e279
    replace hx279_0 := (HB.out.cell (World.block_lt_of_cell? w _ hx279_0)).trans hx279_0
    replace hx279_1 := (HB.out.cell (World.block_lt_of_cell? w _ hx279_1)).trans hx279_1
    replace hx279_2 := (HB.out.cell (World.block_lt_of_cell? w _ hx279_2)).trans hx279_2
    replace p279 := eq_true p279
    replace q279 := eq_true q279
    have p280 : 0 ≤ (x6_4 : Int) := of_decide_eq_true (by first | (with_reducible assumption) | assumption)
    have q280 : x6_4 < (x272001_5.length : Int) := of_decide_eq_true (by first | (with_reducible assumption) | assumption)
    obtain ⟨ad280, A280_7, c280_7, e280, hx280_0, hx280_1, hx280_2, hx280_3, hx280_4, hx280_5, hx280_6, hx280_7, hl280_7, hi280_7⟩ := at_T48 (Kd.S_reads' HO_272001.out).2.2 x6_4 p280 q280
    obtain rfl : ad277 = ad280 := (by injection e280)
    obtain ⟨ce280, hce280, hMe280, hcc280⟩ := Kd.S_get HO_272001.out z48 x6_4 p280 (by first | exact q280 | exact of_decide_eq_true (by first | (with_reducible assumption) | assumption) | (have e_ := (Kd.S_reads' HO_272001.out).1; omega))
    obtain ⟨ve280_7, rfl, ge280_7⟩ := k48_openM hMe280
    have hv280_7 := hcc280 7 _ rfl
    rw [add_field _ _ 7 (by omega)] at hv280_7
    replace hv280_7 := Option.some.inj (hv280_7.symm.trans hx280_7)
    rw [hv280_7] at ge280_7
    have HL280_7 := Aside0.mk (show Kd.R k51 51 _ _ _ _ ((rd_T48 x272001_5 x6_4).f7) from ge280_7)
    clear hv280_7 ge280_7
    have HX280_7 := Aside0.mk hx280_7
    clear hcc280 hce280
    have HR280_7 := Aside0.mk hi280_7
    have HC280_7 := Aside0.mk hl280_7
    clear hi280_7 hl280_7
    replace p280 := eq_true p280
    replace q280 := eq_true q280
    have ea_ := Option.some.inj (hx277_7.symm.trans hx280_7)
    injection ea_ with ea_ en_ ec_
    subst ea_
    subst ec_
    clear en_
    have p59 : 0 ≤ (x7_5 : Int) := of_decide_eq_true (by first | (with_reducible assumption) | assumption)
    have q59 : (x7_5 : Int) < ((((rd_T48 x272001_5 x6_4).f7).length : Int) : Int) := of_decide_eq_true (by first | (with_reducible assumption) | assumption)
    obtain ⟨go59, co59, eo59, gb59, gl59, cl59, HG59⟩ := Kd.R_form HL280_7.out (by omega)
    (first | cases eo59 | (injection eo59 with ea_ en_ ec_; (first | subst ea_ | (injection ea_ with ea_; subst ea_)); subst ec_; clear en_))
    have GB59 := Aside0.mk gb59
    have GG59 := Aside0.mk HG59
    clear gb59 gl59 HG59
    obtain ⟨ce59, hcl59, hM59, hcc59, hfr59⟩ := Kd.R_elem HL280_7.out z51 (x7_5 : Int) p59 q59
    obtain rfl := k51_openM hM59
    have hx59_0 : wr.cell? ⟨go59, (x7_5 : Int).toNat * 3, none⟩ = some (.int .u8 ((rd_T51 ((rd_T48 x272001_5 x6_4).f7) x7_5).f0)) := hcc59 0 _ rfl
    have hx59_1 : wr.cell? ⟨go59, (x7_5 : Int).toNat * 3 + 1, none⟩ = some (.int .u32 ((rd_T51 ((rd_T48 x272001_5 x6_4).f7) x7_5).f1)) := hcc59 1 _ rfl
    have hx59_2 : wr.cell? ⟨go59, (x7_5 : Int).toNat * 3 + 2, none⟩ = some (.bool ((rd_T51 ((rd_T48 x272001_5 x6_4).f7) x7_5).f2)) := hcc59 2 _ rfl
    have hf59_0 : wr.frozen? ⟨go59, (x7_5 : Int).toNat * 3, none⟩ = false := hfr59 0
    have hf59_1 : wr.frozen? ⟨go59, (x7_5 : Int).toNat * 3 + 1, none⟩ = false := hfr59 1
    have hf59_2 : wr.frozen? ⟨go59, (x7_5 : Int).toNat * 3 + 2, none⟩ = false := hfr59 2
    clear hcl59 hcc59 hfr59 hM59
    replace p59 := eq_true p59
    replace q59 := eq_true q59
    have hq72 : (x6_4 : Int) < (x272001_5.length : Int) := (by have h_ : (x6_4 : Int) < ((x272001_5.length : Int) : Int) := of_decide_eq_true (by first | (with_reducible assumption) | assumption); first | exact h_ | (have e_ := (Kd.S_reads' HO_272001.out).1; omega) | simpa only [List.length_set, List.length_set] using h_)
    obtain ⟨oki72, ce72, hcl72, hM72, hcc72, hok72, hbk72⟩ := Kd.S_borrow HO_272001.out z48 (x6_4 : Int) (of_decide_eq_true (by first | (with_reducible assumption) | assumption)) hq72
    obtain ⟨ve72_7, rfl, ge72_7⟩ := k48_openM hM72
    have hv72 := hcc72 7 _ rfl
    rw [add_field _ _ 7 (by omega)] at hv72
    replace hv72 := Option.some.inj (hv72.symm.trans HX280_7.out)
    subst hv72
    clear hcc72 hcl72
    replace ge72_7 := (show Kd.R k51 51 _ _ _ _ ((rd_T48 x272001_5 x6_4).f7) from ge72_7)
    obtain ⟨cf72, hcl72, hN72, hcc72, hfr72⟩ := Kd.R_elem ge72_7 z51 (x7_5 : Int) (of_decide_eq_true (by first | (with_reducible assumption) | assumption)) (by have h_ : (x7_5 : Int) < ((((rd_T48 x272001_5 x6_4).f7).length : Int) : Int) := of_decide_eq_true (by first | (with_reducible assumption) | assumption); first | exact h_ | (have e_ := (Kd.R_reads' HR280_7.out).1; omega) | simpa using h_)
    obtain rfl := k51_openM hN72
    have HP72 := Kd.R_seg ge72_7 (x7_5 : Int) (of_decide_eq_true (by first | (with_reducible assumption) | assumption)) (by have h_ : (x7_5 : Int) < ((((rd_T48 x272001_5 x6_4).f7).length : Int) : Int) := of_decide_eq_true (by first | (with_reducible assumption) | assumption); first | exact h_ | (have e_ := (Kd.R_reads' HR280_7.out).1; omega) | simpa using h_) (seg := [.int .u32 ((((rd_T51 ((rd_T48 l0_1 x6_4).f7) x7_5).f1) + 1) % 4294967296)]) (j := 1) hcl72 hcc72 (show 2 ≤ 3 from by decide) (x' := (⟨(rd_T51 ((rd_T48 x272001_5 x6_4).f7) x7_5).f0, (((rd_T51 ((rd_T48 l0_1 x6_4).f7) x7_5).f1) + 1) % 4294967296, (rd_T51 ((rd_T48 x272001_5 x6_4).f7) x7_5).f2⟩ : S51)) (k51_mkM _ _ _ (⟨(rd_T51 ((rd_T48 x272001_5 x6_4).f7) x7_5).f0, (((rd_T51 ((rd_T48 l0_1 x6_4).f7) x7_5).f1) + 1) % 4294967296, (rd_T51 ((rd_T48 x272001_5 x6_4).f7) x7_5).f2⟩ : S51)) (fun _ hk => hk)
    clear hcl72 hcc72 hfr72 hN72
    go_wp2_with (first | ((with_reducible refine gate_store (t := 49) (p := 94) rfl ?_); refine store_event (t := 49) (p := 94) (v := ?vo_w73) (w1 := (wr.setCell ⟨go59, (x7_5 : Int).toNat * 3 + 1, none⟩ (.int .u32 ((((rd_T51 ((rd_T48 l0_1 x6_4).f7) x7_5).f1) + 1) % 4294967296)))) ?hg ?ho ?hn ?hr ?_; (case ho => rfl); (case hg => rfl); (case hn => rfl); (case hr => first | (go_simp; done) | (go_simp; rfl)); intro w73 hw; have hg : wr.grownBy w73 (some go59) := (by rw [hw]; exact HP72.2); have hz_ : Kd.R k51 51 w73 w.heap.size oki72 (.slice (some ⟨go59, 0, none⟩) ((rd_T48 x272001_5 x6_4).f7).length c277_7) y281 := (by rw [hw, Ny281.out]; exact HP72.1); have hp_ : Kd.S k48 48 w73 w.heap.size (fun _ => True) (.slice (some ad277) x272001_5.length co70) y283 := (by rw [Ny283.out]; exact hbk72 hg (fun k_ e_ => by injection e_ with e_; subst e_; exact ge72_7.1 _ rfl) (k48_mkM _ _ _ (⟨(rd_T48 x272001_5 x6_4).f0, (rd_T48 x272001_5 x6_4).f1, (rd_T48 x272001_5 x6_4).f2, (rd_T48 x272001_5 x6_4).f3, (rd_T48 x272001_5 x6_4).f4, (rd_T48 x272001_5 x6_4).f5, (rd_T48 x272001_5 x6_4).f6, y281⟩ : S48) hz_)); have hm_ := Kd.R_mono hz_ hok72; clear HP72 hbk72; have n0_ := Aside0.mk (hp_); have n1_ := Aside0.mk (Kd.S_over' (v := (.slice (some ⟨go59, 0, none⟩) ((rd_T48 x272001_5 x6_4).f7).length c277_7)) (by (with_reducible repeat (first | apply Kd.S_alloc | apply Kd.S_drewN | apply Kd.S_drew)); exact HO_272002.out) (Kd.R_typed HL280_7.out) (by decide) hg); have n2_ := Aside0.mk (Kd.R_over' (v := (.slice (some ⟨go59, 0, none⟩) ((rd_T48 x272001_5 x6_4).f7).length c277_7)) (by (with_reducible repeat (first | apply Kd.R_alloc | apply Kd.R_drewN | apply Kd.R_drew)); exact HO_272003.out) (Kd.R_typed HL280_7.out) (by decide) hg); have n3_ := Aside0.mk (blk_grown (g := gb257) (o := .cells #[.int .i64 a0_0, .slice (some ad278) l0_1.length c0_1, .slice A0_2 l0_2.length c0_2, .slice A0_3 l0_3.length c0_3] 26 (0, 0)) (by (with_reducible repeat (first | refine blk_drewN ?_ _ | refine blk_drew ?_ | refine blk_alloc ?_ _)); exact BK257.out) hg (Kd.R_ne HL280_7.out BK257.out (by decide))); have n4_ := Aside0.mk (blk_grown (g := gb271) (o := .cells #[.int .i64 t261, .slice (some ad277) x272001_5.length co70, .slice Ao22 t265.length co22, .slice Ao23 t268.length co23] 26 (0, 0)) (by (with_reducible repeat (first | refine blk_drewN ?_ _ | refine blk_drew ?_ | refine blk_alloc ?_ _)); exact BK271.out) hg (Kd.R_ne HL280_7.out BK271.out (by decide))); have n5_ := Aside0.mk ((by rw [hw]; exact below_set (HB.out) GB59.out : Below w.heap.size w w73)); have n6_ := Aside0.mk (hm_); have n7_ := Aside0.mk ((Kd.R_reads' hm_).2.1); clear HO_272001; clear HO_272002; clear HO_272003; clear BK257; clear BK271; clear HB; clear HL277_7; clear HL280_7; have HO_272001 := n0_; have HO_272002 := n1_; have HO_272003 := n2_; have BK257 := n3_; have BK271 := n4_; have HB := n5_; have HL293 := n6_; have HC282 := n7_; clear n0_ n1_ n2_ n3_ n4_ n5_ n6_ n7_; clear hg hw hp_ hz_ hm_ hok72; have hcz74_0 : w73.cell? ⟨gb257, 0, none⟩ = some (.int .i64 a0_0) := (blk_cell BK257.out 0).trans rfl; have hcz74_1 : w73.cell? ⟨gb257, 1, none⟩ = some (.slice (some ad278) l0_1.length c0_1) := (blk_cell BK257.out 1).trans rfl; have hcz74_2 : w73.cell? ⟨gb257, 2, none⟩ = some (.slice A0_2 l0_2.length c0_2) := (blk_cell BK257.out 2).trans rfl; have hcz74_3 : w73.cell? ⟨gb257, 3, none⟩ = some (.slice A0_3 l0_3.length c0_3) := (blk_cell BK257.out 3).trans rfl; have hfz74_0 := blk_frozen BK257.out 0; have hfz74_1 := blk_frozen BK257.out 1; have hfz74_2 := blk_frozen BK257.out 2; have hfz74_3 := blk_frozen BK257.out 3; have p284 : 0 ≤ (x6_4 : Int) := of_decide_eq_true (by first | (with_reducible assumption) | assumption); have q284 : x6_4 < (l0_1.length : Int) := of_decide_eq_true (by first | (with_reducible assumption) | assumption); obtain ⟨ad284, A284_7, c284_7, e284, hx284_0, hx284_1, hx284_2, hx284_3, hx284_4, hx284_5, hx284_6, hx284_7, hl284_7, hi284_7⟩ := at_T48 HR0_1.out x6_4 p284 q284; obtain rfl : ad278 = ad284 := (by injection e284); replace hx284_0 := (HB.out.cell (World.block_lt_of_cell? w _ hx284_0)).trans hx284_0; replace hx284_1 := (HB.out.cell (World.block_lt_of_cell? w _ hx284_1)).trans hx284_1; replace hx284_2 := (HB.out.cell (World.block_lt_of_cell? w _ hx284_2)).trans hx284_2; replace hx284_3 := (HB.out.cell (World.block_lt_of_cell? w _ hx284_3)).trans hx284_3; replace hx284_4 := (HB.out.cell (World.block_lt_of_cell? w _ hx284_4)).trans hx284_4; replace hx284_5 := (HB.out.cell (World.block_lt_of_cell? w _ hx284_5)).trans hx284_5; replace hx284_6 := (HB.out.cell (World.block_lt_of_cell? w _ hx284_6)).trans hx284_6; replace hx284_7 := (HB.out.cell (World.block_lt_of_cell? w _ hx284_7)).trans hx284_7; have HR284_7 := Aside0.mk hi284_7; have HC284_7 := Aside0.mk hl284_7; clear hi284_7 hl284_7; replace p284 := eq_true p284; replace q284 := eq_true q284; have p285 : 0 ≤ (x7_5 : Int) := of_decide_eq_true (by first | (with_reducible assumption) | assumption); have q285 : x7_5 < (((rd_T48 l0_1 x6_4).f7).length : Int) := of_decide_eq_true (by first | (with_reducible assumption) | assumption); obtain ⟨ad285, e285, hx285_0, hx285_1, hx285_2⟩ := at_T51 HR284_7.out x7_5 p285 q285; cases e285; replace hx285_0 := (HB.out.cell (World.block_lt_of_cell? w _ hx285_0)).trans hx285_0; replace hx285_1 := (HB.out.cell (World.block_lt_of_cell? w _ hx285_1)).trans hx285_1; replace hx285_2 := (HB.out.cell (World.block_lt_of_cell? w _ hx285_2)).trans hx285_2; replace p285 := eq_true p285; replace q285 := eq_true q285))
    go_ret
    exact ⟨by first | rfl | (simp [errW_none, errW_some] <;> rfl) | (simp [*, errW_none, errW_some] <;> rfl), by repeat (first | (with_reducible first | exact HB.out | apply below_alloc | apply pw_below_drewN | apply below_drew1 | refine below_set ?_ GE257.out | refine below_set ?_ GE271.out) | exact HB.out)⟩
  (first | rw [if_pos c60] at H | rw [if_pos trivial] at H)
  have c60b0 : (((rd_T51 ((rd_T48 l0_1 x6_4).f7) x7_5).f1) == ((rd_T51 ((rd_T48 l0_1 x6_4).f7) x7_5).f1)) = true := beq_iff_eq.mpr c60
  have c60b1 : (((rd_T51 ((rd_T48 l0_1 x6_4).f7) x7_5).f1) != ((rd_T51 ((rd_T48 l0_1 x6_4).f7) x7_5).f1)) = false := bne_eq_false_iff_eq.mpr c60
  clear c60
  have H' := Aside0.mk H
  clear H
  have hnb61 := NB271_257.out
  have hnc61 := NB257_271.out
  have hcz62_0 : wr.cell? ⟨gb271, 0, none⟩ = some (.int .i64 t261) := (blk_cell BK271.out 0).trans rfl
  have hcz62_1 : wr.cell? ⟨gb271, 1, none⟩ = some (u272001) := (blk_cell BK271.out 1).trans rfl
  have hcz62_2 : wr.cell? ⟨gb271, 2, none⟩ = some (.slice Ao22 t265.length co22) := (blk_cell BK271.out 2).trans rfl
  have hcz62_3 : wr.cell? ⟨gb271, 3, none⟩ = some (.slice Ao23 t268.length co23) := (blk_cell BK271.out 3).trans rfl
  have hfz62_0 := blk_frozen BK271.out 0
  have hfz62_1 := blk_frozen BK271.out 1
  have hfz62_2 := blk_frozen BK271.out 2
  have hfz62_3 := blk_frozen BK271.out 3
  obtain ⟨Ao63, co63, eo63⟩ := Kd.S_slice HO_272001.out
  subst eo63
  have p277 : 0 ≤ (x6_4 : Int) := of_decide_eq_true (by first | (with_reducible assumption) | assumption)
  have q277 : x6_4 < (x272001_5.length : Int) := of_decide_eq_true (by first | (with_reducible assumption) | assumption)
  obtain ⟨ad277, A277_7, c277_7, e277, hx277_0, hx277_1, hx277_2, hx277_3, hx277_4, hx277_5, hx277_6, hx277_7, hl277_7, hi277_7⟩ := at_T48 (Kd.S_reads' HO_272001.out).2.2 x6_4 p277 q277
  cases e277
  obtain ⟨ce277, hce277, hMe277, hcc277⟩ := Kd.S_get HO_272001.out z48 x6_4 p277 (by first | exact q277 | exact of_decide_eq_true (by first | (with_reducible assumption) | assumption) | (have e_ := (Kd.S_reads' HO_272001.out).1; omega))
  obtain ⟨ve277_7, rfl, ge277_7⟩ := k48_openM hMe277
  have hv277_7 := hcc277 7 _ rfl
  rw [add_field _ _ 7 (by omega)] at hv277_7
  replace hv277_7 := Option.some.inj (hv277_7.symm.trans hx277_7)
  rw [hv277_7] at ge277_7
  have HL277_7 := Aside0.mk (show Kd.R k51 51 _ _ _ _ ((rd_T48 x272001_5 x6_4).f7) from ge277_7)
  clear hv277_7 ge277_7
  have HX277_7 := Aside0.mk hx277_7
  clear hcc277 hce277
  have HR277_7 := Aside0.mk hi277_7
  have HC277_7 := Aside0.mk hl277_7
  clear hi277_7 hl277_7
  replace p277 := eq_true p277
  replace q277 := eq_true q277
  have hcz64_0 : wr.cell? ⟨gb257, 0, none⟩ = some (.int .i64 a0_0) := (blk_cell BK257.out 0).trans rfl
  have hcz64_1 : wr.cell? ⟨gb257, 1, none⟩ = some (.slice A0_1 l0_1.length c0_1) := (blk_cell BK257.out 1).trans rfl
  have hcz64_2 : wr.cell? ⟨gb257, 2, none⟩ = some (.slice A0_2 l0_2.length c0_2) := (blk_cell BK257.out 2).trans rfl
  have hcz64_3 : wr.cell? ⟨gb257, 3, none⟩ = some (.slice A0_3 l0_3.length c0_3) := (blk_cell BK257.out 3).trans rfl
  have hfz64_0 := blk_frozen BK257.out 0
  have hfz64_1 := blk_frozen BK257.out 1
  have hfz64_2 := blk_frozen BK257.out 2
  have hfz64_3 := blk_frozen BK257.out 3
  have p278 : 0 ≤ (x6_4 : Int) := of_decide_eq_true (by first | (with_reducible assumption) | assumption)
  have q278 : x6_4 < (l0_1.length : Int) := of_decide_eq_true (by first | (with_reducible assumption) | assumption)
  obtain ⟨ad278, A278_7, c278_7, e278, hx278_0, hx278_1, hx278_2, hx278_3, hx278_4, hx278_5, hx278_6, hx278_7, hl278_7, hi278_7⟩ := at_T48 HR0_1.out x6_4 p278 q278
  cases e278
  replace hx278_0 := (HB.out.cell (World.block_lt_of_cell? w _ hx278_0)).trans hx278_0
  replace hx278_1 := (HB.out.cell (World.block_lt_of_cell? w _ hx278_1)).trans hx278_1
  replace hx278_2 := (HB.out.cell (World.block_lt_of_cell? w _ hx278_2)).trans hx278_2
  replace hx278_3 := (HB.out.cell (World.block_lt_of_cell? w _ hx278_3)).trans hx278_3
  replace hx278_4 := (HB.out.cell (World.block_lt_of_cell? w _ hx278_4)).trans hx278_4
  replace hx278_5 := (HB.out.cell (World.block_lt_of_cell? w _ hx278_5)).trans hx278_5
  replace hx278_6 := (HB.out.cell (World.block_lt_of_cell? w _ hx278_6)).trans hx278_6
  replace hx278_7 := (HB.out.cell (World.block_lt_of_cell? w _ hx278_7)).trans hx278_7
  have HR278_7 := Aside0.mk hi278_7
  have HC278_7 := Aside0.mk hl278_7
  clear hi278_7 hl278_7
  replace p278 := eq_true p278
  replace q278 := eq_true q278
  have p279 : 0 ≤ (x7_5 : Int) := of_decide_eq_true (by first | (with_reducible assumption) | assumption)
  have q279 : x7_5 < (((rd_T48 l0_1 x6_4).f7).length : Int) := of_decide_eq_true (by first | (with_reducible assumption) | assumption)
  obtain ⟨ad279, e279, hx279_0, hx279_1, hx279_2⟩ := at_T51 HR278_7.out x7_5 p279 q279
  cases e279
  replace hx279_0 := (HB.out.cell (World.block_lt_of_cell? w _ hx279_0)).trans hx279_0
  replace hx279_1 := (HB.out.cell (World.block_lt_of_cell? w _ hx279_1)).trans hx279_1
  replace hx279_2 := (HB.out.cell (World.block_lt_of_cell? w _ hx279_2)).trans hx279_2
  replace p279 := eq_true p279
  replace q279 := eq_true q279
  have p280 : 0 ≤ (x6_4 : Int) := of_decide_eq_true (by first | (with_reducible assumption) | assumption)
  have q280 : x6_4 < (x272001_5.length : Int) := of_decide_eq_true (by first | (with_reducible assumption) | assumption)
  obtain ⟨ad280, A280_7, c280_7, e280, hx280_0, hx280_1, hx280_2, hx280_3, hx280_4, hx280_5, hx280_6, hx280_7, hl280_7, hi280_7⟩ := at_T48 (Kd.S_reads' HO_272001.out).2.2 x6_4 p280 q280
  obtain rfl : ad277 = ad280 := (by injection e280)
  obtain ⟨ce280, hce280, hMe280, hcc280⟩ := Kd.S_get HO_272001.out z48 x6_4 p280 (by first | exact q280 | exact of_decide_eq_true (by first | (with_reducible assumption) | assumption) | (have e_ := (Kd.S_reads' HO_272001.out).1; omega))
  obtain ⟨ve280_7, rfl, ge280_7⟩ := k48_openM hMe280
  have hv280_7 := hcc280 7 _ rfl
  rw [add_field _ _ 7 (by omega)] at hv280_7
  replace hv280_7 := Option.some.inj (hv280_7.symm.trans hx280_7)
  rw [hv280_7] at ge280_7
  have HL280_7 := Aside0.mk (show Kd.R k51 51 _ _ _ _ ((rd_T48 x272001_5 x6_4).f7) from ge280_7)
  clear hv280_7 ge280_7
  have HX280_7 := Aside0.mk hx280_7
  clear hcc280 hce280
  have HR280_7 := Aside0.mk hi280_7
  have HC280_7 := Aside0.mk hl280_7
  clear hi280_7 hl280_7
  replace p280 := eq_true p280
  replace q280 := eq_true q280
  have ea_ := Option.some.inj (hx277_7.symm.trans hx280_7)
  injection ea_ with ea_ en_ ec_
  subst ea_
  subst ec_
  clear en_
  have p59 : 0 ≤ (x7_5 : Int) := of_decide_eq_true (by first | (with_reducible assumption) | assumption)
  have q59 : (x7_5 : Int) < ((((rd_T48 x272001_5 x6_4).f7).length : Int) : Int) := of_decide_eq_true (by first | (with_reducible assumption) | assumption)
  obtain ⟨go59, co59, eo59, gb59, gl59, cl59, HG59⟩ := Kd.R_form HL280_7.out (by omega)
  (first | cases eo59 | (injection eo59 with ea_ en_ ec_; (first | subst ea_ | (injection ea_ with ea_; subst ea_)); subst ec_; clear en_))
  have GB59 := Aside0.mk gb59
  have GG59 := Aside0.mk HG59
  clear gb59 gl59 HG59
  obtain ⟨ce59, hcl59, hM59, hcc59, hfr59⟩ := Kd.R_elem HL280_7.out z51 (x7_5 : Int) p59 q59
  obtain rfl := k51_openM hM59
  have hx59_0 : wr.cell? ⟨go59, (x7_5 : Int).toNat * 3, none⟩ = some (.int .u8 ((rd_T51 ((rd_T48 x272001_5 x6_4).f7) x7_5).f0)) := hcc59 0 _ rfl
  have hx59_1 : wr.cell? ⟨go59, (x7_5 : Int).toNat * 3 + 1, none⟩ = some (.int .u32 ((rd_T51 ((rd_T48 x272001_5 x6_4).f7) x7_5).f1)) := hcc59 1 _ rfl
  have hx59_2 : wr.cell? ⟨go59, (x7_5 : Int).toNat * 3 + 2, none⟩ = some (.bool ((rd_T51 ((rd_T48 x272001_5 x6_4).f7) x7_5).f2)) := hcc59 2 _ rfl
  have hf59_0 : wr.frozen? ⟨go59, (x7_5 : Int).toNat * 3, none⟩ = false := hfr59 0
  have hf59_1 : wr.frozen? ⟨go59, (x7_5 : Int).toNat * 3 + 1, none⟩ = false := hfr59 1
  have hf59_2 : wr.frozen? ⟨go59, (x7_5 : Int).toNat * 3 + 2, none⟩ = false := hfr59 2
  clear hcl59 hcc59 hfr59 hM59
  replace p59 := eq_true p59
  replace q59 := eq_true q59
  have hq65 : (x6_4 : Int) < (x272001_5.length : Int) := (by have h_ : (x6_4 : Int) < ((x272001_5.length : Int) : Int) := of_decide_eq_true (by first | (with_reducible assumption) | assumption); first | exact h_ | (have e_ := (Kd.S_reads' HO_272001.out).1; omega) | simpa only [List.length_set, List.length_set] using h_)
  obtain ⟨oki65, ce65, hcl65, hM65, hcc65, hok65, hbk65⟩ := Kd.S_borrow HO_272001.out z48 (x6_4 : Int) (of_decide_eq_true (by first | (with_reducible assumption) | assumption)) hq65
  obtain ⟨ve65_7, rfl, ge65_7⟩ := k48_openM hM65
  have hv65 := hcc65 7 _ rfl
  rw [add_field _ _ 7 (by omega)] at hv65
  replace hv65 := Option.some.inj (hv65.symm.trans HX280_7.out)
  subst hv65
  clear hcc65 hcl65
  replace ge65_7 := (show Kd.R k51 51 _ _ _ _ ((rd_T48 x272001_5 x6_4).f7) from ge65_7)
  obtain ⟨cf65, hcl65, hN65, hcc65, hfr65⟩ := Kd.R_elem ge65_7 z51 (x7_5 : Int) (of_decide_eq_true (by first | (with_reducible assumption) | assumption)) (by have h_ : (x7_5 : Int) < ((((rd_T48 x272001_5 x6_4).f7).length : Int) : Int) := of_decide_eq_true (by first | (with_reducible assumption) | assumption); first | exact h_ | (have e_ := (Kd.R_reads' HR280_7.out).1; omega) | simpa using h_)
  obtain rfl := k51_openM hN65
  have HP65 := Kd.R_seg ge65_7 (x7_5 : Int) (of_decide_eq_true (by first | (with_reducible assumption) | assumption)) (by have h_ : (x7_5 : Int) < ((((rd_T48 x272001_5 x6_4).f7).length : Int) : Int) := of_decide_eq_true (by first | (with_reducible assumption) | assumption); first | exact h_ | (have e_ := (Kd.R_reads' HR280_7.out).1; omega) | simpa using h_) (seg := [.int .u32 ((((rd_T51 ((rd_T48 l0_1 x6_4).f7) x7_5).f1) + 1) % 4294967296)]) (j := 1) hcl65 hcc65 (show 2 ≤ 3 from by decide) (x' := (⟨(rd_T51 ((rd_T48 x272001_5 x6_4).f7) x7_5).f0, (((rd_T51 ((rd_T48 l0_1 x6_4).f7) x7_5).f1) + 1) % 4294967296, (rd_T51 ((rd_T48 x272001_5 x6_4).f7) x7_5).f2⟩ : S51)) (k51_mkM _ _ _ (⟨(rd_T51 ((rd_T48 x272001_5 x6_4).f7) x7_5).f0, (((rd_T51 ((rd_T48 l0_1 x6_4).f7) x7_5).f1) + 1) % 4294967296, (rd_T51 ((rd_T48 x272001_5 x6_4).f7) x7_5).f2⟩ : S51)) (fun _ hk => hk)
  clear hcl65 hcc65 hfr65 hN65
  go_wp2_with (first | ((with_reducible refine gate_store (t := 49) (p := 94) rfl ?_); refine store_event (t := 49) (p := 94) (v := ?vo_w66) (w1 := (wr.setCell ⟨go59, (x7_5 : Int).toNat * 3 + 1, none⟩ (.int .u32 ((((rd_T51 ((rd_T48 l0_1 x6_4).f7) x7_5).f1) + 1) % 4294967296)))) ?hg ?ho ?hn ?hr ?_; (case ho => rfl); (case hg => rfl); (case hn => rfl); (case hr => first | (go_simp; done) | (go_simp; rfl)); intro w66 hw; have hg : wr.grownBy w66 (some go59) := (by rw [hw]; exact HP65.2); have hz_ : Kd.R k51 51 w66 w.heap.size oki65 (.slice (some ⟨go59, 0, none⟩) ((rd_T48 x272001_5 x6_4).f7).length c277_7) y281 := (by rw [hw, Ny281.out]; exact HP65.1); have hp_ : Kd.S k48 48 w66 w.heap.size (fun _ => True) (.slice (some ad277) x272001_5.length co63) y283 := (by rw [Ny283.out]; exact hbk65 hg (fun k_ e_ => by injection e_ with e_; subst e_; exact ge65_7.1 _ rfl) (k48_mkM _ _ _ (⟨(rd_T48 x272001_5 x6_4).f0, (rd_T48 x272001_5 x6_4).f1, (rd_T48 x272001_5 x6_4).f2, (rd_T48 x272001_5 x6_4).f3, (rd_T48 x272001_5 x6_4).f4, (rd_T48 x272001_5 x6_4).f5, (rd_T48 x272001_5 x6_4).f6, y281⟩ : S48) hz_)); have hm_ := Kd.R_mono hz_ hok65; clear HP65 hbk65; have n0_ := Aside0.mk (hp_); have n1_ := Aside0.mk (Kd.S_over' (v := (.slice (some ⟨go59, 0, none⟩) ((rd_T48 x272001_5 x6_4).f7).length c277_7)) (by (with_reducible repeat (first | apply Kd.S_alloc | apply Kd.S_drewN | apply Kd.S_drew)); exact HO_272002.out) (Kd.R_typed HL280_7.out) (by decide) hg); have n2_ := Aside0.mk (Kd.R_over' (v := (.slice (some ⟨go59, 0, none⟩) ((rd_T48 x272001_5 x6_4).f7).length c277_7)) (by (with_reducible repeat (first | apply Kd.R_alloc | apply Kd.R_drewN | apply Kd.R_drew)); exact HO_272003.out) (Kd.R_typed HL280_7.out) (by decide) hg); have n3_ := Aside0.mk (blk_grown (g := gb257) (o := .cells #[.int .i64 a0_0, .slice (some ad278) l0_1.length c0_1, .slice A0_2 l0_2.length c0_2, .slice A0_3 l0_3.length c0_3] 26 (0, 0)) (by (with_reducible repeat (first | refine blk_drewN ?_ _ | refine blk_drew ?_ | refine blk_alloc ?_ _)); exact BK257.out) hg (Kd.R_ne HL280_7.out BK257.out (by decide))); have n4_ := Aside0.mk (blk_grown (g := gb271) (o := .cells #[.int .i64 t261, .slice (some ad277) x272001_5.length co63, .slice Ao22 t265.length co22, .slice Ao23 t268.length co23] 26 (0, 0)) (by (with_reducible repeat (first | refine blk_drewN ?_ _ | refine blk_drew ?_ | refine blk_alloc ?_ _)); exact BK271.out) hg (Kd.R_ne HL280_7.out BK271.out (by decide))); have n5_ := Aside0.mk ((by rw [hw]; exact below_set (HB.out) GB59.out : Below w.heap.size w w66)); have n6_ := Aside0.mk (hm_); have n7_ := Aside0.mk ((Kd.R_reads' hm_).2.1); clear HO_272001; clear HO_272002; clear HO_272003; clear BK257; clear BK271; clear HB; clear HL277_7; clear HL280_7; have HO_272001 := n0_; have HO_272002 := n1_; have HO_272003 := n2_; have BK257 := n3_; have BK271 := n4_; have HB := n5_; have HL292 := n6_; have HC282 := n7_; clear n0_ n1_ n2_ n3_ n4_ n5_ n6_ n7_; clear hg hw hp_ hz_ hm_ hok65; have hcz67_0 : w66.cell? ⟨gb257, 0, none⟩ = some (.int .i64 a0_0) := (blk_cell BK257.out 0).trans rfl; have hcz67_1 : w66.cell? ⟨gb257, 1, none⟩ = some (.slice (some ad278) l0_1.length c0_1) := (blk_cell BK257.out 1).trans rfl; have hcz67_2 : w66.cell? ⟨gb257, 2, none⟩ = some (.slice A0_2 l0_2.length c0_2) := (blk_cell BK257.out 2).trans rfl; have hcz67_3 : w66.cell? ⟨gb257, 3, none⟩ = some (.slice A0_3 l0_3.length c0_3) := (blk_cell BK257.out 3).trans rfl; have hfz67_0 := blk_frozen BK257.out 0; have hfz67_1 := blk_frozen BK257.out 1; have hfz67_2 := blk_frozen BK257.out 2; have hfz67_3 := blk_frozen BK257.out 3; have p284 : 0 ≤ (x6_4 : Int) := of_decide_eq_true (by first | (with_reducible assumption) | assumption); have q284 : x6_4 < (l0_1.length : Int) := of_decide_eq_true (by first | (with_reducible assumption) | assumption); obtain ⟨ad284, A284_7, c284_7, e284, hx284_0, hx284_1, hx284_2, hx284_3, hx284_4, hx284_5, hx284_6, hx284_7, hl284_7, hi284_7⟩ := at_T48 HR0_1.out x6_4 p284 q284; obtain rfl : ad278 = ad284 := (by injection e284); replace hx284_0 := (HB.out.cell (World.block_lt_of_cell? w _ hx284_0)).trans hx284_0; replace hx284_1 := (HB.out.cell (World.block_lt_of_cell? w _ hx284_1)).trans hx284_1; replace hx284_2 := (HB.out.cell (World.block_lt_of_cell? w _ hx284_2)).trans hx284_2; replace hx284_3 := (HB.out.cell (World.block_lt_of_cell? w _ hx284_3)).trans hx284_3; replace hx284_4 := (HB.out.cell (World.block_lt_of_cell? w _ hx284_4)).trans hx284_4; replace hx284_5 := (HB.out.cell (World.block_lt_of_cell? w _ hx284_5)).trans hx284_5; replace hx284_6 := (HB.out.cell (World.block_lt_of_cell? w _ hx284_6)).trans hx284_6; replace hx284_7 := (HB.out.cell (World.block_lt_of_cell? w _ hx284_7)).trans hx284_7; have HR284_7 := Aside0.mk hi284_7; have HC284_7 := Aside0.mk hl284_7; clear hi284_7 hl284_7; replace p284 := eq_true p284; replace q284 := eq_true q284; have p285 : 0 ≤ (x7_5 : Int) := of_decide_eq_true (by first | (with_reducible assumption) | assumption); have q285 : x7_5 < (((rd_T48 l0_1 x6_4).f7).length : Int) := of_decide_eq_true (by first | (with_reducible assumption) | assumption); obtain ⟨ad285, e285, hx285_0, hx285_1, hx285_2⟩ := at_T51 HR284_7.out x7_5 p285 q285; cases e285; replace hx285_0 := (HB.out.cell (World.block_lt_of_cell? w _ hx285_0)).trans hx285_0; replace hx285_1 := (HB.out.cell (World.block_lt_of_cell? w _ hx285_1)).trans hx285_1; replace hx285_2 := (HB.out.cell (World.block_lt_of_cell? w _ hx285_2)).trans hx285_2; replace p285 := eq_true p285; replace q285 := eq_true q285))
  go_roundg k5
  case measure => have := HJ1.out; have := HJ14.out; have := HK3.out; have := HK4.out; have := HK5.out; omega
  case rel => exact ⟨(wrap64 (x7_5 + 1)), (y283), (.slice (some ad277) x272001_5.length co63), (by first | rfl | (simp; done) | (simp [*]; done)), H', ⟨by have := HJ1.out; have := HJ14.out; have := HK3.out; have := HK4.out; have := HK5.out; omega⟩, ⟨by (with_reducible repeat (first | apply Kd.S_alloc | apply Kd.S_drewN | apply Kd.S_drew)); exact HO_272001.out⟩, ⟨by (with_reducible repeat (first | apply Kd.S_alloc | apply Kd.S_drewN | apply Kd.S_drew)); exact HO_272002.out⟩, ⟨by (with_reducible repeat (first | apply Kd.R_alloc | apply Kd.R_drewN | apply Kd.R_drew)); exact HO_272003.out⟩, ⟨by (with_reducible repeat (first | refine blk_drewN ?_ _ | refine blk_drew ?_ | refine blk_alloc ?_ _)); exact BK257.out⟩, ⟨by (with_reducible repeat (first | refine blk_drewN ?_ _ | refine blk_drew ?_ | refine blk_alloc ?_ _)); exact BK271.out⟩, ⟨by repeat (first | (with_reducible first | exact HB.out | apply below_alloc | apply pw_below_drewN | apply below_drew1 | refine below_set ?_ GE257.out | refine below_set ?_ GE271.out) | exact HB.out)⟩⟩
 rw [if_neg c49] at H
 have c49b0 : decide (x6_4 < (x272001_4.length : Int)) = false := decide_eq_false c49
 clear c49
 replace H := Option.bind_eq_some_iff.mp H
 obtain ⟨t286, A780, H⟩ := H
 replace H : (if t286 = 0 then (treelinelaw20_TopoRight.l3 k4 x4_3 0 a0_0 l0_1 l0_2 l0_3) else (some true)) = some r := H
 have A78 := Aside0.mk A780
 clear A780
 by_cases c79 : t286 = 0
 rotate_left
 ·rw [if_neg c79] at H
  have c79b0 : (t286 == 0) = false := beq_eq_false_iff_ne.mpr c79
  have c79b1 : (t286 != 0) = true := bne_iff_ne.mpr c79
  obtain rfl := Option.some.inj H
  (try exact absurd LRT.out (by decide))
  all_goals
   have hnb108 := NB271_257.out
   have hnc108 := NB257_271.out
   have hcz109_0 : wr.cell? ⟨gb271, 0, none⟩ = some (.int .i64 t261) := (blk_cell BK271.out 0).trans rfl
   have hcz109_1 : wr.cell? ⟨gb271, 1, none⟩ = some (u272001) := (blk_cell BK271.out 1).trans rfl
   have hcz109_2 : wr.cell? ⟨gb271, 2, none⟩ = some (.slice Ao22 t265.length co22) := (blk_cell BK271.out 2).trans rfl
   have hcz109_3 : wr.cell? ⟨gb271, 3, none⟩ = some (.slice Ao23 t268.length co23) := (blk_cell BK271.out 3).trans rfl
   have hfz109_0 := blk_frozen BK271.out 0
   have hfz109_1 := blk_frozen BK271.out 1
   have hfz109_2 := blk_frozen BK271.out 2
   have hfz109_3 := blk_frozen BK271.out 3
   obtain ⟨Ao110, co110, eo110⟩ := Kd.S_slice HO_272001.out
   subst eo110
   have hcz111_0 : wr.cell? ⟨gb257, 0, none⟩ = some (.int .i64 a0_0) := (blk_cell BK257.out 0).trans rfl
   have hcz111_1 : wr.cell? ⟨gb257, 1, none⟩ = some (.slice A0_1 l0_1.length c0_1) := (blk_cell BK257.out 1).trans rfl
   have hcz111_2 : wr.cell? ⟨gb257, 2, none⟩ = some (.slice A0_2 l0_2.length c0_2) := (blk_cell BK257.out 2).trans rfl
   have hcz111_3 : wr.cell? ⟨gb257, 3, none⟩ = some (.slice A0_3 l0_3.length c0_3) := (blk_cell BK257.out 3).trans rfl
   have hfz111_0 := blk_frozen BK257.out 0
   have hfz111_1 := blk_frozen BK257.out 1
   have hfz111_2 := blk_frozen BK257.out 2
   have hfz111_3 := blk_frozen BK257.out 3
   go_wp2_with (first | ((with_reducible refine gate_callee (f := 9) rfl ?_); refine goesL_ (some 108) rfl rfl Try.func9 (by kernel_rfl) rfl #[.agg #[.int .i64 a0_0, .slice A0_1 l0_1.length c0_1, .slice A0_2 l0_2.length c0_2, .slice A0_3 l0_3.length c0_3]] rfl (by (try simp only [List.map_toArray, List.map_cons, List.map_nil]); first | done | rfl | (simp only [List.length_drop, List.length_take]; rfl)) ?_; (with_reducible refine (topo_Check.calls k4 a0_0 _ _ l0_1 _ _ l0_2 _ _ l0_3 t286 _ ?side1 ?side2 ?side3 ?side4 ?side5 ?side6 A78.out).mono ?_); (case side1 => repeat (first | exact (Kd.C_below HR0_1.out HB.out) | (with_reducible refine Kd.C_alloc ?_ _) | (with_reducible refine Kd.C_drewN ?_ _) | (with_reducible refine Kd.C_drew ?_))); (case side2 => exact HC0_1.out); (case side3 => repeat (first | exact (Kd.C_below HR0_2.out HB.out) | (with_reducible refine Kd.C_alloc ?_ _) | (with_reducible refine Kd.C_drewN ?_ _) | (with_reducible refine Kd.C_drew ?_))); (case side4 => exact HC0_2.out); (case side5 => repeat (first | exact (Kd.C_below HR0_3.out HB.out) | (with_reducible refine Kd.C_alloc ?_ _) | (with_reducible refine Kd.C_drewN ?_ _) | (with_reducible refine Kd.C_drew ?_))); (case side6 => exact HC0_3.out); rintro e w112 ⟨rfl, hb⟩; refine ⟨_, rfl, ?_⟩; have n0_ := Aside0.mk (Kd.S_below (by (with_reducible repeat (first | apply Kd.S_alloc | apply Kd.S_drewN | apply Kd.S_drew)); exact HO_272001.out) hb); have n1_ := Aside0.mk (Kd.S_below (by (with_reducible repeat (first | apply Kd.S_alloc | apply Kd.S_drewN | apply Kd.S_drew)); exact HO_272002.out) hb); have n2_ := Aside0.mk (Kd.R_below (by (with_reducible repeat (first | apply Kd.R_alloc | apply Kd.R_drewN | apply Kd.R_drew)); exact HO_272003.out) hb); have n3_ := Aside0.mk (blk_below (g := gb257) (o := .cells #[.int .i64 a0_0, .slice A0_1 l0_1.length c0_1, .slice A0_2 l0_2.length c0_2, .slice A0_3 l0_3.length c0_3] 26 (0, 0)) (by (with_reducible repeat (first | refine blk_drewN ?_ _ | refine blk_drew ?_ | refine blk_alloc ?_ _)); exact BK257.out) hb); have n4_ := Aside0.mk (blk_below (g := gb271) (o := .cells #[.int .i64 t261, .slice Ao110 x272001_4.length co110, .slice Ao22 t265.length co22, .slice Ao23 t268.length co23] 26 (0, 0)) (by (with_reducible repeat (first | refine blk_drewN ?_ _ | refine blk_drew ?_ | refine blk_alloc ?_ _)); exact BK271.out) hb); have n5_ := Aside0.mk (below_step (by repeat (first | (with_reducible first | exact HB.out | apply below_alloc | apply pw_below_drewN | apply below_drew1 | refine below_set ?_ GE257.out | refine below_set ?_ GE271.out) | exact HB.out)) hb); clear HO_272001; clear HO_272002; clear HO_272003; clear BK257; clear BK271; clear HB; have HO_272001 := n0_; have HO_272002 := n1_; have HO_272003 := n2_; have BK257 := n3_; have BK271 := n4_; have HB := n5_; clear n0_ n1_ n2_ n3_ n4_ n5_; (try clear hb); (try clear hb2); (try clear hk); (try clear hi)) | (go_at_call 9; (with_reducible refine (topo_Check.calls k4 a0_0 _ _ l0_1 _ _ l0_2 _ _ l0_3 t286 _ ?side1 ?side2 ?side3 ?side4 ?side5 ?side6 A78.out).mono ?_); (case side1 => repeat (first | exact (Kd.C_below HR0_1.out HB.out) | (with_reducible refine Kd.C_alloc ?_ _) | (with_reducible refine Kd.C_drewN ?_ _) | (with_reducible refine Kd.C_drew ?_))); (case side2 => exact HC0_1.out); (case side3 => repeat (first | exact (Kd.C_below HR0_2.out HB.out) | (with_reducible refine Kd.C_alloc ?_ _) | (with_reducible refine Kd.C_drewN ?_ _) | (with_reducible refine Kd.C_drew ?_))); (case side4 => exact HC0_2.out); (case side5 => repeat (first | exact (Kd.C_below HR0_3.out HB.out) | (with_reducible refine Kd.C_alloc ?_ _) | (with_reducible refine Kd.C_drewN ?_ _) | (with_reducible refine Kd.C_drew ?_))); (case side6 => exact HC0_3.out); rintro e w112 ⟨rfl, hb⟩; have n0_ := Aside0.mk (Kd.S_below (by (with_reducible repeat (first | apply Kd.S_alloc | apply Kd.S_drewN | apply Kd.S_drew)); exact HO_272001.out) hb); have n1_ := Aside0.mk (Kd.S_below (by (with_reducible repeat (first | apply Kd.S_alloc | apply Kd.S_drewN | apply Kd.S_drew)); exact HO_272002.out) hb); have n2_ := Aside0.mk (Kd.R_below (by (with_reducible repeat (first | apply Kd.R_alloc | apply Kd.R_drewN | apply Kd.R_drew)); exact HO_272003.out) hb); have n3_ := Aside0.mk (blk_below (g := gb257) (o := .cells #[.int .i64 a0_0, .slice A0_1 l0_1.length c0_1, .slice A0_2 l0_2.length c0_2, .slice A0_3 l0_3.length c0_3] 26 (0, 0)) (by (with_reducible repeat (first | refine blk_drewN ?_ _ | refine blk_drew ?_ | refine blk_alloc ?_ _)); exact BK257.out) hb); have n4_ := Aside0.mk (blk_below (g := gb271) (o := .cells #[.int .i64 t261, .slice Ao110 x272001_4.length co110, .slice Ao22 t265.length co22, .slice Ao23 t268.length co23] 26 (0, 0)) (by (with_reducible repeat (first | refine blk_drewN ?_ _ | refine blk_drew ?_ | refine blk_alloc ?_ _)); exact BK271.out) hb); have n5_ := Aside0.mk (below_step (by repeat (first | (with_reducible first | exact HB.out | apply below_alloc | apply pw_below_drewN | apply below_drew1 | refine below_set ?_ GE257.out | refine below_set ?_ GE271.out) | exact HB.out)) hb); clear HO_272001; clear HO_272002; clear HO_272003; clear BK257; clear BK271; clear HB; have HO_272001 := n0_; have HO_272002 := n1_; have HO_272003 := n2_; have BK257 := n3_; have BK271 := n4_; have HB := n5_; clear n0_ n1_ n2_ n3_ n4_ n5_; (try clear hb); (try clear hb2); (try clear hk); (try clear hi)))
   go_ret
   exact ⟨by first | rfl | (simp [errW_none, errW_some] <;> rfl) | (simp [*, errW_none, errW_some] <;> rfl), by repeat (first | (with_reducible first | exact HB.out | apply below_alloc | apply pw_below_drewN | apply below_drew1 | refine below_set ?_ GE257.out | refine below_set ?_ GE271.out) | exact HB.out)⟩
 rw [if_pos c79] at H
 have c79b0 : (t286 == 0) = true := beq_iff_eq.mpr c79
 have c79b1 : (t286 != 0) = false := bne_eq_false_iff_eq.mpr c79
 clear c79
 have H' := Aside0.mk H
 clear H
 have hnb80 := NB271_257.out
 have hnc80 := NB257_271.out
 have hcz81_0 : wr.cell? ⟨gb271, 0, none⟩ = some (.int .i64 t261) := (blk_cell BK271.out 0).trans rfl
 have hcz81_1 : wr.cell? ⟨gb271, 1, none⟩ = some (u272001) := (blk_cell BK271.out 1).trans rfl
 have hcz81_2 : wr.cell? ⟨gb271, 2, none⟩ = some (.slice Ao22 t265.length co22) := (blk_cell BK271.out 2).trans rfl
 have hcz81_3 : wr.cell? ⟨gb271, 3, none⟩ = some (.slice Ao23 t268.length co23) := (blk_cell BK271.out 3).trans rfl
 have hfz81_0 := blk_frozen BK271.out 0
 have hfz81_1 := blk_frozen BK271.out 1
 have hfz81_2 := blk_frozen BK271.out 2
 have hfz81_3 := blk_frozen BK271.out 3
 obtain ⟨Ao82, co82, eo82⟩ := Kd.S_slice HO_272001.out
 subst eo82
 have hcz83_0 : wr.cell? ⟨gb257, 0, none⟩ = some (.int .i64 a0_0) := (blk_cell BK257.out 0).trans rfl
 have hcz83_1 : wr.cell? ⟨gb257, 1, none⟩ = some (.slice A0_1 l0_1.length c0_1) := (blk_cell BK257.out 1).trans rfl
 have hcz83_2 : wr.cell? ⟨gb257, 2, none⟩ = some (.slice A0_2 l0_2.length c0_2) := (blk_cell BK257.out 2).trans rfl
 have hcz83_3 : wr.cell? ⟨gb257, 3, none⟩ = some (.slice A0_3 l0_3.length c0_3) := (blk_cell BK257.out 3).trans rfl
 have hfz83_0 := blk_frozen BK257.out 0
 have hfz83_1 := blk_frozen BK257.out 1
 have hfz83_2 := blk_frozen BK257.out 2
 have hfz83_3 := blk_frozen BK257.out 3
 go_wp2_with (first | ((with_reducible refine gate_callee (f := 9) rfl ?_); refine goesL_ (some 108) rfl rfl Try.func9 (by kernel_rfl) rfl #[.agg #[.int .i64 a0_0, .slice A0_1 l0_1.length c0_1, .slice A0_2 l0_2.length c0_2, .slice A0_3 l0_3.length c0_3]] rfl (by (try simp only [List.map_toArray, List.map_cons, List.map_nil]); first | done | rfl | (simp only [List.length_drop, List.length_take]; rfl)) ?_; (with_reducible refine (topo_Check.calls k4 a0_0 _ _ l0_1 _ _ l0_2 _ _ l0_3 t286 _ ?side1 ?side2 ?side3 ?side4 ?side5 ?side6 A78.out).mono ?_); (case side1 => repeat (first | exact (Kd.C_below HR0_1.out HB.out) | (with_reducible refine Kd.C_alloc ?_ _) | (with_reducible refine Kd.C_drewN ?_ _) | (with_reducible refine Kd.C_drew ?_))); (case side2 => exact HC0_1.out); (case side3 => repeat (first | exact (Kd.C_below HR0_2.out HB.out) | (with_reducible refine Kd.C_alloc ?_ _) | (with_reducible refine Kd.C_drewN ?_ _) | (with_reducible refine Kd.C_drew ?_))); (case side4 => exact HC0_2.out); (case side5 => repeat (first | exact (Kd.C_below HR0_3.out HB.out) | (with_reducible refine Kd.C_alloc ?_ _) | (with_reducible refine Kd.C_drewN ?_ _) | (with_reducible refine Kd.C_drew ?_))); (case side6 => exact HC0_3.out); rintro e w84 ⟨rfl, hb⟩; refine ⟨_, rfl, ?_⟩; have n0_ := Aside0.mk (Kd.S_below (by (with_reducible repeat (first | apply Kd.S_alloc | apply Kd.S_drewN | apply Kd.S_drew)); exact HO_272001.out) hb); have n1_ := Aside0.mk (Kd.S_below (by (with_reducible repeat (first | apply Kd.S_alloc | apply Kd.S_drewN | apply Kd.S_drew)); exact HO_272002.out) hb); have n2_ := Aside0.mk (Kd.R_below (by (with_reducible repeat (first | apply Kd.R_alloc | apply Kd.R_drewN | apply Kd.R_drew)); exact HO_272003.out) hb); have n3_ := Aside0.mk (blk_below (g := gb257) (o := .cells #[.int .i64 a0_0, .slice A0_1 l0_1.length c0_1, .slice A0_2 l0_2.length c0_2, .slice A0_3 l0_3.length c0_3] 26 (0, 0)) (by (with_reducible repeat (first | refine blk_drewN ?_ _ | refine blk_drew ?_ | refine blk_alloc ?_ _)); exact BK257.out) hb); have n4_ := Aside0.mk (blk_below (g := gb271) (o := .cells #[.int .i64 t261, .slice Ao82 x272001_4.length co82, .slice Ao22 t265.length co22, .slice Ao23 t268.length co23] 26 (0, 0)) (by (with_reducible repeat (first | refine blk_drewN ?_ _ | refine blk_drew ?_ | refine blk_alloc ?_ _)); exact BK271.out) hb); have n5_ := Aside0.mk (below_step (by repeat (first | (with_reducible first | exact HB.out | apply below_alloc | apply pw_below_drewN | apply below_drew1 | refine below_set ?_ GE257.out | refine below_set ?_ GE271.out) | exact HB.out)) hb); clear HO_272001; clear HO_272002; clear HO_272003; clear BK257; clear BK271; clear HB; have HO_272001 := n0_; have HO_272002 := n1_; have HO_272003 := n2_; have BK257 := n3_; have BK271 := n4_; have HB := n5_; clear n0_ n1_ n2_ n3_ n4_ n5_; (try clear hb); (try clear hb2); (try clear hk); (try clear hi)) | (go_at_call 9; (with_reducible refine (topo_Check.calls k4 a0_0 _ _ l0_1 _ _ l0_2 _ _ l0_3 t286 _ ?side1 ?side2 ?side3 ?side4 ?side5 ?side6 A78.out).mono ?_); (case side1 => repeat (first | exact (Kd.C_below HR0_1.out HB.out) | (with_reducible refine Kd.C_alloc ?_ _) | (with_reducible refine Kd.C_drewN ?_ _) | (with_reducible refine Kd.C_drew ?_))); (case side2 => exact HC0_1.out); (case side3 => repeat (first | exact (Kd.C_below HR0_2.out HB.out) | (with_reducible refine Kd.C_alloc ?_ _) | (with_reducible refine Kd.C_drewN ?_ _) | (with_reducible refine Kd.C_drew ?_))); (case side4 => exact HC0_2.out); (case side5 => repeat (first | exact (Kd.C_below HR0_3.out HB.out) | (with_reducible refine Kd.C_alloc ?_ _) | (with_reducible refine Kd.C_drewN ?_ _) | (with_reducible refine Kd.C_drew ?_))); (case side6 => exact HC0_3.out); rintro e w84 ⟨rfl, hb⟩; have n0_ := Aside0.mk (Kd.S_below (by (with_reducible repeat (first | apply Kd.S_alloc | apply Kd.S_drewN | apply Kd.S_drew)); exact HO_272001.out) hb); have n1_ := Aside0.mk (Kd.S_below (by (with_reducible repeat (first | apply Kd.S_alloc | apply Kd.S_drewN | apply Kd.S_drew)); exact HO_272002.out) hb); have n2_ := Aside0.mk (Kd.R_below (by (with_reducible repeat (first | apply Kd.R_alloc | apply Kd.R_drewN | apply Kd.R_drew)); exact HO_272003.out) hb); have n3_ := Aside0.mk (blk_below (g := gb257) (o := .cells #[.int .i64 a0_0, .slice A0_1 l0_1.length c0_1, .slice A0_2 l0_2.length c0_2, .slice A0_3 l0_3.length c0_3] 26 (0, 0)) (by (with_reducible repeat (first | refine blk_drewN ?_ _ | refine blk_drew ?_ | refine blk_alloc ?_ _)); exact BK257.out) hb); have n4_ := Aside0.mk (blk_below (g := gb271) (o := .cells #[.int .i64 t261, .slice Ao82 x272001_4.length co82, .slice Ao22 t265.length co22, .slice Ao23 t268.length co23] 26 (0, 0)) (by (with_reducible repeat (first | refine blk_drewN ?_ _ | refine blk_drew ?_ | refine blk_alloc ?_ _)); exact BK271.out) hb); have n5_ := Aside0.mk (below_step (by repeat (first | (with_reducible first | exact HB.out | apply below_alloc | apply pw_below_drewN | apply below_drew1 | refine below_set ?_ GE257.out | refine below_set ?_ GE271.out) | exact HB.out)) hb); clear HO_272001; clear HO_272002; clear HO_272003; clear BK257; clear BK271; clear HB; have HO_272001 := n0_; have HO_272002 := n1_; have HO_272003 := n2_; have BK257 := n3_; have BK271 := n4_; have HB := n5_; clear n0_ n1_ n2_ n3_ n4_ n5_; (try clear hb); (try clear hb2); (try clear hk); (try clear hi)))
 go_loopg [4, 9] k4 (fun kq v4 v9 w' => ∃ (x4_5 : Int) (x9_5 : Int), v4 = .int .i64 x4_5 ∧ v9 = .int .i64 x9_5 ∧ Aside0 (treelinelaw20_TopoRight.l3 kq x4_5 x9_5 a0_0 l0_1 l0_2 l0_3 = some r) ∧ Aside0 (kq ≤ k4) ∧ Aside0 (Kd.S k48 48 w' w.heap.size (fun _ => True) (.slice Ao82 x272001_4.length co82) x272001_4) ∧ Aside0 (Kd.S (Kd.slice 3 (Kd.int .i64)) 33 w' w.heap.size (fun _ => True) (.slice Ao22 t265.length co22) t265) ∧ Aside0 (Kd.R k59 59 w' w.heap.size (fun _ => True) (.slice Ao23 t268.length co23) t268) ∧ Aside0 (w'.heap[gb257]? = some (.cells #[.int .i64 a0_0, (.slice A0_1 l0_1.length c0_1), (.slice A0_2 l0_2.length c0_2), (.slice A0_3 l0_3.length c0_3)] 26 (0, 0))) ∧ Aside0 (w'.heap[gb271]? = some (.cells #[.int .i64 t261, (.slice Ao82 x272001_4.length co82), (.slice Ao22 t265.length co22), (.slice Ao23 t268.length co23)] 26 (0, 0))) ∧ Aside0 (Below w.heap.size w w'))
 case atStart => exact ⟨(x4_3), (0), (by first | rfl | (simp; done) | (simp [*]; done)), (by first | rfl | (simp; done) | (simp [*]; done)), H', ⟨Nat.le_refl _⟩, ⟨by (with_reducible repeat (first | apply Kd.S_alloc | apply Kd.S_drewN | apply Kd.S_drew)); exact HO_272001.out⟩, ⟨by (with_reducible repeat (first | apply Kd.S_alloc | apply Kd.S_drewN | apply Kd.S_drew)); exact HO_272002.out⟩, ⟨by (with_reducible repeat (first | apply Kd.R_alloc | apply Kd.R_drewN | apply Kd.R_drew)); exact HO_272003.out⟩, ⟨by (with_reducible repeat (first | refine blk_drewN ?_ _ | refine blk_drew ?_ | refine blk_alloc ?_ _)); exact BK257.out⟩, ⟨by (with_reducible repeat (first | refine blk_drewN ?_ _ | refine blk_drew ?_ | refine blk_alloc ?_ _)); exact BK271.out⟩, ⟨by repeat (first | (with_reducible first | exact HB.out | apply below_alloc | apply pw_below_drewN | apply below_drew1 | refine below_set ?_ GE257.out | refine below_set ?_ GE271.out) | exact HB.out)⟩⟩
 clear H'
 try clear c1
 try clear c2
 try clear p2
 try clear q2
 try clear hx2
 try clear c4
 try clear c5
 try clear p5
 try clear q5
 try clear hx5
 try clear hf5
 try clear c6
 try clear p6
 try clear q6
 try clear c7
 try clear q7
 try clear c8
 try clear c9
 try clear c16
 try clear c26
 try clear c26b0
 try clear c26b1
 try clear c27
 try clear c27b0
 try clear c27b1
 try clear c27b2
 try clear p27
 try clear q27
 try clear hx27
 try clear c28
 try clear p28
 try clear q28
 try clear hx28
 try clear c40
 try clear c41
 try clear c41b0
 try clear c43
 try clear c47
 try clear c49
 try clear c49b0
 try clear c50
 try clear c53
 try clear c53b0
 try clear c54
 try clear c54b0
 try clear c55
 try clear c55b0
 try clear c56
 try clear c56b0
 try clear c57
 try clear c57b0
 try clear c58
 try clear c58b0
 try clear c59
 try clear p59
 try clear q59
 try clear hx59
 try clear hf59
 try clear c60
 try clear c60b0
 try clear c60b1
 try clear c61
 try clear p64
 try clear c65
 try clear q65
 try clear c68
 try clear c72
 try clear q72
 try clear c75
 try clear c79
 try clear c79b0
 try clear c79b1
 try clear c80
 try clear hcz44_0
 try clear hcz44_1
 try clear hcz44_2
 try clear hcz44_3
 try clear hcz48_0
 try clear hcz48_1
 try clear hcz48_2
 try clear hcz48_3
 try clear hcz51_0
 try clear hcz51_1
 try clear hcz51_2
 try clear hcz51_3
 try clear hcz62_0
 try clear hcz62_1
 try clear hcz62_2
 try clear hcz62_3
 try clear hcz64_0
 try clear hcz64_1
 try clear hcz64_2
 try clear hcz64_3
 try clear hcz67_0
 try clear hcz67_1
 try clear hcz67_2
 try clear hcz67_3
 try clear hcz69_0
 try clear hcz69_1
 try clear hcz69_2
 try clear hcz69_3
 try clear hcz71_0
 try clear hcz71_1
 try clear hcz71_2
 try clear hcz71_3
 try clear hcz74_0
 try clear hcz74_1
 try clear hcz74_2
 try clear hcz74_3
 try clear hcz76_0
 try clear hcz76_1
 try clear hcz76_2
 try clear hcz76_3
 try clear hcz81_0
 try clear hcz81_1
 try clear hcz81_2
 try clear hcz81_3
 try clear hcz83_0
 try clear hcz83_1
 try clear hcz83_2
 try clear hcz83_3
 try clear hfz44_0
 try clear hfz44_1
 try clear hfz44_2
 try clear hfz44_3
 try clear hfz48_0
 try clear hfz48_1
 try clear hfz48_2
 try clear hfz48_3
 try clear hfz51_0
 try clear hfz51_1
 try clear hfz51_2
 try clear hfz51_3
 try clear hfz62_0
 try clear hfz62_1
 try clear hfz62_2
 try clear hfz62_3
 try clear hfz64_0
 try clear hfz64_1
 try clear hfz64_2
 try clear hfz64_3
 try clear hfz67_0
 try clear hfz67_1
 try clear hfz67_2
 try clear hfz67_3
 try clear hfz69_0
 try clear hfz69_1
 try clear hfz69_2
 try clear hfz69_3
 try clear hfz71_0
 try clear hfz71_1
 try clear hfz71_2
 try clear hfz71_3
 try clear hfz74_0
 try clear hfz74_1
 try clear hfz74_2
 try clear hfz74_3
 try clear hfz76_0
 try clear hfz76_1
 try clear hfz76_2
 try clear hfz76_3
 try clear hfz81_0
 try clear hfz81_1
 try clear hfz81_2
 try clear hfz81_3
 try clear hfz83_0
 try clear hfz83_1
 try clear hfz83_2
 try clear hfz83_3
 try clear hx277_0
 try clear hx277_1
 try clear hx277_2
 try clear hx277_3
 try clear hx277_4
 try clear hx277_5
 try clear hx277_6
 try clear hx277_7
 try clear hx278_0
 try clear hx278_1
 try clear hx278_2
 try clear hx278_3
 try clear hx278_4
 try clear hx278_5
 try clear hx278_6
 try clear hx278_7
 try clear hx279_0
 try clear hx279_1
 try clear hx279_2
 try clear hx280_0
 try clear hx280_1
 try clear hx280_2
 try clear hx280_3
 try clear hx280_4
 try clear hx280_5
 try clear hx280_6
 try clear hx280_7
 try clear hx284_0
 try clear hx284_1
 try clear hx284_2
 try clear hx284_3
 try clear hx284_4
 try clear hx284_5
 try clear hx284_6
 try clear hx284_7
 try clear hx285_0
 try clear hx285_1
 try clear hx285_2
 try clear hx59_0
 try clear hx59_1
 try clear hx59_2
 try clear p2
 try clear p277
 try clear p278
 try clear p279
 try clear p280
 try clear p284
 try clear p285
 try clear p59
 try clear p6
 try clear q277
 try clear q278
 try clear q279
 try clear q280
 try clear q284
 try clear q285
 try clear q59
 obtain ⟨x4_5, x9_5, rfl, rfl, HA, HK5, HO_272001, HO_272002, HO_272003, BK257, BK271, HB⟩ := hrel
 cases gk with
 | zero => exact absurd HA.out (by simp [treelinelaw20_TopoRight.l3])
 | succ k5 => ?_
 have H := HA.out
 clear HA
 simp only [treelinelaw20_TopoRight.l3] at H
 by_cases c85 : x9_5 < (l0_1.length : Int)
 rotate_left
 ·rw [if_neg c85] at H
  have c85b0 : decide (x9_5 < (l0_1.length : Int)) = false := decide_eq_false c85
  clear c85
  obtain rfl := Option.some.inj H
  (try exact absurd LRT.out (by decide))
  all_goals
   have hnb106 := NB257_271.out
   have hnc106 := NB271_257.out
   have hcz107_0 : wr.cell? ⟨gb257, 0, none⟩ = some (.int .i64 a0_0) := (blk_cell BK257.out 0).trans rfl
   have hcz107_1 : wr.cell? ⟨gb257, 1, none⟩ = some (.slice A0_1 l0_1.length c0_1) := (blk_cell BK257.out 1).trans rfl
   have hcz107_2 : wr.cell? ⟨gb257, 2, none⟩ = some (.slice A0_2 l0_2.length c0_2) := (blk_cell BK257.out 2).trans rfl
   have hcz107_3 : wr.cell? ⟨gb257, 3, none⟩ = some (.slice A0_3 l0_3.length c0_3) := (blk_cell BK257.out 3).trans rfl
   have hfz107_0 := blk_frozen BK257.out 0
   have hfz107_1 := blk_frozen BK257.out 1
   have hfz107_2 := blk_frozen BK257.out 2
   have hfz107_3 := blk_frozen BK257.out 3
   go_wp2
   go_ret
   exact ⟨by first | rfl | (simp [errW_none, errW_some] <;> rfl) | (simp [*, errW_none, errW_some] <;> rfl), by repeat (first | (with_reducible first | exact HB.out | apply below_alloc | apply pw_below_drewN | apply below_drew1 | refine below_set ?_ GE257.out | refine below_set ?_ GE271.out) | exact HB.out)⟩
 rw [if_pos c85] at H
 have c85b0 : decide (x9_5 < (l0_1.length : Int)) = true := decide_eq_true c85
 clear c85
 have H' := Aside0.mk H
 clear H
 have hnb86 := NB257_271.out
 have hnc86 := NB271_257.out
 have hcz87_0 : wr.cell? ⟨gb257, 0, none⟩ = some (.int .i64 a0_0) := (blk_cell BK257.out 0).trans rfl
 have hcz87_1 : wr.cell? ⟨gb257, 1, none⟩ = some (.slice A0_1 l0_1.length c0_1) := (blk_cell BK257.out 1).trans rfl
 have hcz87_2 : wr.cell? ⟨gb257, 2, none⟩ = some (.slice A0_2 l0_2.length c0_2) := (blk_cell BK257.out 2).trans rfl
 have hcz87_3 : wr.cell? ⟨gb257, 3, none⟩ = some (.slice A0_3 l0_3.length c0_3) := (blk_cell BK257.out 3).trans rfl
 have hfz87_0 := blk_frozen BK257.out 0
 have hfz87_1 := blk_frozen BK257.out 1
 have hfz87_2 := blk_frozen BK257.out 2
 have hfz87_3 := blk_frozen BK257.out 3
 go_wp2
 go_loopg [10] k5 (fun kq v10 w' => ∃ (x10_6 : Int), v10 = .int .i64 x10_6 ∧ Aside0 (treelinelaw20_TopoRight.l4 kq x4_5 x9_5 x10_6 a0_0 l0_1 l0_2 l0_3 = some r) ∧ Aside0 (kq ≤ k5) ∧ Aside0 (Kd.S k48 48 w' w.heap.size (fun _ => True) (.slice Ao82 x272001_4.length co82) x272001_4) ∧ Aside0 (Kd.S (Kd.slice 3 (Kd.int .i64)) 33 w' w.heap.size (fun _ => True) (.slice Ao22 t265.length co22) t265) ∧ Aside0 (Kd.R k59 59 w' w.heap.size (fun _ => True) (.slice Ao23 t268.length co23) t268) ∧ Aside0 (w'.heap[gb257]? = some (.cells #[.int .i64 a0_0, (.slice A0_1 l0_1.length c0_1), (.slice A0_2 l0_2.length c0_2), (.slice A0_3 l0_3.length c0_3)] 26 (0, 0))) ∧ Aside0 (w'.heap[gb271]? = some (.cells #[.int .i64 t261, (.slice Ao82 x272001_4.length co82), (.slice Ao22 t265.length co22), (.slice Ao23 t268.length co23)] 26 (0, 0))) ∧ Aside0 (Below w.heap.size w w'))
 case atStart => exact ⟨(0), (by first | rfl | (simp; done) | (simp [*]; done)), H', ⟨Nat.le_refl _⟩, ⟨by (with_reducible repeat (first | apply Kd.S_alloc | apply Kd.S_drewN | apply Kd.S_drew)); exact HO_272001.out⟩, ⟨by (with_reducible repeat (first | apply Kd.S_alloc | apply Kd.S_drewN | apply Kd.S_drew)); exact HO_272002.out⟩, ⟨by (with_reducible repeat (first | apply Kd.R_alloc | apply Kd.R_drewN | apply Kd.R_drew)); exact HO_272003.out⟩, ⟨by (with_reducible repeat (first | refine blk_drewN ?_ _ | refine blk_drew ?_ | refine blk_alloc ?_ _)); exact BK257.out⟩, ⟨by (with_reducible repeat (first | refine blk_drewN ?_ _ | refine blk_drew ?_ | refine blk_alloc ?_ _)); exact BK271.out⟩, ⟨by repeat (first | (with_reducible first | exact HB.out | apply below_alloc | apply pw_below_drewN | apply below_drew1 | refine below_set ?_ GE257.out | refine below_set ?_ GE271.out) | exact HB.out)⟩⟩
 clear H'
 try clear c1
 try clear c2
 try clear p2
 try clear q2
 try clear hx2
 try clear c4
 try clear c5
 try clear p5
 try clear q5
 try clear hx5
 try clear hf5
 try clear c6
 try clear p6
 try clear q6
 try clear c7
 try clear q7
 try clear c8
 try clear c9
 try clear c16
 try clear c26
 try clear c26b0
 try clear c26b1
 try clear c27
 try clear c27b0
 try clear c27b1
 try clear c27b2
 try clear p27
 try clear q27
 try clear hx27
 try clear c28
 try clear p28
 try clear q28
 try clear hx28
 try clear c40
 try clear c41
 try clear c41b0
 try clear c43
 try clear c47
 try clear c49
 try clear c49b0
 try clear c50
 try clear c53
 try clear c53b0
 try clear c54
 try clear c54b0
 try clear c55
 try clear c55b0
 try clear c56
 try clear c56b0
 try clear c57
 try clear c57b0
 try clear c58
 try clear c58b0
 try clear c59
 try clear p59
 try clear q59
 try clear hx59
 try clear hf59
 try clear c60
 try clear c60b0
 try clear c60b1
 try clear c61
 try clear p64
 try clear c65
 try clear q65
 try clear c68
 try clear c72
 try clear q72
 try clear c75
 try clear c79
 try clear c79b0
 try clear c79b1
 try clear c80
 try clear c85
 try clear c85b0
 try clear c86
 try clear hcz44_0
 try clear hcz44_1
 try clear hcz44_2
 try clear hcz44_3
 try clear hcz48_0
 try clear hcz48_1
 try clear hcz48_2
 try clear hcz48_3
 try clear hcz51_0
 try clear hcz51_1
 try clear hcz51_2
 try clear hcz51_3
 try clear hcz62_0
 try clear hcz62_1
 try clear hcz62_2
 try clear hcz62_3
 try clear hcz64_0
 try clear hcz64_1
 try clear hcz64_2
 try clear hcz64_3
 try clear hcz67_0
 try clear hcz67_1
 try clear hcz67_2
 try clear hcz67_3
 try clear hcz69_0
 try clear hcz69_1
 try clear hcz69_2
 try clear hcz69_3
 try clear hcz71_0
 try clear hcz71_1
 try clear hcz71_2
 try clear hcz71_3
 try clear hcz74_0
 try clear hcz74_1
 try clear hcz74_2
 try clear hcz74_3
 try clear hcz76_0
 try clear hcz76_1
 try clear hcz76_2
 try clear hcz76_3
 try clear hcz81_0
 try clear hcz81_1
 try clear hcz81_2
 try clear hcz81_3
 try clear hcz83_0
 try clear hcz83_1
 try clear hcz83_2
 try clear hcz83_3
 try clear hcz87_0
 try clear hcz87_1
 try clear hcz87_2
 try clear hcz87_3
 try clear hfz44_0
 try clear hfz44_1
 try clear hfz44_2
 try clear hfz44_3
 try clear hfz48_0
 try clear hfz48_1
 try clear hfz48_2
 try clear hfz48_3
 try clear hfz51_0
 try clear hfz51_1
 try clear hfz51_2
 try clear hfz51_3
 try clear hfz62_0
 try clear hfz62_1
 try clear hfz62_2
 try clear hfz62_3
 try clear hfz64_0
 try clear hfz64_1
 try clear hfz64_2
 try clear hfz64_3
 try clear hfz67_0
 try clear hfz67_1
 try clear hfz67_2
 try clear hfz67_3
 try clear hfz69_0
 try clear hfz69_1
 try clear hfz69_2
 try clear hfz69_3
 try clear hfz71_0
 try clear hfz71_1
 try clear hfz71_2
 try clear hfz71_3
 try clear hfz74_0
 try clear hfz74_1
 try clear hfz74_2
 try clear hfz74_3
 try clear hfz76_0
 try clear hfz76_1
 try clear hfz76_2
 try clear hfz76_3
 try clear hfz81_0
 try clear hfz81_1
 try clear hfz81_2
 try clear hfz81_3
 try clear hfz83_0
 try clear hfz83_1
 try clear hfz83_2
 try clear hfz83_3
 try clear hfz87_0
 try clear hfz87_1
 try clear hfz87_2
 try clear hfz87_3
 try clear hx277_0
 try clear hx277_1
 try clear hx277_2
 try clear hx277_3
 try clear hx277_4
 try clear hx277_5
 try clear hx277_6
 try clear hx277_7
 try clear hx278_0
 try clear hx278_1
 try clear hx278_2
 try clear hx278_3
 try clear hx278_4
 try clear hx278_5
 try clear hx278_6
 try clear hx278_7
 try clear hx279_0
 try clear hx279_1
 try clear hx279_2
 try clear hx280_0
 try clear hx280_1
 try clear hx280_2
 try clear hx280_3
 try clear hx280_4
 try clear hx280_5
 try clear hx280_6
 try clear hx280_7
 try clear hx284_0
 try clear hx284_1
 try clear hx284_2
 try clear hx284_3
 try clear hx284_4
 try clear hx284_5
 try clear hx284_6
 try clear hx284_7
 try clear hx285_0
 try clear hx285_1
 try clear hx285_2
 try clear hx59_0
 try clear hx59_1
 try clear hx59_2
 try clear p2
 try clear p27
 try clear p277
 try clear p278
 try clear p279
 try clear p28
 try clear p280
 try clear p284
 try clear p285
 try clear p5
 try clear p59
 try clear p6
 try clear p64
 try clear q2
 try clear q27
 try clear q277
 try clear q278
 try clear q279
 try clear q28
 try clear q280
 try clear q284
 try clear q285
 try clear q5
 try clear q59
 try clear q6
 try clear q65
 try clear q7
 try clear q72
 obtain ⟨x10_6, rfl, HA, HK6, HO_272001, HO_272002, HO_272003, BK257, BK271, HB⟩ := hrel
 cases gk with
 | zero => exact absurd HA.out (by simp [treelinelaw20_TopoRight.l4])
 | succ k6 => ?_
 have H := HA.out
 clear HA
 simp only [treelinelaw20_TopoRight.l4] at H
 by_cases c88 : x10_6 < x9_5
 rotate_left
 ·rw [if_neg c88] at H
  have c88b0 : decide (x10_6 < x9_5) = false := decide_eq_false c88
  clear c88
  by_cases c102 : 0 ≤ x9_5
  rotate_left
  ·rw [if_neg c102] at H
   exact absurd H (by simp)
  rw [if_pos c102] at H
  have c102b0 : decide (0 ≤ x9_5) = true := decide_eq_true c102
  clear c102
  by_cases c103 : x9_5 < (l0_1.length : Int)
  rotate_left
  ·rw [if_neg c103] at H
   exact absurd H (by simp)
  rw [if_pos c103] at H
  have c103b0 : decide (x9_5 < (l0_1.length : Int)) = true := decide_eq_true c103
  clear c103
  have H' := Aside0.mk H
  clear H
  have hnb104 := NB257_271.out
  have hnc104 := NB271_257.out
  have hcz105_0 : wr.cell? ⟨gb257, 0, none⟩ = some (.int .i64 a0_0) := (blk_cell BK257.out 0).trans rfl
  have hcz105_1 : wr.cell? ⟨gb257, 1, none⟩ = some (.slice A0_1 l0_1.length c0_1) := (blk_cell BK257.out 1).trans rfl
  have hcz105_2 : wr.cell? ⟨gb257, 2, none⟩ = some (.slice A0_2 l0_2.length c0_2) := (blk_cell BK257.out 2).trans rfl
  have hcz105_3 : wr.cell? ⟨gb257, 3, none⟩ = some (.slice A0_3 l0_3.length c0_3) := (blk_cell BK257.out 3).trans rfl
  have hfz105_0 := blk_frozen BK257.out 0
  have hfz105_1 := blk_frozen BK257.out 1
  have hfz105_2 := blk_frozen BK257.out 2
  have hfz105_3 := blk_frozen BK257.out 3
  have p287 : 0 ≤ (x9_5 : Int) := of_decide_eq_true (by first | (with_reducible assumption) | assumption)
  have q287 : x9_5 < (l0_1.length : Int) := of_decide_eq_true (by first | (with_reducible assumption) | assumption)
  obtain ⟨ad287, A287_7, c287_7, e287, hx287_0, hx287_1, hx287_2, hx287_3, hx287_4, hx287_5, hx287_6, hx287_7, hl287_7, hi287_7⟩ := at_T48 HR0_1.out x9_5 p287 q287
  cases e287
  replace hx287_0 := (HB.out.cell (World.block_lt_of_cell? w _ hx287_0)).trans hx287_0
  replace hx287_1 := (HB.out.cell (World.block_lt_of_cell? w _ hx287_1)).trans hx287_1
  replace hx287_2 := (HB.out.cell (World.block_lt_of_cell? w _ hx287_2)).trans hx287_2
  replace hx287_3 := (HB.out.cell (World.block_lt_of_cell? w _ hx287_3)).trans hx287_3
  replace hx287_4 := (HB.out.cell (World.block_lt_of_cell? w _ hx287_4)).trans hx287_4
  replace hx287_5 := (HB.out.cell (World.block_lt_of_cell? w _ hx287_5)).trans hx287_5
  replace hx287_6 := (HB.out.cell (World.block_lt_of_cell? w _ hx287_6)).trans hx287_6
  replace hx287_7 := (HB.out.cell (World.block_lt_of_cell? w _ hx287_7)).trans hx287_7
  have HR287_7 := Aside0.mk hi287_7
  have HC287_7 := Aside0.mk hl287_7
  clear hi287_7 hl287_7
  replace p287 := eq_true p287
  replace q287 := eq_true q287
  go_wp2
  go_roundg k6
  case measure => have := HJ1.out; have := HJ14.out; have := HK3.out; have := HK4.out; have := HK5.out; have := HK6.out; omega
  case rel => exact ⟨(wrap64 (x4_5 - (((rd_T48 l0_1 x9_5).f7).length : Int))), (wrap64 (x9_5 + 1)), (by first | rfl | (simp; done) | (simp [*]; done)), (by first | rfl | (simp; done) | (simp [*]; done)), H', ⟨by have := HJ1.out; have := HJ14.out; have := HK3.out; have := HK4.out; have := HK5.out; have := HK6.out; omega⟩, ⟨by (with_reducible repeat (first | apply Kd.S_alloc | apply Kd.S_drewN | apply Kd.S_drew)); exact HO_272001.out⟩, ⟨by (with_reducible repeat (first | apply Kd.S_alloc | apply Kd.S_drewN | apply Kd.S_drew)); exact HO_272002.out⟩, ⟨by (with_reducible repeat (first | apply Kd.R_alloc | apply Kd.R_drewN | apply Kd.R_drew)); exact HO_272003.out⟩, ⟨by (with_reducible repeat (first | refine blk_drewN ?_ _ | refine blk_drew ?_ | refine blk_alloc ?_ _)); exact BK257.out⟩, ⟨by (with_reducible repeat (first | refine blk_drewN ?_ _ | refine blk_drew ?_ | refine blk_alloc ?_ _)); exact BK271.out⟩, ⟨by repeat (first | (with_reducible first | exact HB.out | apply below_alloc | apply pw_below_drewN | apply below_drew1 | refine below_set ?_ GE257.out | refine below_set ?_ GE271.out) | exact HB.out)⟩⟩
 rw [if_pos c88] at H
 have c88b0 : decide (x10_6 < x9_5) = true := decide_eq_true c88
 clear c88
 by_cases c89 : 0 ≤ x9_5
 rotate_left
 ·rw [if_neg c89] at H
  exact absurd H (by simp)
 rw [if_pos c89] at H
 have c89b0 : decide (0 ≤ x9_5) = true := decide_eq_true c89
 clear c89
 by_cases c90 : x9_5 < (l0_1.length : Int)
 rotate_left
 ·rw [if_neg c90] at H
  exact absurd H (by simp)
 rw [if_pos c90] at H
 have c90b0 : decide (x9_5 < (l0_1.length : Int)) = true := decide_eq_true c90
 clear c90
 replace H := Option.bind_eq_some_iff.mp H
 obtain ⟨t289, A910, H⟩ := H
 replace H : (if 0 ≤ x10_6 then (if x10_6 < (l0_1.length : Int) then ((conf_Id.f ((rd_T48 l0_1 x10_6).f0) ((rd_T48 l0_1 x10_6).f1) ((rd_T48 l0_1 x10_6).f2) ((rd_T48 l0_1 x10_6).f3) ((rd_T48 l0_1 x10_6).f4) ((rd_T48 l0_1 x10_6).f5) ((rd_T48 l0_1 x10_6).f6) ((rd_T48 l0_1 x10_6).f7)).bind fun t291 => (if t289 = t291 then (some false) else (treelinelaw20_TopoRight.l4 k6 x4_5 x9_5 (wrap64 (x10_6 + 1)) a0_0 l0_1 l0_2 l0_3))) else (none)) else (none)) = some r := H
 have A91 := Aside0.mk A910
 clear A910
 by_cases c92 : 0 ≤ x10_6
 rotate_left
 ·rw [if_neg c92] at H
  exact absurd H (by simp)
 rw [if_pos c92] at H
 have c92b0 : decide (0 ≤ x10_6) = true := decide_eq_true c92
 clear c92
 by_cases c93 : x10_6 < (l0_1.length : Int)
 rotate_left
 ·rw [if_neg c93] at H
  exact absurd H (by simp)
 rw [if_pos c93] at H
 have c93b0 : decide (x10_6 < (l0_1.length : Int)) = true := decide_eq_true c93
 clear c93
 replace H := Option.bind_eq_some_iff.mp H
 obtain ⟨t291, A940, H⟩ := H
 replace H : (if t289 = t291 then (some false) else (treelinelaw20_TopoRight.l4 k6 x4_5 x9_5 (wrap64 (x10_6 + 1)) a0_0 l0_1 l0_2 l0_3)) = some r := H
 have A94 := Aside0.mk A940
 clear A940
 by_cases c95 : t289 = t291
 ·rw [if_pos c95] at H
  have c95b0 : (t289 == t291) = true := beq_iff_eq.mpr c95
  have c95b1 : (t289 != t291) = false := bne_eq_false_iff_eq.mpr c95
  clear c95
  exact absurd ((Option.some.inj H).trans LRT.out) (by decide)
 rw [if_neg c95] at H
 have c95b0 : (t289 == t291) = false := beq_eq_false_iff_ne.mpr c95
 have c95b1 : (t289 != t291) = true := bne_iff_ne.mpr c95
 have H' := Aside0.mk H
 clear H
 try go_wp2
 have n0_ := Aside0.mk (Kd.S_drew HO_272001.out)
 have n1_ := Aside0.mk (Kd.S_drew HO_272002.out)
 have n2_ := Aside0.mk (Kd.R_drew HO_272003.out)
 have n3_ := Aside0.mk (blk_drew BK257.out)
 have n4_ := Aside0.mk (blk_drew BK271.out)
 have n5_ := Aside0.mk (below_drew1 HB.out)
 clear HO_272001
 clear HO_272002
 clear HO_272003
 clear BK257
 clear BK271
 clear HB
 have HO_272001 := n0_
 have HO_272002 := n1_
 have HO_272003 := n2_
 have BK257 := n3_
 have BK271 := n4_
 have HB := n5_
 clear n0_ n1_ n2_ n3_ n4_ n5_
 have p288 : 0 ≤ (x9_5 : Int) := of_decide_eq_true (by first | (with_reducible assumption) | assumption)
 have q288 : x9_5 < (l0_1.length : Int) := of_decide_eq_true (by first | (with_reducible assumption) | assumption)
 obtain ⟨ad288, A288_7, c288_7, e288, hx288_0, hx288_1, hx288_2, hx288_3, hx288_4, hx288_5, hx288_6, hx288_7, hl288_7, hi288_7⟩ := at_T48 HR0_1.out x9_5 p288 q288
 have hw288_7 := hx288_7
 have hw288_6 := hx288_6
 have hw288_5 := hx288_5
 have hw288_4 := hx288_4
 have hw288_3 := hx288_3
 have hw288_2 := hx288_2
 have hw288_1 := hx288_1
 have hw288_0 := hx288_0
 cases e288
 replace hx288_0 := (HB.out.cell (World.block_lt_of_cell? w _ hx288_0)).trans hx288_0
 replace hx288_1 := (HB.out.cell (World.block_lt_of_cell? w _ hx288_1)).trans hx288_1
 replace hx288_2 := (HB.out.cell (World.block_lt_of_cell? w _ hx288_2)).trans hx288_2
 replace hx288_3 := (HB.out.cell (World.block_lt_of_cell? w _ hx288_3)).trans hx288_3
 replace hx288_4 := (HB.out.cell (World.block_lt_of_cell? w _ hx288_4)).trans hx288_4
 replace hx288_5 := (HB.out.cell (World.block_lt_of_cell? w _ hx288_5)).trans hx288_5
 replace hx288_6 := (HB.out.cell (World.block_lt_of_cell? w _ hx288_6)).trans hx288_6
 replace hx288_7 := (HB.out.cell (World.block_lt_of_cell? w _ hx288_7)).trans hx288_7
 have HR288_7 := Aside0.mk hi288_7
 have HC288_7 := Aside0.mk hl288_7
 clear hi288_7 hl288_7
 replace p288 := eq_true p288
 replace q288 := eq_true q288
 have p290 : 0 ≤ (x10_6 : Int) := of_decide_eq_true (by first | (with_reducible assumption) | assumption)
 have q290 : x10_6 < (l0_1.length : Int) := of_decide_eq_true (by first | (with_reducible assumption) | assumption)
 obtain ⟨ad290, A290_7, c290_7, e290, hx290_0, hx290_1, hx290_2, hx290_3, hx290_4, hx290_5, hx290_6, hx290_7, hl290_7, hi290_7⟩ := at_T48 HR0_1.out x10_6 p290 q290
 have hw290_7 := hx290_7
 have hw290_6 := hx290_6
 have hw290_5 := hx290_5
 have hw290_4 := hx290_4
 have hw290_3 := hx290_3
 have hw290_2 := hx290_2
 have hw290_1 := hx290_1
 have hw290_0 := hx290_0
 obtain rfl : ad288 = ad290 := (by injection e290)
 replace hx290_0 := (HB.out.cell (World.block_lt_of_cell? w _ hx290_0)).trans hx290_0
 replace hx290_1 := (HB.out.cell (World.block_lt_of_cell? w _ hx290_1)).trans hx290_1
 replace hx290_2 := (HB.out.cell (World.block_lt_of_cell? w _ hx290_2)).trans hx290_2
 replace hx290_3 := (HB.out.cell (World.block_lt_of_cell? w _ hx290_3)).trans hx290_3
 replace hx290_4 := (HB.out.cell (World.block_lt_of_cell? w _ hx290_4)).trans hx290_4
 replace hx290_5 := (HB.out.cell (World.block_lt_of_cell? w _ hx290_5)).trans hx290_5
 replace hx290_6 := (HB.out.cell (World.block_lt_of_cell? w _ hx290_6)).trans hx290_6
 replace hx290_7 := (HB.out.cell (World.block_lt_of_cell? w _ hx290_7)).trans hx290_7
 have HR290_7 := Aside0.mk hi290_7
 have HC290_7 := Aside0.mk hl290_7
 clear hi290_7 hl290_7
 replace p290 := eq_true p290
 replace q290 := eq_true q290
 refine start_ (n := 13) (S := fun w' => w'.cell? ⟨gb257, 0, none⟩ = some (.int .i64 a0_0) ∧ w'.cell? ⟨gb257, 1, none⟩ = some (.slice (some ad288) l0_1.length c0_1) ∧ w'.cell? ⟨gb257, 2, none⟩ = some (.slice A0_2 l0_2.length c0_2) ∧ w'.cell? ⟨gb257, 3, none⟩ = some (.slice A0_3 l0_3.length c0_3) ∧ w'.cell? (ad288.add ((x9_5).toNat * 8)) = some (.int .u64 ((rd_T48 l0_1 x9_5).f0)) ∧ w'.cell? ⟨(ad288.add ((x9_5).toNat * 8)).block, (ad288.add ((x9_5).toNat * 8)).off + 1, none⟩ = some (.int .u16 ((rd_T48 l0_1 x9_5).f1)) ∧ w'.cell? ⟨(ad288.add ((x9_5).toNat * 8)).block, (ad288.add ((x9_5).toNat * 8)).off + 2, none⟩ = some (.int .i64 ((rd_T48 l0_1 x9_5).f2)) ∧ w'.cell? ⟨(ad288.add ((x9_5).toNat * 8)).block, (ad288.add ((x9_5).toNat * 8)).off + 3, none⟩ = some (.int .i64 ((rd_T48 l0_1 x9_5).f3)) ∧ w'.cell? ⟨(ad288.add ((x9_5).toNat * 8)).block, (ad288.add ((x9_5).toNat * 8)).off + 4, none⟩ = some (.int .i64 ((rd_T48 l0_1 x9_5).f4)) ∧ w'.cell? ⟨(ad288.add ((x9_5).toNat * 8)).block, (ad288.add ((x9_5).toNat * 8)).off + 5, none⟩ = some (.int .i64 ((rd_T48 l0_1 x9_5).f5)) ∧ w'.cell? ⟨(ad288.add ((x9_5).toNat * 8)).block, (ad288.add ((x9_5).toNat * 8)).off + 6, none⟩ = some (.int .i64 ((rd_T48 l0_1 x9_5).f6)) ∧ w'.cell? ⟨(ad288.add ((x9_5).toNat * 8)).block, (ad288.add ((x9_5).toNat * 8)).off + 7, none⟩ = some (.slice A288_7 ((rd_T48 l0_1 x9_5).f7).length c288_7) ∧ w'.cell? (ad288.add ((x10_6).toNat * 8)) = some (.int .u64 ((rd_T48 l0_1 x10_6).f0)) ∧ w'.cell? ⟨(ad288.add ((x10_6).toNat * 8)).block, (ad288.add ((x10_6).toNat * 8)).off + 1, none⟩ = some (.int .u16 ((rd_T48 l0_1 x10_6).f1)) ∧ w'.cell? ⟨(ad288.add ((x10_6).toNat * 8)).block, (ad288.add ((x10_6).toNat * 8)).off + 2, none⟩ = some (.int .i64 ((rd_T48 l0_1 x10_6).f2)) ∧ w'.cell? ⟨(ad288.add ((x10_6).toNat * 8)).block, (ad288.add ((x10_6).toNat * 8)).off + 3, none⟩ = some (.int .i64 ((rd_T48 l0_1 x10_6).f3)) ∧ w'.cell? ⟨(ad288.add ((x10_6).toNat * 8)).block, (ad288.add ((x10_6).toNat * 8)).off + 4, none⟩ = some (.int .i64 ((rd_T48 l0_1 x10_6).f4)) ∧ w'.cell? ⟨(ad288.add ((x10_6).toNat * 8)).block, (ad288.add ((x10_6).toNat * 8)).off + 5, none⟩ = some (.int .i64 ((rd_T48 l0_1 x10_6).f5)) ∧ w'.cell? ⟨(ad288.add ((x10_6).toNat * 8)).block, (ad288.add ((x10_6).toNat * 8)).off + 6, none⟩ = some (.int .i64 ((rd_T48 l0_1 x10_6).f6)) ∧ w'.cell? ⟨(ad288.add ((x10_6).toNat * 8)).block, (ad288.add ((x10_6).toNat * 8)).off + 7, none⟩ = some (.slice A290_7 ((rd_T48 l0_1 x10_6).f7).length c290_7)) (ds := []) #[false, false, false, false, false, false, false, false, false, false, false, false, false] (by kernel_rfl) rfl rfl ⟨(blk_cell BK257.out 0).trans rfl, (blk_cell BK257.out 1).trans rfl, (blk_cell BK257.out 2).trans rfl, (blk_cell BK257.out 3).trans rfl, ((HB.out.cell (World.block_lt_of_cell? w _ hw288_0)).trans hw288_0), ((HB.out.cell (World.block_lt_of_cell? w _ hw288_1)).trans hw288_1), ((HB.out.cell (World.block_lt_of_cell? w _ hw288_2)).trans hw288_2), ((HB.out.cell (World.block_lt_of_cell? w _ hw288_3)).trans hw288_3), ((HB.out.cell (World.block_lt_of_cell? w _ hw288_4)).trans hw288_4), ((HB.out.cell (World.block_lt_of_cell? w _ hw288_5)).trans hw288_5), ((HB.out.cell (World.block_lt_of_cell? w _ hw288_6)).trans hw288_6), ((HB.out.cell (World.block_lt_of_cell? w _ hw288_7)).trans hw288_7), ((HB.out.cell (World.block_lt_of_cell? w _ hw290_0)).trans hw290_0), ((HB.out.cell (World.block_lt_of_cell? w _ hw290_1)).trans hw290_1), ((HB.out.cell (World.block_lt_of_cell? w _ hw290_2)).trans hw290_2), ((HB.out.cell (World.block_lt_of_cell? w _ hw290_3)).trans hw290_3), ((HB.out.cell (World.block_lt_of_cell? w _ hw290_4)).trans hw290_4), ((HB.out.cell (World.block_lt_of_cell? w _ hw290_5)).trans hw290_5), ((HB.out.cell (World.block_lt_of_cell? w _ hw290_6)).trans hw290_6), ((HB.out.cell (World.block_lt_of_cell? w _ hw290_7)).trans hw290_7)⟩ (fun hHeld => ?_); refine with_tabW treelinelaw20_TopoRight.tab29 treelinelaw20_TopoRight.bits29 (fun HT_ HW_ => ?_)
 generalize wr.drew = w99 at HO_272001 HO_272002 HO_272003 BK257 BK271 HB HR288_7 HR290_7 hx288_0 hx288_1 hx288_2 hx288_3 hx288_4 hx288_5 hx288_6 hx288_7 hx290_0 hx290_1 hx290_2 hx290_3 hx290_4 hx290_5 hx290_6 hx290_7 hHeld ⊢
 refine pure_ (i := 0) (N := some 122) (v := ?_) (a' := ?_) #[true, false, false, false, false, false, false, false, false, false, false, false, false] rfl rfl (any_of HT_.out (by kernel_rfl)) (fun _ _ _ h => h) (Or.inl ⟨by rfl, ?_⟩) ?_ ?_
 rotate_left
 ·intro w'
  go_simp
  with_reducible rfl
 rotate_left
 ·simp only [Act.put, List.setIfInBounds_toArray, List.set_cons_zero, List.set_cons_succ, i64_w, i32_w]
  rfl
 refine pure_ (i := 2) (N := some 124) (v := ?_) (a' := ?_) #[true, false, true, false, false, false, false, false, false, false, false, false, false] rfl rfl (any_of HT_.out (by kernel_rfl)) (fun _ _ _ h => h) (Or.inl ⟨by rfl, ?_⟩) ?_ ?_
 rotate_left
 ·intro w'
  go_simp
  with_reducible rfl
 rotate_left
 ·simp only [Act.put, List.setIfInBounds_toArray, List.set_cons_zero, List.set_cons_succ, i64_w, i32_w]
  rfl
 refine pure_ (i := 6) (N := some 128) (v := ?_) (a' := ?_) #[true, false, true, false, false, false, true, false, false, false, false, false, false] rfl rfl (any_of HT_.out (by kernel_rfl)) (fun _ _ _ h => h) (Or.inl ⟨by rfl, ?_⟩) ?_ ?_
 rotate_left
 ·intro w'
  go_simp
  with_reducible rfl
 rotate_left
 ·simp only [Act.put, List.setIfInBounds_toArray, List.set_cons_zero, List.set_cons_succ, i64_w, i32_w]
  rfl
 refine pure_ (i := 8) (N := some 130) (v := ?_) (a' := ?_) #[true, false, true, false, false, false, true, false, true, false, false, false, false] rfl rfl (any_of HT_.out (by kernel_rfl)) (fun _ _ _ h => h) (Or.inl ⟨by rfl, ?_⟩) ?_ ?_
 rotate_left
 ·intro w'
  go_simp
  with_reducible rfl
 rotate_left
 ·simp only [Act.put, List.setIfInBounds_toArray, List.set_cons_zero, List.set_cons_succ, i64_w, i32_w]
  rfl
 refine take_ (i := 1) (N := some 123) (v := ?_) (a' := ?_) #[true, true, true, false, false, false, true, false, true, false, false, false, false] rfl rfl (take_ofW HT_.out HW_.out (by kernel_rfl)) (fun _ _ _ h => h) (Or.inl ⟨by rfl, ?_⟩) hHeld ?_ ?_
 rotate_left
 ·rintro w' ⟨s0, s1, s2, s3, s4, s5, s6, s7, s8, s9, s10, s11, s12, s13, s14, s15, s16, s17, s18, s19⟩
  go_simp
  with_reducible rfl
 rotate_left
 ·simp only [Act.put, List.setIfInBounds_toArray, List.set_cons_zero, List.set_cons_succ, i64_w, i32_w]
  rfl
 refine pure_ (i := 3) (N := some 125) (v := ?_) (a' := ?_) #[true, true, true, true, false, false, true, false, true, false, false, false, false] rfl rfl (any_of HT_.out (by kernel_rfl)) (fun _ _ _ h => h) (Or.inl ⟨by rfl, ?_⟩) ?_ ?_
 rotate_left
 ·intro w'
  go_simp
  with_reducible rfl
 rotate_left
 ·simp only [Act.put, List.setIfInBounds_toArray, List.set_cons_zero, List.set_cons_succ, i64_w, i32_w]
  rfl
 refine take_ (i := 4) (N := some 126) (v := ?_) (a' := ?_) #[true, true, true, true, true, false, true, false, true, false, false, false, false] rfl rfl (take_ofW HT_.out HW_.out (by kernel_rfl)) (fun _ _ _ h => h) (Or.inl ⟨by rfl, ?_⟩) hHeld ?_ ?_
 rotate_left
 ·rintro w' ⟨s0, s1, s2, s3, s4, s5, s6, s7, s8, s9, s10, s11, s12, s13, s14, s15, s16, s17, s18, s19⟩
  go_simp
  with_reducible rfl
 rotate_left
 ·simp only [Act.put, List.setIfInBounds_toArray, List.set_cons_zero, List.set_cons_succ, i64_w, i32_w]
  rfl
 refine take_ (i := 7) (N := some 129) (v := ?_) (a' := ?_) #[true, true, true, true, true, false, true, true, true, false, false, false, false] rfl rfl (take_ofW HT_.out HW_.out (by kernel_rfl)) (fun _ _ _ h => h) (Or.inl ⟨by rfl, ?_⟩) hHeld ?_ ?_
 rotate_left
 ·rintro w' ⟨s0, s1, s2, s3, s4, s5, s6, s7, s8, s9, s10, s11, s12, s13, s14, s15, s16, s17, s18, s19⟩
  go_simp
  with_reducible rfl
 rotate_left
 ·simp only [Act.put, List.setIfInBounds_toArray, List.set_cons_zero, List.set_cons_succ, i64_w, i32_w]
  rfl
 refine pure_ (i := 9) (N := some 131) (v := ?_) (a' := ?_) #[true, true, true, true, true, false, true, true, true, true, false, false, false] rfl rfl (any_of HT_.out (by kernel_rfl)) (fun _ _ _ h => h) (Or.inl ⟨by rfl, ?_⟩) ?_ ?_
 rotate_left
 ·intro w'
  go_simp
  with_reducible rfl
 rotate_left
 ·simp only [Act.put, List.setIfInBounds_toArray, List.set_cons_zero, List.set_cons_succ, i64_w, i32_w]
  rfl
 refine take_ (i := 10) (N := some 132) (v := ?_) (a' := ?_) #[true, true, true, true, true, false, true, true, true, true, true, false, false] rfl rfl (take_ofW HT_.out HW_.out (by kernel_rfl)) (fun _ _ _ h => h) (Or.inl ⟨by rfl, ?_⟩) hHeld ?_ ?_
 rotate_left
 ·rintro w' ⟨s0, s1, s2, s3, s4, s5, s6, s7, s8, s9, s10, s11, s12, s13, s14, s15, s16, s17, s18, s19⟩
  go_simp
  with_reducible rfl
 rotate_left
 ·simp only [Act.put, List.setIfInBounds_toArray, List.set_cons_zero, List.set_cons_succ, i64_w, i32_w]
  rfl
 refine one_ (i := 5) (N := some 127) #[true, true, true, true, true, true, true, true, true, true, true, false, false] rfl rfl (one_of HT_.out (by kernel_rfl)) (by decide) (fun K hK => ?_)
 refine goes_ Try.func17 (by kernel_rfl) rfl #[.agg #[.int .u64 ((rd_T48 l0_1 x9_5).f0), .int .u16 ((rd_T48 l0_1 x9_5).f1), .int .i64 ((rd_T48 l0_1 x9_5).f2), .int .i64 ((rd_T48 l0_1 x9_5).f3), .int .i64 ((rd_T48 l0_1 x9_5).f4), .int .i64 ((rd_T48 l0_1 x9_5).f5), .int .i64 ((rd_T48 l0_1 x9_5).f6), .slice A288_7 ((rd_T48 l0_1 x9_5).f7).length c288_7]] (by rfl) rfl rfl (by (try simp only [List.map_toArray, List.map_cons, List.map_nil]); first | done | rfl | (simp only [List.length_drop, List.length_take]; rfl)) ?_
 with_reducible refine (conf_Id.calls ((rd_T48 l0_1 x9_5).f0) ((rd_T48 l0_1 x9_5).f1) ((rd_T48 l0_1 x9_5).f2) ((rd_T48 l0_1 x9_5).f3) ((rd_T48 l0_1 x9_5).f4) ((rd_T48 l0_1 x9_5).f5) ((rd_T48 l0_1 x9_5).f6) _ _ ((rd_T48 l0_1 x9_5).f7) t289 _ ?side1 ?side2 A91.out).mono ?_
 (case side1 => repeat (first | exact (Kd.C_below HR288_7.out HB.out) | (with_reducible refine Kd.C_alloc ?_ _) | (with_reducible refine Kd.C_drewN ?_ _) | (with_reducible refine Kd.C_drew ?_)))
 (case side2 => exact HC288_7.out)
 rintro e w100 ⟨rfl, hb⟩
 refine ⟨_, rfl, ?_⟩
 have n0_ := Aside0.mk (Kd.S_below (by (with_reducible repeat (first | apply Kd.S_alloc | apply Kd.S_drewN | apply Kd.S_drew)); exact HO_272001.out) hb)
 have n1_ := Aside0.mk (Kd.S_below (by (with_reducible repeat (first | apply Kd.S_alloc | apply Kd.S_drewN | apply Kd.S_drew)); exact HO_272002.out) hb)
 have n2_ := Aside0.mk (Kd.R_below (by (with_reducible repeat (first | apply Kd.R_alloc | apply Kd.R_drewN | apply Kd.R_drew)); exact HO_272003.out) hb)
 have n3_ := Aside0.mk (blk_below (g := gb257) (o := .cells #[.int .i64 a0_0, .slice (some ad288) l0_1.length c0_1, .slice A0_2 l0_2.length c0_2, .slice A0_3 l0_3.length c0_3] 26 (0, 0)) (by (with_reducible repeat (first | refine blk_drewN ?_ _ | refine blk_drew ?_ | refine blk_alloc ?_ _)); exact BK257.out) hb)
 have n4_ := Aside0.mk (blk_below (g := gb271) (o := .cells #[.int .i64 t261, .slice Ao82 x272001_4.length co82, .slice Ao22 t265.length co22, .slice Ao23 t268.length co23] 26 (0, 0)) (by (with_reducible repeat (first | refine blk_drewN ?_ _ | refine blk_drew ?_ | refine blk_alloc ?_ _)); exact BK271.out) hb)
 have n5_ := Aside0.mk (below_step (by repeat (first | (with_reducible first | exact HB.out | apply below_alloc | apply pw_below_drewN | apply below_drew1 | refine below_set ?_ GE257.out | refine below_set ?_ GE271.out) | exact HB.out)) hb)
 clear HO_272001
 clear HO_272002
 clear HO_272003
 clear BK257
 clear BK271
 clear HB
 have HO_272001 := n0_
 have HO_272002 := n1_
 have HO_272003 := n2_
 have BK257 := n3_
 have BK271 := n4_
 have HB := n5_
 clear n0_ n1_ n2_ n3_ n4_ n5_
 (try clear hb)
 (try clear hb2)
 (try clear hk)
 (try clear hi)
 refine hK.out _ _ ⟨(blk_cell BK257.out 0).trans rfl, (blk_cell BK257.out 1).trans rfl, (blk_cell BK257.out 2).trans rfl, (blk_cell BK257.out 3).trans rfl, ((HB.out.cell (World.block_lt_of_cell? w _ hw288_0)).trans hw288_0), ((HB.out.cell (World.block_lt_of_cell? w _ hw288_1)).trans hw288_1), ((HB.out.cell (World.block_lt_of_cell? w _ hw288_2)).trans hw288_2), ((HB.out.cell (World.block_lt_of_cell? w _ hw288_3)).trans hw288_3), ((HB.out.cell (World.block_lt_of_cell? w _ hw288_4)).trans hw288_4), ((HB.out.cell (World.block_lt_of_cell? w _ hw288_5)).trans hw288_5), ((HB.out.cell (World.block_lt_of_cell? w _ hw288_6)).trans hw288_6), ((HB.out.cell (World.block_lt_of_cell? w _ hw288_7)).trans hw288_7), ((HB.out.cell (World.block_lt_of_cell? w _ hw290_0)).trans hw290_0), ((HB.out.cell (World.block_lt_of_cell? w _ hw290_1)).trans hw290_1), ((HB.out.cell (World.block_lt_of_cell? w _ hw290_2)).trans hw290_2), ((HB.out.cell (World.block_lt_of_cell? w _ hw290_3)).trans hw290_3), ((HB.out.cell (World.block_lt_of_cell? w _ hw290_4)).trans hw290_4), ((HB.out.cell (World.block_lt_of_cell? w _ hw290_5)).trans hw290_5), ((HB.out.cell (World.block_lt_of_cell? w _ hw290_6)).trans hw290_6), ((HB.out.cell (World.block_lt_of_cell? w _ hw290_7)).trans hw290_7)⟩ (fun hHeld => ?_)
 clear hK K
 refine norm_ (a' := ?_) ?_ ?_
 rotate_left
 ·show Act.put _ (some 127) _ = _
  simp only [Act.put, List.setIfInBounds_toArray, List.set_cons_zero, List.set_cons_succ, i64_w, i32_w]
  rfl
 refine one_ (i := 11) (N := some 133) #[true, true, true, true, true, true, true, true, true, true, true, true, false] rfl rfl (one_of HT_.out (by kernel_rfl)) (by decide) (fun K hK => ?_)
 refine goes_ Try.func17 (by kernel_rfl) rfl #[.agg #[.int .u64 ((rd_T48 l0_1 x10_6).f0), .int .u16 ((rd_T48 l0_1 x10_6).f1), .int .i64 ((rd_T48 l0_1 x10_6).f2), .int .i64 ((rd_T48 l0_1 x10_6).f3), .int .i64 ((rd_T48 l0_1 x10_6).f4), .int .i64 ((rd_T48 l0_1 x10_6).f5), .int .i64 ((rd_T48 l0_1 x10_6).f6), .slice A290_7 ((rd_T48 l0_1 x10_6).f7).length c290_7]] (by rfl) rfl rfl (by (try simp only [List.map_toArray, List.map_cons, List.map_nil]); first | done | rfl | (simp only [List.length_drop, List.length_take]; rfl)) ?_
 with_reducible refine (conf_Id.calls ((rd_T48 l0_1 x10_6).f0) ((rd_T48 l0_1 x10_6).f1) ((rd_T48 l0_1 x10_6).f2) ((rd_T48 l0_1 x10_6).f3) ((rd_T48 l0_1 x10_6).f4) ((rd_T48 l0_1 x10_6).f5) ((rd_T48 l0_1 x10_6).f6) _ _ ((rd_T48 l0_1 x10_6).f7) t291 _ ?side1 ?side2 A94.out).mono ?_
 (case side1 => repeat (first | exact (Kd.C_below HR290_7.out HB.out) | (with_reducible refine Kd.C_alloc ?_ _) | (with_reducible refine Kd.C_drewN ?_ _) | (with_reducible refine Kd.C_drew ?_)))
 (case side2 => exact HC290_7.out)
 rintro e w101 ⟨rfl, hb⟩
 refine ⟨_, rfl, ?_⟩
 have n0_ := Aside0.mk (Kd.S_below (by (with_reducible repeat (first | apply Kd.S_alloc | apply Kd.S_drewN | apply Kd.S_drew)); exact HO_272001.out) hb)
 have n1_ := Aside0.mk (Kd.S_below (by (with_reducible repeat (first | apply Kd.S_alloc | apply Kd.S_drewN | apply Kd.S_drew)); exact HO_272002.out) hb)
 have n2_ := Aside0.mk (Kd.R_below (by (with_reducible repeat (first | apply Kd.R_alloc | apply Kd.R_drewN | apply Kd.R_drew)); exact HO_272003.out) hb)
 have n3_ := Aside0.mk (blk_below (g := gb257) (o := .cells #[.int .i64 a0_0, .slice (some ad288) l0_1.length c0_1, .slice A0_2 l0_2.length c0_2, .slice A0_3 l0_3.length c0_3] 26 (0, 0)) (by (with_reducible repeat (first | refine blk_drewN ?_ _ | refine blk_drew ?_ | refine blk_alloc ?_ _)); exact BK257.out) hb)
 have n4_ := Aside0.mk (blk_below (g := gb271) (o := .cells #[.int .i64 t261, .slice Ao82 x272001_4.length co82, .slice Ao22 t265.length co22, .slice Ao23 t268.length co23] 26 (0, 0)) (by (with_reducible repeat (first | refine blk_drewN ?_ _ | refine blk_drew ?_ | refine blk_alloc ?_ _)); exact BK271.out) hb)
 have n5_ := Aside0.mk (below_step (by repeat (first | (with_reducible first | exact HB.out | apply below_alloc | apply pw_below_drewN | apply below_drew1 | refine below_set ?_ GE257.out | refine below_set ?_ GE271.out) | exact HB.out)) hb)
 clear HO_272001
 clear HO_272002
 clear HO_272003
 clear BK257
 clear BK271
 clear HB
 have HO_272001 := n0_
 have HO_272002 := n1_
 have HO_272003 := n2_
 have BK257 := n3_
 have BK271 := n4_
 have HB := n5_
 clear n0_ n1_ n2_ n3_ n4_ n5_
 (try clear hb)
 (try clear hb2)
 (try clear hk)
 (try clear hi)
 refine hK.out _ _ ⟨(blk_cell BK257.out 0).trans rfl, (blk_cell BK257.out 1).trans rfl, (blk_cell BK257.out 2).trans rfl, (blk_cell BK257.out 3).trans rfl, ((HB.out.cell (World.block_lt_of_cell? w _ hw288_0)).trans hw288_0), ((HB.out.cell (World.block_lt_of_cell? w _ hw288_1)).trans hw288_1), ((HB.out.cell (World.block_lt_of_cell? w _ hw288_2)).trans hw288_2), ((HB.out.cell (World.block_lt_of_cell? w _ hw288_3)).trans hw288_3), ((HB.out.cell (World.block_lt_of_cell? w _ hw288_4)).trans hw288_4), ((HB.out.cell (World.block_lt_of_cell? w _ hw288_5)).trans hw288_5), ((HB.out.cell (World.block_lt_of_cell? w _ hw288_6)).trans hw288_6), ((HB.out.cell (World.block_lt_of_cell? w _ hw288_7)).trans hw288_7), ((HB.out.cell (World.block_lt_of_cell? w _ hw290_0)).trans hw290_0), ((HB.out.cell (World.block_lt_of_cell? w _ hw290_1)).trans hw290_1), ((HB.out.cell (World.block_lt_of_cell? w _ hw290_2)).trans hw290_2), ((HB.out.cell (World.block_lt_of_cell? w _ hw290_3)).trans hw290_3), ((HB.out.cell (World.block_lt_of_cell? w _ hw290_4)).trans hw290_4), ((HB.out.cell (World.block_lt_of_cell? w _ hw290_5)).trans hw290_5), ((HB.out.cell (World.block_lt_of_cell? w _ hw290_6)).trans hw290_6), ((HB.out.cell (World.block_lt_of_cell? w _ hw290_7)).trans hw290_7)⟩ (fun hHeld => ?_)
 clear hK K
 refine norm_ (a' := ?_) ?_ ?_
 rotate_left
 ·show Act.put _ (some 133) _ = _
  simp only [Act.put, List.setIfInBounds_toArray, List.set_cons_zero, List.set_cons_succ, i64_w, i32_w]
  rfl
 refine pure_ (i := 12) (N := some 134) (v := ?_) (a' := ?_) #[true, true, true, true, true, true, true, true, true, true, true, true, true] rfl rfl (any_of HT_.out (by kernel_rfl)) (fun _ _ _ h => h) (Or.inl ⟨by rfl, ?_⟩) ?_ ?_
 rotate_left
 ·intro w'
  go_simp
  with_reducible rfl
 rotate_left
 ·simp only [Act.put, List.setIfInBounds_toArray, List.set_cons_zero, List.set_cons_succ, i64_w, i32_w]
  rfl
 refine done_ (done_of HT_.out (by kernel_rfl)) ?_
 try go_wp2
 go_roundg k6
 case measure => have := HJ1.out; have := HJ14.out; have := HK3.out; have := HK4.out; have := HK5.out; have := HK6.out; omega
 case rel => exact ⟨(wrap64 (x10_6 + 1)), (by first | rfl | (simp; done) | (simp [*]; done)), H', ⟨by have := HJ1.out; have := HJ14.out; have := HK3.out; have := HK4.out; have := HK5.out; have := HK6.out; omega⟩, ⟨by (with_reducible repeat (first | apply Kd.S_alloc | apply Kd.S_drewN | apply Kd.S_drew)); exact HO_272001.out⟩, ⟨by (with_reducible repeat (first | apply Kd.S_alloc | apply Kd.S_drewN | apply Kd.S_drew)); exact HO_272002.out⟩, ⟨by (with_reducible repeat (first | apply Kd.R_alloc | apply Kd.R_drewN | apply Kd.R_drew)); exact HO_272003.out⟩, ⟨by (with_reducible repeat (first | refine blk_drewN ?_ _ | refine blk_drew ?_ | refine blk_alloc ?_ _)); exact BK257.out⟩, ⟨by (with_reducible repeat (first | refine blk_drewN ?_ _ | refine blk_drew ?_ | refine blk_alloc ?_ _)); exact BK271.out⟩, ⟨by repeat (first | (with_reducible first | exact HB.out | apply below_alloc | apply pw_below_drewN | apply below_drew1 | refine below_set ?_ GE257.out | refine below_set ?_ GE271.out) | exact HB.out)⟩⟩
end Go.Proofs.Ytkgfpagfmdefgaa.OTopoRight
