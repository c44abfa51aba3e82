/- What Go functions that the law TopoChecks uses come to, and why: part 15. Made out of the kit's print by a program of this session (wip/tools/stub.py, splice.py), functions that it does not take told by hand. -/
import Derived.Test.YtkgfpagfmdefgaaOTopoChecksx14
namespace Go.Proofs.Ytkgfpagfmdefgaa.OTopoChecks
open Go.RowKit Go.Proofs.YtkgfpagfmdefgaaW.PrintWords Go.Proofs.YtkgfpagfmdefgaaW.PrintLast Go.Proofs.YtkgfpagfmdefgaaW.PrintMore
attribute [local go_sem] max2_int min2_int max_two min_two max_three min_three max_four min_four   -- for this text's walks alone
set_option linter.unusedVariables false
set_option linter.unusedSimpArgs false

/-! ### treelineref20_Check: function 10 -/
mutual
def treelineref20_Check.j0 : Nat → Bool → Int → List (S48) → List (List Int) → List (S59) → Option (Int)
  | 0, _, _, _, _, _ => none
  | k + 1, x33, x209000, x209001, x209002, x209003 => if x33 = true then (some 1) else (if (x209001.length : Int) > 6 then (treelineref20_Check.j1 k true x209000 x209001 x209002 x209003) else (treelineref20_Check.j1 k (decide ((x209003.length : Int) > 8)) x209000 x209001 x209002 x209003))
def treelineref20_Check.j1 : Nat → Bool → Int → List (S48) → List (List Int) → List (S59) → Option (Int)
  | 0, _, _, _, _, _ => none
  | k + 1, x43, x209000, x209001, x209002, x209003 => if x43 = true then (some 4) else (treelineref20_Check.l0 k 0 x209000 x209001 x209002 x209003)
def treelineref20_Check.l0 : Nat → Int → Int → List (S48) → List (List Int) → List (S59) → Option (Int)
  | 0, _, _, _, _, _ => none
  | k + 1, x3, x209000, x209001, x209002, x209003 => if x3 < (x209001.length : Int) then (if 0 ≤ x3 then ((treelineref11_Check.f k ((rd_T48 x209001 x3).f0) ((rd_T48 x209001 x3).f1) ((rd_T48 x209001 x3).f2) ((rd_T48 x209001 x3).f3) ((rd_T48 x209001 x3).f4) ((rd_T48 x209001 x3).f5) ((rd_T48 x209001 x3).f6) ((rd_T48 x209001 x3).f7)).bind fun t210 => (if t210 = 0 then (treelineref20_Check.l1 k x3 0 x209000 x209001 x209002 x209003) else (some t210))) else (none)) else (treelineref20_Check.l3 k 0 x209000 x209001 x209002 x209003)
def treelineref20_Check.l1 : Nat → Int → Int → Int → List (S48) → List (List Int) → List (S59) → Option (Int)
  | 0, _, _, _, _, _, _ => none
  | k + 1, x3, x5, x209000, x209001, x209002, x209003 => if x5 < x3 then (if 0 ≤ x5 then (if x5 < (x209001.length : Int) then (if 0 ≤ x3 then (if x3 < (x209001.length : Int) then (if ((rd_T48 x209001 x5).f0) = ((rd_T48 x209001 x3).f0) then (some 9) else (treelineref20_Check.l1 k x3 (wrap64 (x5 + 1)) x209000 x209001 x209002 x209003)) else (none)) else (none)) else (none)) else (none)) else (if 0 ≤ x3 then (if x3 < (x209002.length : Int) then (if x3 < (x209001.length : Int) then (if ((rd_L9 x209002 x3).length : Int) = (((rd_T48 x209001 x3).f7).length : Int) then (treelineref20_Check.l2 k x3 0 x209000 x209001 x209002 x209003) else (some 1)) else (none)) else (none)) else (none))
def treelineref20_Check.l2 : Nat → Int → Int → Int → List (S48) → List (List Int) → List (S59) → Option (Int)
  | 0, _, _, _, _, _, _ => none
  | k + 1, x3, x6, x209000, x209001, x209002, x209003 => if 0 ≤ x3 then (if x3 < (x209002.length : Int) then (if x6 < ((rd_L9 x209002 x3).length : Int) then (if 0 ≤ x6 then (if (rd (rd_L9 x209002 x3) x6) < 0 then (some 8) else (if (rd (rd_L9 x209002 x3) x6) ≥ x209000 then (some 8) else (treelineref20_Check.l2 k x3 (wrap64 (x6 + 1)) x209000 x209001 x209002 x209003))) else (none)) else (treelineref20_Check.l0 k (wrap64 (x3 + 1)) x209000 x209001 x209002 x209003)) else (none)) else (none)
def treelineref20_Check.l3 : Nat → Int → Int → List (S48) → List (List Int) → List (S59) → Option (Int)
  | 0, _, _, _, _, _ => none
  | k + 1, x7, x209000, x209001, x209002, x209003 => if x7 < (x209003.length : Int) then (if 0 ≤ x7 then ((treelineref01_Right.f ((rd_T59 x209003 x7).f0)).bind fun t221 => (if t221 = true then (treelineref20_Check.l4 k x7 ((rd_T59 x209003 x7).f0) 0 x209000 x209001 x209002 x209003) else (some 1))) else (none)) else (some 0)
def treelineref20_Check.l4 : Nat → Int → Int → Int → Int → List (S48) → List (List Int) → List (S59) → Option (Int)
  | 0, _, _, _, _, _, _, _ => none
  | k + 1, x7, x8, x9, x209000, x209001, x209002, x209003 => if x9 < (x209001.length : Int) then (if 0 ≤ x9 then (if ((rd_T48 x209001 x9).f0) = x8 then (some 9) else (treelineref20_Check.l4 k x7 x8 (wrap64 (x9 + 1)) x209000 x209001 x209002 x209003)) else (none)) else (treelineref20_Check.l5 k x7 x8 0 x209000 x209001 x209002 x209003)
def treelineref20_Check.l5 : Nat → Int → Int → Int → Int → List (S48) → List (List Int) → List (S59) → Option (Int)
  | 0, _, _, _, _, _, _, _ => none
  | k + 1, x7, x8, x10, x209000, x209001, x209002, x209003 => if x10 < x7 then (if 0 ≤ x10 then (if x10 < (x209003.length : Int) then (if ((rd_T59 x209003 x10).f0) = x8 then (some 9) else (treelineref20_Check.l5 k x7 x8 (wrap64 (x10 + 1)) x209000 x209001 x209002 x209003)) else (none)) else (none)) else (if 0 ≤ x7 then (if x7 < (x209003.length : Int) then (if ((rd_T59 x209003 x7).f1) < 0 then (some 8) else (if ((rd_T59 x209003 x7).f1) ≥ x209000 then (some 8) else (treelineref20_Check.l3 k (wrap64 (x7 + 1)) x209000 x209001 x209002 x209003))) else (none)) else (none))
end
def treelineref20_Check.f (k : Nat) (a0_0 : Int) (l0_1 : List (S48)) (l0_2 : List (List Int)) (l0_3 : List (S59)) : Option (Int) := if a0_0 < 1 then (treelineref20_Check.j0 k true a0_0 l0_1 l0_2 l0_3) else (if a0_0 > 8 then (treelineref20_Check.j0 k true a0_0 l0_1 l0_2 l0_3) else (if (l0_1.length : Int) < 1 then (treelineref20_Check.j0 k true a0_0 l0_1 l0_2 l0_3) else (treelineref20_Check.j0 k ((l0_1.length : Int) != (l0_2.length : Int)) a0_0 l0_1 l0_2 l0_3)))
theorem treelineref20_Check.mono_l : ∀ k, (∀ y0 y1 y2 y3 y4, LeO (treelineref20_Check.j0 k y0 y1 y2 y3 y4) (treelineref20_Check.j0 (k + 1) y0 y1 y2 y3 y4)) ∧ (∀ y0 y1 y2 y3 y4, LeO (treelineref20_Check.j1 k y0 y1 y2 y3 y4) (treelineref20_Check.j1 (k + 1) y0 y1 y2 y3 y4)) ∧ (∀ y0 y1 y2 y3 y4, LeO (treelineref20_Check.l0 k y0 y1 y2 y3 y4) (treelineref20_Check.l0 (k + 1) y0 y1 y2 y3 y4)) ∧ (∀ y0 y1 y2 y3 y4 y5, LeO (treelineref20_Check.l1 k y0 y1 y2 y3 y4 y5) (treelineref20_Check.l1 (k + 1) y0 y1 y2 y3 y4 y5)) ∧ (∀ y0 y1 y2 y3 y4 y5, LeO (treelineref20_Check.l2 k y0 y1 y2 y3 y4 y5) (treelineref20_Check.l2 (k + 1) y0 y1 y2 y3 y4 y5)) ∧ (∀ y0 y1 y2 y3 y4, LeO (treelineref20_Check.l3 k y0 y1 y2 y3 y4) (treelineref20_Check.l3 (k + 1) y0 y1 y2 y3 y4)) ∧ (∀ y0 y1 y2 y3 y4 y5 y6, LeO (treelineref20_Check.l4 k y0 y1 y2 y3 y4 y5 y6) (treelineref20_Check.l4 (k + 1) y0 y1 y2 y3 y4 y5 y6)) ∧ (∀ y0 y1 y2 y3 y4 y5 y6, LeO (treelineref20_Check.l5 k y0 y1 y2 y3 y4 y5 y6) (treelineref20_Check.l5 (k + 1) y0 y1 y2 y3 y4 y5 y6))
  | 0 => ⟨fun _ _ _ _ _ r h => by simp [treelineref20_Check.j0] at h, fun _ _ _ _ _ r h => by simp [treelineref20_Check.j1] at h, fun _ _ _ _ _ r h => by simp [treelineref20_Check.l0] at h, fun _ _ _ _ _ _ r h => by simp [treelineref20_Check.l1] at h, fun _ _ _ _ _ _ r h => by simp [treelineref20_Check.l2] at h, fun _ _ _ _ _ r h => by simp [treelineref20_Check.l3] at h, fun _ _ _ _ _ _ _ r h => by simp [treelineref20_Check.l4] at h, fun _ _ _ _ _ _ _ r h => by simp [treelineref20_Check.l5] at h⟩
  | k + 1 => by
    obtain ⟨ih0, ih1, ih2, ih3, ih4, ih5, ih6, ih7⟩ := treelineref20_Check.mono_l k
    refine ⟨?_, ?_, ?_, ?_, ?_, ?_, ?_, ?_⟩
    · intro y0 y1 y2 y3 y4
      unfold treelineref20_Check.j0
      repeat' first
      | (with_reducible exact ih0 _ _ _ _ _)
      | (with_reducible exact ih1 _ _ _ _ _)
      | (with_reducible exact ih2 _ _ _ _ _)
      | (with_reducible exact ih3 _ _ _ _ _ _)
      | (with_reducible exact ih4 _ _ _ _ _ _)
      | (with_reducible exact ih5 _ _ _ _ _)
      | (with_reducible exact ih6 _ _ _ _ _ _ _)
      | (with_reducible exact ih7 _ _ _ _ _ _ _)
      | (with_reducible exact treelineref11_Check.mono _ _ _ _ _ _ _ _ _)
      | (with_reducible exact LeO.refl _)
      | (with_reducible exact LeO.none _)
      | (with_reducible refine LeO.ite ?_ ?_)
      | (with_reducible refine LeO.bind ?_ (fun _ => ?_))
      | exact ih0 _ _ _ _ _
      | exact ih1 _ _ _ _ _
      | exact ih2 _ _ _ _ _
      | exact ih3 _ _ _ _ _ _
      | exact ih4 _ _ _ _ _ _
      | exact ih5 _ _ _ _ _
      | exact ih6 _ _ _ _ _ _ _
      | exact ih7 _ _ _ _ _ _ _
      | exact treelineref11_Check.mono _ _ _ _ _ _ _ _ _
      | exact LeO.none _
      | refine LeO.ite ?_ ?_
      | refine LeO.bind ?_ (fun _ => ?_)
    · intro y0 y1 y2 y3 y4
      unfold treelineref20_Check.j1
      repeat' first
      | (with_reducible exact ih0 _ _ _ _ _)
      | (with_reducible exact ih1 _ _ _ _ _)
      | (with_reducible exact ih2 _ _ _ _ _)
      | (with_reducible exact ih3 _ _ _ _ _ _)
      | (with_reducible exact ih4 _ _ _ _ _ _)
      | (with_reducible exact ih5 _ _ _ _ _)
      | (with_reducible exact ih6 _ _ _ _ _ _ _)
      | (with_reducible exact ih7 _ _ _ _ _ _ _)
      | (with_reducible exact treelineref11_Check.mono _ _ _ _ _ _ _ _ _)
      | (with_reducible exact LeO.refl _)
      | (with_reducible exact LeO.none _)
      | (with_reducible refine LeO.ite ?_ ?_)
      | (with_reducible refine LeO.bind ?_ (fun _ => ?_))
      | exact ih0 _ _ _ _ _
      | exact ih1 _ _ _ _ _
      | exact ih2 _ _ _ _ _
      | exact ih3 _ _ _ _ _ _
      | exact ih4 _ _ _ _ _ _
      | exact ih5 _ _ _ _ _
      | exact ih6 _ _ _ _ _ _ _
      | exact ih7 _ _ _ _ _ _ _
      | exact treelineref11_Check.mono _ _ _ _ _ _ _ _ _
      | exact LeO.none _
      | refine LeO.ite ?_ ?_
      | refine LeO.bind ?_ (fun _ => ?_)
    · intro y0 y1 y2 y3 y4
      unfold treelineref20_Check.l0
      repeat' first
      | (with_reducible exact ih0 _ _ _ _ _)
      | (with_reducible exact ih1 _ _ _ _ _)
      | (with_reducible exact ih2 _ _ _ _ _)
      | (with_reducible exact ih3 _ _ _ _ _ _)
      | (with_reducible exact ih4 _ _ _ _ _ _)
      | (with_reducible exact ih5 _ _ _ _ _)
      | (with_reducible exact ih6 _ _ _ _ _ _ _)
      | (with_reducible exact ih7 _ _ _ _ _ _ _)
      | (with_reducible exact treelineref11_Check.mono _ _ _ _ _ _ _ _ _)
      | (with_reducible exact LeO.refl _)
      | (with_reducible exact LeO.none _)
      | (with_reducible refine LeO.ite ?_ ?_)
      | (with_reducible refine LeO.bind ?_ (fun _ => ?_))
      | exact ih0 _ _ _ _ _
      | exact ih1 _ _ _ _ _
      | exact ih2 _ _ _ _ _
      | exact ih3 _ _ _ _ _ _
      | exact ih4 _ _ _ _ _ _
      | exact ih5 _ _ _ _ _
      | exact ih6 _ _ _ _ _ _ _
      | exact ih7 _ _ _ _ _ _ _
      | exact treelineref11_Check.mono _ _ _ _ _ _ _ _ _
      | exact LeO.none _
      | refine LeO.ite ?_ ?_
      | refine LeO.bind ?_ (fun _ => ?_)
    · intro y0 y1 y2 y3 y4 y5
      unfold treelineref20_Check.l1
      repeat' first
      | (with_reducible exact ih0 _ _ _ _ _)
      | (with_reducible exact ih1 _ _ _ _ _)
      | (with_reducible exact ih2 _ _ _ _ _)
      | (with_reducible exact ih3 _ _ _ _ _ _)
      | (with_reducible exact ih4 _ _ _ _ _ _)
      | (with_reducible exact ih5 _ _ _ _ _)
      | (with_reducible exact ih6 _ _ _ _ _ _ _)
      | (with_reducible exact ih7 _ _ _ _ _ _ _)
      | (with_reducible exact treelineref11_Check.mono _ _ _ _ _ _ _ _ _)
      | (with_reducible exact LeO.refl _)
      | (with_reducible exact LeO.none _)
      | (with_reducible refine LeO.ite ?_ ?_)
      | (with_reducible refine LeO.bind ?_ (fun _ => ?_))
      | exact ih0 _ _ _ _ _
      | exact ih1 _ _ _ _ _
      | exact ih2 _ _ _ _ _
      | exact ih3 _ _ _ _ _ _
      | exact ih4 _ _ _ _ _ _
      | exact ih5 _ _ _ _ _
      | exact ih6 _ _ _ _ _ _ _
      | exact ih7 _ _ _ _ _ _ _
      | exact treelineref11_Check.mono _ _ _ _ _ _ _ _ _
      | exact LeO.none _
      | refine LeO.ite ?_ ?_
      | refine LeO.bind ?_ (fun _ => ?_)
    · intro y0 y1 y2 y3 y4 y5
      unfold treelineref20_Check.l2
      repeat' first
      | (with_reducible exact ih0 _ _ _ _ _)
      | (with_reducible exact ih1 _ _ _ _ _)
      | (with_reducible exact ih2 _ _ _ _ _)
      | (with_reducible exact ih3 _ _ _ _ _ _)
      | (with_reducible exact ih4 _ _ _ _ _ _)
      | (with_reducible exact ih5 _ _ _ _ _)
      | (with_reducible exact ih6 _ _ _ _ _ _ _)
      | (with_reducible exact ih7 _ _ _ _ _ _ _)
      | (with_reducible exact treelineref11_Check.mono _ _ _ _ _ _ _ _ _)
      | (with_reducible exact LeO.refl _)
      | (with_reducible exact LeO.none _)
      | (with_reducible refine LeO.ite ?_ ?_)
      | (with_reducible refine LeO.bind ?_ (fun _ => ?_))
      | exact ih0 _ _ _ _ _
      | exact ih1 _ _ _ _ _
      | exact ih2 _ _ _ _ _
      | exact ih3 _ _ _ _ _ _
      | exact ih4 _ _ _ _ _ _
      | exact ih5 _ _ _ _ _
      | exact ih6 _ _ _ _ _ _ _
      | exact ih7 _ _ _ _ _ _ _
      | exact treelineref11_Check.mono _ _ _ _ _ _ _ _ _
      | exact LeO.none _
      | refine LeO.ite ?_ ?_
      | refine LeO.bind ?_ (fun _ => ?_)
    · intro y0 y1 y2 y3 y4
      unfold treelineref20_Check.l3
      repeat' first
      | (with_reducible exact ih0 _ _ _ _ _)
      | (with_reducible exact ih1 _ _ _ _ _)
      | (with_reducible exact ih2 _ _ _ _ _)
      | (with_reducible exact ih3 _ _ _ _ _ _)
      | (with_reducible exact ih4 _ _ _ _ _ _)
      | (with_reducible exact ih5 _ _ _ _ _)
      | (with_reducible exact ih6 _ _ _ _ _ _ _)
      | (with_reducible exact ih7 _ _ _ _ _ _ _)
      | (with_reducible exact treelineref11_Check.mono _ _ _ _ _ _ _ _ _)
      | (with_reducible exact LeO.refl _)
      | (with_reducible exact LeO.none _)
      | (with_reducible refine LeO.ite ?_ ?_)
      | (with_reducible refine LeO.bind ?_ (fun _ => ?_))
      | exact ih0 _ _ _ _ _
      | exact ih1 _ _ _ _ _
      | exact ih2 _ _ _ _ _
      | exact ih3 _ _ _ _ _ _
      | exact ih4 _ _ _ _ _ _
      | exact ih5 _ _ _ _ _
      | exact ih6 _ _ _ _ _ _ _
      | exact ih7 _ _ _ _ _ _ _
      | exact treelineref11_Check.mono _ _ _ _ _ _ _ _ _
      | exact LeO.none _
      | refine LeO.ite ?_ ?_
      | refine LeO.bind ?_ (fun _ => ?_)
    · intro y0 y1 y2 y3 y4 y5 y6
      unfold treelineref20_Check.l4
      repeat' first
      | (with_reducible exact ih0 _ _ _ _ _)
      | (with_reducible exact ih1 _ _ _ _ _)
      | (with_reducible exact ih2 _ _ _ _ _)
      | (with_reducible exact ih3 _ _ _ _ _ _)
      | (with_reducible exact ih4 _ _ _ _ _ _)
      | (with_reducible exact ih5 _ _ _ _ _)
      | (with_reducible exact ih6 _ _ _ _ _ _ _)
      | (with_reducible exact ih7 _ _ _ _ _ _ _)
      | (with_reducible exact treelineref11_Check.mono _ _ _ _ _ _ _ _ _)
      | (with_reducible exact LeO.refl _)
      | (with_reducible exact LeO.none _)
      | (with_reducible refine LeO.ite ?_ ?_)
      | (with_reducible refine LeO.bind ?_ (fun _ => ?_))
      | exact ih0 _ _ _ _ _
      | exact ih1 _ _ _ _ _
      | exact ih2 _ _ _ _ _
      | exact ih3 _ _ _ _ _ _
      | exact ih4 _ _ _ _ _ _
      | exact ih5 _ _ _ _ _
      | exact ih6 _ _ _ _ _ _ _
      | exact ih7 _ _ _ _ _ _ _
      | exact treelineref11_Check.mono _ _ _ _ _ _ _ _ _
      | exact LeO.none _
      | refine LeO.ite ?_ ?_
      | refine LeO.bind ?_ (fun _ => ?_)
    · intro y0 y1 y2 y3 y4 y5 y6
      unfold treelineref20_Check.l5
      repeat' first
      | (with_reducible exact ih0 _ _ _ _ _)
      | (with_reducible exact ih1 _ _ _ _ _)
      | (with_reducible exact ih2 _ _ _ _ _)
      | (with_reducible exact ih3 _ _ _ _ _ _)
      | (with_reducible exact ih4 _ _ _ _ _ _)
      | (with_reducible exact ih5 _ _ _ _ _)
      | (with_reducible exact ih6 _ _ _ _ _ _ _)
      | (with_reducible exact ih7 _ _ _ _ _ _ _)
      | (with_reducible exact treelineref11_Check.mono _ _ _ _ _ _ _ _ _)
      | (with_reducible exact LeO.refl _)
      | (with_reducible exact LeO.none _)
      | (with_reducible refine LeO.ite ?_ ?_)
      | (with_reducible refine LeO.bind ?_ (fun _ => ?_))
      | exact ih0 _ _ _ _ _
      | exact ih1 _ _ _ _ _
      | exact ih2 _ _ _ _ _
      | exact ih3 _ _ _ _ _ _
      | exact ih4 _ _ _ _ _ _
      | exact ih5 _ _ _ _ _
      | exact ih6 _ _ _ _ _ _ _
      | exact ih7 _ _ _ _ _ _ _
      | exact treelineref11_Check.mono _ _ _ _ _ _ _ _ _
      | exact LeO.none _
      | refine LeO.ite ?_ ?_
      | refine LeO.bind ?_ (fun _ => ?_)
theorem treelineref20_Check.mono : ∀ a0 a1 a2 a3 k, LeO (treelineref20_Check.f k a0 a1 a2 a3) (treelineref20_Check.f (k + 1) a0 a1 a2 a3) := by
  intro a0 a1 a2 a3 k
  obtain ⟨ih0, ih1, ih2, ih3, ih4, ih5, ih6, ih7⟩ := treelineref20_Check.mono_l k
  unfold treelineref20_Check.f
  repeat' first
      | (with_reducible exact ih0 _ _ _ _ _)
      | (with_reducible exact ih1 _ _ _ _ _)
      | (with_reducible exact ih2 _ _ _ _ _)
      | (with_reducible exact ih3 _ _ _ _ _ _)
      | (with_reducible exact ih4 _ _ _ _ _ _)
      | (with_reducible exact ih5 _ _ _ _ _)
      | (with_reducible exact ih6 _ _ _ _ _ _ _)
      | (with_reducible exact ih7 _ _ _ _ _ _ _)
      | (with_reducible exact treelineref11_Check.mono _ _ _ _ _ _ _ _ _)
      | (with_reducible exact LeO.refl _)
      | (with_reducible exact LeO.none _)
      | (with_reducible refine LeO.ite ?_ ?_)
      | (with_reducible refine LeO.bind ?_ (fun _ => ?_))
      | exact ih0 _ _ _ _ _
      | exact ih1 _ _ _ _ _
      | exact ih2 _ _ _ _ _
      | exact ih3 _ _ _ _ _ _
      | exact ih4 _ _ _ _ _ _
      | exact ih5 _ _ _ _ _
      | exact ih6 _ _ _ _ _ _ _
      | exact ih7 _ _ _ _ _ _ _
      | exact treelineref11_Check.mono _ _ _ _ _ _ _ _ _
      | exact LeO.none _
      | refine LeO.ite ?_ ?_
      | refine LeO.bind ?_ (fun _ => ?_)
set_option maxHeartbeats 8000000 in
set_option maxRecDepth 100000 in
theorem treelineref20_Check.calls (k : Nat) (a0_0 : Int) (A0_1 : Option Addr) (c0_1 : Nat) (l0_1 : List (S48)) (A0_2 : Option Addr) (c0_2 : Nat) (l0_2 : List (List Int)) (A0_3 : Option Addr) (c0_3 : Nat) (l0_3 : List (S59)) (r : Int) (w : World) (hr0_1 : Kd.C k48 w A0_1 l0_1.length l0_1) (hc0_1 : l0_1.length ≤ c0_1) (hr0_2 : Kd.C (Kd.slice 3 (Kd.int .i64)) w A0_2 l0_2.length l0_2) (hc0_2 : l0_2.length ≤ c0_2) (hr0_3 : Kd.C k59 w A0_3 l0_3.length l0_3) (hc0_3 : l0_3.length ≤ c0_3) (h : treelineref20_Check.f k a0_0 l0_1 l0_2 l0_3 = some r) :
  Calls Try.prog 10 #[.agg #[.int .i64 a0_0, .slice A0_1 l0_1.length c0_1, .slice A0_2 l0_2.length c0_2, .slice A0_3 l0_3.length c0_3]] w fun e w' => e = .returned (.int .i64 r) ∧ Below w.heap.size w w' := by
 have hu26 := Try.underlying26
 have hu48 := Try.underlying48
 have HR0_1 := Aside0.mk hr0_1
 have HC0_1 := Aside0.mk hc0_1
 clear hr0_1 hc0_1
 have HR0_2 := Aside0.mk hr0_2
 have HC0_2 := Aside0.mk hc0_2
 clear hr0_2 hc0_2
 have HR0_3 := Aside0.mk hr0_3
 have HC0_3 := Aside0.mk hc0_3
 clear hr0_3 hc0_3
 have HB := Aside0.mk (Below.refl w.heap.size w)
 have H : (if a0_0 < 1 then (treelineref20_Check.j0 k true a0_0 l0_1 l0_2 l0_3) else (if a0_0 > 8 then (treelineref20_Check.j0 k true a0_0 l0_1 l0_2 l0_3) else (if (l0_1.length : Int) < 1 then (treelineref20_Check.j0 k true a0_0 l0_1 l0_2 l0_3) else (treelineref20_Check.j0 k ((l0_1.length : Int) != (l0_2.length : Int)) a0_0 l0_1 l0_2 l0_3)))) = some r := h
 clear h
 have HC2 := Aside0.mk H
 clear H
 go_enter Try.func10, Try.ntmps10
 go_upto_region 1 with (first | ((with_reducible refine gate_dst (N := 1) rfl ?_); (try (refine gate_guard (by rfl) ?_; dsimp only)); refine box_event ?hg (N := 1) ?hd (cs := #[.int .i64 a0_0, .slice A0_1 l0_1.length c0_1, .slice A0_2 l0_2.length c0_2, .slice A0_3 l0_3.length c0_3]) (t := 26) ?hr ?_; (case hd => rfl); (case hg => rfl); (case hr => first | (go_simp; done) | (go_simp; rfl)); intro gb208 hg w3 hbox hb; have n0_ := Aside0.mk (below_step (by repeat (first | (with_reducible first | exact HB.out | apply below_alloc | apply pw_below_drewN | apply below_drew1) | exact HB.out)) hb); have n1_ := Aside0.mk (hbox); have n2_ := Aside0.mk ((by rw [hg]; exact (below_size (by repeat (first | (with_reducible first | exact HB.out | apply below_alloc | apply pw_below_drewN | apply below_drew1) | exact HB.out))) : w.heap.size ≤ gb208)); have n3_ := Aside0.mk ((by rw [hg]; exact (below_size (by repeat (first | (with_reducible first | exact HB.out | apply below_alloc | apply pw_below_drewN | apply below_drew1) | exact HB.out))) : w.heap.size ≤ gb208)); clear HB; have HB := n0_; have BK208 := n1_; have GW208 := n2_; have GE208 := n3_; clear n0_ n1_ n2_ n3_; clear hb hbox hg))
 repeat (go_quiet (fail); try go_wp2)
 (try simp only [Act.put, List.setIfInBounds_toArray, List.set_cons_zero, List.set_cons_succ])
 go_cut [33] (fun v33 wc => ∃ (kq : Nat) (x33_1 : Bool), v33 = .bool x33_1 ∧ Aside0 (treelineref20_Check.j0 kq x33_1 a0_0 l0_1 l0_2 l0_3 = some r) ∧ Aside0 (kq ≤ k) ∧ Aside0 (wc.heap[gb208]? = some (.cells #[.int .i64 a0_0, (.slice A0_1 l0_1.length c0_1), (.slice A0_2 l0_2.length c0_2), (.slice A0_3 l0_3.length c0_3)] 26 (0, 0))) ∧ Aside0 (Below w.heap.size w wc))
 case first =>
  have H := HC2.out
  clear HC2
  by_cases c4 : a0_0 < 1
  ·rw [if_pos c4] at H
   have c4b0 : decide (a0_0 < 1) = true := decide_eq_true c4
   clear c4
   (first | rw [c4b0] | (simp only [i64_w, i32_w]; rw [c4b0]) | skip)
   have H' := Aside0.mk H
   clear H
   have hcz5_0 : w3.cell? ⟨gb208, 0, none⟩ = some (.int .i64 a0_0) := (blk_cell BK208.out 0).trans rfl
   have hcz5_1 : w3.cell? ⟨gb208, 1, none⟩ = some (.slice A0_1 l0_1.length c0_1) := (blk_cell BK208.out 1).trans rfl
   have hcz5_2 : w3.cell? ⟨gb208, 2, none⟩ = some (.slice A0_2 l0_2.length c0_2) := (blk_cell BK208.out 2).trans rfl
   have hcz5_3 : w3.cell? ⟨gb208, 3, none⟩ = some (.slice A0_3 l0_3.length c0_3) := (blk_cell BK208.out 3).trans rfl
   have hfz5_0 := blk_frozen BK208.out 0
   have hfz5_1 := blk_frozen BK208.out 1
   have hfz5_2 := blk_frozen BK208.out 2
   have hfz5_3 := blk_frozen BK208.out 3
   go_wp2
   repeat (go_quiet (fail); try go_wp2)
   go_meet
   case rel => exact ⟨_, (true), (by first | rfl | (simp; done) | (simp [*]; done)), H', ⟨by first | omega | exact Nat.le_refl _⟩, ⟨by (with_reducible repeat (first | refine blk_drewN ?_ _ | refine blk_drew ?_ | refine blk_alloc ?_ _)); exact BK208.out⟩, ⟨by repeat (first | (with_reducible first | exact HB.out | apply below_alloc | apply pw_below_drewN | apply below_drew1 | refine below_set ?_ GE208.out) | exact HB.out)⟩⟩
  ·rw [if_neg c4] at H
   have c4b0 : decide (a0_0 < 1) = false := decide_eq_false c4
   clear c4
   (first | rw [c4b0] | (simp only [i64_w, i32_w]; rw [c4b0]) | skip)
   by_cases c6 : a0_0 > 8
   ·rw [if_pos c6] at H
    have c6b0 : decide (8 < a0_0) = true := decide_eq_true c6
    clear c6
    have H' := Aside0.mk H
    clear H
    have hcz7_0 : w3.cell? ⟨gb208, 0, none⟩ = some (.int .i64 a0_0) := (blk_cell BK208.out 0).trans rfl
    have hcz7_1 : w3.cell? ⟨gb208, 1, none⟩ = some (.slice A0_1 l0_1.length c0_1) := (blk_cell BK208.out 1).trans rfl
    have hcz7_2 : w3.cell? ⟨gb208, 2, none⟩ = some (.slice A0_2 l0_2.length c0_2) := (blk_cell BK208.out 2).trans rfl
    have hcz7_3 : w3.cell? ⟨gb208, 3, none⟩ = some (.slice A0_3 l0_3.length c0_3) := (blk_cell BK208.out 3).trans rfl
    have hfz7_0 := blk_frozen BK208.out 0
    have hfz7_1 := blk_frozen BK208.out 1
    have hfz7_2 := blk_frozen BK208.out 2
    have hfz7_3 := blk_frozen BK208.out 3
    go_wp2
    repeat (go_quiet (fail); try go_wp2)
    go_meet
    case rel => exact ⟨_, (true), (by first | rfl | (simp; done) | (simp [*]; done)), H', ⟨by first | omega | exact Nat.le_refl _⟩, ⟨by (with_reducible repeat (first | refine blk_drewN ?_ _ | refine blk_drew ?_ | refine blk_alloc ?_ _)); exact BK208.out⟩, ⟨by repeat (first | (with_reducible first | exact HB.out | apply below_alloc | apply pw_below_drewN | apply below_drew1 | refine below_set ?_ GE208.out) | exact HB.out)⟩⟩
   ·rw [if_neg c6] at H
    have c6b0 : decide (8 < a0_0) = false := decide_eq_false c6
    clear c6
    by_cases c8 : (l0_1.length : Int) < 1
    ·rw [if_pos c8] at H
     have c8b0 : decide ((l0_1.length : Int) < 1) = true := decide_eq_true c8
     have c8b1 : decide (l0_1.length < 1) = true := decide_eq_true (by omega)
     clear c8
     have H' := Aside0.mk H
     clear H
     have hcz9_0 : w3.cell? ⟨gb208, 0, none⟩ = some (.int .i64 a0_0) := (blk_cell BK208.out 0).trans rfl
     have hcz9_1 : w3.cell? ⟨gb208, 1, none⟩ = some (.slice A0_1 l0_1.length c0_1) := (blk_cell BK208.out 1).trans rfl
     have hcz9_2 : w3.cell? ⟨gb208, 2, none⟩ = some (.slice A0_2 l0_2.length c0_2) := (blk_cell BK208.out 2).trans rfl
     have hcz9_3 : w3.cell? ⟨gb208, 3, none⟩ = some (.slice A0_3 l0_3.length c0_3) := (blk_cell BK208.out 3).trans rfl
     have hfz9_0 := blk_frozen BK208.out 0
     have hfz9_1 := blk_frozen BK208.out 1
     have hfz9_2 := blk_frozen BK208.out 2
     have hfz9_3 := blk_frozen BK208.out 3
     go_wp2
     repeat (go_quiet (fail); try go_wp2)
     go_meet
     case rel => exact ⟨_, (true), (by first | rfl | (simp; done) | (simp [*]; done)), H', ⟨by first | omega | exact Nat.le_refl _⟩, ⟨by (with_reducible repeat (first | refine blk_drewN ?_ _ | refine blk_drew ?_ | refine blk_alloc ?_ _)); exact BK208.out⟩, ⟨by repeat (first | (with_reducible first | exact HB.out | apply below_alloc | apply pw_below_drewN | apply below_drew1 | refine below_set ?_ GE208.out) | exact HB.out)⟩⟩
    ·rw [if_neg c8] at H
     have c8b0 : decide ((l0_1.length : Int) < 1) = false := decide_eq_false c8
     have c8b1 : decide (l0_1.length < 1) = false := decide_eq_false (by omega)
     clear c8
     have H' := Aside0.mk H
     clear H
     have hcz10_0 : w3.cell? ⟨gb208, 0, none⟩ = some (.int .i64 a0_0) := (blk_cell BK208.out 0).trans rfl
     have hcz10_1 : w3.cell? ⟨gb208, 1, none⟩ = some (.slice A0_1 l0_1.length c0_1) := (blk_cell BK208.out 1).trans rfl
     have hcz10_2 : w3.cell? ⟨gb208, 2, none⟩ = some (.slice A0_2 l0_2.length c0_2) := (blk_cell BK208.out 2).trans rfl
     have hcz10_3 : w3.cell? ⟨gb208, 3, none⟩ = some (.slice A0_3 l0_3.length c0_3) := (blk_cell BK208.out 3).trans rfl
     have hfz10_0 := blk_frozen BK208.out 0
     have hfz10_1 := blk_frozen BK208.out 1
     have hfz10_2 := blk_frozen BK208.out 2
     have hfz10_3 := blk_frozen BK208.out 3
     go_wp2
     repeat (go_quiet (fail); try go_wp2)
     go_meet
     case rel => exact ⟨_, (((l0_1.length : Int) != (l0_2.length : Int))), (by first | rfl | (simp; done) | (simp [*]; done)), H', ⟨by first | omega | exact Nat.le_refl _⟩, ⟨by (with_reducible repeat (first | refine blk_drewN ?_ _ | refine blk_drew ?_ | refine blk_alloc ?_ _)); exact BK208.out⟩, ⟨by repeat (first | (with_reducible first | exact HB.out | apply below_alloc | apply pw_below_drewN | apply below_drew1 | refine below_set ?_ GE208.out) | exact HB.out)⟩⟩
 case rest =>
  clear HC2
  try clear c1
  try clear p2
  try clear c4
  try clear c4b0
  try clear c6
  try clear c6b0
  try clear c8
  try clear c8b0
  try clear c8b1
  try clear c10
  try clear hcz10_0
  try clear hcz10_1
  try clear hcz10_2
  try clear hcz10_3
  try clear hcz5_0
  try clear hcz5_1
  try clear hcz5_2
  try clear hcz5_3
  try clear hcz7_0
  try clear hcz7_1
  try clear hcz7_2
  try clear hcz7_3
  try clear hcz9_0
  try clear hcz9_1
  try clear hcz9_2
  try clear hcz9_3
  try clear hfz10_0
  try clear hfz10_1
  try clear hfz10_2
  try clear hfz10_3
  try clear hfz5_0
  try clear hfz5_1
  try clear hfz5_2
  try clear hfz5_3
  try clear hfz7_0
  try clear hfz7_1
  try clear hfz7_2
  try clear hfz7_3
  try clear hfz9_0
  try clear hfz9_1
  try clear hfz9_2
  try clear hfz9_3
  obtain ⟨kq, x33_1, rfl, HA, HJ1, BK208, HB⟩ := hcut
  cases kq with
  | zero => exact absurd HA.out (by simp [treelineref20_Check.j0])
  | succ kj1 =>
   have H := HA.out
   clear HA
   simp only [treelineref20_Check.j0] at H
   by_cases c11 : x33_1 = true
   ·subst c11
    have H1 : (some 1) = some r := by rw [if_pos rfl] at H; exact H
    clear H
    have H := H1
    clear H1
    obtain rfl := Option.some.inj H
    go_wp2
    repeat (go_quiet (fail); try go_wp2)
    go_ret
    exact ⟨by first | rfl | (simp [errW_none, errW_some] <;> rfl) | (simp [*, errW_none, errW_some] <;> rfl), by repeat (first | (with_reducible first | exact HB.out | apply below_alloc | apply pw_below_drewN | apply below_drew1 | refine below_set ?_ GE208.out) | exact HB.out)⟩
   ·replace c11 := Bool.eq_false_iff.mpr c11
    subst c11
    have H1 : (if (l0_1.length : Int) > 6 then (treelineref20_Check.j1 kj1 true a0_0 l0_1 l0_2 l0_3) else (treelineref20_Check.j1 kj1 (decide ((l0_3.length : Int) > 8)) a0_0 l0_1 l0_2 l0_3)) = some r := by rw [if_neg (show ¬ (false = true) by decide)] at H; exact H
    clear H
    have H := H1
    clear H1
    have HC12 := Aside0.mk H
    clear H
    go_upto_region 3 with (fail)
    repeat (go_quiet (fail); go_upto_region 3 with (fail))
    go_cut [43] (fun v43 wc => ∃ (kq : Nat) (x43_11 : Bool), v43 = .bool x43_11 ∧ Aside0 (treelineref20_Check.j1 kq x43_11 a0_0 l0_1 l0_2 l0_3 = some r) ∧ Aside0 (kq ≤ kj1) ∧ Aside0 (wc.heap[gb208]? = some (.cells #[.int .i64 a0_0, (.slice A0_1 l0_1.length c0_1), (.slice A0_2 l0_2.length c0_2), (.slice A0_3 l0_3.length c0_3)] 26 (0, 0))) ∧ Aside0 (Below w.heap.size w wc))
    case first =>
     have H := HC12.out
     clear HC12
     by_cases c13 : (l0_1.length : Int) > 6
     ·rw [if_pos c13] at H
      have c13b0 : decide (6 < (l0_1.length : Int)) = true := decide_eq_true c13
      have c13b1 : decide (6 < l0_1.length) = true := decide_eq_true (by omega)
      clear c13
      (first | rw [c13b0] | (simp only [i64_w, i32_w]; rw [c13b0]) | skip)
      have H' := Aside0.mk H
      clear H
      have hcz14_0 : wc.cell? ⟨gb208, 0, none⟩ = some (.int .i64 a0_0) := (blk_cell BK208.out 0).trans rfl
      have hcz14_1 : wc.cell? ⟨gb208, 1, none⟩ = some (.slice A0_1 l0_1.length c0_1) := (blk_cell BK208.out 1).trans rfl
      have hcz14_2 : wc.cell? ⟨gb208, 2, none⟩ = some (.slice A0_2 l0_2.length c0_2) := (blk_cell BK208.out 2).trans rfl
      have hcz14_3 : wc.cell? ⟨gb208, 3, none⟩ = some (.slice A0_3 l0_3.length c0_3) := (blk_cell BK208.out 3).trans rfl
      have hfz14_0 := blk_frozen BK208.out 0
      have hfz14_1 := blk_frozen BK208.out 1
      have hfz14_2 := blk_frozen BK208.out 2
      have hfz14_3 := blk_frozen BK208.out 3
      go_wp2
      repeat (go_quiet (fail); try go_wp2)
      go_meet
      case rel => exact ⟨_, (true), (by first | rfl | (simp; done) | (simp [*]; done)), H', ⟨by have := HJ1.out; first | omega | exact Nat.le_refl _⟩, ⟨by (with_reducible repeat (first | refine blk_drewN ?_ _ | refine blk_drew ?_ | refine blk_alloc ?_ _)); exact BK208.out⟩, ⟨by repeat (first | (with_reducible first | exact HB.out | apply below_alloc | apply pw_below_drewN | apply below_drew1 | refine below_set ?_ GE208.out) | exact HB.out)⟩⟩
     ·rw [if_neg c13] at H
      have c13b0 : decide (6 < (l0_1.length : Int)) = false := decide_eq_false c13
      have c13b1 : decide (6 < l0_1.length) = false := decide_eq_false (by omega)
      clear c13
      (first | rw [c13b0] | (simp only [i64_w, i32_w]; rw [c13b0]) | skip)
      have H' := Aside0.mk H
      clear H
      have hcz15_0 : wc.cell? ⟨gb208, 0, none⟩ = some (.int .i64 a0_0) := (blk_cell BK208.out 0).trans rfl
      have hcz15_1 : wc.cell? ⟨gb208, 1, none⟩ = some (.slice A0_1 l0_1.length c0_1) := (blk_cell BK208.out 1).trans rfl
      have hcz15_2 : wc.cell? ⟨gb208, 2, none⟩ = some (.slice A0_2 l0_2.length c0_2) := (blk_cell BK208.out 2).trans rfl
      have hcz15_3 : wc.cell? ⟨gb208, 3, none⟩ = some (.slice A0_3 l0_3.length c0_3) := (blk_cell BK208.out 3).trans rfl
      have hfz15_0 := blk_frozen BK208.out 0
      have hfz15_1 := blk_frozen BK208.out 1
      have hfz15_2 := blk_frozen BK208.out 2
      have hfz15_3 := blk_frozen BK208.out 3
      go_wp2
      repeat (go_quiet (fail); try go_wp2)
      go_meet
      case rel => exact ⟨_, (decide ((l0_3.length : Int) > 8)), (by first | rfl | (simp; done) | (simp [*]; done)), H', ⟨by have := HJ1.out; first | omega | exact Nat.le_refl _⟩, ⟨by (with_reducible repeat (first | refine blk_drewN ?_ _ | refine blk_drew ?_ | refine blk_alloc ?_ _)); exact BK208.out⟩, ⟨by repeat (first | (with_reducible first | exact HB.out | apply below_alloc | apply pw_below_drewN | apply below_drew1 | refine below_set ?_ GE208.out) | exact HB.out)⟩⟩
    case rest =>
     clear HC12
     try clear c1
     try clear p2
     try clear c4
     try clear c4b0
     try clear c6
     try clear c6b0
     try clear c8
     try clear c8b0
     try clear c8b1
     try clear c10
     try clear c11
     try clear c13
     try clear c13b0
     try clear c13b1
     try clear hcz10_0
     try clear hcz10_1
     try clear hcz10_2
     try clear hcz10_3
     try clear hcz14_0
     try clear hcz14_1
     try clear hcz14_2
     try clear hcz14_3
     try clear hcz15_0
     try clear hcz15_1
     try clear hcz15_2
     try clear hcz15_3
     try clear hcz5_0
     try clear hcz5_1
     try clear hcz5_2
     try clear hcz5_3
     try clear hcz7_0
     try clear hcz7_1
     try clear hcz7_2
     try clear hcz7_3
     try clear hcz9_0
     try clear hcz9_1
     try clear hcz9_2
     try clear hcz9_3
     try clear hfz10_0
     try clear hfz10_1
     try clear hfz10_2
     try clear hfz10_3
     try clear hfz14_0
     try clear hfz14_1
     try clear hfz14_2
     try clear hfz14_3
     try clear hfz15_0
     try clear hfz15_1
     try clear hfz15_2
     try clear hfz15_3
     try clear hfz5_0
     try clear hfz5_1
     try clear hfz5_2
     try clear hfz5_3
     try clear hfz7_0
     try clear hfz7_1
     try clear hfz7_2
     try clear hfz7_3
     try clear hfz9_0
     try clear hfz9_1
     try clear hfz9_2
     try clear hfz9_3
     try clear p2
     obtain ⟨kq, x43_11, rfl, HA, HJ11, BK208, HB⟩ := hcut
     cases kq with
     | zero => exact absurd HA.out (by simp [treelineref20_Check.j1])
     | succ kj11 =>
      have H := HA.out
      clear HA
      simp only [treelineref20_Check.j1] at H
      by_cases c16 : x43_11 = true
      ·subst c16
       have H1 : (some 4) = some r := by rw [if_pos rfl] at H; exact H
       clear H
       have H := H1
       clear H1
       obtain rfl := Option.some.inj H
       go_wp2
       repeat (go_quiet (fail); try go_wp2)
       go_ret
       exact ⟨by first | rfl | (simp [errW_none, errW_some] <;> rfl) | (simp [*, errW_none, errW_some] <;> rfl), by repeat (first | (with_reducible first | exact HB.out | apply below_alloc | apply pw_below_drewN | apply below_drew1 | refine below_set ?_ GE208.out) | exact HB.out)⟩
      ·replace c16 := Bool.eq_false_iff.mpr c16
       subst c16
       have H1 : (treelineref20_Check.l0 kj11 0 a0_0 l0_1 l0_2 l0_3) = some r := by rw [if_neg (show ¬ (false = true) by decide)] at H; exact H
       clear H
       have H := H1
       clear H1
       have H' := Aside0.mk H
       clear H
       go_wp2
       repeat (go_quiet (fail); try go_wp2)
       go_loopg [3] kj11 (fun kq v3 w' => ∃ (x3_3 : Int), v3 = .int .i64 x3_3 ∧ Aside0 (treelineref20_Check.l0 kq x3_3 a0_0 l0_1 l0_2 l0_3 = some r) ∧ Aside0 (kq ≤ kj11) ∧ Aside0 (w'.heap[gb208]? = some (.cells #[.int .i64 a0_0, (.slice A0_1 l0_1.length c0_1), (.slice A0_2 l0_2.length c0_2), (.slice A0_3 l0_3.length c0_3)] 26 (0, 0))) ∧ Aside0 (Below w.heap.size w w'))
       case atStart => exact ⟨(0), (by first | rfl | (simp; done) | (simp [*]; done)), H', ⟨Nat.le_refl _⟩, ⟨by (with_reducible repeat (first | refine blk_drewN ?_ _ | refine blk_drew ?_ | refine blk_alloc ?_ _)); exact BK208.out⟩, ⟨by repeat (first | (with_reducible first | exact HB.out | apply below_alloc | apply pw_below_drewN | apply below_drew1 | refine below_set ?_ GE208.out) | exact HB.out)⟩⟩
       case round =>
        clear H'
        try clear c1
        try clear p2
        try clear c4
        try clear c4b0
        try clear c6
        try clear c6b0
        try clear c8
        try clear c8b0
        try clear c8b1
        try clear c10
        try clear c11
        try clear c13
        try clear c13b0
        try clear c13b1
        try clear c16
        try clear hcz10_0
        try clear hcz10_1
        try clear hcz10_2
        try clear hcz10_3
        try clear hcz14_0
        try clear hcz14_1
        try clear hcz14_2
        try clear hcz14_3
        try clear hcz15_0
        try clear hcz15_1
        try clear hcz15_2
        try clear hcz15_3
        try clear hcz5_0
        try clear hcz5_1
        try clear hcz5_2
        try clear hcz5_3
        try clear hcz7_0
        try clear hcz7_1
        try clear hcz7_2
        try clear hcz7_3
        try clear hcz9_0
        try clear hcz9_1
        try clear hcz9_2
        try clear hcz9_3
        try clear hfz10_0
        try clear hfz10_1
        try clear hfz10_2
        try clear hfz10_3
        try clear hfz14_0
        try clear hfz14_1
        try clear hfz14_2
        try clear hfz14_3
        try clear hfz15_0
        try clear hfz15_1
        try clear hfz15_2
        try clear hfz15_3
        try clear hfz5_0
        try clear hfz5_1
        try clear hfz5_2
        try clear hfz5_3
        try clear hfz7_0
        try clear hfz7_1
        try clear hfz7_2
        try clear hfz7_3
        try clear hfz9_0
        try clear hfz9_1
        try clear hfz9_2
        try clear hfz9_3
        try clear p2
        obtain ⟨x3_3, rfl, HA, HK3, BK208, HB⟩ := hrel
        cases gk with
        | zero => exact absurd HA.out (by simp [treelineref20_Check.l0])
        | succ k3 =>
         have H := HA.out
         clear HA
         simp only [treelineref20_Check.l0] at H
         by_cases c17 : x3_3 < (l0_1.length : Int)
         ·rw [if_pos c17] at H
          have c17b0 : decide (x3_3 < (l0_1.length : Int)) = true := decide_eq_true c17
          clear c17
          by_cases c18 : 0 ≤ x3_3
          ·rw [if_pos c18] at H
           have c18b0 : decide (0 ≤ x3_3) = true := decide_eq_true c18
           clear c18
           replace H := Option.bind_eq_some_iff.mp H
           obtain ⟨t210, A190, H⟩ := H
           replace H : (if t210 = 0 then (treelineref20_Check.l1 k3 x3_3 0 a0_0 l0_1 l0_2 l0_3) else (some t210)) = some r := H
           have A19 := Aside0.mk A190
           clear A190
           by_cases c20 : t210 = 0
           ·rw [if_pos c20] at H
            have c20b0 : (t210 == 0) = true := beq_iff_eq.mpr c20
            have c20b1 : (t210 != 0) = false := bne_eq_false_iff_eq.mpr c20
            clear c20
            have H' := Aside0.mk H
            clear H
            have hcz21_0 : wr.cell? ⟨gb208, 0, none⟩ = some (.int .i64 a0_0) := (blk_cell BK208.out 0).trans rfl
            have hcz21_1 : wr.cell? ⟨gb208, 1, none⟩ = some (.slice A0_1 l0_1.length c0_1) := (blk_cell BK208.out 1).trans rfl
            have hcz21_2 : wr.cell? ⟨gb208, 2, none⟩ = some (.slice A0_2 l0_2.length c0_2) := (blk_cell BK208.out 2).trans rfl
            have hcz21_3 : wr.cell? ⟨gb208, 3, none⟩ = some (.slice A0_3 l0_3.length c0_3) := (blk_cell BK208.out 3).trans rfl
            have hfz21_0 := blk_frozen BK208.out 0
            have hfz21_1 := blk_frozen BK208.out 1
            have hfz21_2 := blk_frozen BK208.out 2
            have hfz21_3 := blk_frozen BK208.out 3
            have p209 : 0 ≤ (x3_3 : Int) := of_decide_eq_true (by first | (with_reducible assumption) | assumption)
            have q209 : x3_3 < (l0_1.length : Int) := of_decide_eq_true (by first | (with_reducible assumption) | assumption)
            obtain ⟨ad209, A209_7, c209_7, e209, hx209_0, hx209_1, hx209_2, hx209_3, hx209_4, hx209_5, hx209_6, hx209_7, hl209_7, hi209_7⟩ := at_T48 HR0_1.out x3_3 p209 q209
            cases e209
            replace hx209_0 := (HB.out.cell (World.block_lt_of_cell? w _ hx209_0)).trans hx209_0
            replace hx209_1 := (HB.out.cell (World.block_lt_of_cell? w _ hx209_1)).trans hx209_1
            replace hx209_2 := (HB.out.cell (World.block_lt_of_cell? w _ hx209_2)).trans hx209_2
            replace hx209_3 := (HB.out.cell (World.block_lt_of_cell? w _ hx209_3)).trans hx209_3
            replace hx209_4 := (HB.out.cell (World.block_lt_of_cell? w _ hx209_4)).trans hx209_4
            replace hx209_5 := (HB.out.cell (World.block_lt_of_cell? w _ hx209_5)).trans hx209_5
            replace hx209_6 := (HB.out.cell (World.block_lt_of_cell? w _ hx209_6)).trans hx209_6
            replace hx209_7 := (HB.out.cell (World.block_lt_of_cell? w _ hx209_7)).trans hx209_7
            have HR209_7 := Aside0.mk hi209_7
            have HC209_7 := Aside0.mk hl209_7
            clear hi209_7 hl209_7
            replace p209 := eq_true p209
            replace q209 := eq_true q209
            go_wp2_with (first | (go_at_call 22; (with_reducible refine (treelineref11_Check.calls k3 ((rd_T48 l0_1 x3_3).f0) ((rd_T48 l0_1 x3_3).f1) ((rd_T48 l0_1 x3_3).f2) ((rd_T48 l0_1 x3_3).f3) ((rd_T48 l0_1 x3_3).f4) ((rd_T48 l0_1 x3_3).f5) ((rd_T48 l0_1 x3_3).f6) _ _ ((rd_T48 l0_1 x3_3).f7) t210 _ ?side1 ?side2 A19.out).mono ?_); (case side1 => repeat (first | exact (Kd.C_below HR209_7.out HB.out) | (with_reducible refine Kd.C_alloc ?_ _) | (with_reducible refine Kd.C_drewN ?_ _) | (with_reducible refine Kd.C_drew ?_))); (case side2 => exact HC209_7.out); rintro e w22 ⟨rfl, hb⟩; have n0_ := Aside0.mk (blk_below (g := gb208) (o := .cells #[.int .i64 a0_0, .slice (some ad209) l0_1.length c0_1, .slice A0_2 l0_2.length c0_2, .slice A0_3 l0_3.length c0_3] 26 (0, 0)) (by (with_reducible repeat (first | refine blk_drewN ?_ _ | refine blk_drew ?_ | refine blk_alloc ?_ _)); exact BK208.out) hb); have n1_ := Aside0.mk (below_step (by repeat (first | (with_reducible first | exact HB.out | apply below_alloc | apply pw_below_drewN | apply below_drew1 | refine below_set ?_ GE208.out) | exact HB.out)) hb); clear BK208; clear HB; have BK208 := n0_; have HB := n1_; clear n0_ n1_; (try clear hb); (try clear hb2); (try clear hk); (try clear hi)))
            repeat (go_quiet (fail); try go_wp2)
            go_loopg [5] k3 (fun kq v5 w' => ∃ (x5_4 : Int), v5 = .int .i64 x5_4 ∧ Aside0 (treelineref20_Check.l1 kq x3_3 x5_4 a0_0 l0_1 l0_2 l0_3 = some r) ∧ Aside0 (kq ≤ k3) ∧ Aside0 (w'.heap[gb208]? = some (.cells #[.int .i64 a0_0, (.slice (some ad209) l0_1.length c0_1), (.slice A0_2 l0_2.length c0_2), (.slice A0_3 l0_3.length c0_3)] 26 (0, 0))) ∧ Aside0 (Below w.heap.size w w'))
            case atStart => exact ⟨(0), (by first | rfl | (simp; done) | (simp [*]; done)), H', ⟨Nat.le_refl _⟩, ⟨by (with_reducible repeat (first | refine blk_drewN ?_ _ | refine blk_drew ?_ | refine blk_alloc ?_ _)); exact BK208.out⟩, ⟨by repeat (first | (with_reducible first | exact HB.out | apply below_alloc | apply pw_below_drewN | apply below_drew1 | refine below_set ?_ GE208.out) | exact HB.out)⟩⟩
            case round =>
             clear H'
             try clear c1
             try clear c2
             try clear p2
             try clear q2
             try clear hx2
             try clear c4
             try clear c4b0
             try clear c6
             try clear c6b0
             try clear c8
             try clear c8b0
             try clear c8b1
             try clear c10
             try clear c11
             try clear c13
             try clear c13b0
             try clear c13b1
             try clear c16
             try clear c17
             try clear c17b0
             try clear c18
             try clear c18b0
             try clear c20
             try clear c20b0
             try clear c20b1
             try clear p20
             try clear q20
             try clear hx20
             try clear hcz10_0
             try clear hcz10_1
             try clear hcz10_2
             try clear hcz10_3
             try clear hcz14_0
             try clear hcz14_1
             try clear hcz14_2
             try clear hcz14_3
             try clear hcz15_0
             try clear hcz15_1
             try clear hcz15_2
             try clear hcz15_3
             try clear hcz21_0
             try clear hcz21_1
             try clear hcz21_2
             try clear hcz21_3
             try clear hcz5_0
             try clear hcz5_1
             try clear hcz5_2
             try clear hcz5_3
             try clear hcz7_0
             try clear hcz7_1
             try clear hcz7_2
             try clear hcz7_3
             try clear hcz9_0
             try clear hcz9_1
             try clear hcz9_2
             try clear hcz9_3
             try clear hfz10_0
             try clear hfz10_1
             try clear hfz10_2
             try clear hfz10_3
             try clear hfz14_0
             try clear hfz14_1
             try clear hfz14_2
             try clear hfz14_3
             try clear hfz15_0
             try clear hfz15_1
             try clear hfz15_2
             try clear hfz15_3
             try clear hfz21_0
             try clear hfz21_1
             try clear hfz21_2
             try clear hfz21_3
             try clear hfz5_0
             try clear hfz5_1
             try clear hfz5_2
             try clear hfz5_3
             try clear hfz7_0
             try clear hfz7_1
             try clear hfz7_2
             try clear hfz7_3
             try clear hfz9_0
             try clear hfz9_1
             try clear hfz9_2
             try clear hfz9_3
             try clear hx209_0
             try clear hx209_1
             try clear hx209_2
             try clear hx209_3
             try clear hx209_4
             try clear hx209_5
             try clear hx209_6
             try clear hx209_7
             try clear p2
             try clear p209
             try clear q209
             obtain ⟨x5_4, rfl, HA, HK4, BK208, HB⟩ := hrel
             cases gk with
             | zero => exact absurd HA.out (by simp [treelineref20_Check.l1])
             | succ k4 =>
              have H := HA.out
              clear HA
              simp only [treelineref20_Check.l1] at H
              by_cases c23 : x5_4 < x3_3
              ·rw [if_pos c23] at H
               have c23b0 : decide (x5_4 < x3_3) = true := decide_eq_true c23
               clear c23
               by_cases c24 : 0 ≤ x5_4
               ·rw [if_pos c24] at H
                have c24b0 : decide (0 ≤ x5_4) = true := decide_eq_true c24
                clear c24
                by_cases c25 : x5_4 < (l0_1.length : Int)
                ·rw [if_pos c25] at H
                 have c25b0 : decide (x5_4 < (l0_1.length : Int)) = true := decide_eq_true c25
                 clear c25
                 by_cases c26 : 0 ≤ x3_3
                 ·rw [if_pos c26] at H
                  have c26b0 : decide (0 ≤ x3_3) = true := decide_eq_true c26
                  clear c26
                  by_cases c27 : x3_3 < (l0_1.length : Int)
                  ·rw [if_pos c27] at H
                   have c27b0 : decide (x3_3 < (l0_1.length : Int)) = true := decide_eq_true c27
                   clear c27
                   by_cases c28 : ((rd_T48 l0_1 x5_4).f0) = ((rd_T48 l0_1 x3_3).f0)
                   ·rw [if_pos c28] at H
                    have c28b0 : (((rd_T48 l0_1 x5_4).f0) == ((rd_T48 l0_1 x3_3).f0)) = true := beq_iff_eq.mpr c28
                    have c28b1 : (((rd_T48 l0_1 x5_4).f0) != ((rd_T48 l0_1 x3_3).f0)) = false := bne_eq_false_iff_eq.mpr c28
                    clear c28
                    obtain rfl := Option.some.inj H
                    have hcz29_0 : wr.cell? ⟨gb208, 0, none⟩ = some (.int .i64 a0_0) := (blk_cell BK208.out 0).trans rfl
                    have hcz29_1 : wr.cell? ⟨gb208, 1, none⟩ = some (.slice (some ad209) l0_1.length c0_1) := (blk_cell BK208.out 1).trans rfl
                    have hcz29_2 : wr.cell? ⟨gb208, 2, none⟩ = some (.slice A0_2 l0_2.length c0_2) := (blk_cell BK208.out 2).trans rfl
                    have hcz29_3 : wr.cell? ⟨gb208, 3, none⟩ = some (.slice A0_3 l0_3.length c0_3) := (blk_cell BK208.out 3).trans rfl
                    have hfz29_0 := blk_frozen BK208.out 0
                    have hfz29_1 := blk_frozen BK208.out 1
                    have hfz29_2 := blk_frozen BK208.out 2
                    have hfz29_3 := blk_frozen BK208.out 3
                    have p211 : 0 ≤ (x5_4 : Int) := of_decide_eq_true (by first | (with_reducible assumption) | assumption)
                    have q211 : x5_4 < (l0_1.length : Int) := of_decide_eq_true (by first | (with_reducible assumption) | assumption)
                    obtain ⟨ad211, A211_7, c211_7, e211, hx211_0, hx211_1, hx211_2, hx211_3, hx211_4, hx211_5, hx211_6, hx211_7, hl211_7, hi211_7⟩ := at_T48 HR0_1.out x5_4 p211 q211
                    obtain rfl : ad209 = ad211 := (by injection e211)
                    replace hx211_0 := (HB.out.cell (World.block_lt_of_cell? w _ hx211_0)).trans hx211_0
                    replace hx211_1 := (HB.out.cell (World.block_lt_of_cell? w _ hx211_1)).trans hx211_1
                    replace hx211_2 := (HB.out.cell (World.block_lt_of_cell? w _ hx211_2)).trans hx211_2
                    replace hx211_3 := (HB.out.cell (World.block_lt_of_cell? w _ hx211_3)).trans hx211_3
                    replace hx211_4 := (HB.out.cell (World.block_lt_of_cell? w _ hx211_4)).trans hx211_4
                    replace hx211_5 := (HB.out.cell (World.block_lt_of_cell? w _ hx211_5)).trans hx211_5
                    replace hx211_6 := (HB.out.cell (World.block_lt_of_cell? w _ hx211_6)).trans hx211_6
                    replace hx211_7 := (HB.out.cell (World.block_lt_of_cell? w _ hx211_7)).trans hx211_7
                    have HR211_7 := Aside0.mk hi211_7
                    have HC211_7 := Aside0.mk hl211_7
                    clear hi211_7 hl211_7
                    replace p211 := eq_true p211
                    replace q211 := eq_true q211
                    have p212 : 0 ≤ (x3_3 : Int) := of_decide_eq_true (by first | (with_reducible assumption) | assumption)
                    have q212 : x3_3 < (l0_1.length : Int) := of_decide_eq_true (by first | (with_reducible assumption) | assumption)
                    obtain ⟨ad212, A212_7, c212_7, e212, hx212_0, hx212_1, hx212_2, hx212_3, hx212_4, hx212_5, hx212_6, hx212_7, hl212_7, hi212_7⟩ := at_T48 HR0_1.out x3_3 p212 q212
                    obtain rfl : ad209 = ad212 := (by injection e212)
                    replace hx212_0 := (HB.out.cell (World.block_lt_of_cell? w _ hx212_0)).trans hx212_0
                    replace hx212_1 := (HB.out.cell (World.block_lt_of_cell? w _ hx212_1)).trans hx212_1
                    replace hx212_2 := (HB.out.cell (World.block_lt_of_cell? w _ hx212_2)).trans hx212_2
                    replace hx212_3 := (HB.out.cell (World.block_lt_of_cell? w _ hx212_3)).trans hx212_3
                    replace hx212_4 := (HB.out.cell (World.block_lt_of_cell? w _ hx212_4)).trans hx212_4
                    replace hx212_5 := (HB.out.cell (World.block_lt_of_cell? w _ hx212_5)).trans hx212_5
                    replace hx212_6 := (HB.out.cell (World.block_lt_of_cell? w _ hx212_6)).trans hx212_6
                    replace hx212_7 := (HB.out.cell (World.block_lt_of_cell? w _ hx212_7)).trans hx212_7
                    have HR212_7 := Aside0.mk hi212_7
                    have HC212_7 := Aside0.mk hl212_7
                    clear hi212_7 hl212_7
                    replace p212 := eq_true p212
                    replace q212 := eq_true q212
                    go_wp2
                    repeat (go_quiet (fail); try go_wp2)
                    go_ret
                    exact ⟨by first | rfl | (simp [errW_none, errW_some] <;> rfl) | (simp [*, errW_none, errW_some] <;> rfl), by repeat (first | (with_reducible first | exact HB.out | apply below_alloc | apply pw_below_drewN | apply below_drew1 | refine below_set ?_ GE208.out) | exact HB.out)⟩
                   ·rw [if_neg c28] at H
                    have c28b0 : (((rd_T48 l0_1 x5_4).f0) == ((rd_T48 l0_1 x3_3).f0)) = false := beq_eq_false_iff_ne.mpr c28
                    have c28b1 : (((rd_T48 l0_1 x5_4).f0) != ((rd_T48 l0_1 x3_3).f0)) = true := bne_iff_ne.mpr c28
                    have H' := Aside0.mk H
                    clear H
                    have hcz30_0 : wr.cell? ⟨gb208, 0, none⟩ = some (.int .i64 a0_0) := (blk_cell BK208.out 0).trans rfl
                    have hcz30_1 : wr.cell? ⟨gb208, 1, none⟩ = some (.slice (some ad209) l0_1.length c0_1) := (blk_cell BK208.out 1).trans rfl
                    have hcz30_2 : wr.cell? ⟨gb208, 2, none⟩ = some (.slice A0_2 l0_2.length c0_2) := (blk_cell BK208.out 2).trans rfl
                    have hcz30_3 : wr.cell? ⟨gb208, 3, none⟩ = some (.slice A0_3 l0_3.length c0_3) := (blk_cell BK208.out 3).trans rfl
                    have hfz30_0 := blk_frozen BK208.out 0
                    have hfz30_1 := blk_frozen BK208.out 1
                    have hfz30_2 := blk_frozen BK208.out 2
                    have hfz30_3 := blk_frozen BK208.out 3
                    have p211 : 0 ≤ (x5_4 : Int) := of_decide_eq_true (by first | (with_reducible assumption) | assumption)
                    have q211 : x5_4 < (l0_1.length : Int) := of_decide_eq_true (by first | (with_reducible assumption) | assumption)
                    obtain ⟨ad211, A211_7, c211_7, e211, hx211_0, hx211_1, hx211_2, hx211_3, hx211_4, hx211_5, hx211_6, hx211_7, hl211_7, hi211_7⟩ := at_T48 HR0_1.out x5_4 p211 q211
                    obtain rfl : ad209 = ad211 := (by injection e211)
                    replace hx211_0 := (HB.out.cell (World.block_lt_of_cell? w _ hx211_0)).trans hx211_0
                    replace hx211_1 := (HB.out.cell (World.block_lt_of_cell? w _ hx211_1)).trans hx211_1
                    replace hx211_2 := (HB.out.cell (World.block_lt_of_cell? w _ hx211_2)).trans hx211_2
                    replace hx211_3 := (HB.out.cell (World.block_lt_of_cell? w _ hx211_3)).trans hx211_3
                    replace hx211_4 := (HB.out.cell (World.block_lt_of_cell? w _ hx211_4)).trans hx211_4
                    replace hx211_5 := (HB.out.cell (World.block_lt_of_cell? w _ hx211_5)).trans hx211_5
                    replace hx211_6 := (HB.out.cell (World.block_lt_of_cell? w _ hx211_6)).trans hx211_6
                    replace hx211_7 := (HB.out.cell (World.block_lt_of_cell? w _ hx211_7)).trans hx211_7
                    have HR211_7 := Aside0.mk hi211_7
                    have HC211_7 := Aside0.mk hl211_7
                    clear hi211_7 hl211_7
                    replace p211 := eq_true p211
                    replace q211 := eq_true q211
                    have p212 : 0 ≤ (x3_3 : Int) := of_decide_eq_true (by first | (with_reducible assumption) | assumption)
                    have q212 : x3_3 < (l0_1.length : Int) := of_decide_eq_true (by first | (with_reducible assumption) | assumption)
                    obtain ⟨ad212, A212_7, c212_7, e212, hx212_0, hx212_1, hx212_2, hx212_3, hx212_4, hx212_5, hx212_6, hx212_7, hl212_7, hi212_7⟩ := at_T48 HR0_1.out x3_3 p212 q212
                    obtain rfl : ad209 = ad212 := (by injection e212)
                    replace hx212_0 := (HB.out.cell (World.block_lt_of_cell? w _ hx212_0)).trans hx212_0
                    replace hx212_1 := (HB.out.cell (World.block_lt_of_cell? w _ hx212_1)).trans hx212_1
                    replace hx212_2 := (HB.out.cell (World.block_lt_of_cell? w _ hx212_2)).trans hx212_2
                    replace hx212_3 := (HB.out.cell (World.block_lt_of_cell? w _ hx212_3)).trans hx212_3
                    replace hx212_4 := (HB.out.cell (World.block_lt_of_cell? w _ hx212_4)).trans hx212_4
                    replace hx212_5 := (HB.out.cell (World.block_lt_of_cell? w _ hx212_5)).trans hx212_5
                    replace hx212_6 := (HB.out.cell (World.block_lt_of_cell? w _ hx212_6)).trans hx212_6
                    replace hx212_7 := (HB.out.cell (World.block_lt_of_cell? w _ hx212_7)).trans hx212_7
                    have HR212_7 := Aside0.mk hi212_7
                    have HC212_7 := Aside0.mk hl212_7
                    clear hi212_7 hl212_7
                    replace p212 := eq_true p212
                    replace q212 := eq_true q212
                    go_wp2
                    repeat (go_quiet (fail); try go_wp2)
                    go_roundg k4
                    case measure => have := HJ1.out; have := HJ11.out; have := HK3.out; have := HK4.out; omega
                    case rel => exact ⟨(wrap64 (x5_4 + 1)), (by first | rfl | (simp; done) | (simp [*]; done)), H', ⟨by have := HJ1.out; have := HJ11.out; have := HK3.out; have := HK4.out; omega⟩, ⟨by (with_reducible repeat (first | refine blk_drewN ?_ _ | refine blk_drew ?_ | refine blk_alloc ?_ _)); exact BK208.out⟩, ⟨by repeat (first | (with_reducible first | exact HB.out | apply below_alloc | apply pw_below_drewN | apply below_drew1 | refine below_set ?_ GE208.out) | exact HB.out)⟩⟩
                  ·rw [if_neg c27] at H
                   exact absurd H (by simp)
                 ·rw [if_neg c26] at H
                  exact absurd H (by simp)
                ·rw [if_neg c25] at H
                 exact absurd H (by simp)
               ·rw [if_neg c24] at H
                exact absurd H (by simp)
              ·rw [if_neg c23] at H
               have c23b0 : decide (x5_4 < x3_3) = false := decide_eq_false c23
               clear c23
               by_cases c31 : 0 ≤ x3_3
               ·rw [if_pos c31] at H
                have c31b0 : decide (0 ≤ x3_3) = true := decide_eq_true c31
                clear c31
                by_cases c32 : x3_3 < (l0_2.length : Int)
                ·rw [if_pos c32] at H
                 have c32b0 : decide (x3_3 < (l0_2.length : Int)) = true := decide_eq_true c32
                 clear c32
                 by_cases c33 : x3_3 < (l0_1.length : Int)
                 ·rw [if_pos c33] at H
                  have c33b0 : decide (x3_3 < (l0_1.length : Int)) = true := decide_eq_true c33
                  clear c33
                  by_cases c34 : ((rd_L9 l0_2 x3_3).length : Int) = (((rd_T48 l0_1 x3_3).f7).length : Int)
                  ·rw [if_pos c34] at H
                   have c34b0 : (((rd_L9 l0_2 x3_3).length : Int) == (((rd_T48 l0_1 x3_3).f7).length : Int)) = true := beq_iff_eq.mpr c34
                   have c34b1 : (((rd_L9 l0_2 x3_3).length : Int) != (((rd_T48 l0_1 x3_3).f7).length : Int)) = false := bne_eq_false_iff_eq.mpr c34
                   have c34b2 : ((rd_L9 l0_2 x3_3).length == ((rd_T48 l0_1 x3_3).f7).length) = true := by first | simpa using c34 | (simp at c34 ⊢; omega)
                   clear c34
                   have H' := Aside0.mk H
                   clear H
                   have hcz35_0 : wr.cell? ⟨gb208, 0, none⟩ = some (.int .i64 a0_0) := (blk_cell BK208.out 0).trans rfl
                   have hcz35_1 : wr.cell? ⟨gb208, 1, none⟩ = some (.slice (some ad209) l0_1.length c0_1) := (blk_cell BK208.out 1).trans rfl
                   have hcz35_2 : wr.cell? ⟨gb208, 2, none⟩ = some (.slice A0_2 l0_2.length c0_2) := (blk_cell BK208.out 2).trans rfl
                   have hcz35_3 : wr.cell? ⟨gb208, 3, none⟩ = some (.slice A0_3 l0_3.length c0_3) := (blk_cell BK208.out 3).trans rfl
                   have hfz35_0 := blk_frozen BK208.out 0
                   have hfz35_1 := blk_frozen BK208.out 1
                   have hfz35_2 := blk_frozen BK208.out 2
                   have hfz35_3 := blk_frozen BK208.out 3
                   have p213 : 0 ≤ (x3_3 : Int) := of_decide_eq_true (by first | (with_reducible assumption) | assumption)
                   have q213 : x3_3 < (l0_2.length : Int) := of_decide_eq_true (by first | (with_reducible assumption) | assumption)
                   obtain ⟨ad213, A213_0, c213_0, e213, hx213_0, hl213_0, hi213_0⟩ := at_L9 HR0_2.out x3_3 p213 q213
                   cases e213
                   replace hx213_0 := (HB.out.cell (World.block_lt_of_cell? w _ hx213_0)).trans hx213_0
                   have HR213_0 := Aside0.mk hi213_0
                   have HC213_0 := Aside0.mk hl213_0
                   clear hi213_0 hl213_0
                   replace p213 := eq_true p213
                   replace q213 := eq_true q213
                   have p214 : 0 ≤ (x3_3 : Int) := of_decide_eq_true (by first | (with_reducible assumption) | assumption)
                   have q214 : x3_3 < (l0_1.length : Int) := of_decide_eq_true (by first | (with_reducible assumption) | assumption)
                   obtain ⟨ad214, A214_7, c214_7, e214, hx214_0, hx214_1, hx214_2, hx214_3, hx214_4, hx214_5, hx214_6, hx214_7, hl214_7, hi214_7⟩ := at_T48 HR0_1.out x3_3 p214 q214
                   obtain rfl : ad209 = ad214 := (by injection e214)
                   replace hx214_0 := (HB.out.cell (World.block_lt_of_cell? w _ hx214_0)).trans hx214_0
                   replace hx214_1 := (HB.out.cell (World.block_lt_of_cell? w _ hx214_1)).trans hx214_1
                   replace hx214_2 := (HB.out.cell (World.block_lt_of_cell? w _ hx214_2)).trans hx214_2
                   replace hx214_3 := (HB.out.cell (World.block_lt_of_cell? w _ hx214_3)).trans hx214_3
                   replace hx214_4 := (HB.out.cell (World.block_lt_of_cell? w _ hx214_4)).trans hx214_4
                   replace hx214_5 := (HB.out.cell (World.block_lt_of_cell? w _ hx214_5)).trans hx214_5
                   replace hx214_6 := (HB.out.cell (World.block_lt_of_cell? w _ hx214_6)).trans hx214_6
                   replace hx214_7 := (HB.out.cell (World.block_lt_of_cell? w _ hx214_7)).trans hx214_7
                   have HR214_7 := Aside0.mk hi214_7
                   have HC214_7 := Aside0.mk hl214_7
                   clear hi214_7 hl214_7
                   replace p214 := eq_true p214
                   replace q214 := eq_true q214
                   go_wp2
                   repeat (go_quiet (fail); try go_wp2)
                   go_loopg [6] k4 (fun kq v6 w' => ∃ (x6_5 : Int), v6 = .int .i64 x6_5 ∧ Aside0 (treelineref20_Check.l2 kq x3_3 x6_5 a0_0 l0_1 l0_2 l0_3 = some r) ∧ Aside0 (kq ≤ k4) ∧ Aside0 (w'.heap[gb208]? = some (.cells #[.int .i64 a0_0, (.slice (some ad209) l0_1.length c0_1), (.slice (some ad213) l0_2.length c0_2), (.slice A0_3 l0_3.length c0_3)] 26 (0, 0))) ∧ Aside0 (Below w.heap.size w w'))
                   case atStart => exact ⟨(0), (by first | rfl | (simp; done) | (simp [*]; done)), H', ⟨Nat.le_refl _⟩, ⟨by (with_reducible repeat (first | refine blk_drewN ?_ _ | refine blk_drew ?_ | refine blk_alloc ?_ _)); exact BK208.out⟩, ⟨by repeat (first | (with_reducible first | exact HB.out | apply below_alloc | apply pw_below_drewN | apply below_drew1 | refine below_set ?_ GE208.out) | exact HB.out)⟩⟩
                   case round =>
                    clear H'
                    try clear c1
                    try clear c2
                    try clear p2
                    try clear q2
                    try clear hx2
                    try clear c3
                    try clear c4
                    try clear c4b0
                    try clear c6
                    try clear c6b0
                    try clear p6
                    try clear c8
                    try clear c8b0
                    try clear c8b1
                    try clear c10
                    try clear c11
                    try clear c13
                    try clear c13b0
                    try clear c13b1
                    try clear c16
                    try clear c17
                    try clear c17b0
                    try clear c18
                    try clear c18b0
                    try clear c20
                    try clear c20b0
                    try clear c20b1
                    try clear p20
                    try clear q20
                    try clear hx20
                    try clear c21
                    try clear p21
                    try clear q21
                    try clear hx21
                    try clear c23
                    try clear c23b0
                    try clear c24
                    try clear c24b0
                    try clear c25
                    try clear c25b0
                    try clear c26
                    try clear c26b0
                    try clear c27
                    try clear c27b0
                    try clear c28
                    try clear c28b0
                    try clear c28b1
                    try clear c31
                    try clear c31b0
                    try clear c32
                    try clear c32b0
                    try clear c33
                    try clear c33b0
                    try clear c34
                    try clear c34b0
                    try clear c34b1
                    try clear c34b2
                    try clear hcz10_0
                    try clear hcz10_1
                    try clear hcz10_2
                    try clear hcz10_3
                    try clear hcz14_0
                    try clear hcz14_1
                    try clear hcz14_2
                    try clear hcz14_3
                    try clear hcz15_0
                    try clear hcz15_1
                    try clear hcz15_2
                    try clear hcz15_3
                    try clear hcz21_0
                    try clear hcz21_1
                    try clear hcz21_2
                    try clear hcz21_3
                    try clear hcz29_0
                    try clear hcz29_1
                    try clear hcz29_2
                    try clear hcz29_3
                    try clear hcz30_0
                    try clear hcz30_1
                    try clear hcz30_2
                    try clear hcz30_3
                    try clear hcz35_0
                    try clear hcz35_1
                    try clear hcz35_2
                    try clear hcz35_3
                    try clear hcz5_0
                    try clear hcz5_1
                    try clear hcz5_2
                    try clear hcz5_3
                    try clear hcz7_0
                    try clear hcz7_1
                    try clear hcz7_2
                    try clear hcz7_3
                    try clear hcz9_0
                    try clear hcz9_1
                    try clear hcz9_2
                    try clear hcz9_3
                    try clear hfz10_0
                    try clear hfz10_1
                    try clear hfz10_2
                    try clear hfz10_3
                    try clear hfz14_0
                    try clear hfz14_1
                    try clear hfz14_2
                    try clear hfz14_3
                    try clear hfz15_0
                    try clear hfz15_1
                    try clear hfz15_2
                    try clear hfz15_3
                    try clear hfz21_0
                    try clear hfz21_1
                    try clear hfz21_2
                    try clear hfz21_3
                    try clear hfz29_0
                    try clear hfz29_1
                    try clear hfz29_2
                    try clear hfz29_3
                    try clear hfz30_0
                    try clear hfz30_1
                    try clear hfz30_2
                    try clear hfz30_3
                    try clear hfz35_0
                    try clear hfz35_1
                    try clear hfz35_2
                    try clear hfz35_3
                    try clear hfz5_0
                    try clear hfz5_1
                    try clear hfz5_2
                    try clear hfz5_3
                    try clear hfz7_0
                    try clear hfz7_1
                    try clear hfz7_2
                    try clear hfz7_3
                    try clear hfz9_0
                    try clear hfz9_1
                    try clear hfz9_2
                    try clear hfz9_3
                    try clear hx209_0
                    try clear hx209_1
                    try clear hx209_2
                    try clear hx209_3
                    try clear hx209_4
                    try clear hx209_5
                    try clear hx209_6
                    try clear hx209_7
                    try clear hx211_0
                    try clear hx211_1
                    try clear hx211_2
                    try clear hx211_3
                    try clear hx211_4
                    try clear hx211_5
                    try clear hx211_6
                    try clear hx211_7
                    try clear hx212_0
                    try clear hx212_1
                    try clear hx212_2
                    try clear hx212_3
                    try clear hx212_4
                    try clear hx212_5
                    try clear hx212_6
                    try clear hx212_7
                    try clear hx213_0
                    try clear hx214_0
                    try clear hx214_1
                    try clear hx214_2
                    try clear hx214_3
                    try clear hx214_4
                    try clear hx214_5
                    try clear hx214_6
                    try clear hx214_7
                    try clear p2
                    try clear p20
                    try clear p209
                    try clear p211
                    try clear p212
                    try clear p213
                    try clear p214
                    try clear q2
                    try clear q20
                    try clear q209
                    try clear q211
                    try clear q212
                    try clear q213
                    try clear q214
                    obtain ⟨x6_5, rfl, HA, HK5, BK208, HB⟩ := hrel
                    cases gk with
                    | zero => exact absurd HA.out (by simp [treelineref20_Check.l2])
                    | succ k5 =>
                     have H := HA.out
                     clear HA
                     simp only [treelineref20_Check.l2] at H
                     by_cases c36 : 0 ≤ x3_3
                     ·rw [if_pos c36] at H
                      have c36b0 : decide (0 ≤ x3_3) = true := decide_eq_true c36
                      clear c36
                      by_cases c37 : x3_3 < (l0_2.length : Int)
                      ·rw [if_pos c37] at H
                       have c37b0 : decide (x3_3 < (l0_2.length : Int)) = true := decide_eq_true c37
                       clear c37
                       by_cases c38 : x6_5 < ((rd_L9 l0_2 x3_3).length : Int)
                       ·rw [if_pos c38] at H
                        have c38b0 : decide (x6_5 < ((rd_L9 l0_2 x3_3).length : Int)) = true := decide_eq_true c38
                        clear c38
                        by_cases c39 : 0 ≤ x6_5
                        ·rw [if_pos c39] at H
                         have c39b0 : decide (0 ≤ x6_5) = true := decide_eq_true c39
                         clear c39
                         by_cases c40 : (rd (rd_L9 l0_2 x3_3) x6_5) < 0
                         ·rw [if_pos c40] at H
                          have c40b0 : decide ((rd (rd_L9 l0_2 x3_3) x6_5) < 0) = true := decide_eq_true c40
                          clear c40
                          obtain rfl := Option.some.inj H
                          have hcz41_0 : wr.cell? ⟨gb208, 0, none⟩ = some (.int .i64 a0_0) := (blk_cell BK208.out 0).trans rfl
                          have hcz41_1 : wr.cell? ⟨gb208, 1, none⟩ = some (.slice (some ad209) l0_1.length c0_1) := (blk_cell BK208.out 1).trans rfl
                          have hcz41_2 : wr.cell? ⟨gb208, 2, none⟩ = some (.slice (some ad213) l0_2.length c0_2) := (blk_cell BK208.out 2).trans rfl
                          have hcz41_3 : wr.cell? ⟨gb208, 3, none⟩ = some (.slice A0_3 l0_3.length c0_3) := (blk_cell BK208.out 3).trans rfl
                          have hfz41_0 := blk_frozen BK208.out 0
                          have hfz41_1 := blk_frozen BK208.out 1
                          have hfz41_2 := blk_frozen BK208.out 2
                          have hfz41_3 := blk_frozen BK208.out 3
                          have p215 : 0 ≤ (x3_3 : Int) := of_decide_eq_true (by first | (with_reducible assumption) | assumption)
                          have q215 : x3_3 < (l0_2.length : Int) := of_decide_eq_true (by first | (with_reducible assumption) | assumption)
                          obtain ⟨ad215, A215_0, c215_0, e215, hx215_0, hl215_0, hi215_0⟩ := at_L9 HR0_2.out x3_3 p215 q215
                          obtain rfl : ad213 = ad215 := (by injection e215)
                          replace hx215_0 := (HB.out.cell (World.block_lt_of_cell? w _ hx215_0)).trans hx215_0
                          have HR215_0 := Aside0.mk hi215_0
                          have HC215_0 := Aside0.mk hl215_0
                          clear hi215_0 hl215_0
                          replace p215 := eq_true p215
                          replace q215 := eq_true q215
                          have p216 : 0 ≤ (x3_3 : Int) := of_decide_eq_true (by first | (with_reducible assumption) | assumption)
                          have q216 : x3_3 < (l0_2.length : Int) := of_decide_eq_true (by first | (with_reducible assumption) | assumption)
                          obtain ⟨ad216, A216_0, c216_0, e216, hx216_0, hl216_0, hi216_0⟩ := at_L9 HR0_2.out x3_3 p216 q216
                          obtain rfl : ad213 = ad216 := (by injection e216)
                          replace hx216_0 := (HB.out.cell (World.block_lt_of_cell? w _ hx216_0)).trans hx216_0
                          have HR216_0 := Aside0.mk hi216_0
                          have HC216_0 := Aside0.mk hl216_0
                          clear hi216_0 hl216_0
                          replace p216 := eq_true p216
                          replace q216 := eq_true q216
                          have ea_ := Option.some.inj (hx215_0.symm.trans hx216_0)
                          injection ea_ with ea_ en_ ec_
                          subst ea_
                          subst ec_
                          clear en_
                          have p217 : 0 ≤ (x6_5 : Int) := of_decide_eq_true (by first | (with_reducible assumption) | assumption)
                          have q217 : x6_5 < ((rd_L9 l0_2 x3_3).length : Int) := of_decide_eq_true (by first | (with_reducible assumption) | assumption)
                          obtain ⟨ad217, e217, hx217_0⟩ := Kd.at_int HR216_0.out x6_5 p217 q217
                          cases e217
                          replace hx217_0 := (HB.out.cell (World.block_lt_of_cell? w _ hx217_0)).trans hx217_0
                          replace p217 := eq_true p217
                          replace q217 := eq_true q217
                          go_wp2
                          repeat (go_quiet (fail); try go_wp2)
                          go_ret
                          exact ⟨by first | rfl | (simp [errW_none, errW_some] <;> rfl) | (simp [*, errW_none, errW_some] <;> rfl), by repeat (first | (with_reducible first | exact HB.out | apply below_alloc | apply pw_below_drewN | apply below_drew1 | refine below_set ?_ GE208.out) | exact HB.out)⟩
                         ·rw [if_neg c40] at H
                          have c40b0 : decide ((rd (rd_L9 l0_2 x3_3) x6_5) < 0) = false := decide_eq_false c40
                          clear c40
                          by_cases c42 : (rd (rd_L9 l0_2 x3_3) x6_5) ≥ a0_0
                          ·rw [if_pos c42] at H
                           have c42b0 : decide (a0_0 ≤ (rd (rd_L9 l0_2 x3_3) x6_5)) = true := decide_eq_true c42
                           clear c42
                           obtain rfl := Option.some.inj H
                           have hcz43_0 : wr.cell? ⟨gb208, 0, none⟩ = some (.int .i64 a0_0) := (blk_cell BK208.out 0).trans rfl
                           have hcz43_1 : wr.cell? ⟨gb208, 1, none⟩ = some (.slice (some ad209) l0_1.length c0_1) := (blk_cell BK208.out 1).trans rfl
                           have hcz43_2 : wr.cell? ⟨gb208, 2, none⟩ = some (.slice (some ad213) l0_2.length c0_2) := (blk_cell BK208.out 2).trans rfl
                           have hcz43_3 : wr.cell? ⟨gb208, 3, none⟩ = some (.slice A0_3 l0_3.length c0_3) := (blk_cell BK208.out 3).trans rfl
                           have hfz43_0 := blk_frozen BK208.out 0
                           have hfz43_1 := blk_frozen BK208.out 1
                           have hfz43_2 := blk_frozen BK208.out 2
                           have hfz43_3 := blk_frozen BK208.out 3
                           have p215 : 0 ≤ (x3_3 : Int) := of_decide_eq_true (by first | (with_reducible assumption) | assumption)
                           have q215 : x3_3 < (l0_2.length : Int) := of_decide_eq_true (by first | (with_reducible assumption) | assumption)
                           obtain ⟨ad215, A215_0, c215_0, e215, hx215_0, hl215_0, hi215_0⟩ := at_L9 HR0_2.out x3_3 p215 q215
                           obtain rfl : ad213 = ad215 := (by injection e215)
                           replace hx215_0 := (HB.out.cell (World.block_lt_of_cell? w _ hx215_0)).trans hx215_0
                           have HR215_0 := Aside0.mk hi215_0
                           have HC215_0 := Aside0.mk hl215_0
                           clear hi215_0 hl215_0
                           replace p215 := eq_true p215
                           replace q215 := eq_true q215
                           have p216 : 0 ≤ (x3_3 : Int) := of_decide_eq_true (by first | (with_reducible assumption) | assumption)
                           have q216 : x3_3 < (l0_2.length : Int) := of_decide_eq_true (by first | (with_reducible assumption) | assumption)
                           obtain ⟨ad216, A216_0, c216_0, e216, hx216_0, hl216_0, hi216_0⟩ := at_L9 HR0_2.out x3_3 p216 q216
                           obtain rfl : ad213 = ad216 := (by injection e216)
                           replace hx216_0 := (HB.out.cell (World.block_lt_of_cell? w _ hx216_0)).trans hx216_0
                           have HR216_0 := Aside0.mk hi216_0
                           have HC216_0 := Aside0.mk hl216_0
                           clear hi216_0 hl216_0
                           replace p216 := eq_true p216
                           replace q216 := eq_true q216
                           have ea_ := Option.some.inj (hx215_0.symm.trans hx216_0)
                           injection ea_ with ea_ en_ ec_
                           subst ea_
                           subst ec_
                           clear en_
                           have p217 : 0 ≤ (x6_5 : Int) := of_decide_eq_true (by first | (with_reducible assumption) | assumption)
                           have q217 : x6_5 < ((rd_L9 l0_2 x3_3).length : Int) := of_decide_eq_true (by first | (with_reducible assumption) | assumption)
                           obtain ⟨ad217, e217, hx217_0⟩ := Kd.at_int HR216_0.out x6_5 p217 q217
                           cases e217
                           replace hx217_0 := (HB.out.cell (World.block_lt_of_cell? w _ hx217_0)).trans hx217_0
                           replace p217 := eq_true p217
                           replace q217 := eq_true q217
                           have p218 : 0 ≤ (x3_3 : Int) := of_decide_eq_true (by first | (with_reducible assumption) | assumption)
                           have q218 : x3_3 < (l0_2.length : Int) := of_decide_eq_true (by first | (with_reducible assumption) | assumption)
                           obtain ⟨ad218, A218_0, c218_0, e218, hx218_0, hl218_0, hi218_0⟩ := at_L9 HR0_2.out x3_3 p218 q218
                           obtain rfl : ad213 = ad218 := (by injection e218)
                           replace hx218_0 := (HB.out.cell (World.block_lt_of_cell? w _ hx218_0)).trans hx218_0
                           have HR218_0 := Aside0.mk hi218_0
                           have HC218_0 := Aside0.mk hl218_0
                           clear hi218_0 hl218_0
                           replace p218 := eq_true p218
                           replace q218 := eq_true q218
                           have ea_ := Option.some.inj (hx215_0.symm.trans hx218_0)
                           injection ea_ with ea_ en_ ec_
                           subst ea_
                           subst ec_
                           clear en_
                           have p219 : 0 ≤ (x6_5 : Int) := of_decide_eq_true (by first | (with_reducible assumption) | assumption)
                           have q219 : x6_5 < ((rd_L9 l0_2 x3_3).length : Int) := of_decide_eq_true (by first | (with_reducible assumption) | assumption)
                           obtain ⟨ad219, e219, hx219_0⟩ := Kd.at_int HR218_0.out x6_5 p219 q219
                           cases e219
                           replace hx219_0 := (HB.out.cell (World.block_lt_of_cell? w _ hx219_0)).trans hx219_0
                           replace p219 := eq_true p219
                           replace q219 := eq_true q219
                           go_wp2
                           repeat (go_quiet (fail); try go_wp2)
                           go_ret
                           exact ⟨by first | rfl | (simp [errW_none, errW_some] <;> rfl) | (simp [*, errW_none, errW_some] <;> rfl), by repeat (first | (with_reducible first | exact HB.out | apply below_alloc | apply pw_below_drewN | apply below_drew1 | refine below_set ?_ GE208.out) | exact HB.out)⟩
                          ·rw [if_neg c42] at H
                           have c42b0 : decide (a0_0 ≤ (rd (rd_L9 l0_2 x3_3) x6_5)) = false := decide_eq_false c42
                           clear c42
                           have H' := Aside0.mk H
                           clear H
                           have hcz44_0 : wr.cell? ⟨gb208, 0, none⟩ = some (.int .i64 a0_0) := (blk_cell BK208.out 0).trans rfl
                           have hcz44_1 : wr.cell? ⟨gb208, 1, none⟩ = some (.slice (some ad209) l0_1.length c0_1) := (blk_cell BK208.out 1).trans rfl
                           have hcz44_2 : wr.cell? ⟨gb208, 2, none⟩ = some (.slice (some ad213) l0_2.length c0_2) := (blk_cell BK208.out 2).trans rfl
                           have hcz44_3 : wr.cell? ⟨gb208, 3, none⟩ = some (.slice A0_3 l0_3.length c0_3) := (blk_cell BK208.out 3).trans rfl
                           have hfz44_0 := blk_frozen BK208.out 0
                           have hfz44_1 := blk_frozen BK208.out 1
                           have hfz44_2 := blk_frozen BK208.out 2
                           have hfz44_3 := blk_frozen BK208.out 3
                           have p215 : 0 ≤ (x3_3 : Int) := of_decide_eq_true (by first | (with_reducible assumption) | assumption)
                           have q215 : x3_3 < (l0_2.length : Int) := of_decide_eq_true (by first | (with_reducible assumption) | assumption)
                           obtain ⟨ad215, A215_0, c215_0, e215, hx215_0, hl215_0, hi215_0⟩ := at_L9 HR0_2.out x3_3 p215 q215
                           obtain rfl : ad213 = ad215 := (by injection e215)
                           replace hx215_0 := (HB.out.cell (World.block_lt_of_cell? w _ hx215_0)).trans hx215_0
                           have HR215_0 := Aside0.mk hi215_0
                           have HC215_0 := Aside0.mk hl215_0
                           clear hi215_0 hl215_0
                           replace p215 := eq_true p215
                           replace q215 := eq_true q215
                           have p216 : 0 ≤ (x3_3 : Int) := of_decide_eq_true (by first | (with_reducible assumption) | assumption)
                           have q216 : x3_3 < (l0_2.length : Int) := of_decide_eq_true (by first | (with_reducible assumption) | assumption)
                           obtain ⟨ad216, A216_0, c216_0, e216, hx216_0, hl216_0, hi216_0⟩ := at_L9 HR0_2.out x3_3 p216 q216
                           obtain rfl : ad213 = ad216 := (by injection e216)
                           replace hx216_0 := (HB.out.cell (World.block_lt_of_cell? w _ hx216_0)).trans hx216_0
                           have HR216_0 := Aside0.mk hi216_0
                           have HC216_0 := Aside0.mk hl216_0
                           clear hi216_0 hl216_0
                           replace p216 := eq_true p216
                           replace q216 := eq_true q216
                           have ea_ := Option.some.inj (hx215_0.symm.trans hx216_0)
                           injection ea_ with ea_ en_ ec_
                           subst ea_
                           subst ec_
                           clear en_
                           have p217 : 0 ≤ (x6_5 : Int) := of_decide_eq_true (by first | (with_reducible assumption) | assumption)
                           have q217 : x6_5 < ((rd_L9 l0_2 x3_3).length : Int) := of_decide_eq_true (by first | (with_reducible assumption) | assumption)
                           obtain ⟨ad217, e217, hx217_0⟩ := Kd.at_int HR216_0.out x6_5 p217 q217
                           cases e217
                           replace hx217_0 := (HB.out.cell (World.block_lt_of_cell? w _ hx217_0)).trans hx217_0
                           replace p217 := eq_true p217
                           replace q217 := eq_true q217
                           have p218 : 0 ≤ (x3_3 : Int) := of_decide_eq_true (by first | (with_reducible assumption) | assumption)
                           have q218 : x3_3 < (l0_2.length : Int) := of_decide_eq_true (by first | (with_reducible assumption) | assumption)
                           obtain ⟨ad218, A218_0, c218_0, e218, hx218_0, hl218_0, hi218_0⟩ := at_L9 HR0_2.out x3_3 p218 q218
                           obtain rfl : ad213 = ad218 := (by injection e218)
                           replace hx218_0 := (HB.out.cell (World.block_lt_of_cell? w _ hx218_0)).trans hx218_0
                           have HR218_0 := Aside0.mk hi218_0
                           have HC218_0 := Aside0.mk hl218_0
                           clear hi218_0 hl218_0
                           replace p218 := eq_true p218
                           replace q218 := eq_true q218
                           have ea_ := Option.some.inj (hx215_0.symm.trans hx218_0)
                           injection ea_ with ea_ en_ ec_
                           subst ea_
                           subst ec_
                           clear en_
                           have p219 : 0 ≤ (x6_5 : Int) := of_decide_eq_true (by first | (with_reducible assumption) | assumption)
                           have q219 : x6_5 < ((rd_L9 l0_2 x3_3).length : Int) := of_decide_eq_true (by first | (with_reducible assumption) | assumption)
                           obtain ⟨ad219, e219, hx219_0⟩ := Kd.at_int HR218_0.out x6_5 p219 q219
                           cases e219
                           replace hx219_0 := (HB.out.cell (World.block_lt_of_cell? w _ hx219_0)).trans hx219_0
                           replace p219 := eq_true p219
                           replace q219 := eq_true q219
                           go_wp2
                           repeat (go_quiet (fail); try go_wp2)
                           go_roundg k5
                           case measure => have := HJ1.out; have := HJ11.out; have := HK3.out; have := HK4.out; have := HK5.out; omega
                           case rel => exact ⟨(wrap64 (x6_5 + 1)), (by first | rfl | (simp; done) | (simp [*]; done)), H', ⟨by have := HJ1.out; have := HJ11.out; have := HK3.out; have := HK4.out; have := HK5.out; omega⟩, ⟨by (with_reducible repeat (first | refine blk_drewN ?_ _ | refine blk_drew ?_ | refine blk_alloc ?_ _)); exact BK208.out⟩, ⟨by repeat (first | (with_reducible first | exact HB.out | apply below_alloc | apply pw_below_drewN | apply below_drew1 | refine below_set ?_ GE208.out) | exact HB.out)⟩⟩
                        ·rw [if_neg c39] at H
                         exact absurd H (by simp)
                       ·rw [if_neg c38] at H
                        have c38b0 : decide (x6_5 < ((rd_L9 l0_2 x3_3).length : Int)) = false := decide_eq_false c38
                        clear c38
                        have H' := Aside0.mk H
                        clear H
                        have hcz45_0 : wr.cell? ⟨gb208, 0, none⟩ = some (.int .i64 a0_0) := (blk_cell BK208.out 0).trans rfl
                        have hcz45_1 : wr.cell? ⟨gb208, 1, none⟩ = some (.slice (some ad209) l0_1.length c0_1) := (blk_cell BK208.out 1).trans rfl
                        have hcz45_2 : wr.cell? ⟨gb208, 2, none⟩ = some (.slice (some ad213) l0_2.length c0_2) := (blk_cell BK208.out 2).trans rfl
                        have hcz45_3 : wr.cell? ⟨gb208, 3, none⟩ = some (.slice A0_3 l0_3.length c0_3) := (blk_cell BK208.out 3).trans rfl
                        have hfz45_0 := blk_frozen BK208.out 0
                        have hfz45_1 := blk_frozen BK208.out 1
                        have hfz45_2 := blk_frozen BK208.out 2
                        have hfz45_3 := blk_frozen BK208.out 3
                        have p215 : 0 ≤ (x3_3 : Int) := of_decide_eq_true (by first | (with_reducible assumption) | assumption)
                        have q215 : x3_3 < (l0_2.length : Int) := of_decide_eq_true (by first | (with_reducible assumption) | assumption)
                        obtain ⟨ad215, A215_0, c215_0, e215, hx215_0, hl215_0, hi215_0⟩ := at_L9 HR0_2.out x3_3 p215 q215
                        obtain rfl : ad213 = ad215 := (by injection e215)
                        replace hx215_0 := (HB.out.cell (World.block_lt_of_cell? w _ hx215_0)).trans hx215_0
                        have HR215_0 := Aside0.mk hi215_0
                        have HC215_0 := Aside0.mk hl215_0
                        clear hi215_0 hl215_0
                        replace p215 := eq_true p215
                        replace q215 := eq_true q215
                        go_wp2
                        repeat (go_quiet (fail); try go_wp2)
                        go_roundg k5
                        case measure => have := HJ1.out; have := HJ11.out; have := HK3.out; have := HK4.out; have := HK5.out; omega
                        case rel => exact ⟨(wrap64 (x3_3 + 1)), (by first | rfl | (simp; done) | (simp [*]; done)), H', ⟨by have := HJ1.out; have := HJ11.out; have := HK3.out; have := HK4.out; have := HK5.out; omega⟩, ⟨by (with_reducible repeat (first | refine blk_drewN ?_ _ | refine blk_drew ?_ | refine blk_alloc ?_ _)); exact BK208.out⟩, ⟨by repeat (first | (with_reducible first | exact HB.out | apply below_alloc | apply pw_below_drewN | apply below_drew1 | refine below_set ?_ GE208.out) | exact HB.out)⟩⟩
                      ·rw [if_neg c37] at H
                       exact absurd H (by simp)
                     ·rw [if_neg c36] at H
                      exact absurd H (by simp)
                  ·rw [if_neg c34] at H
                   have c34b0 : (((rd_L9 l0_2 x3_3).length : Int) == (((rd_T48 l0_1 x3_3).f7).length : Int)) = false := beq_eq_false_iff_ne.mpr c34
                   have c34b1 : (((rd_L9 l0_2 x3_3).length : Int) != (((rd_T48 l0_1 x3_3).f7).length : Int)) = true := bne_iff_ne.mpr c34
                   have c34b2 : ((rd_L9 l0_2 x3_3).length == ((rd_T48 l0_1 x3_3).f7).length) = false := by first | simpa using c34 | (simp at c34 ⊢; omega)
                   obtain rfl := Option.some.inj H
                   have hcz46_0 : wr.cell? ⟨gb208, 0, none⟩ = some (.int .i64 a0_0) := (blk_cell BK208.out 0).trans rfl
                   have hcz46_1 : wr.cell? ⟨gb208, 1, none⟩ = some (.slice (some ad209) l0_1.length c0_1) := (blk_cell BK208.out 1).trans rfl
                   have hcz46_2 : wr.cell? ⟨gb208, 2, none⟩ = some (.slice A0_2 l0_2.length c0_2) := (blk_cell BK208.out 2).trans rfl
                   have hcz46_3 : wr.cell? ⟨gb208, 3, none⟩ = some (.slice A0_3 l0_3.length c0_3) := (blk_cell BK208.out 3).trans rfl
                   have hfz46_0 := blk_frozen BK208.out 0
                   have hfz46_1 := blk_frozen BK208.out 1
                   have hfz46_2 := blk_frozen BK208.out 2
                   have hfz46_3 := blk_frozen BK208.out 3
                   have p213 : 0 ≤ (x3_3 : Int) := of_decide_eq_true (by first | (with_reducible assumption) | assumption)
                   have q213 : x3_3 < (l0_2.length : Int) := of_decide_eq_true (by first | (with_reducible assumption) | assumption)
                   obtain ⟨ad213, A213_0, c213_0, e213, hx213_0, hl213_0, hi213_0⟩ := at_L9 HR0_2.out x3_3 p213 q213
                   cases e213
                   replace hx213_0 := (HB.out.cell (World.block_lt_of_cell? w _ hx213_0)).trans hx213_0
                   have HR213_0 := Aside0.mk hi213_0
                   have HC213_0 := Aside0.mk hl213_0
                   clear hi213_0 hl213_0
                   replace p213 := eq_true p213
                   replace q213 := eq_true q213
                   have p214 : 0 ≤ (x3_3 : Int) := of_decide_eq_true (by first | (with_reducible assumption) | assumption)
                   have q214 : x3_3 < (l0_1.length : Int) := of_decide_eq_true (by first | (with_reducible assumption) | assumption)
                   obtain ⟨ad214, A214_7, c214_7, e214, hx214_0, hx214_1, hx214_2, hx214_3, hx214_4, hx214_5, hx214_6, hx214_7, hl214_7, hi214_7⟩ := at_T48 HR0_1.out x3_3 p214 q214
                   obtain rfl : ad209 = ad214 := (by injection e214)
                   replace hx214_0 := (HB.out.cell (World.block_lt_of_cell? w _ hx214_0)).trans hx214_0
                   replace hx214_1 := (HB.out.cell (World.block_lt_of_cell? w _ hx214_1)).trans hx214_1
                   replace hx214_2 := (HB.out.cell (World.block_lt_of_cell? w _ hx214_2)).trans hx214_2
                   replace hx214_3 := (HB.out.cell (World.block_lt_of_cell? w _ hx214_3)).trans hx214_3
                   replace hx214_4 := (HB.out.cell (World.block_lt_of_cell? w _ hx214_4)).trans hx214_4
                   replace hx214_5 := (HB.out.cell (World.block_lt_of_cell? w _ hx214_5)).trans hx214_5
                   replace hx214_6 := (HB.out.cell (World.block_lt_of_cell? w _ hx214_6)).trans hx214_6
                   replace hx214_7 := (HB.out.cell (World.block_lt_of_cell? w _ hx214_7)).trans hx214_7
                   have HR214_7 := Aside0.mk hi214_7
                   have HC214_7 := Aside0.mk hl214_7
                   clear hi214_7 hl214_7
                   replace p214 := eq_true p214
                   replace q214 := eq_true q214
                   go_wp2
                   repeat (go_quiet (fail); try go_wp2)
                   go_ret
                   exact ⟨by first | rfl | (simp [errW_none, errW_some] <;> rfl) | (simp [*, errW_none, errW_some] <;> rfl), by repeat (first | (with_reducible first | exact HB.out | apply below_alloc | apply pw_below_drewN | apply below_drew1 | refine below_set ?_ GE208.out) | exact HB.out)⟩
                 ·rw [if_neg c33] at H
                  exact absurd H (by simp)
                ·rw [if_neg c32] at H
                 exact absurd H (by simp)
               ·rw [if_neg c31] at H
                exact absurd H (by simp)
           ·rw [if_neg c20] at H
            have c20b0 : (t210 == 0) = false := beq_eq_false_iff_ne.mpr c20
            have c20b1 : (t210 != 0) = true := bne_iff_ne.mpr c20
            obtain rfl := Option.some.inj H
            have hcz47_0 : wr.cell? ⟨gb208, 0, none⟩ = some (.int .i64 a0_0) := (blk_cell BK208.out 0).trans rfl
            have hcz47_1 : wr.cell? ⟨gb208, 1, none⟩ = some (.slice A0_1 l0_1.length c0_1) := (blk_cell BK208.out 1).trans rfl
            have hcz47_2 : wr.cell? ⟨gb208, 2, none⟩ = some (.slice A0_2 l0_2.length c0_2) := (blk_cell BK208.out 2).trans rfl
            have hcz47_3 : wr.cell? ⟨gb208, 3, none⟩ = some (.slice A0_3 l0_3.length c0_3) := (blk_cell BK208.out 3).trans rfl
            have hfz47_0 := blk_frozen BK208.out 0
            have hfz47_1 := blk_frozen BK208.out 1
            have hfz47_2 := blk_frozen BK208.out 2
            have hfz47_3 := blk_frozen BK208.out 3
            have p209 : 0 ≤ (x3_3 : Int) := of_decide_eq_true (by first | (with_reducible assumption) | assumption)
            have q209 : x3_3 < (l0_1.length : Int) := of_decide_eq_true (by first | (with_reducible assumption) | assumption)
            obtain ⟨ad209, A209_7, c209_7, e209, hx209_0, hx209_1, hx209_2, hx209_3, hx209_4, hx209_5, hx209_6, hx209_7, hl209_7, hi209_7⟩ := at_T48 HR0_1.out x3_3 p209 q209
            cases e209
            replace hx209_0 := (HB.out.cell (World.block_lt_of_cell? w _ hx209_0)).trans hx209_0
            replace hx209_1 := (HB.out.cell (World.block_lt_of_cell? w _ hx209_1)).trans hx209_1
            replace hx209_2 := (HB.out.cell (World.block_lt_of_cell? w _ hx209_2)).trans hx209_2
            replace hx209_3 := (HB.out.cell (World.block_lt_of_cell? w _ hx209_3)).trans hx209_3
            replace hx209_4 := (HB.out.cell (World.block_lt_of_cell? w _ hx209_4)).trans hx209_4
            replace hx209_5 := (HB.out.cell (World.block_lt_of_cell? w _ hx209_5)).trans hx209_5
            replace hx209_6 := (HB.out.cell (World.block_lt_of_cell? w _ hx209_6)).trans hx209_6
            replace hx209_7 := (HB.out.cell (World.block_lt_of_cell? w _ hx209_7)).trans hx209_7
            have HR209_7 := Aside0.mk hi209_7
            have HC209_7 := Aside0.mk hl209_7
            clear hi209_7 hl209_7
            replace p209 := eq_true p209
            replace q209 := eq_true q209
            go_wp2_with (first | (go_at_call 22; (with_reducible refine (treelineref11_Check.calls k3 ((rd_T48 l0_1 x3_3).f0) ((rd_T48 l0_1 x3_3).f1) ((rd_T48 l0_1 x3_3).f2) ((rd_T48 l0_1 x3_3).f3) ((rd_T48 l0_1 x3_3).f4) ((rd_T48 l0_1 x3_3).f5) ((rd_T48 l0_1 x3_3).f6) _ _ ((rd_T48 l0_1 x3_3).f7) t210 _ ?side1 ?side2 A19.out).mono ?_); (case side1 => repeat (first | exact (Kd.C_below HR209_7.out HB.out) | (with_reducible refine Kd.C_alloc ?_ _) | (with_reducible refine Kd.C_drewN ?_ _) | (with_reducible refine Kd.C_drew ?_))); (case side2 => exact HC209_7.out); rintro e w48 ⟨rfl, hb⟩; have n0_ := Aside0.mk (blk_below (g := gb208) (o := .cells #[.int .i64 a0_0, .slice (some ad209) l0_1.length c0_1, .slice A0_2 l0_2.length c0_2, .slice A0_3 l0_3.length c0_3] 26 (0, 0)) (by (with_reducible repeat (first | refine blk_drewN ?_ _ | refine blk_drew ?_ | refine blk_alloc ?_ _)); exact BK208.out) hb); have n1_ := Aside0.mk (below_step (by repeat (first | (with_reducible first | exact HB.out | apply below_alloc | apply pw_below_drewN | apply below_drew1 | refine below_set ?_ GE208.out) | exact HB.out)) hb); clear BK208; clear HB; have BK208 := n0_; have HB := n1_; clear n0_ n1_; (try clear hb); (try clear hb2); (try clear hk); (try clear hi)))
            repeat (go_quiet (fail); try go_wp2)
            go_ret
            exact ⟨by first | rfl | (simp [errW_none, errW_some] <;> rfl) | (simp [*, errW_none, errW_some] <;> rfl), by repeat (first | (with_reducible first | exact HB.out | apply below_alloc | apply pw_below_drewN | apply below_drew1 | refine below_set ?_ GE208.out) | exact HB.out)⟩
          ·rw [if_neg c18] at H
           exact absurd H (by simp)
         ·rw [if_neg c17] at H
          have c17b0 : decide (x3_3 < (l0_1.length : Int)) = false := decide_eq_false c17
          clear c17
          have H' := Aside0.mk H
          clear H
          have hcz49_0 : wr.cell? ⟨gb208, 0, none⟩ = some (.int .i64 a0_0) := (blk_cell BK208.out 0).trans rfl
          have hcz49_1 : wr.cell? ⟨gb208, 1, none⟩ = some (.slice A0_1 l0_1.length c0_1) := (blk_cell BK208.out 1).trans rfl
          have hcz49_2 : wr.cell? ⟨gb208, 2, none⟩ = some (.slice A0_2 l0_2.length c0_2) := (blk_cell BK208.out 2).trans rfl
          have hcz49_3 : wr.cell? ⟨gb208, 3, none⟩ = some (.slice A0_3 l0_3.length c0_3) := (blk_cell BK208.out 3).trans rfl
          have hfz49_0 := blk_frozen BK208.out 0
          have hfz49_1 := blk_frozen BK208.out 1
          have hfz49_2 := blk_frozen BK208.out 2
          have hfz49_3 := blk_frozen BK208.out 3
          go_wp2
          repeat (go_quiet (fail); try go_wp2)
          go_loopg [7] k3 (fun kq v7 w' => ∃ (x7_4 : Int), v7 = .int .i64 x7_4 ∧ Aside0 (treelineref20_Check.l3 kq x7_4 a0_0 l0_1 l0_2 l0_3 = some r) ∧ Aside0 (kq ≤ k3) ∧ Aside0 (w'.heap[gb208]? = some (.cells #[.int .i64 a0_0, (.slice A0_1 l0_1.length c0_1), (.slice A0_2 l0_2.length c0_2), (.slice A0_3 l0_3.length c0_3)] 26 (0, 0))) ∧ Aside0 (Below w.heap.size w w'))
          case atStart => exact ⟨(0), (by first | rfl | (simp; done) | (simp [*]; done)), H', ⟨Nat.le_refl _⟩, ⟨by (with_reducible repeat (first | refine blk_drewN ?_ _ | refine blk_drew ?_ | refine blk_alloc ?_ _)); exact BK208.out⟩, ⟨by repeat (first | (with_reducible first | exact HB.out | apply below_alloc | apply pw_below_drewN | apply below_drew1 | refine below_set ?_ GE208.out) | exact HB.out)⟩⟩
          case round =>
           clear H'
           try clear c1
           try clear c2
           try clear p2
           try clear q2
           try clear hx2
           try clear c3
           try clear c4
           try clear c4b0
           try clear c6
           try clear c6b0
           try clear p6
           try clear c8
           try clear c8b0
           try clear c8b1
           try clear c10
           try clear c11
           try clear c13
           try clear c13b0
           try clear c13b1
           try clear c16
           try clear c17
           try clear c17b0
           try clear c18
           try clear c18b0
           try clear c20
           try clear c20b0
           try clear c20b1
           try clear p20
           try clear q20
           try clear hx20
           try clear c21
           try clear p21
           try clear q21
           try clear hx21
           try clear c23
           try clear c23b0
           try clear c24
           try clear c24b0
           try clear c25
           try clear c25b0
           try clear c26
           try clear c26b0
           try clear c27
           try clear c27b0
           try clear c28
           try clear c28b0
           try clear c28b1
           try clear c31
           try clear c31b0
           try clear c32
           try clear c32b0
           try clear c33
           try clear c33b0
           try clear c34
           try clear c34b0
           try clear c34b1
           try clear c34b2
           try clear c36
           try clear c36b0
           try clear c37
           try clear c37b0
           try clear c38
           try clear c38b0
           try clear c39
           try clear c39b0
           try clear c40
           try clear c40b0
           try clear c42
           try clear c42b0
           try clear hcz10_0
           try clear hcz10_1
           try clear hcz10_2
           try clear hcz10_3
           try clear hcz14_0
           try clear hcz14_1
           try clear hcz14_2
           try clear hcz14_3
           try clear hcz15_0
           try clear hcz15_1
           try clear hcz15_2
           try clear hcz15_3
           try clear hcz21_0
           try clear hcz21_1
           try clear hcz21_2
           try clear hcz21_3
           try clear hcz29_0
           try clear hcz29_1
           try clear hcz29_2
           try clear hcz29_3
           try clear hcz30_0
           try clear hcz30_1
           try clear hcz30_2
           try clear hcz30_3
           try clear hcz35_0
           try clear hcz35_1
           try clear hcz35_2
           try clear hcz35_3
           try clear hcz41_0
           try clear hcz41_1
           try clear hcz41_2
           try clear hcz41_3
           try clear hcz43_0
           try clear hcz43_1
           try clear hcz43_2
           try clear hcz43_3
           try clear hcz44_0
           try clear hcz44_1
           try clear hcz44_2
           try clear hcz44_3
           try clear hcz45_0
           try clear hcz45_1
           try clear hcz45_2
           try clear hcz45_3
           try clear hcz46_0
           try clear hcz46_1
           try clear hcz46_2
           try clear hcz46_3
           try clear hcz47_0
           try clear hcz47_1
           try clear hcz47_2
           try clear hcz47_3
           try clear hcz49_0
           try clear hcz49_1
           try clear hcz49_2
           try clear hcz49_3
           try clear hcz5_0
           try clear hcz5_1
           try clear hcz5_2
           try clear hcz5_3
           try clear hcz7_0
           try clear hcz7_1
           try clear hcz7_2
           try clear hcz7_3
           try clear hcz9_0
           try clear hcz9_1
           try clear hcz9_2
           try clear hcz9_3
           try clear hfz10_0
           try clear hfz10_1
           try clear hfz10_2
           try clear hfz10_3
           try clear hfz14_0
           try clear hfz14_1
           try clear hfz14_2
           try clear hfz14_3
           try clear hfz15_0
           try clear hfz15_1
           try clear hfz15_2
           try clear hfz15_3
           try clear hfz21_0
           try clear hfz21_1
           try clear hfz21_2
           try clear hfz21_3
           try clear hfz29_0
           try clear hfz29_1
           try clear hfz29_2
           try clear hfz29_3
           try clear hfz30_0
           try clear hfz30_1
           try clear hfz30_2
           try clear hfz30_3
           try clear hfz35_0
           try clear hfz35_1
           try clear hfz35_2
           try clear hfz35_3
           try clear hfz41_0
           try clear hfz41_1
           try clear hfz41_2
           try clear hfz41_3
           try clear hfz43_0
           try clear hfz43_1
           try clear hfz43_2
           try clear hfz43_3
           try clear hfz44_0
           try clear hfz44_1
           try clear hfz44_2
           try clear hfz44_3
           try clear hfz45_0
           try clear hfz45_1
           try clear hfz45_2
           try clear hfz45_3
           try clear hfz46_0
           try clear hfz46_1
           try clear hfz46_2
           try clear hfz46_3
           try clear hfz47_0
           try clear hfz47_1
           try clear hfz47_2
           try clear hfz47_3
           try clear hfz49_0
           try clear hfz49_1
           try clear hfz49_2
           try clear hfz49_3
           try clear hfz5_0
           try clear hfz5_1
           try clear hfz5_2
           try clear hfz5_3
           try clear hfz7_0
           try clear hfz7_1
           try clear hfz7_2
           try clear hfz7_3
           try clear hfz9_0
           try clear hfz9_1
           try clear hfz9_2
           try clear hfz9_3
           try clear hx209_0
           try clear hx209_1
           try clear hx209_2
           try clear hx209_3
           try clear hx209_4
           try clear hx209_5
           try clear hx209_6
           try clear hx209_7
           try clear hx211_0
           try clear hx211_1
           try clear hx211_2
           try clear hx211_3
           try clear hx211_4
           try clear hx211_5
           try clear hx211_6
           try clear hx211_7
           try clear hx212_0
           try clear hx212_1
           try clear hx212_2
           try clear hx212_3
           try clear hx212_4
           try clear hx212_5
           try clear hx212_6
           try clear hx212_7
           try clear hx213_0
           try clear hx214_0
           try clear hx214_1
           try clear hx214_2
           try clear hx214_3
           try clear hx214_4
           try clear hx214_5
           try clear hx214_6
           try clear hx214_7
           try clear hx215_0
           try clear hx216_0
           try clear hx217_0
           try clear hx218_0
           try clear hx219_0
           try clear p2
           try clear p20
           try clear p209
           try clear p21
           try clear p211
           try clear p212
           try clear p213
           try clear p214
           try clear p215
           try clear p216
           try clear p217
           try clear p218
           try clear p219
           try clear p6
           try clear q2
           try clear q20
           try clear q209
           try clear q21
           try clear q211
           try clear q212
           try clear q213
           try clear q214
           try clear q215
           try clear q216
           try clear q217
           try clear q218
           try clear q219
           obtain ⟨x7_4, rfl, HA, HK4, BK208, HB⟩ := hrel
           cases gk with
           | zero => exact absurd HA.out (by simp [treelineref20_Check.l3])
           | succ k4 =>
            have H := HA.out
            clear HA
            simp only [treelineref20_Check.l3] at H
            by_cases c50 : x7_4 < (l0_3.length : Int)
            ·rw [if_pos c50] at H
             have c50b0 : decide (x7_4 < (l0_3.length : Int)) = true := decide_eq_true c50
             clear c50
             by_cases c51 : 0 ≤ x7_4
             ·rw [if_pos c51] at H
              have c51b0 : decide (0 ≤ x7_4) = true := decide_eq_true c51
              clear c51
              replace H := Option.bind_eq_some_iff.mp H
              obtain ⟨t221, A520, H⟩ := H
              replace H : (if t221 = true then (treelineref20_Check.l4 k4 x7_4 ((rd_T59 l0_3 x7_4).f0) 0 a0_0 l0_1 l0_2 l0_3) else (some 1)) = some r := H
              have A52 := Aside0.mk A520
              clear A520
              by_cases c53 : t221 = true
              ·subst c53
               have H1 : (treelineref20_Check.l4 k4 x7_4 ((rd_T59 l0_3 x7_4).f0) 0 a0_0 l0_1 l0_2 l0_3) = some r := by rw [if_pos rfl] at H; exact H
               clear H
               have H := H1
               clear H1
               have H' := Aside0.mk H
               clear H
               have hcz54_0 : wr.cell? ⟨gb208, 0, none⟩ = some (.int .i64 a0_0) := (blk_cell BK208.out 0).trans rfl
               have hcz54_1 : wr.cell? ⟨gb208, 1, none⟩ = some (.slice A0_1 l0_1.length c0_1) := (blk_cell BK208.out 1).trans rfl
               have hcz54_2 : wr.cell? ⟨gb208, 2, none⟩ = some (.slice A0_2 l0_2.length c0_2) := (blk_cell BK208.out 2).trans rfl
               have hcz54_3 : wr.cell? ⟨gb208, 3, none⟩ = some (.slice A0_3 l0_3.length c0_3) := (blk_cell BK208.out 3).trans rfl
               have hfz54_0 := blk_frozen BK208.out 0
               have hfz54_1 := blk_frozen BK208.out 1
               have hfz54_2 := blk_frozen BK208.out 2
               have hfz54_3 := blk_frozen BK208.out 3
               have p220 : 0 ≤ (x7_4 : Int) := of_decide_eq_true (by first | (with_reducible assumption) | assumption)
               have q220 : x7_4 < (l0_3.length : Int) := of_decide_eq_true (by first | (with_reducible assumption) | assumption)
               obtain ⟨ad220, e220, hx220_0, hx220_1⟩ := at_T59 HR0_3.out x7_4 p220 q220
               cases e220
               replace hx220_0 := (HB.out.cell (World.block_lt_of_cell? w _ hx220_0)).trans hx220_0
               replace hx220_1 := (HB.out.cell (World.block_lt_of_cell? w _ hx220_1)).trans hx220_1
               replace p220 := eq_true p220
               replace q220 := eq_true q220
               go_wp2_with (first | (go_at_call 23; (with_reducible refine (treelineref01_Right.calls ((rd_T59 l0_3 x7_4).f0) true _ A52.out).mono ?_); rintro e w' ⟨rfl, ⟨nd, rfl⟩⟩; (try first | exact ⟨rfl, _, World.drewN_drewN _ _ _⟩ | exact ⟨rfl, _, Eq.trans (World.drewN_drewN _ _ _) (congrArg (World.drewN _) (Nat.add_assoc _ _ _))⟩)))
               repeat (go_quiet (fail); try go_wp2)
               go_loopg [9] k4 (fun kq v9 w' => ∃ (x9_5 : Int), v9 = .int .i64 x9_5 ∧ Aside0 (treelineref20_Check.l4 kq x7_4 ((rd_T59 l0_3 x7_4).f0) x9_5 a0_0 l0_1 l0_2 l0_3 = some r) ∧ Aside0 (kq ≤ k4) ∧ Aside0 (w'.heap[gb208]? = some (.cells #[.int .i64 a0_0, (.slice A0_1 l0_1.length c0_1), (.slice A0_2 l0_2.length c0_2), (.slice (some ad220) l0_3.length c0_3)] 26 (0, 0))) ∧ Aside0 (Below w.heap.size w w'))
               case atStart => exact ⟨(0), (by first | rfl | (simp; done) | (simp [*]; done)), H', ⟨Nat.le_refl _⟩, ⟨by (with_reducible repeat (first | refine blk_drewN ?_ _ | refine blk_drew ?_ | refine blk_alloc ?_ _)); exact BK208.out⟩, ⟨by repeat (first | (with_reducible first | exact HB.out | apply below_alloc | apply pw_below_drewN | apply below_drew1 | refine below_set ?_ GE208.out) | exact HB.out)⟩⟩
               case round =>
                clear H'
                try clear c1
                try clear c2
                try clear p2
                try clear q2
                try clear hx2
                try clear c3
                try clear c4
                try clear c4b0
                try clear c5
                try clear c6
                try clear c6b0
                try clear p6
                try clear c8
                try clear c8b0
                try clear c8b1
                try clear c10
                try clear c11
                try clear c13
                try clear c13b0
                try clear c13b1
                try clear c16
                try clear c17
                try clear c17b0
                try clear c18
                try clear c18b0
                try clear c20
                try clear c20b0
                try clear c20b1
                try clear p20
                try clear q20
                try clear hx20
                try clear c21
                try clear p21
                try clear q21
                try clear hx21
                try clear p22
                try clear q22
                try clear hx22
                try clear c23
                try clear c23b0
                try clear c24
                try clear c24b0
                try clear c25
                try clear c25b0
                try clear c26
                try clear c26b0
                try clear c27
                try clear c27b0
                try clear c28
                try clear c28b0
                try clear c28b1
                try clear c31
                try clear c31b0
                try clear c32
                try clear c32b0
                try clear c33
                try clear c33b0
                try clear c34
                try clear c34b0
                try clear c34b1
                try clear c34b2
                try clear c36
                try clear c36b0
                try clear c37
                try clear c37b0
                try clear c38
                try clear c38b0
                try clear c39
                try clear c39b0
                try clear c40
                try clear c40b0
                try clear c42
                try clear c42b0
                try clear c50
                try clear c50b0
                try clear c51
                try clear c51b0
                try clear c53
                try clear hcz10_0
                try clear hcz10_1
                try clear hcz10_2
                try clear hcz10_3
                try clear hcz14_0
                try clear hcz14_1
                try clear hcz14_2
                try clear hcz14_3
                try clear hcz15_0
                try clear hcz15_1
                try clear hcz15_2
                try clear hcz15_3
                try clear hcz21_0
                try clear hcz21_1
                try clear hcz21_2
                try clear hcz21_3
                try clear hcz29_0
                try clear hcz29_1
                try clear hcz29_2
                try clear hcz29_3
                try clear hcz30_0
                try clear hcz30_1
                try clear hcz30_2
                try clear hcz30_3
                try clear hcz35_0
                try clear hcz35_1
                try clear hcz35_2
                try clear hcz35_3
                try clear hcz41_0
                try clear hcz41_1
                try clear hcz41_2
                try clear hcz41_3
                try clear hcz43_0
                try clear hcz43_1
                try clear hcz43_2
                try clear hcz43_3
                try clear hcz44_0
                try clear hcz44_1
                try clear hcz44_2
                try clear hcz44_3
                try clear hcz45_0
                try clear hcz45_1
                try clear hcz45_2
                try clear hcz45_3
                try clear hcz46_0
                try clear hcz46_1
                try clear hcz46_2
                try clear hcz46_3
                try clear hcz47_0
                try clear hcz47_1
                try clear hcz47_2
                try clear hcz47_3
                try clear hcz49_0
                try clear hcz49_1
                try clear hcz49_2
                try clear hcz49_3
                try clear hcz54_0
                try clear hcz54_1
                try clear hcz54_2
                try clear hcz54_3
                try clear hcz5_0
                try clear hcz5_1
                try clear hcz5_2
                try clear hcz5_3
                try clear hcz7_0
                try clear hcz7_1
                try clear hcz7_2
                try clear hcz7_3
                try clear hcz9_0
                try clear hcz9_1
                try clear hcz9_2
                try clear hcz9_3
                try clear hfz10_0
                try clear hfz10_1
                try clear hfz10_2
                try clear hfz10_3
                try clear hfz14_0
                try clear hfz14_1
                try clear hfz14_2
                try clear hfz14_3
                try clear hfz15_0
                try clear hfz15_1
                try clear hfz15_2
                try clear hfz15_3
                try clear hfz21_0
                try clear hfz21_1
                try clear hfz21_2
                try clear hfz21_3
                try clear hfz29_0
                try clear hfz29_1
                try clear hfz29_2
                try clear hfz29_3
                try clear hfz30_0
                try clear hfz30_1
                try clear hfz30_2
                try clear hfz30_3
                try clear hfz35_0
                try clear hfz35_1
                try clear hfz35_2
                try clear hfz35_3
                try clear hfz41_0
                try clear hfz41_1
                try clear hfz41_2
                try clear hfz41_3
                try clear hfz43_0
                try clear hfz43_1
                try clear hfz43_2
                try clear hfz43_3
                try clear hfz44_0
                try clear hfz44_1
                try clear hfz44_2
                try clear hfz44_3
                try clear hfz45_0
                try clear hfz45_1
                try clear hfz45_2
                try clear hfz45_3
                try clear hfz46_0
                try clear hfz46_1
                try clear hfz46_2
                try clear hfz46_3
                try clear hfz47_0
                try clear hfz47_1
                try clear hfz47_2
                try clear hfz47_3
                try clear hfz49_0
                try clear hfz49_1
                try clear hfz49_2
                try clear hfz49_3
                try clear hfz54_0
                try clear hfz54_1
                try clear hfz54_2
                try clear hfz54_3
                try clear hfz5_0
                try clear hfz5_1
                try clear hfz5_2
                try clear hfz5_3
                try clear hfz7_0
                try clear hfz7_1
                try clear hfz7_2
                try clear hfz7_3
                try clear hfz9_0
                try clear hfz9_1
                try clear hfz9_2
                try clear hfz9_3
                try clear hx209_0
                try clear hx209_1
                try clear hx209_2
                try clear hx209_3
                try clear hx209_4
                try clear hx209_5
                try clear hx209_6
                try clear hx209_7
                try clear hx211_0
                try clear hx211_1
                try clear hx211_2
                try clear hx211_3
                try clear hx211_4
                try clear hx211_5
                try clear hx211_6
                try clear hx211_7
                try clear hx212_0
                try clear hx212_1
                try clear hx212_2
                try clear hx212_3
                try clear hx212_4
                try clear hx212_5
                try clear hx212_6
                try clear hx212_7
                try clear hx213_0
                try clear hx214_0
                try clear hx214_1
                try clear hx214_2
                try clear hx214_3
                try clear hx214_4
                try clear hx214_5
                try clear hx214_6
                try clear hx214_7
                try clear hx215_0
                try clear hx216_0
                try clear hx217_0
                try clear hx218_0
                try clear hx219_0
                try clear hx220_0
                try clear hx220_1
                try clear p2
                try clear p20
                try clear p209
                try clear p21
                try clear p211
                try clear p212
                try clear p213
                try clear p214
                try clear p215
                try clear p216
                try clear p217
                try clear p218
                try clear p219
                try clear p220
                try clear p6
                try clear q2
                try clear q20
                try clear q209
                try clear q21
                try clear q211
                try clear q212
                try clear q213
                try clear q214
                try clear q215
                try clear q216
                try clear q217
                try clear q218
                try clear q219
                try clear q220
                obtain ⟨x9_5, rfl, HA, HK5, BK208, HB⟩ := hrel
                cases gk with
                | zero => exact absurd HA.out (by simp [treelineref20_Check.l4])
                | succ k5 =>
                 have H := HA.out
                 clear HA
                 simp only [treelineref20_Check.l4] at H
                 by_cases c55 : x9_5 < (l0_1.length : Int)
                 ·rw [if_pos c55] at H
                  have c55b0 : decide (x9_5 < (l0_1.length : Int)) = true := decide_eq_true c55
                  clear c55
                  by_cases c56 : 0 ≤ x9_5
                  ·rw [if_pos c56] at H
                   have c56b0 : decide (0 ≤ x9_5) = true := decide_eq_true c56
                   clear c56
                   by_cases c57 : ((rd_T48 l0_1 x9_5).f0) = ((rd_T59 l0_3 x7_4).f0)
                   ·rw [if_pos c57] at H
                    have c57b0 : (((rd_T48 l0_1 x9_5).f0) == ((rd_T59 l0_3 x7_4).f0)) = true := beq_iff_eq.mpr c57
                    have c57b1 : (((rd_T48 l0_1 x9_5).f0) != ((rd_T59 l0_3 x7_4).f0)) = false := bne_eq_false_iff_eq.mpr c57
                    clear c57
                    obtain rfl := Option.some.inj H
                    have hcz58_0 : wr.cell? ⟨gb208, 0, none⟩ = some (.int .i64 a0_0) := (blk_cell BK208.out 0).trans rfl
                    have hcz58_1 : wr.cell? ⟨gb208, 1, none⟩ = some (.slice A0_1 l0_1.length c0_1) := (blk_cell BK208.out 1).trans rfl
                    have hcz58_2 : wr.cell? ⟨gb208, 2, none⟩ = some (.slice A0_2 l0_2.length c0_2) := (blk_cell BK208.out 2).trans rfl
                    have hcz58_3 : wr.cell? ⟨gb208, 3, none⟩ = some (.slice (some ad220) l0_3.length c0_3) := (blk_cell BK208.out 3).trans rfl
                    have hfz58_0 := blk_frozen BK208.out 0
                    have hfz58_1 := blk_frozen BK208.out 1
                    have hfz58_2 := blk_frozen BK208.out 2
                    have hfz58_3 := blk_frozen BK208.out 3
                    have p222 : 0 ≤ (x9_5 : Int) := of_decide_eq_true (by first | (with_reducible assumption) | assumption)
                    have q222 : x9_5 < (l0_1.length : Int) := of_decide_eq_true (by first | (with_reducible assumption) | assumption)
                    obtain ⟨ad222, A222_7, c222_7, e222, hx222_0, hx222_1, hx222_2, hx222_3, hx222_4, hx222_5, hx222_6, hx222_7, hl222_7, hi222_7⟩ := at_T48 HR0_1.out x9_5 p222 q222
                    cases e222
                    replace hx222_0 := (HB.out.cell (World.block_lt_of_cell? w _ hx222_0)).trans hx222_0
                    replace hx222_1 := (HB.out.cell (World.block_lt_of_cell? w _ hx222_1)).trans hx222_1
                    replace hx222_2 := (HB.out.cell (World.block_lt_of_cell? w _ hx222_2)).trans hx222_2
                    replace hx222_3 := (HB.out.cell (World.block_lt_of_cell? w _ hx222_3)).trans hx222_3
                    replace hx222_4 := (HB.out.cell (World.block_lt_of_cell? w _ hx222_4)).trans hx222_4
                    replace hx222_5 := (HB.out.cell (World.block_lt_of_cell? w _ hx222_5)).trans hx222_5
                    replace hx222_6 := (HB.out.cell (World.block_lt_of_cell? w _ hx222_6)).trans hx222_6
                    replace hx222_7 := (HB.out.cell (World.block_lt_of_cell? w _ hx222_7)).trans hx222_7
                    have HR222_7 := Aside0.mk hi222_7
                    have HC222_7 := Aside0.mk hl222_7
                    clear hi222_7 hl222_7
                    replace p222 := eq_true p222
                    replace q222 := eq_true q222
                    go_wp2
                    repeat (go_quiet (fail); try go_wp2)
                    go_ret
                    exact ⟨by first | rfl | (simp [errW_none, errW_some] <;> rfl) | (simp [*, errW_none, errW_some] <;> rfl), by repeat (first | (with_reducible first | exact HB.out | apply below_alloc | apply pw_below_drewN | apply below_drew1 | refine below_set ?_ GE208.out) | exact HB.out)⟩
                   ·rw [if_neg c57] at H
                    have c57b0 : (((rd_T48 l0_1 x9_5).f0) == ((rd_T59 l0_3 x7_4).f0)) = false := beq_eq_false_iff_ne.mpr c57
                    have c57b1 : (((rd_T48 l0_1 x9_5).f0) != ((rd_T59 l0_3 x7_4).f0)) = true := bne_iff_ne.mpr c57
                    have H' := Aside0.mk H
                    clear H
                    have hcz59_0 : wr.cell? ⟨gb208, 0, none⟩ = some (.int .i64 a0_0) := (blk_cell BK208.out 0).trans rfl
                    have hcz59_1 : wr.cell? ⟨gb208, 1, none⟩ = some (.slice A0_1 l0_1.length c0_1) := (blk_cell BK208.out 1).trans rfl
                    have hcz59_2 : wr.cell? ⟨gb208, 2, none⟩ = some (.slice A0_2 l0_2.length c0_2) := (blk_cell BK208.out 2).trans rfl
                    have hcz59_3 : wr.cell? ⟨gb208, 3, none⟩ = some (.slice (some ad220) l0_3.length c0_3) := (blk_cell BK208.out 3).trans rfl
                    have hfz59_0 := blk_frozen BK208.out 0
                    have hfz59_1 := blk_frozen BK208.out 1
                    have hfz59_2 := blk_frozen BK208.out 2
                    have hfz59_3 := blk_frozen BK208.out 3
                    have p222 : 0 ≤ (x9_5 : Int) := of_decide_eq_true (by first | (with_reducible assumption) | assumption)
                    have q222 : x9_5 < (l0_1.length : Int) := of_decide_eq_true (by first | (with_reducible assumption) | assumption)
                    obtain ⟨ad222, A222_7, c222_7, e222, hx222_0, hx222_1, hx222_2, hx222_3, hx222_4, hx222_5, hx222_6, hx222_7, hl222_7, hi222_7⟩ := at_T48 HR0_1.out x9_5 p222 q222
                    cases e222
                    replace hx222_0 := (HB.out.cell (World.block_lt_of_cell? w _ hx222_0)).trans hx222_0
                    replace hx222_1 := (HB.out.cell (World.block_lt_of_cell? w _ hx222_1)).trans hx222_1
                    replace hx222_2 := (HB.out.cell (World.block_lt_of_cell? w _ hx222_2)).trans hx222_2
                    replace hx222_3 := (HB.out.cell (World.block_lt_of_cell? w _ hx222_3)).trans hx222_3
                    replace hx222_4 := (HB.out.cell (World.block_lt_of_cell? w _ hx222_4)).trans hx222_4
                    replace hx222_5 := (HB.out.cell (World.block_lt_of_cell? w _ hx222_5)).trans hx222_5
                    replace hx222_6 := (HB.out.cell (World.block_lt_of_cell? w _ hx222_6)).trans hx222_6
                    replace hx222_7 := (HB.out.cell (World.block_lt_of_cell? w _ hx222_7)).trans hx222_7
                    have HR222_7 := Aside0.mk hi222_7
                    have HC222_7 := Aside0.mk hl222_7
                    clear hi222_7 hl222_7
                    replace p222 := eq_true p222
                    replace q222 := eq_true q222
                    go_wp2
                    repeat (go_quiet (fail); try go_wp2)
                    go_roundg k5
                    case measure => have := HJ1.out; have := HJ11.out; have := HK3.out; have := HK4.out; have := HK5.out; omega
                    case rel => exact ⟨(wrap64 (x9_5 + 1)), (by first | rfl | (simp; done) | (simp [*]; done)), H', ⟨by have := HJ1.out; have := HJ11.out; have := HK3.out; have := HK4.out; have := HK5.out; omega⟩, ⟨by (with_reducible repeat (first | refine blk_drewN ?_ _ | refine blk_drew ?_ | refine blk_alloc ?_ _)); exact BK208.out⟩, ⟨by repeat (first | (with_reducible first | exact HB.out | apply below_alloc | apply pw_below_drewN | apply below_drew1 | refine below_set ?_ GE208.out) | exact HB.out)⟩⟩
                  ·rw [if_neg c56] at H
                   exact absurd H (by simp)
                 ·rw [if_neg c55] at H
                  have c55b0 : decide (x9_5 < (l0_1.length : Int)) = false := decide_eq_false c55
                  clear c55
                  have H' := Aside0.mk H
                  clear H
                  have hcz60_0 : wr.cell? ⟨gb208, 0, none⟩ = some (.int .i64 a0_0) := (blk_cell BK208.out 0).trans rfl
                  have hcz60_1 : wr.cell? ⟨gb208, 1, none⟩ = some (.slice A0_1 l0_1.length c0_1) := (blk_cell BK208.out 1).trans rfl
                  have hcz60_2 : wr.cell? ⟨gb208, 2, none⟩ = some (.slice A0_2 l0_2.length c0_2) := (blk_cell BK208.out 2).trans rfl
                  have hcz60_3 : wr.cell? ⟨gb208, 3, none⟩ = some (.slice (some ad220) l0_3.length c0_3) := (blk_cell BK208.out 3).trans rfl
                  have hfz60_0 := blk_frozen BK208.out 0
                  have hfz60_1 := blk_frozen BK208.out 1
                  have hfz60_2 := blk_frozen BK208.out 2
                  have hfz60_3 := blk_frozen BK208.out 3
                  go_wp2
                  repeat (go_quiet (fail); try go_wp2)
                  go_loopg [10] k5 (fun kq v10 w' => ∃ (x10_6 : Int), v10 = .int .i64 x10_6 ∧ Aside0 (treelineref20_Check.l5 kq x7_4 ((rd_T59 l0_3 x7_4).f0) x10_6 a0_0 l0_1 l0_2 l0_3 = some r) ∧ Aside0 (kq ≤ k5) ∧ Aside0 (w'.heap[gb208]? = some (.cells #[.int .i64 a0_0, (.slice A0_1 l0_1.length c0_1), (.slice A0_2 l0_2.length c0_2), (.slice (some ad220) l0_3.length c0_3)] 26 (0, 0))) ∧ Aside0 (Below w.heap.size w w'))
                  case atStart => exact ⟨(0), (by first | rfl | (simp; done) | (simp [*]; done)), H', ⟨Nat.le_refl _⟩, ⟨by (with_reducible repeat (first | refine blk_drewN ?_ _ | refine blk_drew ?_ | refine blk_alloc ?_ _)); exact BK208.out⟩, ⟨by repeat (first | (with_reducible first | exact HB.out | apply below_alloc | apply pw_below_drewN | apply below_drew1 | refine below_set ?_ GE208.out) | exact HB.out)⟩⟩
                  case round =>
                   clear H'
                   try clear c1
                   try clear c2
                   try clear p2
                   try clear q2
                   try clear hx2
                   try clear c3
                   try clear c4
                   try clear c4b0
                   try clear c5
                   try clear c6
                   try clear c6b0
                   try clear p6
                   try clear c8
                   try clear c8b0
                   try clear c8b1
                   try clear c10
                   try clear c11
                   try clear c13
                   try clear c13b0
                   try clear c13b1
                   try clear c16
                   try clear c17
                   try clear c17b0
                   try clear c18
                   try clear c18b0
                   try clear c20
                   try clear c20b0
                   try clear c20b1
                   try clear p20
                   try clear q20
                   try clear hx20
                   try clear c21
                   try clear p21
                   try clear q21
                   try clear hx21
                   try clear c22
                   try clear p22
                   try clear q22
                   try clear hx22
                   try clear c23
                   try clear c23b0
                   try clear c24
                   try clear c24b0
                   try clear c25
                   try clear c25b0
                   try clear c26
                   try clear c26b0
                   try clear c27
                   try clear c27b0
                   try clear c28
                   try clear c28b0
                   try clear c28b1
                   try clear c31
                   try clear c31b0
                   try clear c32
                   try clear c32b0
                   try clear c33
                   try clear c33b0
                   try clear c34
                   try clear c34b0
                   try clear c34b1
                   try clear c34b2
                   try clear c36
                   try clear c36b0
                   try clear c37
                   try clear c37b0
                   try clear c38
                   try clear c38b0
                   try clear c39
                   try clear c39b0
                   try clear c40
                   try clear c40b0
                   try clear c42
                   try clear c42b0
                   try clear c50
                   try clear c50b0
                   try clear c51
                   try clear c51b0
                   try clear c53
                   try clear c55
                   try clear c55b0
                   try clear c56
                   try clear c56b0
                   try clear c57
                   try clear c57b0
                   try clear c57b1
                   try clear hcz10_0
                   try clear hcz10_1
                   try clear hcz10_2
                   try clear hcz10_3
                   try clear hcz14_0
                   try clear hcz14_1
                   try clear hcz14_2
                   try clear hcz14_3
                   try clear hcz15_0
                   try clear hcz15_1
                   try clear hcz15_2
                   try clear hcz15_3
                   try clear hcz21_0
                   try clear hcz21_1
                   try clear hcz21_2
                   try clear hcz21_3
                   try clear hcz29_0
                   try clear hcz29_1
                   try clear hcz29_2
                   try clear hcz29_3
                   try clear hcz30_0
                   try clear hcz30_1
                   try clear hcz30_2
                   try clear hcz30_3
                   try clear hcz35_0
                   try clear hcz35_1
                   try clear hcz35_2
                   try clear hcz35_3
                   try clear hcz41_0
                   try clear hcz41_1
                   try clear hcz41_2
                   try clear hcz41_3
                   try clear hcz43_0
                   try clear hcz43_1
                   try clear hcz43_2
                   try clear hcz43_3
                   try clear hcz44_0
                   try clear hcz44_1
                   try clear hcz44_2
                   try clear hcz44_3
                   try clear hcz45_0
                   try clear hcz45_1
                   try clear hcz45_2
                   try clear hcz45_3
                   try clear hcz46_0
                   try clear hcz46_1
                   try clear hcz46_2
                   try clear hcz46_3
                   try clear hcz47_0
                   try clear hcz47_1
                   try clear hcz47_2
                   try clear hcz47_3
                   try clear hcz49_0
                   try clear hcz49_1
                   try clear hcz49_2
                   try clear hcz49_3
                   try clear hcz54_0
                   try clear hcz54_1
                   try clear hcz54_2
                   try clear hcz54_3
                   try clear hcz58_0
                   try clear hcz58_1
                   try clear hcz58_2
                   try clear hcz58_3
                   try clear hcz59_0
                   try clear hcz59_1
                   try clear hcz59_2
                   try clear hcz59_3
                   try clear hcz5_0
                   try clear hcz5_1
                   try clear hcz5_2
                   try clear hcz5_3
                   try clear hcz60_0
                   try clear hcz60_1
                   try clear hcz60_2
                   try clear hcz60_3
                   try clear hcz7_0
                   try clear hcz7_1
                   try clear hcz7_2
                   try clear hcz7_3
                   try clear hcz9_0
                   try clear hcz9_1
                   try clear hcz9_2
                   try clear hcz9_3
                   try clear hfz10_0
                   try clear hfz10_1
                   try clear hfz10_2
                   try clear hfz10_3
                   try clear hfz14_0
                   try clear hfz14_1
                   try clear hfz14_2
                   try clear hfz14_3
                   try clear hfz15_0
                   try clear hfz15_1
                   try clear hfz15_2
                   try clear hfz15_3
                   try clear hfz21_0
                   try clear hfz21_1
                   try clear hfz21_2
                   try clear hfz21_3
                   try clear hfz29_0
                   try clear hfz29_1
                   try clear hfz29_2
                   try clear hfz29_3
                   try clear hfz30_0
                   try clear hfz30_1
                   try clear hfz30_2
                   try clear hfz30_3
                   try clear hfz35_0
                   try clear hfz35_1
                   try clear hfz35_2
                   try clear hfz35_3
                   try clear hfz41_0
                   try clear hfz41_1
                   try clear hfz41_2
                   try clear hfz41_3
                   try clear hfz43_0
                   try clear hfz43_1
                   try clear hfz43_2
                   try clear hfz43_3
                   try clear hfz44_0
                   try clear hfz44_1
                   try clear hfz44_2
                   try clear hfz44_3
                   try clear hfz45_0
                   try clear hfz45_1
                   try clear hfz45_2
                   try clear hfz45_3
                   try clear hfz46_0
                   try clear hfz46_1
                   try clear hfz46_2
                   try clear hfz46_3
                   try clear hfz47_0
                   try clear hfz47_1
                   try clear hfz47_2
                   try clear hfz47_3
                   try clear hfz49_0
                   try clear hfz49_1
                   try clear hfz49_2
                   try clear hfz49_3
                   try clear hfz54_0
                   try clear hfz54_1
                   try clear hfz54_2
                   try clear hfz54_3
                   try clear hfz58_0
                   try clear hfz58_1
                   try clear hfz58_2
                   try clear hfz58_3
                   try clear hfz59_0
                   try clear hfz59_1
                   try clear hfz59_2
                   try clear hfz59_3
                   try clear hfz5_0
                   try clear hfz5_1
                   try clear hfz5_2
                   try clear hfz5_3
                   try clear hfz60_0
                   try clear hfz60_1
                   try clear hfz60_2
                   try clear hfz60_3
                   try clear hfz7_0
                   try clear hfz7_1
                   try clear hfz7_2
                   try clear hfz7_3
                   try clear hfz9_0
                   try clear hfz9_1
                   try clear hfz9_2
                   try clear hfz9_3
                   try clear hx209_0
                   try clear hx209_1
                   try clear hx209_2
                   try clear hx209_3
                   try clear hx209_4
                   try clear hx209_5
                   try clear hx209_6
                   try clear hx209_7
                   try clear hx211_0
                   try clear hx211_1
                   try clear hx211_2
                   try clear hx211_3
                   try clear hx211_4
                   try clear hx211_5
                   try clear hx211_6
                   try clear hx211_7
                   try clear hx212_0
                   try clear hx212_1
                   try clear hx212_2
                   try clear hx212_3
                   try clear hx212_4
                   try clear hx212_5
                   try clear hx212_6
                   try clear hx212_7
                   try clear hx213_0
                   try clear hx214_0
                   try clear hx214_1
                   try clear hx214_2
                   try clear hx214_3
                   try clear hx214_4
                   try clear hx214_5
                   try clear hx214_6
                   try clear hx214_7
                   try clear hx215_0
                   try clear hx216_0
                   try clear hx217_0
                   try clear hx218_0
                   try clear hx219_0
                   try clear hx220_0
                   try clear hx220_1
                   try clear hx222_0
                   try clear hx222_1
                   try clear hx222_2
                   try clear hx222_3
                   try clear hx222_4
                   try clear hx222_5
                   try clear hx222_6
                   try clear hx222_7
                   try clear p2
                   try clear p20
                   try clear p209
                   try clear p21
                   try clear p211
                   try clear p212
                   try clear p213
                   try clear p214
                   try clear p215
                   try clear p216
                   try clear p217
                   try clear p218
                   try clear p219
                   try clear p22
                   try clear p220
                   try clear p222
                   try clear p6
                   try clear q2
                   try clear q20
                   try clear q209
                   try clear q21
                   try clear q211
                   try clear q212
                   try clear q213
                   try clear q214
                   try clear q215
                   try clear q216
                   try clear q217
                   try clear q218
                   try clear q219
                   try clear q22
                   try clear q220
                   try clear q222
                   obtain ⟨x10_6, rfl, HA, HK6, BK208, HB⟩ := hrel
                   cases gk with
                   | zero => exact absurd HA.out (by simp [treelineref20_Check.l5])
                   | succ k6 =>
                    have H := HA.out
                    clear HA
                    simp only [treelineref20_Check.l5] at H
                    by_cases c61 : x10_6 < x7_4
                    ·rw [if_pos c61] at H
                     have c61b0 : decide (x10_6 < x7_4) = true := decide_eq_true c61
                     clear c61
                     by_cases c62 : 0 ≤ x10_6
                     ·rw [if_pos c62] at H
                      have c62b0 : decide (0 ≤ x10_6) = true := decide_eq_true c62
                      clear c62
                      by_cases c63 : x10_6 < (l0_3.length : Int)
                      ·rw [if_pos c63] at H
                       have c63b0 : decide (x10_6 < (l0_3.length : Int)) = true := decide_eq_true c63
                       clear c63
                       by_cases c64 : ((rd_T59 l0_3 x10_6).f0) = ((rd_T59 l0_3 x7_4).f0)
                       ·rw [if_pos c64] at H
                        have c64b0 : (((rd_T59 l0_3 x10_6).f0) == ((rd_T59 l0_3 x7_4).f0)) = true := beq_iff_eq.mpr c64
                        have c64b1 : (((rd_T59 l0_3 x10_6).f0) != ((rd_T59 l0_3 x7_4).f0)) = false := bne_eq_false_iff_eq.mpr c64
                        clear c64
                        obtain rfl := Option.some.inj H
                        have hcz65_0 : wr.cell? ⟨gb208, 0, none⟩ = some (.int .i64 a0_0) := (blk_cell BK208.out 0).trans rfl
                        have hcz65_1 : wr.cell? ⟨gb208, 1, none⟩ = some (.slice A0_1 l0_1.length c0_1) := (blk_cell BK208.out 1).trans rfl
                        have hcz65_2 : wr.cell? ⟨gb208, 2, none⟩ = some (.slice A0_2 l0_2.length c0_2) := (blk_cell BK208.out 2).trans rfl
                        have hcz65_3 : wr.cell? ⟨gb208, 3, none⟩ = some (.slice (some ad220) l0_3.length c0_3) := (blk_cell BK208.out 3).trans rfl
                        have hfz65_0 := blk_frozen BK208.out 0
                        have hfz65_1 := blk_frozen BK208.out 1
                        have hfz65_2 := blk_frozen BK208.out 2
                        have hfz65_3 := blk_frozen BK208.out 3
                        have p223 : 0 ≤ (x10_6 : Int) := of_decide_eq_true (by first | (with_reducible assumption) | assumption)
                        have q223 : x10_6 < (l0_3.length : Int) := of_decide_eq_true (by first | (with_reducible assumption) | assumption)
                        obtain ⟨ad223, e223, hx223_0, hx223_1⟩ := at_T59 HR0_3.out x10_6 p223 q223
                        obtain rfl : ad220 = ad223 := (by injection e223)
                        replace hx223_0 := (HB.out.cell (World.block_lt_of_cell? w _ hx223_0)).trans hx223_0
                        replace hx223_1 := (HB.out.cell (World.block_lt_of_cell? w _ hx223_1)).trans hx223_1
                        replace p223 := eq_true p223
                        replace q223 := eq_true q223
                        go_wp2
                        repeat (go_quiet (fail); try go_wp2)
                        go_ret
                        exact ⟨by first | rfl | (simp [errW_none, errW_some] <;> rfl) | (simp [*, errW_none, errW_some] <;> rfl), by repeat (first | (with_reducible first | exact HB.out | apply below_alloc | apply pw_below_drewN | apply below_drew1 | refine below_set ?_ GE208.out) | exact HB.out)⟩
                       ·rw [if_neg c64] at H
                        have c64b0 : (((rd_T59 l0_3 x10_6).f0) == ((rd_T59 l0_3 x7_4).f0)) = false := beq_eq_false_iff_ne.mpr c64
                        have c64b1 : (((rd_T59 l0_3 x10_6).f0) != ((rd_T59 l0_3 x7_4).f0)) = true := bne_iff_ne.mpr c64
                        have H' := Aside0.mk H
                        clear H
                        have hcz66_0 : wr.cell? ⟨gb208, 0, none⟩ = some (.int .i64 a0_0) := (blk_cell BK208.out 0).trans rfl
                        have hcz66_1 : wr.cell? ⟨gb208, 1, none⟩ = some (.slice A0_1 l0_1.length c0_1) := (blk_cell BK208.out 1).trans rfl
                        have hcz66_2 : wr.cell? ⟨gb208, 2, none⟩ = some (.slice A0_2 l0_2.length c0_2) := (blk_cell BK208.out 2).trans rfl
                        have hcz66_3 : wr.cell? ⟨gb208, 3, none⟩ = some (.slice (some ad220) l0_3.length c0_3) := (blk_cell BK208.out 3).trans rfl
                        have hfz66_0 := blk_frozen BK208.out 0
                        have hfz66_1 := blk_frozen BK208.out 1
                        have hfz66_2 := blk_frozen BK208.out 2
                        have hfz66_3 := blk_frozen BK208.out 3
                        have p223 : 0 ≤ (x10_6 : Int) := of_decide_eq_true (by first | (with_reducible assumption) | assumption)
                        have q223 : x10_6 < (l0_3.length : Int) := of_decide_eq_true (by first | (with_reducible assumption) | assumption)
                        obtain ⟨ad223, e223, hx223_0, hx223_1⟩ := at_T59 HR0_3.out x10_6 p223 q223
                        obtain rfl : ad220 = ad223 := (by injection e223)
                        replace hx223_0 := (HB.out.cell (World.block_lt_of_cell? w _ hx223_0)).trans hx223_0
                        replace hx223_1 := (HB.out.cell (World.block_lt_of_cell? w _ hx223_1)).trans hx223_1
                        replace p223 := eq_true p223
                        replace q223 := eq_true q223
                        go_wp2
                        repeat (go_quiet (fail); try go_wp2)
                        go_roundg k6
                        case measure => have := HJ1.out; have := HJ11.out; have := HK3.out; have := HK4.out; have := HK5.out; have := HK6.out; omega
                        case rel => exact ⟨(wrap64 (x10_6 + 1)), (by first | rfl | (simp; done) | (simp [*]; done)), H', ⟨by have := HJ1.out; have := HJ11.out; have := HK3.out; have := HK4.out; have := HK5.out; have := HK6.out; omega⟩, ⟨by (with_reducible repeat (first | refine blk_drewN ?_ _ | refine blk_drew ?_ | refine blk_alloc ?_ _)); exact BK208.out⟩, ⟨by repeat (first | (with_reducible first | exact HB.out | apply below_alloc | apply pw_below_drewN | apply below_drew1 | refine below_set ?_ GE208.out) | exact HB.out)⟩⟩
                      ·rw [if_neg c63] at H
                       exact absurd H (by simp)
                     ·rw [if_neg c62] at H
                      exact absurd H (by simp)
                    ·rw [if_neg c61] at H
                     have c61b0 : decide (x10_6 < x7_4) = false := decide_eq_false c61
                     clear c61
                     by_cases c67 : 0 ≤ x7_4
                     ·rw [if_pos c67] at H
                      have c67b0 : decide (0 ≤ x7_4) = true := decide_eq_true c67
                      clear c67
                      by_cases c68 : x7_4 < (l0_3.length : Int)
                      ·rw [if_pos c68] at H
                       have c68b0 : decide (x7_4 < (l0_3.length : Int)) = true := decide_eq_true c68
                       clear c68
                       by_cases c69 : ((rd_T59 l0_3 x7_4).f1) < 0
                       ·rw [if_pos c69] at H
                        have c69b0 : decide (((rd_T59 l0_3 x7_4).f1) < 0) = true := decide_eq_true c69
                        clear c69
                        obtain rfl := Option.some.inj H
                        have hcz70_0 : wr.cell? ⟨gb208, 0, none⟩ = some (.int .i64 a0_0) := (blk_cell BK208.out 0).trans rfl
                        have hcz70_1 : wr.cell? ⟨gb208, 1, none⟩ = some (.slice A0_1 l0_1.length c0_1) := (blk_cell BK208.out 1).trans rfl
                        have hcz70_2 : wr.cell? ⟨gb208, 2, none⟩ = some (.slice A0_2 l0_2.length c0_2) := (blk_cell BK208.out 2).trans rfl
                        have hcz70_3 : wr.cell? ⟨gb208, 3, none⟩ = some (.slice (some ad220) l0_3.length c0_3) := (blk_cell BK208.out 3).trans rfl
                        have hfz70_0 := blk_frozen BK208.out 0
                        have hfz70_1 := blk_frozen BK208.out 1
                        have hfz70_2 := blk_frozen BK208.out 2
                        have hfz70_3 := blk_frozen BK208.out 3
                        have p224 : 0 ≤ (x7_4 : Int) := of_decide_eq_true (by first | (with_reducible assumption) | assumption)
                        have q224 : x7_4 < (l0_3.length : Int) := of_decide_eq_true (by first | (with_reducible assumption) | assumption)
                        obtain ⟨ad224, e224, hx224_0, hx224_1⟩ := at_T59 HR0_3.out x7_4 p224 q224
                        obtain rfl : ad220 = ad224 := (by injection e224)
                        replace hx224_0 := (HB.out.cell (World.block_lt_of_cell? w _ hx224_0)).trans hx224_0
                        replace hx224_1 := (HB.out.cell (World.block_lt_of_cell? w _ hx224_1)).trans hx224_1
                        replace p224 := eq_true p224
                        replace q224 := eq_true q224
                        go_wp2
                        repeat (go_quiet (fail); try go_wp2)
                        go_ret
                        exact ⟨by first | rfl | (simp [errW_none, errW_some] <;> rfl) | (simp [*, errW_none, errW_some] <;> rfl), by repeat (first | (with_reducible first | exact HB.out | apply below_alloc | apply pw_below_drewN | apply below_drew1 | refine below_set ?_ GE208.out) | exact HB.out)⟩
                       ·rw [if_neg c69] at H
                        have c69b0 : decide (((rd_T59 l0_3 x7_4).f1) < 0) = false := decide_eq_false c69
                        clear c69
                        by_cases c71 : ((rd_T59 l0_3 x7_4).f1) ≥ a0_0
                        ·rw [if_pos c71] at H
                         have c71b0 : decide (a0_0 ≤ ((rd_T59 l0_3 x7_4).f1)) = true := decide_eq_true c71
                         clear c71
                         obtain rfl := Option.some.inj H
                         have hcz72_0 : wr.cell? ⟨gb208, 0, none⟩ = some (.int .i64 a0_0) := (blk_cell BK208.out 0).trans rfl
                         have hcz72_1 : wr.cell? ⟨gb208, 1, none⟩ = some (.slice A0_1 l0_1.length c0_1) := (blk_cell BK208.out 1).trans rfl
                         have hcz72_2 : wr.cell? ⟨gb208, 2, none⟩ = some (.slice A0_2 l0_2.length c0_2) := (blk_cell BK208.out 2).trans rfl
                         have hcz72_3 : wr.cell? ⟨gb208, 3, none⟩ = some (.slice (some ad220) l0_3.length c0_3) := (blk_cell BK208.out 3).trans rfl
                         have hfz72_0 := blk_frozen BK208.out 0
                         have hfz72_1 := blk_frozen BK208.out 1
                         have hfz72_2 := blk_frozen BK208.out 2
                         have hfz72_3 := blk_frozen BK208.out 3
                         have p224 : 0 ≤ (x7_4 : Int) := of_decide_eq_true (by first | (with_reducible assumption) | assumption)
                         have q224 : x7_4 < (l0_3.length : Int) := of_decide_eq_true (by first | (with_reducible assumption) | assumption)
                         obtain ⟨ad224, e224, hx224_0, hx224_1⟩ := at_T59 HR0_3.out x7_4 p224 q224
                         obtain rfl : ad220 = ad224 := (by injection e224)
                         replace hx224_0 := (HB.out.cell (World.block_lt_of_cell? w _ hx224_0)).trans hx224_0
                         replace hx224_1 := (HB.out.cell (World.block_lt_of_cell? w _ hx224_1)).trans hx224_1
                         replace p224 := eq_true p224
                         replace q224 := eq_true q224
                         have p225 : 0 ≤ (x7_4 : Int) := of_decide_eq_true (by first | (with_reducible assumption) | assumption)
                         have q225 : x7_4 < (l0_3.length : Int) := of_decide_eq_true (by first | (with_reducible assumption) | assumption)
                         obtain ⟨ad225, e225, hx225_0, hx225_1⟩ := at_T59 HR0_3.out x7_4 p225 q225
                         obtain rfl : ad220 = ad225 := (by injection e225)
                         replace hx225_0 := (HB.out.cell (World.block_lt_of_cell? w _ hx225_0)).trans hx225_0
                         replace hx225_1 := (HB.out.cell (World.block_lt_of_cell? w _ hx225_1)).trans hx225_1
                         replace p225 := eq_true p225
                         replace q225 := eq_true q225
                         go_wp2
                         repeat (go_quiet (fail); try go_wp2)
                         go_ret
                         exact ⟨by first | rfl | (simp [errW_none, errW_some] <;> rfl) | (simp [*, errW_none, errW_some] <;> rfl), by repeat (first | (with_reducible first | exact HB.out | apply below_alloc | apply pw_below_drewN | apply below_drew1 | refine below_set ?_ GE208.out) | exact HB.out)⟩
                        ·rw [if_neg c71] at H
                         have c71b0 : decide (a0_0 ≤ ((rd_T59 l0_3 x7_4).f1)) = false := decide_eq_false c71
                         clear c71
                         have H' := Aside0.mk H
                         clear H
                         have hcz73_0 : wr.cell? ⟨gb208, 0, none⟩ = some (.int .i64 a0_0) := (blk_cell BK208.out 0).trans rfl
                         have hcz73_1 : wr.cell? ⟨gb208, 1, none⟩ = some (.slice A0_1 l0_1.length c0_1) := (blk_cell BK208.out 1).trans rfl
                         have hcz73_2 : wr.cell? ⟨gb208, 2, none⟩ = some (.slice A0_2 l0_2.length c0_2) := (blk_cell BK208.out 2).trans rfl
                         have hcz73_3 : wr.cell? ⟨gb208, 3, none⟩ = some (.slice (some ad220) l0_3.length c0_3) := (blk_cell BK208.out 3).trans rfl
                         have hfz73_0 := blk_frozen BK208.out 0
                         have hfz73_1 := blk_frozen BK208.out 1
                         have hfz73_2 := blk_frozen BK208.out 2
                         have hfz73_3 := blk_frozen BK208.out 3
                         have p224 : 0 ≤ (x7_4 : Int) := of_decide_eq_true (by first | (with_reducible assumption) | assumption)
                         have q224 : x7_4 < (l0_3.length : Int) := of_decide_eq_true (by first | (with_reducible assumption) | assumption)
                         obtain ⟨ad224, e224, hx224_0, hx224_1⟩ := at_T59 HR0_3.out x7_4 p224 q224
                         obtain rfl : ad220 = ad224 := (by injection e224)
                         replace hx224_0 := (HB.out.cell (World.block_lt_of_cell? w _ hx224_0)).trans hx224_0
                         replace hx224_1 := (HB.out.cell (World.block_lt_of_cell? w _ hx224_1)).trans hx224_1
                         replace p224 := eq_true p224
                         replace q224 := eq_true q224
                         have p225 : 0 ≤ (x7_4 : Int) := of_decide_eq_true (by first | (with_reducible assumption) | assumption)
                         have q225 : x7_4 < (l0_3.length : Int) := of_decide_eq_true (by first | (with_reducible assumption) | assumption)
                         obtain ⟨ad225, e225, hx225_0, hx225_1⟩ := at_T59 HR0_3.out x7_4 p225 q225
                         obtain rfl : ad220 = ad225 := (by injection e225)
                         replace hx225_0 := (HB.out.cell (World.block_lt_of_cell? w _ hx225_0)).trans hx225_0
                         replace hx225_1 := (HB.out.cell (World.block_lt_of_cell? w _ hx225_1)).trans hx225_1
                         replace p225 := eq_true p225
                         replace q225 := eq_true q225
                         go_wp2
                         repeat (go_quiet (fail); try go_wp2)
                         go_roundg k6
                         case measure => have := HJ1.out; have := HJ11.out; have := HK3.out; have := HK4.out; have := HK5.out; have := HK6.out; omega
                         case rel => exact ⟨(wrap64 (x7_4 + 1)), (by first | rfl | (simp; done) | (simp [*]; done)), H', ⟨by have := HJ1.out; have := HJ11.out; have := HK3.out; have := HK4.out; have := HK5.out; have := HK6.out; omega⟩, ⟨by (with_reducible repeat (first | refine blk_drewN ?_ _ | refine blk_drew ?_ | refine blk_alloc ?_ _)); exact BK208.out⟩, ⟨by repeat (first | (with_reducible first | exact HB.out | apply below_alloc | apply pw_below_drewN | apply below_drew1 | refine below_set ?_ GE208.out) | exact HB.out)⟩⟩
                      ·rw [if_neg c68] at H
                       exact absurd H (by simp)
                     ·rw [if_neg c67] at H
                      exact absurd H (by simp)
              ·replace c53 := Bool.eq_false_iff.mpr c53
               subst c53
               have H1 : (some 1) = some r := by rw [if_neg (show ¬ (false = true) by decide)] at H; exact H
               clear H
               have H := H1
               clear H1
               obtain rfl := Option.some.inj H
               have hcz74_0 : wr.cell? ⟨gb208, 0, none⟩ = some (.int .i64 a0_0) := (blk_cell BK208.out 0).trans rfl
               have hcz74_1 : wr.cell? ⟨gb208, 1, none⟩ = some (.slice A0_1 l0_1.length c0_1) := (blk_cell BK208.out 1).trans rfl
               have hcz74_2 : wr.cell? ⟨gb208, 2, none⟩ = some (.slice A0_2 l0_2.length c0_2) := (blk_cell BK208.out 2).trans rfl
               have hcz74_3 : wr.cell? ⟨gb208, 3, none⟩ = some (.slice A0_3 l0_3.length c0_3) := (blk_cell BK208.out 3).trans rfl
               have hfz74_0 := blk_frozen BK208.out 0
               have hfz74_1 := blk_frozen BK208.out 1
               have hfz74_2 := blk_frozen BK208.out 2
               have hfz74_3 := blk_frozen BK208.out 3
               have p220 : 0 ≤ (x7_4 : Int) := of_decide_eq_true (by first | (with_reducible assumption) | assumption)
               have q220 : x7_4 < (l0_3.length : Int) := of_decide_eq_true (by first | (with_reducible assumption) | assumption)
               obtain ⟨ad220, e220, hx220_0, hx220_1⟩ := at_T59 HR0_3.out x7_4 p220 q220
               cases e220
               replace hx220_0 := (HB.out.cell (World.block_lt_of_cell? w _ hx220_0)).trans hx220_0
               replace hx220_1 := (HB.out.cell (World.block_lt_of_cell? w _ hx220_1)).trans hx220_1
               replace p220 := eq_true p220
               replace q220 := eq_true q220
               go_wp2_with (first | (go_at_call 23; (with_reducible refine (treelineref01_Right.calls ((rd_T59 l0_3 x7_4).f0) false _ A52.out).mono ?_); rintro e w' ⟨rfl, ⟨nd, rfl⟩⟩; (try first | exact ⟨rfl, _, World.drewN_drewN _ _ _⟩ | exact ⟨rfl, _, Eq.trans (World.drewN_drewN _ _ _) (congrArg (World.drewN _) (Nat.add_assoc _ _ _))⟩)))
               repeat (go_quiet (fail); try go_wp2)
               go_ret
               exact ⟨by first | rfl | (simp [errW_none, errW_some] <;> rfl) | (simp [*, errW_none, errW_some] <;> rfl), by repeat (first | (with_reducible first | exact HB.out | apply below_alloc | apply pw_below_drewN | apply below_drew1 | refine below_set ?_ GE208.out) | exact HB.out)⟩
             ·rw [if_neg c51] at H
              exact absurd H (by simp)
            ·rw [if_neg c50] at H
             have c50b0 : decide (x7_4 < (l0_3.length : Int)) = false := decide_eq_false c50
             clear c50
             obtain rfl := Option.some.inj H
             have hcz75_0 : wr.cell? ⟨gb208, 0, none⟩ = some (.int .i64 a0_0) := (blk_cell BK208.out 0).trans rfl
             have hcz75_1 : wr.cell? ⟨gb208, 1, none⟩ = some (.slice A0_1 l0_1.length c0_1) := (blk_cell BK208.out 1).trans rfl
             have hcz75_2 : wr.cell? ⟨gb208, 2, none⟩ = some (.slice A0_2 l0_2.length c0_2) := (blk_cell BK208.out 2).trans rfl
             have hcz75_3 : wr.cell? ⟨gb208, 3, none⟩ = some (.slice A0_3 l0_3.length c0_3) := (blk_cell BK208.out 3).trans rfl
             have hfz75_0 := blk_frozen BK208.out 0
             have hfz75_1 := blk_frozen BK208.out 1
             have hfz75_2 := blk_frozen BK208.out 2
             have hfz75_3 := blk_frozen BK208.out 3
             go_wp2
             repeat (go_quiet (fail); try go_wp2)
             go_ret
             exact ⟨by first | rfl | (simp [errW_none, errW_some] <;> rfl) | (simp [*, errW_none, errW_some] <;> rfl), by repeat (first | (with_reducible first | exact HB.out | apply below_alloc | apply pw_below_drewN | apply below_drew1 | refine below_set ?_ GE208.out) | exact HB.out)⟩


end Go.Proofs.Ytkgfpagfmdefgaa.OTopoChecks
