/- What Go functions that the law ScriptMay uses come to, and why: part 17. Made out of the kit's print by a program of this session (wip/tools/stub.py, splice.py), functions that it does not take told by hand. -/
import Derived.Test.YtiikllgppmmiaaaDoorOScriptMayx16
namespace Go.Proofs.YtiikllgppmmiaaaDoor.OScriptMay
open Go.RowKit Go.Proofs.YtiikllgppmmiaaaDoorW.PrintWords Go.Proofs.YtiikllgppmmiaaaDoorW.PrintLast Go.Proofs.YtiikllgppmmiaaaDoorW.PrintMore
attribute [local go_sem] max2_int min2_int max_two min_two max_three min_three max_four min_four   -- for this text's walks alone
set_option linter.unusedVariables false
set_option linter.unusedSimpArgs false

/-! ### treelineref20_Check: function 13 -/
mutual
def treelineref20_Check.j0 : Nat → Bool → Int → List (S51) → List (List Int) → List (S66) → Option (Int)
  | 0, _, _, _, _, _ => none
  | k + 1, x33, x313000, x313001, x313002, x313003 => if x33 = true then (some 1) else (if (x313001.length : Int) > 6 then (treelineref20_Check.j1 k true x313000 x313001 x313002 x313003) else (treelineref20_Check.j1 k (decide ((x313003.length : Int) > 8)) x313000 x313001 x313002 x313003))
def treelineref20_Check.j1 : Nat → Bool → Int → List (S51) → List (List Int) → List (S66) → Option (Int)
  | 0, _, _, _, _, _ => none
  | k + 1, x43, x313000, x313001, x313002, x313003 => if x43 = true then (some 4) else (treelineref20_Check.l0 k 0 x313000 x313001 x313002 x313003)
def treelineref20_Check.l0 : Nat → Int → Int → List (S51) → List (List Int) → List (S66) → Option (Int)
  | 0, _, _, _, _, _ => none
  | k + 1, x3, x313000, x313001, x313002, x313003 => if x3 < (x313001.length : Int) then (if 0 ≤ x3 then ((treelineref11_Check.f k ((rd_T51 x313001 x3).f0) ((rd_T51 x313001 x3).f1) ((rd_T51 x313001 x3).f2) ((rd_T51 x313001 x3).f3) ((rd_T51 x313001 x3).f4) ((rd_T51 x313001 x3).f5) ((rd_T51 x313001 x3).f6) ((rd_T51 x313001 x3).f7)).bind fun t314 => (if t314 = 0 then (treelineref20_Check.l1 k x3 0 x313000 x313001 x313002 x313003) else (some t314))) else (none)) else (treelineref20_Check.l3 k 0 x313000 x313001 x313002 x313003)
def treelineref20_Check.l1 : Nat → Int → Int → Int → List (S51) → List (List Int) → List (S66) → Option (Int)
  | 0, _, _, _, _, _, _ => none
  | k + 1, x3, x5, x313000, x313001, x313002, x313003 => if x5 < x3 then (if 0 ≤ x5 then (if x5 < (x313001.length : Int) then (if 0 ≤ x3 then (if x3 < (x313001.length : Int) then (if ((rd_T51 x313001 x5).f0) = ((rd_T51 x313001 x3).f0) then (some 9) else (treelineref20_Check.l1 k x3 (wrap64 (x5 + 1)) x313000 x313001 x313002 x313003)) else (none)) else (none)) else (none)) else (none)) else (if 0 ≤ x3 then (if x3 < (x313002.length : Int) then (if x3 < (x313001.length : Int) then (if ((rd_L9 x313002 x3).length : Int) = (((rd_T51 x313001 x3).f7).length : Int) then (treelineref20_Check.l2 k x3 0 x313000 x313001 x313002 x313003) else (some 1)) else (none)) else (none)) else (none))
def treelineref20_Check.l2 : Nat → Int → Int → Int → List (S51) → List (List Int) → List (S66) → Option (Int)
  | 0, _, _, _, _, _, _ => none
  | k + 1, x3, x6, x313000, x313001, x313002, x313003 => if 0 ≤ x3 then (if x3 < (x313002.length : Int) then (if x6 < ((rd_L9 x313002 x3).length : Int) then (if 0 ≤ x6 then (if (rd (rd_L9 x313002 x3) x6) < 0 then (some 8) else (if (rd (rd_L9 x313002 x3) x6) ≥ x313000 then (some 8) else (treelineref20_Check.l2 k x3 (wrap64 (x6 + 1)) x313000 x313001 x313002 x313003))) else (none)) else (treelineref20_Check.l0 k (wrap64 (x3 + 1)) x313000 x313001 x313002 x313003)) else (none)) else (none)
def treelineref20_Check.l3 : Nat → Int → Int → List (S51) → List (List Int) → List (S66) → Option (Int)
  | 0, _, _, _, _, _ => none
  | k + 1, x7, x313000, x313001, x313002, x313003 => if x7 < (x313003.length : Int) then (if 0 ≤ x7 then ((treelineref01_Right.f ((rd_T66 x313003 x7).f0)).bind fun t325 => (if t325 = true then (treelineref20_Check.l4 k x7 ((rd_T66 x313003 x7).f0) 0 x313000 x313001 x313002 x313003) else (some 1))) else (none)) else (some 0)
def treelineref20_Check.l4 : Nat → Int → Int → Int → Int → List (S51) → List (List Int) → List (S66) → Option (Int)
  | 0, _, _, _, _, _, _, _ => none
  | k + 1, x7, x8, x9, x313000, x313001, x313002, x313003 => if x9 < (x313001.length : Int) then (if 0 ≤ x9 then (if ((rd_T51 x313001 x9).f0) = x8 then (some 9) else (treelineref20_Check.l4 k x7 x8 (wrap64 (x9 + 1)) x313000 x313001 x313002 x313003)) else (none)) else (treelineref20_Check.l5 k x7 x8 0 x313000 x313001 x313002 x313003)
def treelineref20_Check.l5 : Nat → Int → Int → Int → Int → List (S51) → List (List Int) → List (S66) → Option (Int)
  | 0, _, _, _, _, _, _, _ => none
  | k + 1, x7, x8, x10, x313000, x313001, x313002, x313003 => if x10 < x7 then (if 0 ≤ x10 then (if x10 < (x313003.length : Int) then (if ((rd_T66 x313003 x10).f0) = x8 then (some 9) else (treelineref20_Check.l5 k x7 x8 (wrap64 (x10 + 1)) x313000 x313001 x313002 x313003)) else (none)) else (none)) else (if 0 ≤ x7 then (if x7 < (x313003.length : Int) then (if ((rd_T66 x313003 x7).f1) < 0 then (some 8) else (if ((rd_T66 x313003 x7).f1) ≥ x313000 then (some 8) else (treelineref20_Check.l3 k (wrap64 (x7 + 1)) x313000 x313001 x313002 x313003))) else (none)) else (none))
end
def treelineref20_Check.f (k : Nat) (a0_0 : Int) (l0_1 : List (S51)) (l0_2 : List (List Int)) (l0_3 : List (S66)) : Option (Int) := if a0_0 < 1 then (treelineref20_Check.j0 k true a0_0 l0_1 l0_2 l0_3) else (if a0_0 > 8 then (treelineref20_Check.j0 k true a0_0 l0_1 l0_2 l0_3) else (if (l0_1.length : Int) < 1 then (treelineref20_Check.j0 k true a0_0 l0_1 l0_2 l0_3) else (treelineref20_Check.j0 k ((l0_1.length : Int) != (l0_2.length : Int)) a0_0 l0_1 l0_2 l0_3)))
theorem treelineref20_Check.mono_l : ∀ k, (∀ y0 y1 y2 y3 y4, LeO (treelineref20_Check.j0 k y0 y1 y2 y3 y4) (treelineref20_Check.j0 (k + 1) y0 y1 y2 y3 y4)) ∧ (∀ y0 y1 y2 y3 y4, LeO (treelineref20_Check.j1 k y0 y1 y2 y3 y4) (treelineref20_Check.j1 (k + 1) y0 y1 y2 y3 y4)) ∧ (∀ y0 y1 y2 y3 y4, LeO (treelineref20_Check.l0 k y0 y1 y2 y3 y4) (treelineref20_Check.l0 (k + 1) y0 y1 y2 y3 y4)) ∧ (∀ y0 y1 y2 y3 y4 y5, LeO (treelineref20_Check.l1 k y0 y1 y2 y3 y4 y5) (treelineref20_Check.l1 (k + 1) y0 y1 y2 y3 y4 y5)) ∧ (∀ y0 y1 y2 y3 y4 y5, LeO (treelineref20_Check.l2 k y0 y1 y2 y3 y4 y5) (treelineref20_Check.l2 (k + 1) y0 y1 y2 y3 y4 y5)) ∧ (∀ y0 y1 y2 y3 y4, LeO (treelineref20_Check.l3 k y0 y1 y2 y3 y4) (treelineref20_Check.l3 (k + 1) y0 y1 y2 y3 y4)) ∧ (∀ y0 y1 y2 y3 y4 y5 y6, LeO (treelineref20_Check.l4 k y0 y1 y2 y3 y4 y5 y6) (treelineref20_Check.l4 (k + 1) y0 y1 y2 y3 y4 y5 y6)) ∧ (∀ y0 y1 y2 y3 y4 y5 y6, LeO (treelineref20_Check.l5 k y0 y1 y2 y3 y4 y5 y6) (treelineref20_Check.l5 (k + 1) y0 y1 y2 y3 y4 y5 y6))
  | 0 => ⟨fun _ _ _ _ _ r h => by simp [treelineref20_Check.j0] at h, fun _ _ _ _ _ r h => by simp [treelineref20_Check.j1] at h, fun _ _ _ _ _ r h => by simp [treelineref20_Check.l0] at h, fun _ _ _ _ _ _ r h => by simp [treelineref20_Check.l1] at h, fun _ _ _ _ _ _ r h => by simp [treelineref20_Check.l2] at h, fun _ _ _ _ _ r h => by simp [treelineref20_Check.l3] at h, fun _ _ _ _ _ _ _ r h => by simp [treelineref20_Check.l4] at h, fun _ _ _ _ _ _ _ r h => by simp [treelineref20_Check.l5] at h⟩
  | k + 1 => by
    obtain ⟨ih0, ih1, ih2, ih3, ih4, ih5, ih6, ih7⟩ := treelineref20_Check.mono_l k
    refine ⟨?_, ?_, ?_, ?_, ?_, ?_, ?_, ?_⟩
    · intro y0 y1 y2 y3 y4
      unfold treelineref20_Check.j0
      repeat' first
      | (with_reducible exact ih0 _ _ _ _ _)
      | (with_reducible exact ih1 _ _ _ _ _)
      | (with_reducible exact ih2 _ _ _ _ _)
      | (with_reducible exact ih3 _ _ _ _ _ _)
      | (with_reducible exact ih4 _ _ _ _ _ _)
      | (with_reducible exact ih5 _ _ _ _ _)
      | (with_reducible exact ih6 _ _ _ _ _ _ _)
      | (with_reducible exact ih7 _ _ _ _ _ _ _)
      | (with_reducible exact treelineref11_Check.mono _ _ _ _ _ _ _ _ _)
      | (with_reducible exact LeO.refl _)
      | (with_reducible exact LeO.none _)
      | (with_reducible refine LeO.ite ?_ ?_)
      | (with_reducible refine LeO.bind ?_ (fun _ => ?_))
      | exact ih0 _ _ _ _ _
      | exact ih1 _ _ _ _ _
      | exact ih2 _ _ _ _ _
      | exact ih3 _ _ _ _ _ _
      | exact ih4 _ _ _ _ _ _
      | exact ih5 _ _ _ _ _
      | exact ih6 _ _ _ _ _ _ _
      | exact ih7 _ _ _ _ _ _ _
      | exact treelineref11_Check.mono _ _ _ _ _ _ _ _ _
      | exact LeO.none _
      | refine LeO.ite ?_ ?_
      | refine LeO.bind ?_ (fun _ => ?_)
    · intro y0 y1 y2 y3 y4
      unfold treelineref20_Check.j1
      repeat' first
      | (with_reducible exact ih0 _ _ _ _ _)
      | (with_reducible exact ih1 _ _ _ _ _)
      | (with_reducible exact ih2 _ _ _ _ _)
      | (with_reducible exact ih3 _ _ _ _ _ _)
      | (with_reducible exact ih4 _ _ _ _ _ _)
      | (with_reducible exact ih5 _ _ _ _ _)
      | (with_reducible exact ih6 _ _ _ _ _ _ _)
      | (with_reducible exact ih7 _ _ _ _ _ _ _)
      | (with_reducible exact treelineref11_Check.mono _ _ _ _ _ _ _ _ _)
      | (with_reducible exact LeO.refl _)
      | (with_reducible exact LeO.none _)
      | (with_reducible refine LeO.ite ?_ ?_)
      | (with_reducible refine LeO.bind ?_ (fun _ => ?_))
      | exact ih0 _ _ _ _ _
      | exact ih1 _ _ _ _ _
      | exact ih2 _ _ _ _ _
      | exact ih3 _ _ _ _ _ _
      | exact ih4 _ _ _ _ _ _
      | exact ih5 _ _ _ _ _
      | exact ih6 _ _ _ _ _ _ _
      | exact ih7 _ _ _ _ _ _ _
      | exact treelineref11_Check.mono _ _ _ _ _ _ _ _ _
      | exact LeO.none _
      | refine LeO.ite ?_ ?_
      | refine LeO.bind ?_ (fun _ => ?_)
    · intro y0 y1 y2 y3 y4
      unfold treelineref20_Check.l0
      repeat' first
      | (with_reducible exact ih0 _ _ _ _ _)
      | (with_reducible exact ih1 _ _ _ _ _)
      | (with_reducible exact ih2 _ _ _ _ _)
      | (with_reducible exact ih3 _ _ _ _ _ _)
      | (with_reducible exact ih4 _ _ _ _ _ _)
      | (with_reducible exact ih5 _ _ _ _ _)
      | (with_reducible exact ih6 _ _ _ _ _ _ _)
      | (with_reducible exact ih7 _ _ _ _ _ _ _)
      | (with_reducible exact treelineref11_Check.mono _ _ _ _ _ _ _ _ _)
      | (with_reducible exact LeO.refl _)
      | (with_reducible exact LeO.none _)
      | (with_reducible refine LeO.ite ?_ ?_)
      | (with_reducible refine LeO.bind ?_ (fun _ => ?_))
      | exact ih0 _ _ _ _ _
      | exact ih1 _ _ _ _ _
      | exact ih2 _ _ _ _ _
      | exact ih3 _ _ _ _ _ _
      | exact ih4 _ _ _ _ _ _
      | exact ih5 _ _ _ _ _
      | exact ih6 _ _ _ _ _ _ _
      | exact ih7 _ _ _ _ _ _ _
      | exact treelineref11_Check.mono _ _ _ _ _ _ _ _ _
      | exact LeO.none _
      | refine LeO.ite ?_ ?_
      | refine LeO.bind ?_ (fun _ => ?_)
    · intro y0 y1 y2 y3 y4 y5
      unfold treelineref20_Check.l1
      repeat' first
      | (with_reducible exact ih0 _ _ _ _ _)
      | (with_reducible exact ih1 _ _ _ _ _)
      | (with_reducible exact ih2 _ _ _ _ _)
      | (with_reducible exact ih3 _ _ _ _ _ _)
      | (with_reducible exact ih4 _ _ _ _ _ _)
      | (with_reducible exact ih5 _ _ _ _ _)
      | (with_reducible exact ih6 _ _ _ _ _ _ _)
      | (with_reducible exact ih7 _ _ _ _ _ _ _)
      | (with_reducible exact treelineref11_Check.mono _ _ _ _ _ _ _ _ _)
      | (with_reducible exact LeO.refl _)
      | (with_reducible exact LeO.none _)
      | (with_reducible refine LeO.ite ?_ ?_)
      | (with_reducible refine LeO.bind ?_ (fun _ => ?_))
      | exact ih0 _ _ _ _ _
      | exact ih1 _ _ _ _ _
      | exact ih2 _ _ _ _ _
      | exact ih3 _ _ _ _ _ _
      | exact ih4 _ _ _ _ _ _
      | exact ih5 _ _ _ _ _
      | exact ih6 _ _ _ _ _ _ _
      | exact ih7 _ _ _ _ _ _ _
      | exact treelineref11_Check.mono _ _ _ _ _ _ _ _ _
      | exact LeO.none _
      | refine LeO.ite ?_ ?_
      | refine LeO.bind ?_ (fun _ => ?_)
    · intro y0 y1 y2 y3 y4 y5
      unfold treelineref20_Check.l2
      repeat' first
      | (with_reducible exact ih0 _ _ _ _ _)
      | (with_reducible exact ih1 _ _ _ _ _)
      | (with_reducible exact ih2 _ _ _ _ _)
      | (with_reducible exact ih3 _ _ _ _ _ _)
      | (with_reducible exact ih4 _ _ _ _ _ _)
      | (with_reducible exact ih5 _ _ _ _ _)
      | (with_reducible exact ih6 _ _ _ _ _ _ _)
      | (with_reducible exact ih7 _ _ _ _ _ _ _)
      | (with_reducible exact treelineref11_Check.mono _ _ _ _ _ _ _ _ _)
      | (with_reducible exact LeO.refl _)
      | (with_reducible exact LeO.none _)
      | (with_reducible refine LeO.ite ?_ ?_)
      | (with_reducible refine LeO.bind ?_ (fun _ => ?_))
      | exact ih0 _ _ _ _ _
      | exact ih1 _ _ _ _ _
      | exact ih2 _ _ _ _ _
      | exact ih3 _ _ _ _ _ _
      | exact ih4 _ _ _ _ _ _
      | exact ih5 _ _ _ _ _
      | exact ih6 _ _ _ _ _ _ _
      | exact ih7 _ _ _ _ _ _ _
      | exact treelineref11_Check.mono _ _ _ _ _ _ _ _ _
      | exact LeO.none _
      | refine LeO.ite ?_ ?_
      | refine LeO.bind ?_ (fun _ => ?_)
    · intro y0 y1 y2 y3 y4
      unfold treelineref20_Check.l3
      repeat' first
      | (with_reducible exact ih0 _ _ _ _ _)
      | (with_reducible exact ih1 _ _ _ _ _)
      | (with_reducible exact ih2 _ _ _ _ _)
      | (with_reducible exact ih3 _ _ _ _ _ _)
      | (with_reducible exact ih4 _ _ _ _ _ _)
      | (with_reducible exact ih5 _ _ _ _ _)
      | (with_reducible exact ih6 _ _ _ _ _ _ _)
      | (with_reducible exact ih7 _ _ _ _ _ _ _)
      | (with_reducible exact treelineref11_Check.mono _ _ _ _ _ _ _ _ _)
      | (with_reducible exact LeO.refl _)
      | (with_reducible exact LeO.none _)
      | (with_reducible refine LeO.ite ?_ ?_)
      | (with_reducible refine LeO.bind ?_ (fun _ => ?_))
      | exact ih0 _ _ _ _ _
      | exact ih1 _ _ _ _ _
      | exact ih2 _ _ _ _ _
      | exact ih3 _ _ _ _ _ _
      | exact ih4 _ _ _ _ _ _
      | exact ih5 _ _ _ _ _
      | exact ih6 _ _ _ _ _ _ _
      | exact ih7 _ _ _ _ _ _ _
      | exact treelineref11_Check.mono _ _ _ _ _ _ _ _ _
      | exact LeO.none _
      | refine LeO.ite ?_ ?_
      | refine LeO.bind ?_ (fun _ => ?_)
    · intro y0 y1 y2 y3 y4 y5 y6
      unfold treelineref20_Check.l4
      repeat' first
      | (with_reducible exact ih0 _ _ _ _ _)
      | (with_reducible exact ih1 _ _ _ _ _)
      | (with_reducible exact ih2 _ _ _ _ _)
      | (with_reducible exact ih3 _ _ _ _ _ _)
      | (with_reducible exact ih4 _ _ _ _ _ _)
      | (with_reducible exact ih5 _ _ _ _ _)
      | (with_reducible exact ih6 _ _ _ _ _ _ _)
      | (with_reducible exact ih7 _ _ _ _ _ _ _)
      | (with_reducible exact treelineref11_Check.mono _ _ _ _ _ _ _ _ _)
      | (with_reducible exact LeO.refl _)
      | (with_reducible exact LeO.none _)
      | (with_reducible refine LeO.ite ?_ ?_)
      | (with_reducible refine LeO.bind ?_ (fun _ => ?_))
      | exact ih0 _ _ _ _ _
      | exact ih1 _ _ _ _ _
      | exact ih2 _ _ _ _ _
      | exact ih3 _ _ _ _ _ _
      | exact ih4 _ _ _ _ _ _
      | exact ih5 _ _ _ _ _
      | exact ih6 _ _ _ _ _ _ _
      | exact ih7 _ _ _ _ _ _ _
      | exact treelineref11_Check.mono _ _ _ _ _ _ _ _ _
      | exact LeO.none _
      | refine LeO.ite ?_ ?_
      | refine LeO.bind ?_ (fun _ => ?_)
    · intro y0 y1 y2 y3 y4 y5 y6
      unfold treelineref20_Check.l5
      repeat' first
      | (with_reducible exact ih0 _ _ _ _ _)
      | (with_reducible exact ih1 _ _ _ _ _)
      | (with_reducible exact ih2 _ _ _ _ _)
      | (with_reducible exact ih3 _ _ _ _ _ _)
      | (with_reducible exact ih4 _ _ _ _ _ _)
      | (with_reducible exact ih5 _ _ _ _ _)
      | (with_reducible exact ih6 _ _ _ _ _ _ _)
      | (with_reducible exact ih7 _ _ _ _ _ _ _)
      | (with_reducible exact treelineref11_Check.mono _ _ _ _ _ _ _ _ _)
      | (with_reducible exact LeO.refl _)
      | (with_reducible exact LeO.none _)
      | (with_reducible refine LeO.ite ?_ ?_)
      | (with_reducible refine LeO.bind ?_ (fun _ => ?_))
      | exact ih0 _ _ _ _ _
      | exact ih1 _ _ _ _ _
      | exact ih2 _ _ _ _ _
      | exact ih3 _ _ _ _ _ _
      | exact ih4 _ _ _ _ _ _
      | exact ih5 _ _ _ _ _
      | exact ih6 _ _ _ _ _ _ _
      | exact ih7 _ _ _ _ _ _ _
      | exact treelineref11_Check.mono _ _ _ _ _ _ _ _ _
      | exact LeO.none _
      | refine LeO.ite ?_ ?_
      | refine LeO.bind ?_ (fun _ => ?_)
theorem treelineref20_Check.mono : ∀ a0 a1 a2 a3 k, LeO (treelineref20_Check.f k a0 a1 a2 a3) (treelineref20_Check.f (k + 1) a0 a1 a2 a3) := by
  intro a0 a1 a2 a3 k
  obtain ⟨ih0, ih1, ih2, ih3, ih4, ih5, ih6, ih7⟩ := treelineref20_Check.mono_l k
  unfold treelineref20_Check.f
  repeat' first
      | (with_reducible exact ih0 _ _ _ _ _)
      | (with_reducible exact ih1 _ _ _ _ _)
      | (with_reducible exact ih2 _ _ _ _ _)
      | (with_reducible exact ih3 _ _ _ _ _ _)
      | (with_reducible exact ih4 _ _ _ _ _ _)
      | (with_reducible exact ih5 _ _ _ _ _)
      | (with_reducible exact ih6 _ _ _ _ _ _ _)
      | (with_reducible exact ih7 _ _ _ _ _ _ _)
      | (with_reducible exact treelineref11_Check.mono _ _ _ _ _ _ _ _ _)
      | (with_reducible exact LeO.refl _)
      | (with_reducible exact LeO.none _)
      | (with_reducible refine LeO.ite ?_ ?_)
      | (with_reducible refine LeO.bind ?_ (fun _ => ?_))
      | exact ih0 _ _ _ _ _
      | exact ih1 _ _ _ _ _
      | exact ih2 _ _ _ _ _
      | exact ih3 _ _ _ _ _ _
      | exact ih4 _ _ _ _ _ _
      | exact ih5 _ _ _ _ _
      | exact ih6 _ _ _ _ _ _ _
      | exact ih7 _ _ _ _ _ _ _
      | exact treelineref11_Check.mono _ _ _ _ _ _ _ _ _
      | exact LeO.none _
      | refine LeO.ite ?_ ?_
      | refine LeO.bind ?_ (fun _ => ?_)
set_option maxHeartbeats 8000000 in
set_option maxRecDepth 100000 in
theorem treelineref20_Check.calls (k : Nat) (a0_0 : Int) (A0_1 : Option Addr) (c0_1 : Nat) (l0_1 : List (S51)) (A0_2 : Option Addr) (c0_2 : Nat) (l0_2 : List (List Int)) (A0_3 : Option Addr) (c0_3 : Nat) (l0_3 : List (S66)) (r : Int) (w : World) (hr0_1 : Kd.C k51 w A0_1 l0_1.length l0_1) (hc0_1 : l0_1.length ≤ c0_1) (hr0_2 : Kd.C (Kd.slice 3 (Kd.int .i64)) w A0_2 l0_2.length l0_2) (hc0_2 : l0_2.length ≤ c0_2) (hr0_3 : Kd.C k66 w A0_3 l0_3.length l0_3) (hc0_3 : l0_3.length ≤ c0_3) (h : treelineref20_Check.f k a0_0 l0_1 l0_2 l0_3 = some r) :
  Calls Tryd.prog 13 #[.agg #[.int .i64 a0_0, .slice A0_1 l0_1.length c0_1, .slice A0_2 l0_2.length c0_2, .slice A0_3 l0_3.length c0_3]] w fun e w' => e = .returned (.int .i64 r) ∧ Below w.heap.size w w' := by
 have hu28 := Tryd.underlying28
 have hu51 := Tryd.underlying51
 have HR0_1 := Aside0.mk hr0_1
 have HC0_1 := Aside0.mk hc0_1
 clear hr0_1 hc0_1
 have HR0_2 := Aside0.mk hr0_2
 have HC0_2 := Aside0.mk hc0_2
 clear hr0_2 hc0_2
 have HR0_3 := Aside0.mk hr0_3
 have HC0_3 := Aside0.mk hc0_3
 clear hr0_3 hc0_3
 have HB := Aside0.mk (Below.refl w.heap.size w)
 have H : (if a0_0 < 1 then (treelineref20_Check.j0 k true a0_0 l0_1 l0_2 l0_3) else (if a0_0 > 8 then (treelineref20_Check.j0 k true a0_0 l0_1 l0_2 l0_3) else (if (l0_1.length : Int) < 1 then (treelineref20_Check.j0 k true a0_0 l0_1 l0_2 l0_3) else (treelineref20_Check.j0 k ((l0_1.length : Int) != (l0_2.length : Int)) a0_0 l0_1 l0_2 l0_3)))) = some r := h
 clear h
 have HC2 := Aside0.mk H
 clear H
 go_enter Tryd.func13, Tryd.ntmps13
 go_upto_region 1 with (first | ((with_reducible refine gate_dst (N := 1) rfl ?_); (try (refine gate_guard (by rfl) ?_; dsimp only)); refine box_event ?hg (N := 1) ?hd (cs := #[.int .i64 a0_0, .slice A0_1 l0_1.length c0_1, .slice A0_2 l0_2.length c0_2, .slice A0_3 l0_3.length c0_3]) (t := 28) ?hr ?_; (case hd => rfl); (case hg => rfl); (case hr => first | (go_simp; done) | (go_simp; rfl)); intro gb312 hg w3 hbox hb; have n0_ := Aside0.mk (below_step (by repeat (first | (with_reducible first | exact HB.out | apply below_alloc | apply pw_below_drewN | apply below_drew1) | exact HB.out)) hb); have n1_ := Aside0.mk (hbox); have n2_ := Aside0.mk ((by rw [hg]; exact (below_size (by repeat (first | (with_reducible first | exact HB.out | apply below_alloc | apply pw_below_drewN | apply below_drew1) | exact HB.out))) : w.heap.size ≤ gb312)); have n3_ := Aside0.mk ((by rw [hg]; exact (below_size (by repeat (first | (with_reducible first | exact HB.out | apply below_alloc | apply pw_below_drewN | apply below_drew1) | exact HB.out))) : w.heap.size ≤ gb312)); clear HB; have HB := n0_; have BK312 := n1_; have GW312 := n2_; have GE312 := n3_; clear n0_ n1_ n2_ n3_; clear hb hbox hg))
 repeat (go_quiet (fail); try go_wp2)
 (try simp only [Act.put, List.setIfInBounds_toArray, List.set_cons_zero, List.set_cons_succ])
 go_cut [33] (fun v33 wc => ∃ (kq : Nat) (x33_1 : Bool), v33 = .bool x33_1 ∧ Aside0 (treelineref20_Check.j0 kq x33_1 a0_0 l0_1 l0_2 l0_3 = some r) ∧ Aside0 (kq ≤ k) ∧ Aside0 (wc.heap[gb312]? = some (.cells #[.int .i64 a0_0, (.slice A0_1 l0_1.length c0_1), (.slice A0_2 l0_2.length c0_2), (.slice A0_3 l0_3.length c0_3)] 28 (0, 0))) ∧ Aside0 (Below w.heap.size w wc))
 case first =>
  have H := HC2.out
  clear HC2
  by_cases c4 : a0_0 < 1
  ·rw [if_pos c4] at H
   have c4b0 : decide (a0_0 < 1) = true := decide_eq_true c4
   clear c4
   (first | rw [c4b0] | (simp only [i64_w, i32_w]; rw [c4b0]) | skip)
   have H' := Aside0.mk H
   clear H
   have hcz5_0 : w3.cell? ⟨gb312, 0, none⟩ = some (.int .i64 a0_0) := (blk_cell BK312.out 0).trans rfl
   have hcz5_1 : w3.cell? ⟨gb312, 1, none⟩ = some (.slice A0_1 l0_1.length c0_1) := (blk_cell BK312.out 1).trans rfl
   have hcz5_2 : w3.cell? ⟨gb312, 2, none⟩ = some (.slice A0_2 l0_2.length c0_2) := (blk_cell BK312.out 2).trans rfl
   have hcz5_3 : w3.cell? ⟨gb312, 3, none⟩ = some (.slice A0_3 l0_3.length c0_3) := (blk_cell BK312.out 3).trans rfl
   have hfz5_0 := blk_frozen BK312.out 0
   have hfz5_1 := blk_frozen BK312.out 1
   have hfz5_2 := blk_frozen BK312.out 2
   have hfz5_3 := blk_frozen BK312.out 3
   go_wp2
   repeat (go_quiet (fail); try go_wp2)
   go_meet
   case rel => exact ⟨_, (true), (by first | rfl | (simp; done) | (simp [*]; done)), H', ⟨by first | omega | exact Nat.le_refl _⟩, ⟨by (with_reducible repeat (first | refine blk_drewN ?_ _ | refine blk_drew ?_ | refine blk_alloc ?_ _)); exact BK312.out⟩, ⟨by repeat (first | (with_reducible first | exact HB.out | apply below_alloc | apply pw_below_drewN | apply below_drew1 | refine below_set ?_ GE312.out) | exact HB.out)⟩⟩
  rw [if_neg c4] at H
  have c4b0 : decide (a0_0 < 1) = false := decide_eq_false c4
  clear c4
  (first | rw [c4b0] | (simp only [i64_w, i32_w]; rw [c4b0]) | skip)
  by_cases c6 : a0_0 > 8
  ·rw [if_pos c6] at H
   have c6b0 : decide (8 < a0_0) = true := decide_eq_true c6
   clear c6
   have H' := Aside0.mk H
   clear H
   have hcz7_0 : w3.cell? ⟨gb312, 0, none⟩ = some (.int .i64 a0_0) := (blk_cell BK312.out 0).trans rfl
   have hcz7_1 : w3.cell? ⟨gb312, 1, none⟩ = some (.slice A0_1 l0_1.length c0_1) := (blk_cell BK312.out 1).trans rfl
   have hcz7_2 : w3.cell? ⟨gb312, 2, none⟩ = some (.slice A0_2 l0_2.length c0_2) := (blk_cell BK312.out 2).trans rfl
   have hcz7_3 : w3.cell? ⟨gb312, 3, none⟩ = some (.slice A0_3 l0_3.length c0_3) := (blk_cell BK312.out 3).trans rfl
   have hfz7_0 := blk_frozen BK312.out 0
   have hfz7_1 := blk_frozen BK312.out 1
   have hfz7_2 := blk_frozen BK312.out 2
   have hfz7_3 := blk_frozen BK312.out 3
   go_wp2
   repeat (go_quiet (fail); try go_wp2)
   go_meet
   case rel => exact ⟨_, (true), (by first | rfl | (simp; done) | (simp [*]; done)), H', ⟨by first | omega | exact Nat.le_refl _⟩, ⟨by (with_reducible repeat (first | refine blk_drewN ?_ _ | refine blk_drew ?_ | refine blk_alloc ?_ _)); exact BK312.out⟩, ⟨by repeat (first | (with_reducible first | exact HB.out | apply below_alloc | apply pw_below_drewN | apply below_drew1 | refine below_set ?_ GE312.out) | exact HB.out)⟩⟩
  rw [if_neg c6] at H
  have c6b0 : decide (8 < a0_0) = false := decide_eq_false c6
  clear c6
  by_cases c8 : (l0_1.length : Int) < 1
  ·rw [if_pos c8] at H
   have c8b0 : decide ((l0_1.length : Int) < 1) = true := decide_eq_true c8
   have c8b1 : decide (l0_1.length < 1) = true := decide_eq_true (by omega)
   clear c8
   have H' := Aside0.mk H
   clear H
   have hcz9_0 : w3.cell? ⟨gb312, 0, none⟩ = some (.int .i64 a0_0) := (blk_cell BK312.out 0).trans rfl
   have hcz9_1 : w3.cell? ⟨gb312, 1, none⟩ = some (.slice A0_1 l0_1.length c0_1) := (blk_cell BK312.out 1).trans rfl
   have hcz9_2 : w3.cell? ⟨gb312, 2, none⟩ = some (.slice A0_2 l0_2.length c0_2) := (blk_cell BK312.out 2).trans rfl
   have hcz9_3 : w3.cell? ⟨gb312, 3, none⟩ = some (.slice A0_3 l0_3.length c0_3) := (blk_cell BK312.out 3).trans rfl
   have hfz9_0 := blk_frozen BK312.out 0
   have hfz9_1 := blk_frozen BK312.out 1
   have hfz9_2 := blk_frozen BK312.out 2
   have hfz9_3 := blk_frozen BK312.out 3
   go_wp2
   repeat (go_quiet (fail); try go_wp2)
   go_meet
   case rel => exact ⟨_, (true), (by first | rfl | (simp; done) | (simp [*]; done)), H', ⟨by first | omega | exact Nat.le_refl _⟩, ⟨by (with_reducible repeat (first | refine blk_drewN ?_ _ | refine blk_drew ?_ | refine blk_alloc ?_ _)); exact BK312.out⟩, ⟨by repeat (first | (with_reducible first | exact HB.out | apply below_alloc | apply pw_below_drewN | apply below_drew1 | refine below_set ?_ GE312.out) | exact HB.out)⟩⟩
  rw [if_neg c8] at H
  have c8b0 : decide ((l0_1.length : Int) < 1) = false := decide_eq_false c8
  have c8b1 : decide (l0_1.length < 1) = false := decide_eq_false (by omega)
  clear c8
  have H' := Aside0.mk H
  clear H
  have hcz10_0 : w3.cell? ⟨gb312, 0, none⟩ = some (.int .i64 a0_0) := (blk_cell BK312.out 0).trans rfl
  have hcz10_1 : w3.cell? ⟨gb312, 1, none⟩ = some (.slice A0_1 l0_1.length c0_1) := (blk_cell BK312.out 1).trans rfl
  have hcz10_2 : w3.cell? ⟨gb312, 2, none⟩ = some (.slice A0_2 l0_2.length c0_2) := (blk_cell BK312.out 2).trans rfl
  have hcz10_3 : w3.cell? ⟨gb312, 3, none⟩ = some (.slice A0_3 l0_3.length c0_3) := (blk_cell BK312.out 3).trans rfl
  have hfz10_0 := blk_frozen BK312.out 0
  have hfz10_1 := blk_frozen BK312.out 1
  have hfz10_2 := blk_frozen BK312.out 2
  have hfz10_3 := blk_frozen BK312.out 3
  go_wp2
  repeat (go_quiet (fail); try go_wp2)
  go_meet
  case rel => exact ⟨_, (((l0_1.length : Int) != (l0_2.length : Int))), (by first | rfl | (simp; done) | (simp [*]; done)), H', ⟨by first | omega | exact Nat.le_refl _⟩, ⟨by (with_reducible repeat (first | refine blk_drewN ?_ _ | refine blk_drew ?_ | refine blk_alloc ?_ _)); exact BK312.out⟩, ⟨by repeat (first | (with_reducible first | exact HB.out | apply below_alloc | apply pw_below_drewN | apply below_drew1 | refine below_set ?_ GE312.out) | exact HB.out)⟩⟩
 clear HC2
 try clear c1
 try clear p2
 try clear c4
 try clear c4b0
 try clear c6
 try clear c6b0
 try clear c8
 try clear c8b0
 try clear c8b1
 try clear hcz10_0
 try clear hcz10_1
 try clear hcz10_2
 try clear hcz10_3
 try clear hcz5_0
 try clear hcz5_1
 try clear hcz5_2
 try clear hcz5_3
 try clear hcz7_0
 try clear hcz7_1
 try clear hcz7_2
 try clear hcz7_3
 try clear hcz9_0
 try clear hcz9_1
 try clear hcz9_2
 try clear hcz9_3
 try clear hfz10_0
 try clear hfz10_1
 try clear hfz10_2
 try clear hfz10_3
 try clear hfz5_0
 try clear hfz5_1
 try clear hfz5_2
 try clear hfz5_3
 try clear hfz7_0
 try clear hfz7_1
 try clear hfz7_2
 try clear hfz7_3
 try clear hfz9_0
 try clear hfz9_1
 try clear hfz9_2
 try clear hfz9_3
 obtain ⟨kq, x33_1, rfl, HA, HJ1, BK312, HB⟩ := hcut
 cases kq with
 | zero => exact absurd HA.out (by simp [treelineref20_Check.j0])
 | succ kj1 => ?_
 have H := HA.out
 clear HA
 simp only [treelineref20_Check.j0] at H
 by_cases c11 : x33_1 = true
 ·subst c11
  have H1 : (some 1) = some r := by rw [if_pos rfl] at H; exact H
  clear H
  have H := H1
  clear H1
  obtain rfl := Option.some.inj H
  go_wp2
  repeat (go_quiet (fail); try go_wp2)
  go_ret
  exact ⟨by first | rfl | (simp [errW_none, errW_some] <;> rfl) | (simp [*, errW_none, errW_some] <;> rfl), by repeat (first | (with_reducible first | exact HB.out | apply below_alloc | apply pw_below_drewN | apply below_drew1 | refine below_set ?_ GE312.out) | exact HB.out)⟩
 replace c11 := Bool.eq_false_iff.mpr c11
 subst c11
 have H1 : (if (l0_1.length : Int) > 6 then (treelineref20_Check.j1 kj1 true a0_0 l0_1 l0_2 l0_3) else (treelineref20_Check.j1 kj1 (decide ((l0_3.length : Int) > 8)) a0_0 l0_1 l0_2 l0_3)) = some r := by rw [if_neg (show ¬ (false = true) by decide)] at H; exact H
 clear H
 have H := H1
 clear H1
 have HC12 := Aside0.mk H
 clear H
 go_upto_region 3 with (fail)
 repeat (go_quiet (fail); go_upto_region 3 with (fail))
 go_cut [43] (fun v43 wc => ∃ (kq : Nat) (x43_11 : Bool), v43 = .bool x43_11 ∧ Aside0 (treelineref20_Check.j1 kq x43_11 a0_0 l0_1 l0_2 l0_3 = some r) ∧ Aside0 (kq ≤ kj1) ∧ Aside0 (wc.heap[gb312]? = some (.cells #[.int .i64 a0_0, (.slice A0_1 l0_1.length c0_1), (.slice A0_2 l0_2.length c0_2), (.slice A0_3 l0_3.length c0_3)] 28 (0, 0))) ∧ Aside0 (Below w.heap.size w wc))
 case first =>
  have H := HC12.out
  clear HC12
  by_cases c13 : (l0_1.length : Int) > 6
  ·rw [if_pos c13] at H
   have c13b0 : decide (6 < (l0_1.length : Int)) = true := decide_eq_true c13
   have c13b1 : decide (6 < l0_1.length) = true := decide_eq_true (by omega)
   clear c13
   (first | rw [c13b0] | (simp only [i64_w, i32_w]; rw [c13b0]) | skip)
   have H' := Aside0.mk H
   clear H
   have hcz14_0 : wc.cell? ⟨gb312, 0, none⟩ = some (.int .i64 a0_0) := (blk_cell BK312.out 0).trans rfl
   have hcz14_1 : wc.cell? ⟨gb312, 1, none⟩ = some (.slice A0_1 l0_1.length c0_1) := (blk_cell BK312.out 1).trans rfl
   have hcz14_2 : wc.cell? ⟨gb312, 2, none⟩ = some (.slice A0_2 l0_2.length c0_2) := (blk_cell BK312.out 2).trans rfl
   have hcz14_3 : wc.cell? ⟨gb312, 3, none⟩ = some (.slice A0_3 l0_3.length c0_3) := (blk_cell BK312.out 3).trans rfl
   have hfz14_0 := blk_frozen BK312.out 0
   have hfz14_1 := blk_frozen BK312.out 1
   have hfz14_2 := blk_frozen BK312.out 2
   have hfz14_3 := blk_frozen BK312.out 3
   go_wp2
   repeat (go_quiet (fail); try go_wp2)
   go_meet
   case rel => exact ⟨_, (true), (by first | rfl | (simp; done) | (simp [*]; done)), H', ⟨by have := HJ1.out; first | omega | exact Nat.le_refl _⟩, ⟨by (with_reducible repeat (first | refine blk_drewN ?_ _ | refine blk_drew ?_ | refine blk_alloc ?_ _)); exact BK312.out⟩, ⟨by repeat (first | (with_reducible first | exact HB.out | apply below_alloc | apply pw_below_drewN | apply below_drew1 | refine below_set ?_ GE312.out) | exact HB.out)⟩⟩
  rw [if_neg c13] at H
  have c13b0 : decide (6 < (l0_1.length : Int)) = false := decide_eq_false c13
  have c13b1 : decide (6 < l0_1.length) = false := decide_eq_false (by omega)
  clear c13
  (first | rw [c13b0] | (simp only [i64_w, i32_w]; rw [c13b0]) | skip)
  have H' := Aside0.mk H
  clear H
  have hcz15_0 : wc.cell? ⟨gb312, 0, none⟩ = some (.int .i64 a0_0) := (blk_cell BK312.out 0).trans rfl
  have hcz15_1 : wc.cell? ⟨gb312, 1, none⟩ = some (.slice A0_1 l0_1.length c0_1) := (blk_cell BK312.out 1).trans rfl
  have hcz15_2 : wc.cell? ⟨gb312, 2, none⟩ = some (.slice A0_2 l0_2.length c0_2) := (blk_cell BK312.out 2).trans rfl
  have hcz15_3 : wc.cell? ⟨gb312, 3, none⟩ = some (.slice A0_3 l0_3.length c0_3) := (blk_cell BK312.out 3).trans rfl
  have hfz15_0 := blk_frozen BK312.out 0
  have hfz15_1 := blk_frozen BK312.out 1
  have hfz15_2 := blk_frozen BK312.out 2
  have hfz15_3 := blk_frozen BK312.out 3
  go_wp2
  repeat (go_quiet (fail); try go_wp2)
  go_meet
  case rel => exact ⟨_, (decide ((l0_3.length : Int) > 8)), (by first | rfl | (simp; done) | (simp [*]; done)), H', ⟨by have := HJ1.out; first | omega | exact Nat.le_refl _⟩, ⟨by (with_reducible repeat (first | refine blk_drewN ?_ _ | refine blk_drew ?_ | refine blk_alloc ?_ _)); exact BK312.out⟩, ⟨by repeat (first | (with_reducible first | exact HB.out | apply below_alloc | apply pw_below_drewN | apply below_drew1 | refine below_set ?_ GE312.out) | exact HB.out)⟩⟩
 clear HC12
 try clear c1
 try clear p2
 try clear c4
 try clear c4b0
 try clear c6
 try clear c6b0
 try clear c8
 try clear c8b0
 try clear c8b1
 try clear c11
 try clear c13
 try clear c13b0
 try clear c13b1
 try clear hcz10_0
 try clear hcz10_1
 try clear hcz10_2
 try clear hcz10_3
 try clear hcz14_0
 try clear hcz14_1
 try clear hcz14_2
 try clear hcz14_3
 try clear hcz15_0
 try clear hcz15_1
 try clear hcz15_2
 try clear hcz15_3
 try clear hcz5_0
 try clear hcz5_1
 try clear hcz5_2
 try clear hcz5_3
 try clear hcz7_0
 try clear hcz7_1
 try clear hcz7_2
 try clear hcz7_3
 try clear hcz9_0
 try clear hcz9_1
 try clear hcz9_2
 try clear hcz9_3
 try clear hfz10_0
 try clear hfz10_1
 try clear hfz10_2
 try clear hfz10_3
 try clear hfz14_0
 try clear hfz14_1
 try clear hfz14_2
 try clear hfz14_3
 try clear hfz15_0
 try clear hfz15_1
 try clear hfz15_2
 try clear hfz15_3
 try clear hfz5_0
 try clear hfz5_1
 try clear hfz5_2
 try clear hfz5_3
 try clear hfz7_0
 try clear hfz7_1
 try clear hfz7_2
 try clear hfz7_3
 try clear hfz9_0
 try clear hfz9_1
 try clear hfz9_2
 try clear hfz9_3
 try clear p2
 obtain ⟨kq, x43_11, rfl, HA, HJ11, BK312, HB⟩ := hcut
 cases kq with
 | zero => exact absurd HA.out (by simp [treelineref20_Check.j1])
 | succ kj11 => ?_
 have H := HA.out
 clear HA
 simp only [treelineref20_Check.j1] at H
 by_cases c16 : x43_11 = true
 ·subst c16
  have H1 : (some 4) = some r := by rw [if_pos rfl] at H; exact H
  clear H
  have H := H1
  clear H1
  obtain rfl := Option.some.inj H
  go_wp2
  repeat (go_quiet (fail); try go_wp2)
  go_ret
  exact ⟨by first | rfl | (simp [errW_none, errW_some] <;> rfl) | (simp [*, errW_none, errW_some] <;> rfl), by repeat (first | (with_reducible first | exact HB.out | apply below_alloc | apply pw_below_drewN | apply below_drew1 | refine below_set ?_ GE312.out) | exact HB.out)⟩
 replace c16 := Bool.eq_false_iff.mpr c16
 subst c16
 have H1 : (treelineref20_Check.l0 kj11 0 a0_0 l0_1 l0_2 l0_3) = some r := by rw [if_neg (show ¬ (false = true) by decide)] at H; exact H
 clear H
 have H := H1
 clear H1
 have H' := Aside0.mk H
 clear H
 go_wp2
 repeat (go_quiet (fail); try go_wp2)
 go_loopg [3] kj11 (fun kq v3 w' => ∃ (x3_3 : Int), v3 = .int .i64 x3_3 ∧ Aside0 (treelineref20_Check.l0 kq x3_3 a0_0 l0_1 l0_2 l0_3 = some r) ∧ Aside0 (kq ≤ kj11) ∧ Aside0 (w'.heap[gb312]? = some (.cells #[.int .i64 a0_0, (.slice A0_1 l0_1.length c0_1), (.slice A0_2 l0_2.length c0_2), (.slice A0_3 l0_3.length c0_3)] 28 (0, 0))) ∧ Aside0 (Below w.heap.size w w'))
 case atStart => exact ⟨(0), (by first | rfl | (simp; done) | (simp [*]; done)), H', ⟨Nat.le_refl _⟩, ⟨by (with_reducible repeat (first | refine blk_drewN ?_ _ | refine blk_drew ?_ | refine blk_alloc ?_ _)); exact BK312.out⟩, ⟨by repeat (first | (with_reducible first | exact HB.out | apply below_alloc | apply pw_below_drewN | apply below_drew1 | refine below_set ?_ GE312.out) | exact HB.out)⟩⟩
 clear H'
 try clear c1
 try clear p2
 try clear c4
 try clear c4b0
 try clear c6
 try clear c6b0
 try clear c8
 try clear c8b0
 try clear c8b1
 try clear c11
 try clear c13
 try clear c13b0
 try clear c13b1
 try clear c16
 try clear hcz10_0
 try clear hcz10_1
 try clear hcz10_2
 try clear hcz10_3
 try clear hcz14_0
 try clear hcz14_1
 try clear hcz14_2
 try clear hcz14_3
 try clear hcz15_0
 try clear hcz15_1
 try clear hcz15_2
 try clear hcz15_3
 try clear hcz5_0
 try clear hcz5_1
 try clear hcz5_2
 try clear hcz5_3
 try clear hcz7_0
 try clear hcz7_1
 try clear hcz7_2
 try clear hcz7_3
 try clear hcz9_0
 try clear hcz9_1
 try clear hcz9_2
 try clear hcz9_3
 try clear hfz10_0
 try clear hfz10_1
 try clear hfz10_2
 try clear hfz10_3
 try clear hfz14_0
 try clear hfz14_1
 try clear hfz14_2
 try clear hfz14_3
 try clear hfz15_0
 try clear hfz15_1
 try clear hfz15_2
 try clear hfz15_3
 try clear hfz5_0
 try clear hfz5_1
 try clear hfz5_2
 try clear hfz5_3
 try clear hfz7_0
 try clear hfz7_1
 try clear hfz7_2
 try clear hfz7_3
 try clear hfz9_0
 try clear hfz9_1
 try clear hfz9_2
 try clear hfz9_3
 try clear p2
 obtain ⟨x3_3, rfl, HA, HK3, BK312, HB⟩ := hrel
 cases gk with
 | zero => exact absurd HA.out (by simp [treelineref20_Check.l0])
 | succ k3 => ?_
 have H := HA.out
 clear HA
 simp only [treelineref20_Check.l0] at H
 by_cases c17 : x3_3 < (l0_1.length : Int)
 rotate_left
 ·rw [if_neg c17] at H
  have c17b0 : decide (x3_3 < (l0_1.length : Int)) = false := decide_eq_false c17
  clear c17
  have H' := Aside0.mk H
  clear H
  have hcz49_0 : wr.cell? ⟨gb312, 0, none⟩ = some (.int .i64 a0_0) := (blk_cell BK312.out 0).trans rfl
  have hcz49_1 : wr.cell? ⟨gb312, 1, none⟩ = some (.slice A0_1 l0_1.length c0_1) := (blk_cell BK312.out 1).trans rfl
  have hcz49_2 : wr.cell? ⟨gb312, 2, none⟩ = some (.slice A0_2 l0_2.length c0_2) := (blk_cell BK312.out 2).trans rfl
  have hcz49_3 : wr.cell? ⟨gb312, 3, none⟩ = some (.slice A0_3 l0_3.length c0_3) := (blk_cell BK312.out 3).trans rfl
  have hfz49_0 := blk_frozen BK312.out 0
  have hfz49_1 := blk_frozen BK312.out 1
  have hfz49_2 := blk_frozen BK312.out 2
  have hfz49_3 := blk_frozen BK312.out 3
  go_wp2
  repeat (go_quiet (fail); try go_wp2)
  go_loopg [7] k3 (fun kq v7 w' => ∃ (x7_4 : Int), v7 = .int .i64 x7_4 ∧ Aside0 (treelineref20_Check.l3 kq x7_4 a0_0 l0_1 l0_2 l0_3 = some r) ∧ Aside0 (kq ≤ k3) ∧ Aside0 (w'.heap[gb312]? = some (.cells #[.int .i64 a0_0, (.slice A0_1 l0_1.length c0_1), (.slice A0_2 l0_2.length c0_2), (.slice A0_3 l0_3.length c0_3)] 28 (0, 0))) ∧ Aside0 (Below w.heap.size w w'))
  case atStart => exact ⟨(0), (by first | rfl | (simp; done) | (simp [*]; done)), H', ⟨Nat.le_refl _⟩, ⟨by (with_reducible repeat (first | refine blk_drewN ?_ _ | refine blk_drew ?_ | refine blk_alloc ?_ _)); exact BK312.out⟩, ⟨by repeat (first | (with_reducible first | exact HB.out | apply below_alloc | apply pw_below_drewN | apply below_drew1 | refine below_set ?_ GE312.out) | exact HB.out)⟩⟩
  clear H'
  try clear c1
  try clear c2
  try clear p2
  try clear c3
  try clear p3
  try clear q3
  try clear hx3
  try clear c4
  try clear c4b0
  try clear c6
  try clear c6b0
  try clear p6
  try clear c8
  try clear c8b0
  try clear c8b1
  try clear c11
  try clear c13
  try clear c13b0
  try clear c13b1
  try clear c16
  try clear c17
  try clear c17b0
  try clear c18
  try clear c18b0
  try clear c20
  try clear c20b0
  try clear c20b1
  try clear c23
  try clear c23b0
  try clear c24
  try clear c24b0
  try clear c25
  try clear c25b0
  try clear c26
  try clear c26b0
  try clear c27
  try clear c27b0
  try clear c28
  try clear c28b0
  try clear c28b1
  try clear c31
  try clear c31b0
  try clear p31
  try clear q31
  try clear hx31
  try clear c32
  try clear c32b0
  try clear p32
  try clear q32
  try clear hx32
  try clear c33
  try clear c33b0
  try clear c34
  try clear c34b0
  try clear c34b1
  try clear c34b2
  try clear c36
  try clear c36b0
  try clear c37
  try clear c37b0
  try clear c38
  try clear c38b0
  try clear c39
  try clear c39b0
  try clear c40
  try clear c40b0
  try clear c42
  try clear c42b0
  try clear hcz10_0
  try clear hcz10_1
  try clear hcz10_2
  try clear hcz10_3
  try clear hcz14_0
  try clear hcz14_1
  try clear hcz14_2
  try clear hcz14_3
  try clear hcz15_0
  try clear hcz15_1
  try clear hcz15_2
  try clear hcz15_3
  try clear hcz21_0
  try clear hcz21_1
  try clear hcz21_2
  try clear hcz21_3
  try clear hcz29_0
  try clear hcz29_1
  try clear hcz29_2
  try clear hcz29_3
  try clear hcz30_0
  try clear hcz30_1
  try clear hcz30_2
  try clear hcz30_3
  try clear hcz35_0
  try clear hcz35_1
  try clear hcz35_2
  try clear hcz35_3
  try clear hcz41_0
  try clear hcz41_1
  try clear hcz41_2
  try clear hcz41_3
  try clear hcz43_0
  try clear hcz43_1
  try clear hcz43_2
  try clear hcz43_3
  try clear hcz44_0
  try clear hcz44_1
  try clear hcz44_2
  try clear hcz44_3
  try clear hcz45_0
  try clear hcz45_1
  try clear hcz45_2
  try clear hcz45_3
  try clear hcz46_0
  try clear hcz46_1
  try clear hcz46_2
  try clear hcz46_3
  try clear hcz47_0
  try clear hcz47_1
  try clear hcz47_2
  try clear hcz47_3
  try clear hcz49_0
  try clear hcz49_1
  try clear hcz49_2
  try clear hcz49_3
  try clear hcz5_0
  try clear hcz5_1
  try clear hcz5_2
  try clear hcz5_3
  try clear hcz7_0
  try clear hcz7_1
  try clear hcz7_2
  try clear hcz7_3
  try clear hcz9_0
  try clear hcz9_1
  try clear hcz9_2
  try clear hcz9_3
  try clear hfz10_0
  try clear hfz10_1
  try clear hfz10_2
  try clear hfz10_3
  try clear hfz14_0
  try clear hfz14_1
  try clear hfz14_2
  try clear hfz14_3
  try clear hfz15_0
  try clear hfz15_1
  try clear hfz15_2
  try clear hfz15_3
  try clear hfz21_0
  try clear hfz21_1
  try clear hfz21_2
  try clear hfz21_3
  try clear hfz29_0
  try clear hfz29_1
  try clear hfz29_2
  try clear hfz29_3
  try clear hfz30_0
  try clear hfz30_1
  try clear hfz30_2
  try clear hfz30_3
  try clear hfz35_0
  try clear hfz35_1
  try clear hfz35_2
  try clear hfz35_3
  try clear hfz41_0
  try clear hfz41_1
  try clear hfz41_2
  try clear hfz41_3
  try clear hfz43_0
  try clear hfz43_1
  try clear hfz43_2
  try clear hfz43_3
  try clear hfz44_0
  try clear hfz44_1
  try clear hfz44_2
  try clear hfz44_3
  try clear hfz45_0
  try clear hfz45_1
  try clear hfz45_2
  try clear hfz45_3
  try clear hfz46_0
  try clear hfz46_1
  try clear hfz46_2
  try clear hfz46_3
  try clear hfz47_0
  try clear hfz47_1
  try clear hfz47_2
  try clear hfz47_3
  try clear hfz49_0
  try clear hfz49_1
  try clear hfz49_2
  try clear hfz49_3
  try clear hfz5_0
  try clear hfz5_1
  try clear hfz5_2
  try clear hfz5_3
  try clear hfz7_0
  try clear hfz7_1
  try clear hfz7_2
  try clear hfz7_3
  try clear hfz9_0
  try clear hfz9_1
  try clear hfz9_2
  try clear hfz9_3
  try clear hx313_0
  try clear hx313_1
  try clear hx313_2
  try clear hx313_3
  try clear hx313_4
  try clear hx313_5
  try clear hx313_6
  try clear hx313_7
  try clear hx315_0
  try clear hx315_1
  try clear hx315_2
  try clear hx315_3
  try clear hx315_4
  try clear hx315_5
  try clear hx315_6
  try clear hx315_7
  try clear hx316_0
  try clear hx316_1
  try clear hx316_2
  try clear hx316_3
  try clear hx316_4
  try clear hx316_5
  try clear hx316_6
  try clear hx316_7
  try clear hx317_0
  try clear hx318_0
  try clear hx318_1
  try clear hx318_2
  try clear hx318_3
  try clear hx318_4
  try clear hx318_5
  try clear hx318_6
  try clear hx318_7
  try clear hx319_0
  try clear hx320_0
  try clear hx321_0
  try clear hx322_0
  try clear hx323_0
  try clear p2
  try clear p3
  try clear p31
  try clear p313
  try clear p315
  try clear p316
  try clear p317
  try clear p318
  try clear p319
  try clear p320
  try clear p321
  try clear p322
  try clear p323
  try clear p6
  try clear q3
  try clear q31
  try clear q313
  try clear q315
  try clear q316
  try clear q317
  try clear q318
  try clear q319
  try clear q320
  try clear q321
  try clear q322
  try clear q323
  obtain ⟨x7_4, rfl, HA, HK4, BK312, HB⟩ := hrel
  cases gk with
  | zero => exact absurd HA.out (by simp [treelineref20_Check.l3])
  | succ k4 => ?_
  have H := HA.out
  clear HA
  simp only [treelineref20_Check.l3] at H
  by_cases c50 : x7_4 < (l0_3.length : Int)
  rotate_left
  ·rw [if_neg c50] at H
   have c50b0 : decide (x7_4 < (l0_3.length : Int)) = false := decide_eq_false c50
   clear c50
   obtain rfl := Option.some.inj H
   have hcz75_0 : wr.cell? ⟨gb312, 0, none⟩ = some (.int .i64 a0_0) := (blk_cell BK312.out 0).trans rfl
   have hcz75_1 : wr.cell? ⟨gb312, 1, none⟩ = some (.slice A0_1 l0_1.length c0_1) := (blk_cell BK312.out 1).trans rfl
   have hcz75_2 : wr.cell? ⟨gb312, 2, none⟩ = some (.slice A0_2 l0_2.length c0_2) := (blk_cell BK312.out 2).trans rfl
   have hcz75_3 : wr.cell? ⟨gb312, 3, none⟩ = some (.slice A0_3 l0_3.length c0_3) := (blk_cell BK312.out 3).trans rfl
   have hfz75_0 := blk_frozen BK312.out 0
   have hfz75_1 := blk_frozen BK312.out 1
   have hfz75_2 := blk_frozen BK312.out 2
   have hfz75_3 := blk_frozen BK312.out 3
   go_wp2
   repeat (go_quiet (fail); try go_wp2)
   go_ret
   exact ⟨by first | rfl | (simp [errW_none, errW_some] <;> rfl) | (simp [*, errW_none, errW_some] <;> rfl), by repeat (first | (with_reducible first | exact HB.out | apply below_alloc | apply pw_below_drewN | apply below_drew1 | refine below_set ?_ GE312.out) | exact HB.out)⟩
  rw [if_pos c50] at H
  have c50b0 : decide (x7_4 < (l0_3.length : Int)) = true := decide_eq_true c50
  clear c50
  by_cases c51 : 0 ≤ x7_4
  rotate_left
  ·rw [if_neg c51] at H
   exact absurd H (by simp)
  rw [if_pos c51] at H
  have c51b0 : decide (0 ≤ x7_4) = true := decide_eq_true c51
  clear c51
  replace H := Option.bind_eq_some_iff.mp H
  obtain ⟨t325, A520, H⟩ := H
  replace H : (if t325 = true then (treelineref20_Check.l4 k4 x7_4 ((rd_T66 l0_3 x7_4).f0) 0 a0_0 l0_1 l0_2 l0_3) else (some 1)) = some r := H
  have A52 := Aside0.mk A520
  clear A520
  by_cases c53 : t325 = true
  rotate_left
  ·replace c53 := Bool.eq_false_iff.mpr c53
   subst c53
   have H1 : (some 1) = some r := by rw [if_neg (show ¬ (false = true) by decide)] at H; exact H
   clear H
   have H := H1
   clear H1
   obtain rfl := Option.some.inj H
   have hcz74_0 : wr.cell? ⟨gb312, 0, none⟩ = some (.int .i64 a0_0) := (blk_cell BK312.out 0).trans rfl
   have hcz74_1 : wr.cell? ⟨gb312, 1, none⟩ = some (.slice A0_1 l0_1.length c0_1) := (blk_cell BK312.out 1).trans rfl
   have hcz74_2 : wr.cell? ⟨gb312, 2, none⟩ = some (.slice A0_2 l0_2.length c0_2) := (blk_cell BK312.out 2).trans rfl
   have hcz74_3 : wr.cell? ⟨gb312, 3, none⟩ = some (.slice A0_3 l0_3.length c0_3) := (blk_cell BK312.out 3).trans rfl
   have hfz74_0 := blk_frozen BK312.out 0
   have hfz74_1 := blk_frozen BK312.out 1
   have hfz74_2 := blk_frozen BK312.out 2
   have hfz74_3 := blk_frozen BK312.out 3
   have p324 : 0 ≤ (x7_4 : Int) := of_decide_eq_true (by first | (with_reducible assumption) | assumption)
   have q324 : x7_4 < (l0_3.length : Int) := of_decide_eq_true (by first | (with_reducible assumption) | assumption)
   obtain ⟨ad324, e324, hx324_0, hx324_1⟩ := at_T66 HR0_3.out x7_4 p324 q324
   cases e324
   replace hx324_0 := (HB.out.cell (World.block_lt_of_cell? w _ hx324_0)).trans hx324_0
   replace hx324_1 := (HB.out.cell (World.block_lt_of_cell? w _ hx324_1)).trans hx324_1
   replace p324 := eq_true p324
   replace q324 := eq_true q324
   go_wp2_with (first | (go_at_call 21; (with_reducible refine (treelineref01_Right.calls ((rd_T66 l0_3 x7_4).f0) false _ A52.out).mono ?_); rintro e w' ⟨rfl, ⟨nd, rfl⟩⟩; (try first | exact ⟨rfl, _, World.drewN_drewN _ _ _⟩ | exact ⟨rfl, _, Eq.trans (World.drewN_drewN _ _ _) (congrArg (World.drewN _) (Nat.add_assoc _ _ _))⟩)))
   repeat (go_quiet (fail); try go_wp2)
   go_ret
   exact ⟨by first | rfl | (simp [errW_none, errW_some] <;> rfl) | (simp [*, errW_none, errW_some] <;> rfl), by repeat (first | (with_reducible first | exact HB.out | apply below_alloc | apply pw_below_drewN | apply below_drew1 | refine below_set ?_ GE312.out) | exact HB.out)⟩
  subst c53
  have H1 : (treelineref20_Check.l4 k4 x7_4 ((rd_T66 l0_3 x7_4).f0) 0 a0_0 l0_1 l0_2 l0_3) = some r := by rw [if_pos rfl] at H; exact H
  clear H
  have H := H1
  clear H1
  have H' := Aside0.mk H
  clear H
  have hcz54_0 : wr.cell? ⟨gb312, 0, none⟩ = some (.int .i64 a0_0) := (blk_cell BK312.out 0).trans rfl
  have hcz54_1 : wr.cell? ⟨gb312, 1, none⟩ = some (.slice A0_1 l0_1.length c0_1) := (blk_cell BK312.out 1).trans rfl
  have hcz54_2 : wr.cell? ⟨gb312, 2, none⟩ = some (.slice A0_2 l0_2.length c0_2) := (blk_cell BK312.out 2).trans rfl
  have hcz54_3 : wr.cell? ⟨gb312, 3, none⟩ = some (.slice A0_3 l0_3.length c0_3) := (blk_cell BK312.out 3).trans rfl
  have hfz54_0 := blk_frozen BK312.out 0
  have hfz54_1 := blk_frozen BK312.out 1
  have hfz54_2 := blk_frozen BK312.out 2
  have hfz54_3 := blk_frozen BK312.out 3
  have p324 : 0 ≤ (x7_4 : Int) := of_decide_eq_true (by first | (with_reducible assumption) | assumption)
  have q324 : x7_4 < (l0_3.length : Int) := of_decide_eq_true (by first | (with_reducible assumption) | assumption)
  obtain ⟨ad324, e324, hx324_0, hx324_1⟩ := at_T66 HR0_3.out x7_4 p324 q324
  cases e324
  replace hx324_0 := (HB.out.cell (World.block_lt_of_cell? w _ hx324_0)).trans hx324_0
  replace hx324_1 := (HB.out.cell (World.block_lt_of_cell? w _ hx324_1)).trans hx324_1
  replace p324 := eq_true p324
  replace q324 := eq_true q324
  go_wp2_with (first | (go_at_call 21; (with_reducible refine (treelineref01_Right.calls ((rd_T66 l0_3 x7_4).f0) true _ A52.out).mono ?_); rintro e w' ⟨rfl, ⟨nd, rfl⟩⟩; (try first | exact ⟨rfl, _, World.drewN_drewN _ _ _⟩ | exact ⟨rfl, _, Eq.trans (World.drewN_drewN _ _ _) (congrArg (World.drewN _) (Nat.add_assoc _ _ _))⟩)))
  repeat (go_quiet (fail); try go_wp2)
  go_loopg [9] k4 (fun kq v9 w' => ∃ (x9_5 : Int), v9 = .int .i64 x9_5 ∧ Aside0 (treelineref20_Check.l4 kq x7_4 ((rd_T66 l0_3 x7_4).f0) x9_5 a0_0 l0_1 l0_2 l0_3 = some r) ∧ Aside0 (kq ≤ k4) ∧ Aside0 (w'.heap[gb312]? = some (.cells #[.int .i64 a0_0, (.slice A0_1 l0_1.length c0_1), (.slice A0_2 l0_2.length c0_2), (.slice (some ad324) l0_3.length c0_3)] 28 (0, 0))) ∧ Aside0 (Below w.heap.size w w'))
  case atStart => exact ⟨(0), (by first | rfl | (simp; done) | (simp [*]; done)), H', ⟨Nat.le_refl _⟩, ⟨by (with_reducible repeat (first | refine blk_drewN ?_ _ | refine blk_drew ?_ | refine blk_alloc ?_ _)); exact BK312.out⟩, ⟨by repeat (first | (with_reducible first | exact HB.out | apply below_alloc | apply pw_below_drewN | apply below_drew1 | refine below_set ?_ GE312.out) | exact HB.out)⟩⟩
  clear H'
  try clear c1
  try clear c2
  try clear p2
  try clear c3
  try clear p3
  try clear q3
  try clear hx3
  try clear c4
  try clear c4b0
  try clear c5
  try clear c6
  try clear c6b0
  try clear p6
  try clear c8
  try clear c8b0
  try clear c8b1
  try clear c11
  try clear c13
  try clear c13b0
  try clear c13b1
  try clear c16
  try clear c17
  try clear c17b0
  try clear c18
  try clear c18b0
  try clear c20
  try clear c20b0
  try clear c20b1
  try clear c23
  try clear c23b0
  try clear c24
  try clear c24b0
  try clear c25
  try clear c25b0
  try clear c26
  try clear c26b0
  try clear c27
  try clear c27b0
  try clear c28
  try clear c28b0
  try clear c28b1
  try clear c31
  try clear c31b0
  try clear p31
  try clear q31
  try clear hx31
  try clear c32
  try clear c32b0
  try clear p32
  try clear q32
  try clear hx32
  try clear c33
  try clear c33b0
  try clear c34
  try clear c34b0
  try clear c34b1
  try clear c34b2
  try clear c36
  try clear c36b0
  try clear c37
  try clear c37b0
  try clear c38
  try clear c38b0
  try clear c39
  try clear c39b0
  try clear c40
  try clear c40b0
  try clear c42
  try clear c42b0
  try clear c50
  try clear c50b0
  try clear c51
  try clear c51b0
  try clear c53
  try clear hcz10_0
  try clear hcz10_1
  try clear hcz10_2
  try clear hcz10_3
  try clear hcz14_0
  try clear hcz14_1
  try clear hcz14_2
  try clear hcz14_3
  try clear hcz15_0
  try clear hcz15_1
  try clear hcz15_2
  try clear hcz15_3
  try clear hcz21_0
  try clear hcz21_1
  try clear hcz21_2
  try clear hcz21_3
  try clear hcz29_0
  try clear hcz29_1
  try clear hcz29_2
  try clear hcz29_3
  try clear hcz30_0
  try clear hcz30_1
  try clear hcz30_2
  try clear hcz30_3
  try clear hcz35_0
  try clear hcz35_1
  try clear hcz35_2
  try clear hcz35_3
  try clear hcz41_0
  try clear hcz41_1
  try clear hcz41_2
  try clear hcz41_3
  try clear hcz43_0
  try clear hcz43_1
  try clear hcz43_2
  try clear hcz43_3
  try clear hcz44_0
  try clear hcz44_1
  try clear hcz44_2
  try clear hcz44_3
  try clear hcz45_0
  try clear hcz45_1
  try clear hcz45_2
  try clear hcz45_3
  try clear hcz46_0
  try clear hcz46_1
  try clear hcz46_2
  try clear hcz46_3
  try clear hcz47_0
  try clear hcz47_1
  try clear hcz47_2
  try clear hcz47_3
  try clear hcz49_0
  try clear hcz49_1
  try clear hcz49_2
  try clear hcz49_3
  try clear hcz54_0
  try clear hcz54_1
  try clear hcz54_2
  try clear hcz54_3
  try clear hcz5_0
  try clear hcz5_1
  try clear hcz5_2
  try clear hcz5_3
  try clear hcz7_0
  try clear hcz7_1
  try clear hcz7_2
  try clear hcz7_3
  try clear hcz9_0
  try clear hcz9_1
  try clear hcz9_2
  try clear hcz9_3
  try clear hfz10_0
  try clear hfz10_1
  try clear hfz10_2
  try clear hfz10_3
  try clear hfz14_0
  try clear hfz14_1
  try clear hfz14_2
  try clear hfz14_3
  try clear hfz15_0
  try clear hfz15_1
  try clear hfz15_2
  try clear hfz15_3
  try clear hfz21_0
  try clear hfz21_1
  try clear hfz21_2
  try clear hfz21_3
  try clear hfz29_0
  try clear hfz29_1
  try clear hfz29_2
  try clear hfz29_3
  try clear hfz30_0
  try clear hfz30_1
  try clear hfz30_2
  try clear hfz30_3
  try clear hfz35_0
  try clear hfz35_1
  try clear hfz35_2
  try clear hfz35_3
  try clear hfz41_0
  try clear hfz41_1
  try clear hfz41_2
  try clear hfz41_3
  try clear hfz43_0
  try clear hfz43_1
  try clear hfz43_2
  try clear hfz43_3
  try clear hfz44_0
  try clear hfz44_1
  try clear hfz44_2
  try clear hfz44_3
  try clear hfz45_0
  try clear hfz45_1
  try clear hfz45_2
  try clear hfz45_3
  try clear hfz46_0
  try clear hfz46_1
  try clear hfz46_2
  try clear hfz46_3
  try clear hfz47_0
  try clear hfz47_1
  try clear hfz47_2
  try clear hfz47_3
  try clear hfz49_0
  try clear hfz49_1
  try clear hfz49_2
  try clear hfz49_3
  try clear hfz54_0
  try clear hfz54_1
  try clear hfz54_2
  try clear hfz54_3
  try clear hfz5_0
  try clear hfz5_1
  try clear hfz5_2
  try clear hfz5_3
  try clear hfz7_0
  try clear hfz7_1
  try clear hfz7_2
  try clear hfz7_3
  try clear hfz9_0
  try clear hfz9_1
  try clear hfz9_2
  try clear hfz9_3
  try clear hx313_0
  try clear hx313_1
  try clear hx313_2
  try clear hx313_3
  try clear hx313_4
  try clear hx313_5
  try clear hx313_6
  try clear hx313_7
  try clear hx315_0
  try clear hx315_1
  try clear hx315_2
  try clear hx315_3
  try clear hx315_4
  try clear hx315_5
  try clear hx315_6
  try clear hx315_7
  try clear hx316_0
  try clear hx316_1
  try clear hx316_2
  try clear hx316_3
  try clear hx316_4
  try clear hx316_5
  try clear hx316_6
  try clear hx316_7
  try clear hx317_0
  try clear hx318_0
  try clear hx318_1
  try clear hx318_2
  try clear hx318_3
  try clear hx318_4
  try clear hx318_5
  try clear hx318_6
  try clear hx318_7
  try clear hx319_0
  try clear hx320_0
  try clear hx321_0
  try clear hx322_0
  try clear hx323_0
  try clear hx324_0
  try clear hx324_1
  try clear p2
  try clear p3
  try clear p31
  try clear p313
  try clear p315
  try clear p316
  try clear p317
  try clear p318
  try clear p319
  try clear p32
  try clear p320
  try clear p321
  try clear p322
  try clear p323
  try clear p324
  try clear p6
  try clear q3
  try clear q31
  try clear q313
  try clear q315
  try clear q316
  try clear q317
  try clear q318
  try clear q319
  try clear q32
  try clear q320
  try clear q321
  try clear q322
  try clear q323
  try clear q324
  obtain ⟨x9_5, rfl, HA, HK5, BK312, HB⟩ := hrel
  cases gk with
  | zero => exact absurd HA.out (by simp [treelineref20_Check.l4])
  | succ k5 => ?_
  have H := HA.out
  clear HA
  simp only [treelineref20_Check.l4] at H
  by_cases c55 : x9_5 < (l0_1.length : Int)
  ·rw [if_pos c55] at H
   have c55b0 : decide (x9_5 < (l0_1.length : Int)) = true := decide_eq_true c55
   clear c55
   by_cases c56 : 0 ≤ x9_5
   rotate_left
   ·rw [if_neg c56] at H
    exact absurd H (by simp)
   rw [if_pos c56] at H
   have c56b0 : decide (0 ≤ x9_5) = true := decide_eq_true c56
   clear c56
   by_cases c57 : ((rd_T51 l0_1 x9_5).f0) = ((rd_T66 l0_3 x7_4).f0)
   ·rw [if_pos c57] at H
    have c57b0 : (((rd_T51 l0_1 x9_5).f0) == ((rd_T66 l0_3 x7_4).f0)) = true := beq_iff_eq.mpr c57
    have c57b1 : (((rd_T51 l0_1 x9_5).f0) != ((rd_T66 l0_3 x7_4).f0)) = false := bne_eq_false_iff_eq.mpr c57
    clear c57
    obtain rfl := Option.some.inj H
    have hcz58_0 : wr.cell? ⟨gb312, 0, none⟩ = some (.int .i64 a0_0) := (blk_cell BK312.out 0).trans rfl
    have hcz58_1 : wr.cell? ⟨gb312, 1, none⟩ = some (.slice A0_1 l0_1.length c0_1) := (blk_cell BK312.out 1).trans rfl
    have hcz58_2 : wr.cell? ⟨gb312, 2, none⟩ = some (.slice A0_2 l0_2.length c0_2) := (blk_cell BK312.out 2).trans rfl
    have hcz58_3 : wr.cell? ⟨gb312, 3, none⟩ = some (.slice (some ad324) l0_3.length c0_3) := (blk_cell BK312.out 3).trans rfl
    have hfz58_0 := blk_frozen BK312.out 0
    have hfz58_1 := blk_frozen BK312.out 1
    have hfz58_2 := blk_frozen BK312.out 2
    have hfz58_3 := blk_frozen BK312.out 3
    have p326 : 0 ≤ (x9_5 : Int) := of_decide_eq_true (by first | (with_reducible assumption) | assumption)
    have q326 : x9_5 < (l0_1.length : Int) := of_decide_eq_true (by first | (with_reducible assumption) | assumption)
    obtain ⟨ad326, A326_7, c326_7, e326, hx326_0, hx326_1, hx326_2, hx326_3, hx326_4, hx326_5, hx326_6, hx326_7, hl326_7, hi326_7⟩ := at_T51 HR0_1.out x9_5 p326 q326
    cases e326
    replace hx326_0 := (HB.out.cell (World.block_lt_of_cell? w _ hx326_0)).trans hx326_0
    replace hx326_1 := (HB.out.cell (World.block_lt_of_cell? w _ hx326_1)).trans hx326_1
    replace hx326_2 := (HB.out.cell (World.block_lt_of_cell? w _ hx326_2)).trans hx326_2
    replace hx326_3 := (HB.out.cell (World.block_lt_of_cell? w _ hx326_3)).trans hx326_3
    replace hx326_4 := (HB.out.cell (World.block_lt_of_cell? w _ hx326_4)).trans hx326_4
    replace hx326_5 := (HB.out.cell (World.block_lt_of_cell? w _ hx326_5)).trans hx326_5
    replace hx326_6 := (HB.out.cell (World.block_lt_of_cell? w _ hx326_6)).trans hx326_6
    replace hx326_7 := (HB.out.cell (World.block_lt_of_cell? w _ hx326_7)).trans hx326_7
    have HR326_7 := Aside0.mk hi326_7
    have HC326_7 := Aside0.mk hl326_7
    clear hi326_7 hl326_7
    replace p326 := eq_true p326
    replace q326 := eq_true q326
    go_wp2
    repeat (go_quiet (fail); try go_wp2)
    go_ret
    exact ⟨by first | rfl | (simp [errW_none, errW_some] <;> rfl) | (simp [*, errW_none, errW_some] <;> rfl), by repeat (first | (with_reducible first | exact HB.out | apply below_alloc | apply pw_below_drewN | apply below_drew1 | refine below_set ?_ GE312.out) | exact HB.out)⟩
   rw [if_neg c57] at H
   have c57b0 : (((rd_T51 l0_1 x9_5).f0) == ((rd_T66 l0_3 x7_4).f0)) = false := beq_eq_false_iff_ne.mpr c57
   have c57b1 : (((rd_T51 l0_1 x9_5).f0) != ((rd_T66 l0_3 x7_4).f0)) = true := bne_iff_ne.mpr c57
   have H' := Aside0.mk H
   clear H
   have hcz59_0 : wr.cell? ⟨gb312, 0, none⟩ = some (.int .i64 a0_0) := (blk_cell BK312.out 0).trans rfl
   have hcz59_1 : wr.cell? ⟨gb312, 1, none⟩ = some (.slice A0_1 l0_1.length c0_1) := (blk_cell BK312.out 1).trans rfl
   have hcz59_2 : wr.cell? ⟨gb312, 2, none⟩ = some (.slice A0_2 l0_2.length c0_2) := (blk_cell BK312.out 2).trans rfl
   have hcz59_3 : wr.cell? ⟨gb312, 3, none⟩ = some (.slice (some ad324) l0_3.length c0_3) := (blk_cell BK312.out 3).trans rfl
   have hfz59_0 := blk_frozen BK312.out 0
   have hfz59_1 := blk_frozen BK312.out 1
   have hfz59_2 := blk_frozen BK312.out 2
   have hfz59_3 := blk_frozen BK312.out 3
   have p326 : 0 ≤ (x9_5 : Int) := of_decide_eq_true (by first | (with_reducible assumption) | assumption)
   have q326 : x9_5 < (l0_1.length : Int) := of_decide_eq_true (by first | (with_reducible assumption) | assumption)
   obtain ⟨ad326, A326_7, c326_7, e326, hx326_0, hx326_1, hx326_2, hx326_3, hx326_4, hx326_5, hx326_6, hx326_7, hl326_7, hi326_7⟩ := at_T51 HR0_1.out x9_5 p326 q326
   cases e326
   replace hx326_0 := (HB.out.cell (World.block_lt_of_cell? w _ hx326_0)).trans hx326_0
   replace hx326_1 := (HB.out.cell (World.block_lt_of_cell? w _ hx326_1)).trans hx326_1
   replace hx326_2 := (HB.out.cell (World.block_lt_of_cell? w _ hx326_2)).trans hx326_2
   replace hx326_3 := (HB.out.cell (World.block_lt_of_cell? w _ hx326_3)).trans hx326_3
   replace hx326_4 := (HB.out.cell (World.block_lt_of_cell? w _ hx326_4)).trans hx326_4
   replace hx326_5 := (HB.out.cell (World.block_lt_of_cell? w _ hx326_5)).trans hx326_5
   replace hx326_6 := (HB.out.cell (World.block_lt_of_cell? w _ hx326_6)).trans hx326_6
   replace hx326_7 := (HB.out.cell (World.block_lt_of_cell? w _ hx326_7)).trans hx326_7
   have HR326_7 := Aside0.mk hi326_7
   have HC326_7 := Aside0.mk hl326_7
   clear hi326_7 hl326_7
   replace p326 := eq_true p326
   replace q326 := eq_true q326
   go_wp2
   repeat (go_quiet (fail); try go_wp2)
   go_roundg k5
   case measure => have := HJ1.out; have := HJ11.out; have := HK3.out; have := HK4.out; have := HK5.out; omega
   case rel => exact ⟨(wrap64 (x9_5 + 1)), (by first | rfl | (simp; done) | (simp [*]; done)), H', ⟨by have := HJ1.out; have := HJ11.out; have := HK3.out; have := HK4.out; have := HK5.out; omega⟩, ⟨by (with_reducible repeat (first | refine blk_drewN ?_ _ | refine blk_drew ?_ | refine blk_alloc ?_ _)); exact BK312.out⟩, ⟨by repeat (first | (with_reducible first | exact HB.out | apply below_alloc | apply pw_below_drewN | apply below_drew1 | refine below_set ?_ GE312.out) | exact HB.out)⟩⟩
  rw [if_neg c55] at H
  have c55b0 : decide (x9_5 < (l0_1.length : Int)) = false := decide_eq_false c55
  clear c55
  have H' := Aside0.mk H
  clear H
  have hcz60_0 : wr.cell? ⟨gb312, 0, none⟩ = some (.int .i64 a0_0) := (blk_cell BK312.out 0).trans rfl
  have hcz60_1 : wr.cell? ⟨gb312, 1, none⟩ = some (.slice A0_1 l0_1.length c0_1) := (blk_cell BK312.out 1).trans rfl
  have hcz60_2 : wr.cell? ⟨gb312, 2, none⟩ = some (.slice A0_2 l0_2.length c0_2) := (blk_cell BK312.out 2).trans rfl
  have hcz60_3 : wr.cell? ⟨gb312, 3, none⟩ = some (.slice (some ad324) l0_3.length c0_3) := (blk_cell BK312.out 3).trans rfl
  have hfz60_0 := blk_frozen BK312.out 0
  have hfz60_1 := blk_frozen BK312.out 1
  have hfz60_2 := blk_frozen BK312.out 2
  have hfz60_3 := blk_frozen BK312.out 3
  go_wp2
  repeat (go_quiet (fail); try go_wp2)
  go_loopg [10] k5 (fun kq v10 w' => ∃ (x10_6 : Int), v10 = .int .i64 x10_6 ∧ Aside0 (treelineref20_Check.l5 kq x7_4 ((rd_T66 l0_3 x7_4).f0) x10_6 a0_0 l0_1 l0_2 l0_3 = some r) ∧ Aside0 (kq ≤ k5) ∧ Aside0 (w'.heap[gb312]? = some (.cells #[.int .i64 a0_0, (.slice A0_1 l0_1.length c0_1), (.slice A0_2 l0_2.length c0_2), (.slice (some ad324) l0_3.length c0_3)] 28 (0, 0))) ∧ Aside0 (Below w.heap.size w w'))
  case atStart => exact ⟨(0), (by first | rfl | (simp; done) | (simp [*]; done)), H', ⟨Nat.le_refl _⟩, ⟨by (with_reducible repeat (first | refine blk_drewN ?_ _ | refine blk_drew ?_ | refine blk_alloc ?_ _)); exact BK312.out⟩, ⟨by repeat (first | (with_reducible first | exact HB.out | apply below_alloc | apply pw_below_drewN | apply below_drew1 | refine below_set ?_ GE312.out) | exact HB.out)⟩⟩
  clear H'
  try clear c1
  try clear c2
  try clear p2
  try clear c3
  try clear p3
  try clear q3
  try clear hx3
  try clear c4
  try clear c4b0
  try clear c5
  try clear c6
  try clear c6b0
  try clear p6
  try clear c8
  try clear c8b0
  try clear c8b1
  try clear c11
  try clear c13
  try clear c13b0
  try clear c13b1
  try clear c16
  try clear c17
  try clear c17b0
  try clear c18
  try clear c18b0
  try clear c20
  try clear c20b0
  try clear c20b1
  try clear c23
  try clear c23b0
  try clear c24
  try clear c24b0
  try clear c25
  try clear c25b0
  try clear c26
  try clear c26b0
  try clear c27
  try clear c27b0
  try clear c28
  try clear c28b0
  try clear c28b1
  try clear c31
  try clear c31b0
  try clear p31
  try clear q31
  try clear hx31
  try clear c32
  try clear c32b0
  try clear p32
  try clear q32
  try clear hx32
  try clear c33
  try clear c33b0
  try clear c34
  try clear c34b0
  try clear c34b1
  try clear c34b2
  try clear c36
  try clear c36b0
  try clear c37
  try clear c37b0
  try clear c38
  try clear c38b0
  try clear c39
  try clear c39b0
  try clear c40
  try clear c40b0
  try clear c42
  try clear c42b0
  try clear c50
  try clear c50b0
  try clear c51
  try clear c51b0
  try clear c53
  try clear c55
  try clear c55b0
  try clear c56
  try clear c56b0
  try clear c57
  try clear c57b0
  try clear c57b1
  try clear hcz10_0
  try clear hcz10_1
  try clear hcz10_2
  try clear hcz10_3
  try clear hcz14_0
  try clear hcz14_1
  try clear hcz14_2
  try clear hcz14_3
  try clear hcz15_0
  try clear hcz15_1
  try clear hcz15_2
  try clear hcz15_3
  try clear hcz21_0
  try clear hcz21_1
  try clear hcz21_2
  try clear hcz21_3
  try clear hcz29_0
  try clear hcz29_1
  try clear hcz29_2
  try clear hcz29_3
  try clear hcz30_0
  try clear hcz30_1
  try clear hcz30_2
  try clear hcz30_3
  try clear hcz35_0
  try clear hcz35_1
  try clear hcz35_2
  try clear hcz35_3
  try clear hcz41_0
  try clear hcz41_1
  try clear hcz41_2
  try clear hcz41_3
  try clear hcz43_0
  try clear hcz43_1
  try clear hcz43_2
  try clear hcz43_3
  try clear hcz44_0
  try clear hcz44_1
  try clear hcz44_2
  try clear hcz44_3
  try clear hcz45_0
  try clear hcz45_1
  try clear hcz45_2
  try clear hcz45_3
  try clear hcz46_0
  try clear hcz46_1
  try clear hcz46_2
  try clear hcz46_3
  try clear hcz47_0
  try clear hcz47_1
  try clear hcz47_2
  try clear hcz47_3
  try clear hcz49_0
  try clear hcz49_1
  try clear hcz49_2
  try clear hcz49_3
  try clear hcz54_0
  try clear hcz54_1
  try clear hcz54_2
  try clear hcz54_3
  try clear hcz58_0
  try clear hcz58_1
  try clear hcz58_2
  try clear hcz58_3
  try clear hcz59_0
  try clear hcz59_1
  try clear hcz59_2
  try clear hcz59_3
  try clear hcz5_0
  try clear hcz5_1
  try clear hcz5_2
  try clear hcz5_3
  try clear hcz60_0
  try clear hcz60_1
  try clear hcz60_2
  try clear hcz60_3
  try clear hcz7_0
  try clear hcz7_1
  try clear hcz7_2
  try clear hcz7_3
  try clear hcz9_0
  try clear hcz9_1
  try clear hcz9_2
  try clear hcz9_3
  try clear hfz10_0
  try clear hfz10_1
  try clear hfz10_2
  try clear hfz10_3
  try clear hfz14_0
  try clear hfz14_1
  try clear hfz14_2
  try clear hfz14_3
  try clear hfz15_0
  try clear hfz15_1
  try clear hfz15_2
  try clear hfz15_3
  try clear hfz21_0
  try clear hfz21_1
  try clear hfz21_2
  try clear hfz21_3
  try clear hfz29_0
  try clear hfz29_1
  try clear hfz29_2
  try clear hfz29_3
  try clear hfz30_0
  try clear hfz30_1
  try clear hfz30_2
  try clear hfz30_3
  try clear hfz35_0
  try clear hfz35_1
  try clear hfz35_2
  try clear hfz35_3
  try clear hfz41_0
  try clear hfz41_1
  try clear hfz41_2
  try clear hfz41_3
  try clear hfz43_0
  try clear hfz43_1
  try clear hfz43_2
  try clear hfz43_3
  try clear hfz44_0
  try clear hfz44_1
  try clear hfz44_2
  try clear hfz44_3
  try clear hfz45_0
  try clear hfz45_1
  try clear hfz45_2
  try clear hfz45_3
  try clear hfz46_0
  try clear hfz46_1
  try clear hfz46_2
  try clear hfz46_3
  try clear hfz47_0
  try clear hfz47_1
  try clear hfz47_2
  try clear hfz47_3
  try clear hfz49_0
  try clear hfz49_1
  try clear hfz49_2
  try clear hfz49_3
  try clear hfz54_0
  try clear hfz54_1
  try clear hfz54_2
  try clear hfz54_3
  try clear hfz58_0
  try clear hfz58_1
  try clear hfz58_2
  try clear hfz58_3
  try clear hfz59_0
  try clear hfz59_1
  try clear hfz59_2
  try clear hfz59_3
  try clear hfz5_0
  try clear hfz5_1
  try clear hfz5_2
  try clear hfz5_3
  try clear hfz60_0
  try clear hfz60_1
  try clear hfz60_2
  try clear hfz60_3
  try clear hfz7_0
  try clear hfz7_1
  try clear hfz7_2
  try clear hfz7_3
  try clear hfz9_0
  try clear hfz9_1
  try clear hfz9_2
  try clear hfz9_3
  try clear hx313_0
  try clear hx313_1
  try clear hx313_2
  try clear hx313_3
  try clear hx313_4
  try clear hx313_5
  try clear hx313_6
  try clear hx313_7
  try clear hx315_0
  try clear hx315_1
  try clear hx315_2
  try clear hx315_3
  try clear hx315_4
  try clear hx315_5
  try clear hx315_6
  try clear hx315_7
  try clear hx316_0
  try clear hx316_1
  try clear hx316_2
  try clear hx316_3
  try clear hx316_4
  try clear hx316_5
  try clear hx316_6
  try clear hx316_7
  try clear hx317_0
  try clear hx318_0
  try clear hx318_1
  try clear hx318_2
  try clear hx318_3
  try clear hx318_4
  try clear hx318_5
  try clear hx318_6
  try clear hx318_7
  try clear hx319_0
  try clear hx320_0
  try clear hx321_0
  try clear hx322_0
  try clear hx323_0
  try clear hx324_0
  try clear hx324_1
  try clear hx326_0
  try clear hx326_1
  try clear hx326_2
  try clear hx326_3
  try clear hx326_4
  try clear hx326_5
  try clear hx326_6
  try clear hx326_7
  try clear p2
  try clear p3
  try clear p31
  try clear p313
  try clear p315
  try clear p316
  try clear p317
  try clear p318
  try clear p319
  try clear p32
  try clear p320
  try clear p321
  try clear p322
  try clear p323
  try clear p324
  try clear p326
  try clear p6
  try clear q3
  try clear q31
  try clear q313
  try clear q315
  try clear q316
  try clear q317
  try clear q318
  try clear q319
  try clear q32
  try clear q320
  try clear q321
  try clear q322
  try clear q323
  try clear q324
  try clear q326
  obtain ⟨x10_6, rfl, HA, HK6, BK312, HB⟩ := hrel
  cases gk with
  | zero => exact absurd HA.out (by simp [treelineref20_Check.l5])
  | succ k6 => ?_
  have H := HA.out
  clear HA
  simp only [treelineref20_Check.l5] at H
  by_cases c61 : x10_6 < x7_4
  ·rw [if_pos c61] at H
   have c61b0 : decide (x10_6 < x7_4) = true := decide_eq_true c61
   clear c61
   by_cases c62 : 0 ≤ x10_6
   rotate_left
   ·rw [if_neg c62] at H
    exact absurd H (by simp)
   rw [if_pos c62] at H
   have c62b0 : decide (0 ≤ x10_6) = true := decide_eq_true c62
   clear c62
   by_cases c63 : x10_6 < (l0_3.length : Int)
   rotate_left
   ·rw [if_neg c63] at H
    exact absurd H (by simp)
   rw [if_pos c63] at H
   have c63b0 : decide (x10_6 < (l0_3.length : Int)) = true := decide_eq_true c63
   clear c63
   by_cases c64 : ((rd_T66 l0_3 x10_6).f0) = ((rd_T66 l0_3 x7_4).f0)
   ·rw [if_pos c64] at H
    have c64b0 : (((rd_T66 l0_3 x10_6).f0) == ((rd_T66 l0_3 x7_4).f0)) = true := beq_iff_eq.mpr c64
    have c64b1 : (((rd_T66 l0_3 x10_6).f0) != ((rd_T66 l0_3 x7_4).f0)) = false := bne_eq_false_iff_eq.mpr c64
    clear c64
    obtain rfl := Option.some.inj H
    have hcz65_0 : wr.cell? ⟨gb312, 0, none⟩ = some (.int .i64 a0_0) := (blk_cell BK312.out 0).trans rfl
    have hcz65_1 : wr.cell? ⟨gb312, 1, none⟩ = some (.slice A0_1 l0_1.length c0_1) := (blk_cell BK312.out 1).trans rfl
    have hcz65_2 : wr.cell? ⟨gb312, 2, none⟩ = some (.slice A0_2 l0_2.length c0_2) := (blk_cell BK312.out 2).trans rfl
    have hcz65_3 : wr.cell? ⟨gb312, 3, none⟩ = some (.slice (some ad324) l0_3.length c0_3) := (blk_cell BK312.out 3).trans rfl
    have hfz65_0 := blk_frozen BK312.out 0
    have hfz65_1 := blk_frozen BK312.out 1
    have hfz65_2 := blk_frozen BK312.out 2
    have hfz65_3 := blk_frozen BK312.out 3
    have p327 : 0 ≤ (x10_6 : Int) := of_decide_eq_true (by first | (with_reducible assumption) | assumption)
    have q327 : x10_6 < (l0_3.length : Int) := of_decide_eq_true (by first | (with_reducible assumption) | assumption)
    obtain ⟨ad327, e327, hx327_0, hx327_1⟩ := at_T66 HR0_3.out x10_6 p327 q327
    obtain rfl : ad324 = ad327 := (by injection e327)
    replace hx327_0 := (HB.out.cell (World.block_lt_of_cell? w _ hx327_0)).trans hx327_0
    replace hx327_1 := (HB.out.cell (World.block_lt_of_cell? w _ hx327_1)).trans hx327_1
    replace p327 := eq_true p327
    replace q327 := eq_true q327
    go_wp2
    repeat (go_quiet (fail); try go_wp2)
    go_ret
    exact ⟨by first | rfl | (simp [errW_none, errW_some] <;> rfl) | (simp [*, errW_none, errW_some] <;> rfl), by repeat (first | (with_reducible first | exact HB.out | apply below_alloc | apply pw_below_drewN | apply below_drew1 | refine below_set ?_ GE312.out) | exact HB.out)⟩
   rw [if_neg c64] at H
   have c64b0 : (((rd_T66 l0_3 x10_6).f0) == ((rd_T66 l0_3 x7_4).f0)) = false := beq_eq_false_iff_ne.mpr c64
   have c64b1 : (((rd_T66 l0_3 x10_6).f0) != ((rd_T66 l0_3 x7_4).f0)) = true := bne_iff_ne.mpr c64
   have H' := Aside0.mk H
   clear H
   have hcz66_0 : wr.cell? ⟨gb312, 0, none⟩ = some (.int .i64 a0_0) := (blk_cell BK312.out 0).trans rfl
   have hcz66_1 : wr.cell? ⟨gb312, 1, none⟩ = some (.slice A0_1 l0_1.length c0_1) := (blk_cell BK312.out 1).trans rfl
   have hcz66_2 : wr.cell? ⟨gb312, 2, none⟩ = some (.slice A0_2 l0_2.length c0_2) := (blk_cell BK312.out 2).trans rfl
   have hcz66_3 : wr.cell? ⟨gb312, 3, none⟩ = some (.slice (some ad324) l0_3.length c0_3) := (blk_cell BK312.out 3).trans rfl
   have hfz66_0 := blk_frozen BK312.out 0
   have hfz66_1 := blk_frozen BK312.out 1
   have hfz66_2 := blk_frozen BK312.out 2
   have hfz66_3 := blk_frozen BK312.out 3
   have p327 : 0 ≤ (x10_6 : Int) := of_decide_eq_true (by first | (with_reducible assumption) | assumption)
   have q327 : x10_6 < (l0_3.length : Int) := of_decide_eq_true (by first | (with_reducible assumption) | assumption)
   obtain ⟨ad327, e327, hx327_0, hx327_1⟩ := at_T66 HR0_3.out x10_6 p327 q327
   obtain rfl : ad324 = ad327 := (by injection e327)
   replace hx327_0 := (HB.out.cell (World.block_lt_of_cell? w _ hx327_0)).trans hx327_0
   replace hx327_1 := (HB.out.cell (World.block_lt_of_cell? w _ hx327_1)).trans hx327_1
   replace p327 := eq_true p327
   replace q327 := eq_true q327
   go_wp2
   repeat (go_quiet (fail); try go_wp2)
   go_roundg k6
   case measure => have := HJ1.out; have := HJ11.out; have := HK3.out; have := HK4.out; have := HK5.out; have := HK6.out; omega
   case rel => exact ⟨(wrap64 (x10_6 + 1)), (by first | rfl | (simp; done) | (simp [*]; done)), H', ⟨by have := HJ1.out; have := HJ11.out; have := HK3.out; have := HK4.out; have := HK5.out; have := HK6.out; omega⟩, ⟨by (with_reducible repeat (first | refine blk_drewN ?_ _ | refine blk_drew ?_ | refine blk_alloc ?_ _)); exact BK312.out⟩, ⟨by repeat (first | (with_reducible first | exact HB.out | apply below_alloc | apply pw_below_drewN | apply below_drew1 | refine below_set ?_ GE312.out) | exact HB.out)⟩⟩
  rw [if_neg c61] at H
  have c61b0 : decide (x10_6 < x7_4) = false := decide_eq_false c61
  clear c61
  by_cases c67 : 0 ≤ x7_4
  rotate_left
  ·rw [if_neg c67] at H
   exact absurd H (by simp)
  rw [if_pos c67] at H
  have c67b0 : decide (0 ≤ x7_4) = true := decide_eq_true c67
  clear c67
  by_cases c68 : x7_4 < (l0_3.length : Int)
  rotate_left
  ·rw [if_neg c68] at H
   exact absurd H (by simp)
  rw [if_pos c68] at H
  have c68b0 : decide (x7_4 < (l0_3.length : Int)) = true := decide_eq_true c68
  clear c68
  by_cases c69 : ((rd_T66 l0_3 x7_4).f1) < 0
  ·rw [if_pos c69] at H
   have c69b0 : decide (((rd_T66 l0_3 x7_4).f1) < 0) = true := decide_eq_true c69
   clear c69
   obtain rfl := Option.some.inj H
   have hcz70_0 : wr.cell? ⟨gb312, 0, none⟩ = some (.int .i64 a0_0) := (blk_cell BK312.out 0).trans rfl
   have hcz70_1 : wr.cell? ⟨gb312, 1, none⟩ = some (.slice A0_1 l0_1.length c0_1) := (blk_cell BK312.out 1).trans rfl
   have hcz70_2 : wr.cell? ⟨gb312, 2, none⟩ = some (.slice A0_2 l0_2.length c0_2) := (blk_cell BK312.out 2).trans rfl
   have hcz70_3 : wr.cell? ⟨gb312, 3, none⟩ = some (.slice (some ad324) l0_3.length c0_3) := (blk_cell BK312.out 3).trans rfl
   have hfz70_0 := blk_frozen BK312.out 0
   have hfz70_1 := blk_frozen BK312.out 1
   have hfz70_2 := blk_frozen BK312.out 2
   have hfz70_3 := blk_frozen BK312.out 3
   have p328 : 0 ≤ (x7_4 : Int) := of_decide_eq_true (by first | (with_reducible assumption) | assumption)
   have q328 : x7_4 < (l0_3.length : Int) := of_decide_eq_true (by first | (with_reducible assumption) | assumption)
   obtain ⟨ad328, e328, hx328_0, hx328_1⟩ := at_T66 HR0_3.out x7_4 p328 q328
   obtain rfl : ad324 = ad328 := (by injection e328)
   replace hx328_0 := (HB.out.cell (World.block_lt_of_cell? w _ hx328_0)).trans hx328_0
   replace hx328_1 := (HB.out.cell (World.block_lt_of_cell? w _ hx328_1)).trans hx328_1
   replace p328 := eq_true p328
   replace q328 := eq_true q328
   go_wp2
   repeat (go_quiet (fail); try go_wp2)
   go_ret
   exact ⟨by first | rfl | (simp [errW_none, errW_some] <;> rfl) | (simp [*, errW_none, errW_some] <;> rfl), by repeat (first | (with_reducible first | exact HB.out | apply below_alloc | apply pw_below_drewN | apply below_drew1 | refine below_set ?_ GE312.out) | exact HB.out)⟩
  rw [if_neg c69] at H
  have c69b0 : decide (((rd_T66 l0_3 x7_4).f1) < 0) = false := decide_eq_false c69
  clear c69
  by_cases c71 : ((rd_T66 l0_3 x7_4).f1) ≥ a0_0
  ·rw [if_pos c71] at H
   have c71b0 : decide (a0_0 ≤ ((rd_T66 l0_3 x7_4).f1)) = true := decide_eq_true c71
   clear c71
   obtain rfl := Option.some.inj H
   have hcz72_0 : wr.cell? ⟨gb312, 0, none⟩ = some (.int .i64 a0_0) := (blk_cell BK312.out 0).trans rfl
   have hcz72_1 : wr.cell? ⟨gb312, 1, none⟩ = some (.slice A0_1 l0_1.length c0_1) := (blk_cell BK312.out 1).trans rfl
   have hcz72_2 : wr.cell? ⟨gb312, 2, none⟩ = some (.slice A0_2 l0_2.length c0_2) := (blk_cell BK312.out 2).trans rfl
   have hcz72_3 : wr.cell? ⟨gb312, 3, none⟩ = some (.slice (some ad324) l0_3.length c0_3) := (blk_cell BK312.out 3).trans rfl
   have hfz72_0 := blk_frozen BK312.out 0
   have hfz72_1 := blk_frozen BK312.out 1
   have hfz72_2 := blk_frozen BK312.out 2
   have hfz72_3 := blk_frozen BK312.out 3
   have p328 : 0 ≤ (x7_4 : Int) := of_decide_eq_true (by first | (with_reducible assumption) | assumption)
   have q328 : x7_4 < (l0_3.length : Int) := of_decide_eq_true (by first | (with_reducible assumption) | assumption)
   obtain ⟨ad328, e328, hx328_0, hx328_1⟩ := at_T66 HR0_3.out x7_4 p328 q328
   obtain rfl : ad324 = ad328 := (by injection e328)
   replace hx328_0 := (HB.out.cell (World.block_lt_of_cell? w _ hx328_0)).trans hx328_0
   replace hx328_1 := (HB.out.cell (World.block_lt_of_cell? w _ hx328_1)).trans hx328_1
   replace p328 := eq_true p328
   replace q328 := eq_true q328
   have p329 : 0 ≤ (x7_4 : Int) := of_decide_eq_true (by first | (with_reducible assumption) | assumption)
   have q329 : x7_4 < (l0_3.length : Int) := of_decide_eq_true (by first | (with_reducible assumption) | assumption)
   obtain ⟨ad329, e329, hx329_0, hx329_1⟩ := at_T66 HR0_3.out x7_4 p329 q329
   obtain rfl : ad324 = ad329 := (by injection e329)
   replace hx329_0 := (HB.out.cell (World.block_lt_of_cell? w _ hx329_0)).trans hx329_0
   replace hx329_1 := (HB.out.cell (World.block_lt_of_cell? w _ hx329_1)).trans hx329_1
   replace p329 := eq_true p329
   replace q329 := eq_true q329
   go_wp2
   repeat (go_quiet (fail); try go_wp2)
   go_ret
   exact ⟨by first | rfl | (simp [errW_none, errW_some] <;> rfl) | (simp [*, errW_none, errW_some] <;> rfl), by repeat (first | (with_reducible first | exact HB.out | apply below_alloc | apply pw_below_drewN | apply below_drew1 | refine below_set ?_ GE312.out) | exact HB.out)⟩
  rw [if_neg c71] at H
  have c71b0 : decide (a0_0 ≤ ((rd_T66 l0_3 x7_4).f1)) = false := decide_eq_false c71
  clear c71
  have H' := Aside0.mk H
  clear H
  have hcz73_0 : wr.cell? ⟨gb312, 0, none⟩ = some (.int .i64 a0_0) := (blk_cell BK312.out 0).trans rfl
  have hcz73_1 : wr.cell? ⟨gb312, 1, none⟩ = some (.slice A0_1 l0_1.length c0_1) := (blk_cell BK312.out 1).trans rfl
  have hcz73_2 : wr.cell? ⟨gb312, 2, none⟩ = some (.slice A0_2 l0_2.length c0_2) := (blk_cell BK312.out 2).trans rfl
  have hcz73_3 : wr.cell? ⟨gb312, 3, none⟩ = some (.slice (some ad324) l0_3.length c0_3) := (blk_cell BK312.out 3).trans rfl
  have hfz73_0 := blk_frozen BK312.out 0
  have hfz73_1 := blk_frozen BK312.out 1
  have hfz73_2 := blk_frozen BK312.out 2
  have hfz73_3 := blk_frozen BK312.out 3
  have p328 : 0 ≤ (x7_4 : Int) := of_decide_eq_true (by first | (with_reducible assumption) | assumption)
  have q328 : x7_4 < (l0_3.length : Int) := of_decide_eq_true (by first | (with_reducible assumption) | assumption)
  obtain ⟨ad328, e328, hx328_0, hx328_1⟩ := at_T66 HR0_3.out x7_4 p328 q328
  obtain rfl : ad324 = ad328 := (by injection e328)
  replace hx328_0 := (HB.out.cell (World.block_lt_of_cell? w _ hx328_0)).trans hx328_0
  replace hx328_1 := (HB.out.cell (World.block_lt_of_cell? w _ hx328_1)).trans hx328_1
  replace p328 := eq_true p328
  replace q328 := eq_true q328
  have p329 : 0 ≤ (x7_4 : Int) := of_decide_eq_true (by first | (with_reducible assumption) | assumption)
  have q329 : x7_4 < (l0_3.length : Int) := of_decide_eq_true (by first | (with_reducible assumption) | assumption)
  obtain ⟨ad329, e329, hx329_0, hx329_1⟩ := at_T66 HR0_3.out x7_4 p329 q329
  obtain rfl : ad324 = ad329 := (by injection e329)
  replace hx329_0 := (HB.out.cell (World.block_lt_of_cell? w _ hx329_0)).trans hx329_0
  replace hx329_1 := (HB.out.cell (World.block_lt_of_cell? w _ hx329_1)).trans hx329_1
  replace p329 := eq_true p329
  replace q329 := eq_true q329
  go_wp2
  repeat (go_quiet (fail); try go_wp2)
  go_roundg k6
  case measure => have := HJ1.out; have := HJ11.out; have := HK3.out; have := HK4.out; have := HK5.out; have := HK6.out; omega
  case rel => exact ⟨(wrap64 (x7_4 + 1)), (by first | rfl | (simp; done) | (simp [*]; done)), H', ⟨by have := HJ1.out; have := HJ11.out; have := HK3.out; have := HK4.out; have := HK5.out; have := HK6.out; omega⟩, ⟨by (with_reducible repeat (first | refine blk_drewN ?_ _ | refine blk_drew ?_ | refine blk_alloc ?_ _)); exact BK312.out⟩, ⟨by repeat (first | (with_reducible first | exact HB.out | apply below_alloc | apply pw_below_drewN | apply below_drew1 | refine below_set ?_ GE312.out) | exact HB.out)⟩⟩
 rw [if_pos c17] at H
 have c17b0 : decide (x3_3 < (l0_1.length : Int)) = true := decide_eq_true c17
 clear c17
 by_cases c18 : 0 ≤ x3_3
 rotate_left
 ·rw [if_neg c18] at H
  exact absurd H (by simp)
 rw [if_pos c18] at H
 have c18b0 : decide (0 ≤ x3_3) = true := decide_eq_true c18
 clear c18
 replace H := Option.bind_eq_some_iff.mp H
 obtain ⟨t314, A190, H⟩ := H
 replace H : (if t314 = 0 then (treelineref20_Check.l1 k3 x3_3 0 a0_0 l0_1 l0_2 l0_3) else (some t314)) = some r := H
 have A19 := Aside0.mk A190
 clear A190
 by_cases c20 : t314 = 0
 rotate_left
 ·rw [if_neg c20] at H
  have c20b0 : (t314 == 0) = false := beq_eq_false_iff_ne.mpr c20
  have c20b1 : (t314 != 0) = true := bne_iff_ne.mpr c20
  obtain rfl := Option.some.inj H
  have hcz47_0 : wr.cell? ⟨gb312, 0, none⟩ = some (.int .i64 a0_0) := (blk_cell BK312.out 0).trans rfl
  have hcz47_1 : wr.cell? ⟨gb312, 1, none⟩ = some (.slice A0_1 l0_1.length c0_1) := (blk_cell BK312.out 1).trans rfl
  have hcz47_2 : wr.cell? ⟨gb312, 2, none⟩ = some (.slice A0_2 l0_2.length c0_2) := (blk_cell BK312.out 2).trans rfl
  have hcz47_3 : wr.cell? ⟨gb312, 3, none⟩ = some (.slice A0_3 l0_3.length c0_3) := (blk_cell BK312.out 3).trans rfl
  have hfz47_0 := blk_frozen BK312.out 0
  have hfz47_1 := blk_frozen BK312.out 1
  have hfz47_2 := blk_frozen BK312.out 2
  have hfz47_3 := blk_frozen BK312.out 3
  have p313 : 0 ≤ (x3_3 : Int) := of_decide_eq_true (by first | (with_reducible assumption) | assumption)
  have q313 : x3_3 < (l0_1.length : Int) := of_decide_eq_true (by first | (with_reducible assumption) | assumption)
  obtain ⟨ad313, A313_7, c313_7, e313, hx313_0, hx313_1, hx313_2, hx313_3, hx313_4, hx313_5, hx313_6, hx313_7, hl313_7, hi313_7⟩ := at_T51 HR0_1.out x3_3 p313 q313
  cases e313
  replace hx313_0 := (HB.out.cell (World.block_lt_of_cell? w _ hx313_0)).trans hx313_0
  replace hx313_1 := (HB.out.cell (World.block_lt_of_cell? w _ hx313_1)).trans hx313_1
  replace hx313_2 := (HB.out.cell (World.block_lt_of_cell? w _ hx313_2)).trans hx313_2
  replace hx313_3 := (HB.out.cell (World.block_lt_of_cell? w _ hx313_3)).trans hx313_3
  replace hx313_4 := (HB.out.cell (World.block_lt_of_cell? w _ hx313_4)).trans hx313_4
  replace hx313_5 := (HB.out.cell (World.block_lt_of_cell? w _ hx313_5)).trans hx313_5
  replace hx313_6 := (HB.out.cell (World.block_lt_of_cell? w _ hx313_6)).trans hx313_6
  replace hx313_7 := (HB.out.cell (World.block_lt_of_cell? w _ hx313_7)).trans hx313_7
  have HR313_7 := Aside0.mk hi313_7
  have HC313_7 := Aside0.mk hl313_7
  clear hi313_7 hl313_7
  replace p313 := eq_true p313
  replace q313 := eq_true q313
  go_wp2_with (first | (go_at_call 20; (with_reducible refine (treelineref11_Check.calls k3 ((rd_T51 l0_1 x3_3).f0) ((rd_T51 l0_1 x3_3).f1) ((rd_T51 l0_1 x3_3).f2) ((rd_T51 l0_1 x3_3).f3) ((rd_T51 l0_1 x3_3).f4) ((rd_T51 l0_1 x3_3).f5) ((rd_T51 l0_1 x3_3).f6) _ _ ((rd_T51 l0_1 x3_3).f7) t314 _ ?side1 ?side2 A19.out).mono ?_); (case side1 => repeat (first | exact (Kd.C_below HR313_7.out HB.out) | (with_reducible refine Kd.C_alloc ?_ _) | (with_reducible refine Kd.C_drewN ?_ _) | (with_reducible refine Kd.C_drew ?_))); (case side2 => exact HC313_7.out); rintro e w48 ⟨rfl, hb⟩; have n0_ := Aside0.mk (blk_below (g := gb312) (o := .cells #[.int .i64 a0_0, .slice (some ad313) l0_1.length c0_1, .slice A0_2 l0_2.length c0_2, .slice A0_3 l0_3.length c0_3] 28 (0, 0)) (by (with_reducible repeat (first | refine blk_drewN ?_ _ | refine blk_drew ?_ | refine blk_alloc ?_ _)); exact BK312.out) hb); have n1_ := Aside0.mk (below_step (by repeat (first | (with_reducible first | exact HB.out | apply below_alloc | apply pw_below_drewN | apply below_drew1 | refine below_set ?_ GE312.out) | exact HB.out)) hb); clear BK312; clear HB; have BK312 := n0_; have HB := n1_; clear n0_ n1_; (try clear hb); (try clear hb2); (try clear hk); (try clear hi)))
  repeat (go_quiet (fail); try go_wp2)
  go_ret
  exact ⟨by first | rfl | (simp [errW_none, errW_some] <;> rfl) | (simp [*, errW_none, errW_some] <;> rfl), by repeat (first | (with_reducible first | exact HB.out | apply below_alloc | apply pw_below_drewN | apply below_drew1 | refine below_set ?_ GE312.out) | exact HB.out)⟩
 rw [if_pos c20] at H
 have c20b0 : (t314 == 0) = true := beq_iff_eq.mpr c20
 have c20b1 : (t314 != 0) = false := bne_eq_false_iff_eq.mpr c20
 clear c20
 have H' := Aside0.mk H
 clear H
 have hcz21_0 : wr.cell? ⟨gb312, 0, none⟩ = some (.int .i64 a0_0) := (blk_cell BK312.out 0).trans rfl
 have hcz21_1 : wr.cell? ⟨gb312, 1, none⟩ = some (.slice A0_1 l0_1.length c0_1) := (blk_cell BK312.out 1).trans rfl
 have hcz21_2 : wr.cell? ⟨gb312, 2, none⟩ = some (.slice A0_2 l0_2.length c0_2) := (blk_cell BK312.out 2).trans rfl
 have hcz21_3 : wr.cell? ⟨gb312, 3, none⟩ = some (.slice A0_3 l0_3.length c0_3) := (blk_cell BK312.out 3).trans rfl
 have hfz21_0 := blk_frozen BK312.out 0
 have hfz21_1 := blk_frozen BK312.out 1
 have hfz21_2 := blk_frozen BK312.out 2
 have hfz21_3 := blk_frozen BK312.out 3
 have p313 : 0 ≤ (x3_3 : Int) := of_decide_eq_true (by first | (with_reducible assumption) | assumption)
 have q313 : x3_3 < (l0_1.length : Int) := of_decide_eq_true (by first | (with_reducible assumption) | assumption)
 obtain ⟨ad313, A313_7, c313_7, e313, hx313_0, hx313_1, hx313_2, hx313_3, hx313_4, hx313_5, hx313_6, hx313_7, hl313_7, hi313_7⟩ := at_T51 HR0_1.out x3_3 p313 q313
 cases e313
 replace hx313_0 := (HB.out.cell (World.block_lt_of_cell? w _ hx313_0)).trans hx313_0
 replace hx313_1 := (HB.out.cell (World.block_lt_of_cell? w _ hx313_1)).trans hx313_1
 replace hx313_2 := (HB.out.cell (World.block_lt_of_cell? w _ hx313_2)).trans hx313_2
 replace hx313_3 := (HB.out.cell (World.block_lt_of_cell? w _ hx313_3)).trans hx313_3
 replace hx313_4 := (HB.out.cell (World.block_lt_of_cell? w _ hx313_4)).trans hx313_4
 replace hx313_5 := (HB.out.cell (World.block_lt_of_cell? w _ hx313_5)).trans hx313_5
 replace hx313_6 := (HB.out.cell (World.block_lt_of_cell? w _ hx313_6)).trans hx313_6
 replace hx313_7 := (HB.out.cell (World.block_lt_of_cell? w _ hx313_7)).trans hx313_7
 have HR313_7 := Aside0.mk hi313_7
 have HC313_7 := Aside0.mk hl313_7
 clear hi313_7 hl313_7
 replace p313 := eq_true p313
 replace q313 := eq_true q313
 go_wp2_with (first | (go_at_call 20; (with_reducible refine (treelineref11_Check.calls k3 ((rd_T51 l0_1 x3_3).f0) ((rd_T51 l0_1 x3_3).f1) ((rd_T51 l0_1 x3_3).f2) ((rd_T51 l0_1 x3_3).f3) ((rd_T51 l0_1 x3_3).f4) ((rd_T51 l0_1 x3_3).f5) ((rd_T51 l0_1 x3_3).f6) _ _ ((rd_T51 l0_1 x3_3).f7) t314 _ ?side1 ?side2 A19.out).mono ?_); (case side1 => repeat (first | exact (Kd.C_below HR313_7.out HB.out) | (with_reducible refine Kd.C_alloc ?_ _) | (with_reducible refine Kd.C_drewN ?_ _) | (with_reducible refine Kd.C_drew ?_))); (case side2 => exact HC313_7.out); rintro e w22 ⟨rfl, hb⟩; have n0_ := Aside0.mk (blk_below (g := gb312) (o := .cells #[.int .i64 a0_0, .slice (some ad313) l0_1.length c0_1, .slice A0_2 l0_2.length c0_2, .slice A0_3 l0_3.length c0_3] 28 (0, 0)) (by (with_reducible repeat (first | refine blk_drewN ?_ _ | refine blk_drew ?_ | refine blk_alloc ?_ _)); exact BK312.out) hb); have n1_ := Aside0.mk (below_step (by repeat (first | (with_reducible first | exact HB.out | apply below_alloc | apply pw_below_drewN | apply below_drew1 | refine below_set ?_ GE312.out) | exact HB.out)) hb); clear BK312; clear HB; have BK312 := n0_; have HB := n1_; clear n0_ n1_; (try clear hb); (try clear hb2); (try clear hk); (try clear hi)))
 repeat (go_quiet (fail); try go_wp2)
 go_loopg [5] k3 (fun kq v5 w' => ∃ (x5_4 : Int), v5 = .int .i64 x5_4 ∧ Aside0 (treelineref20_Check.l1 kq x3_3 x5_4 a0_0 l0_1 l0_2 l0_3 = some r) ∧ Aside0 (kq ≤ k3) ∧ Aside0 (w'.heap[gb312]? = some (.cells #[.int .i64 a0_0, (.slice (some ad313) l0_1.length c0_1), (.slice A0_2 l0_2.length c0_2), (.slice A0_3 l0_3.length c0_3)] 28 (0, 0))) ∧ Aside0 (Below w.heap.size w w'))
 case atStart => exact ⟨(0), (by first | rfl | (simp; done) | (simp [*]; done)), H', ⟨Nat.le_refl _⟩, ⟨by (with_reducible repeat (first | refine blk_drewN ?_ _ | refine blk_drew ?_ | refine blk_alloc ?_ _)); exact BK312.out⟩, ⟨by repeat (first | (with_reducible first | exact HB.out | apply below_alloc | apply pw_below_drewN | apply below_drew1 | refine below_set ?_ GE312.out) | exact HB.out)⟩⟩
 clear H'
 try clear c1
 try clear c2
 try clear p2
 try clear c3
 try clear p3
 try clear q3
 try clear hx3
 try clear c4
 try clear c4b0
 try clear c6
 try clear c6b0
 try clear c8
 try clear c8b0
 try clear c8b1
 try clear c11
 try clear c13
 try clear c13b0
 try clear c13b1
 try clear c16
 try clear c17
 try clear c17b0
 try clear c18
 try clear c18b0
 try clear c20
 try clear c20b0
 try clear c20b1
 try clear hcz10_0
 try clear hcz10_1
 try clear hcz10_2
 try clear hcz10_3
 try clear hcz14_0
 try clear hcz14_1
 try clear hcz14_2
 try clear hcz14_3
 try clear hcz15_0
 try clear hcz15_1
 try clear hcz15_2
 try clear hcz15_3
 try clear hcz21_0
 try clear hcz21_1
 try clear hcz21_2
 try clear hcz21_3
 try clear hcz5_0
 try clear hcz5_1
 try clear hcz5_2
 try clear hcz5_3
 try clear hcz7_0
 try clear hcz7_1
 try clear hcz7_2
 try clear hcz7_3
 try clear hcz9_0
 try clear hcz9_1
 try clear hcz9_2
 try clear hcz9_3
 try clear hfz10_0
 try clear hfz10_1
 try clear hfz10_2
 try clear hfz10_3
 try clear hfz14_0
 try clear hfz14_1
 try clear hfz14_2
 try clear hfz14_3
 try clear hfz15_0
 try clear hfz15_1
 try clear hfz15_2
 try clear hfz15_3
 try clear hfz21_0
 try clear hfz21_1
 try clear hfz21_2
 try clear hfz21_3
 try clear hfz5_0
 try clear hfz5_1
 try clear hfz5_2
 try clear hfz5_3
 try clear hfz7_0
 try clear hfz7_1
 try clear hfz7_2
 try clear hfz7_3
 try clear hfz9_0
 try clear hfz9_1
 try clear hfz9_2
 try clear hfz9_3
 try clear hx313_0
 try clear hx313_1
 try clear hx313_2
 try clear hx313_3
 try clear hx313_4
 try clear hx313_5
 try clear hx313_6
 try clear hx313_7
 try clear p2
 try clear p313
 try clear q313
 obtain ⟨x5_4, rfl, HA, HK4, BK312, HB⟩ := hrel
 cases gk with
 | zero => exact absurd HA.out (by simp [treelineref20_Check.l1])
 | succ k4 => ?_
 have H := HA.out
 clear HA
 simp only [treelineref20_Check.l1] at H
 by_cases c23 : x5_4 < x3_3
 ·rw [if_pos c23] at H
  have c23b0 : decide (x5_4 < x3_3) = true := decide_eq_true c23
  clear c23
  by_cases c24 : 0 ≤ x5_4
  rotate_left
  ·rw [if_neg c24] at H
   exact absurd H (by simp)
  rw [if_pos c24] at H
  have c24b0 : decide (0 ≤ x5_4) = true := decide_eq_true c24
  clear c24
  by_cases c25 : x5_4 < (l0_1.length : Int)
  rotate_left
  ·rw [if_neg c25] at H
   exact absurd H (by simp)
  rw [if_pos c25] at H
  have c25b0 : decide (x5_4 < (l0_1.length : Int)) = true := decide_eq_true c25
  clear c25
  by_cases c26 : 0 ≤ x3_3
  rotate_left
  ·rw [if_neg c26] at H
   exact absurd H (by simp)
  rw [if_pos c26] at H
  have c26b0 : decide (0 ≤ x3_3) = true := decide_eq_true c26
  clear c26
  by_cases c27 : x3_3 < (l0_1.length : Int)
  rotate_left
  ·rw [if_neg c27] at H
   exact absurd H (by simp)
  rw [if_pos c27] at H
  have c27b0 : decide (x3_3 < (l0_1.length : Int)) = true := decide_eq_true c27
  clear c27
  by_cases c28 : ((rd_T51 l0_1 x5_4).f0) = ((rd_T51 l0_1 x3_3).f0)
  ·rw [if_pos c28] at H
   have c28b0 : (((rd_T51 l0_1 x5_4).f0) == ((rd_T51 l0_1 x3_3).f0)) = true := beq_iff_eq.mpr c28
   have c28b1 : (((rd_T51 l0_1 x5_4).f0) != ((rd_T51 l0_1 x3_3).f0)) = false := bne_eq_false_iff_eq.mpr c28
   clear c28
   obtain rfl := Option.some.inj H
   have hcz29_0 : wr.cell? ⟨gb312, 0, none⟩ = some (.int .i64 a0_0) := (blk_cell BK312.out 0).trans rfl
   have hcz29_1 : wr.cell? ⟨gb312, 1, none⟩ = some (.slice (some ad313) l0_1.length c0_1) := (blk_cell BK312.out 1).trans rfl
   have hcz29_2 : wr.cell? ⟨gb312, 2, none⟩ = some (.slice A0_2 l0_2.length c0_2) := (blk_cell BK312.out 2).trans rfl
   have hcz29_3 : wr.cell? ⟨gb312, 3, none⟩ = some (.slice A0_3 l0_3.length c0_3) := (blk_cell BK312.out 3).trans rfl
   have hfz29_0 := blk_frozen BK312.out 0
   have hfz29_1 := blk_frozen BK312.out 1
   have hfz29_2 := blk_frozen BK312.out 2
   have hfz29_3 := blk_frozen BK312.out 3
   have p315 : 0 ≤ (x5_4 : Int) := of_decide_eq_true (by first | (with_reducible assumption) | assumption)
   have q315 : x5_4 < (l0_1.length : Int) := of_decide_eq_true (by first | (with_reducible assumption) | assumption)
   obtain ⟨ad315, A315_7, c315_7, e315, hx315_0, hx315_1, hx315_2, hx315_3, hx315_4, hx315_5, hx315_6, hx315_7, hl315_7, hi315_7⟩ := at_T51 HR0_1.out x5_4 p315 q315
   obtain rfl : ad313 = ad315 := (by injection e315)
   replace hx315_0 := (HB.out.cell (World.block_lt_of_cell? w _ hx315_0)).trans hx315_0
   replace hx315_1 := (HB.out.cell (World.block_lt_of_cell? w _ hx315_1)).trans hx315_1
   replace hx315_2 := (HB.out.cell (World.block_lt_of_cell? w _ hx315_2)).trans hx315_2
   replace hx315_3 := (HB.out.cell (World.block_lt_of_cell? w _ hx315_3)).trans hx315_3
   replace hx315_4 := (HB.out.cell (World.block_lt_of_cell? w _ hx315_4)).trans hx315_4
   replace hx315_5 := (HB.out.cell (World.block_lt_of_cell? w _ hx315_5)).trans hx315_5
   replace hx315_6 := (HB.out.cell (World.block_lt_of_cell? w _ hx315_6)).trans hx315_6
   replace hx315_7 := (HB.out.cell (World.block_lt_of_cell? w _ hx315_7)).trans hx315_7
   have HR315_7 := Aside0.mk hi315_7
   have HC315_7 := Aside0.mk hl315_7
   clear hi315_7 hl315_7
   replace p315 := eq_true p315
   replace q315 := eq_true q315
   have p316 : 0 ≤ (x3_3 : Int) := of_decide_eq_true (by first | (with_reducible assumption) | assumption)
   have q316 : x3_3 < (l0_1.length : Int) := of_decide_eq_true (by first | (with_reducible assumption) | assumption)
   obtain ⟨ad316, A316_7, c316_7, e316, hx316_0, hx316_1, hx316_2, hx316_3, hx316_4, hx316_5, hx316_6, hx316_7, hl316_7, hi316_7⟩ := at_T51 HR0_1.out x3_3 p316 q316
   obtain rfl : ad313 = ad316 := (by injection e316)
   replace hx316_0 := (HB.out.cell (World.block_lt_of_cell? w _ hx316_0)).trans hx316_0
   replace hx316_1 := (HB.out.cell (World.block_lt_of_cell? w _ hx316_1)).trans hx316_1
   replace hx316_2 := (HB.out.cell (World.block_lt_of_cell? w _ hx316_2)).trans hx316_2
   replace hx316_3 := (HB.out.cell (World.block_lt_of_cell? w _ hx316_3)).trans hx316_3
   replace hx316_4 := (HB.out.cell (World.block_lt_of_cell? w _ hx316_4)).trans hx316_4
   replace hx316_5 := (HB.out.cell (World.block_lt_of_cell? w _ hx316_5)).trans hx316_5
   replace hx316_6 := (HB.out.cell (World.block_lt_of_cell? w _ hx316_6)).trans hx316_6
   replace hx316_7 := (HB.out.cell (World.block_lt_of_cell? w _ hx316_7)).trans hx316_7
   have HR316_7 := Aside0.mk hi316_7
   have HC316_7 := Aside0.mk hl316_7
   clear hi316_7 hl316_7
   replace p316 := eq_true p316
   replace q316 := eq_true q316
   go_wp2
   repeat (go_quiet (fail); try go_wp2)
   go_ret
   exact ⟨by first | rfl | (simp [errW_none, errW_some] <;> rfl) | (simp [*, errW_none, errW_some] <;> rfl), by repeat (first | (with_reducible first | exact HB.out | apply below_alloc | apply pw_below_drewN | apply below_drew1 | refine below_set ?_ GE312.out) | exact HB.out)⟩
  rw [if_neg c28] at H
  have c28b0 : (((rd_T51 l0_1 x5_4).f0) == ((rd_T51 l0_1 x3_3).f0)) = false := beq_eq_false_iff_ne.mpr c28
  have c28b1 : (((rd_T51 l0_1 x5_4).f0) != ((rd_T51 l0_1 x3_3).f0)) = true := bne_iff_ne.mpr c28
  have H' := Aside0.mk H
  clear H
  have hcz30_0 : wr.cell? ⟨gb312, 0, none⟩ = some (.int .i64 a0_0) := (blk_cell BK312.out 0).trans rfl
  have hcz30_1 : wr.cell? ⟨gb312, 1, none⟩ = some (.slice (some ad313) l0_1.length c0_1) := (blk_cell BK312.out 1).trans rfl
  have hcz30_2 : wr.cell? ⟨gb312, 2, none⟩ = some (.slice A0_2 l0_2.length c0_2) := (blk_cell BK312.out 2).trans rfl
  have hcz30_3 : wr.cell? ⟨gb312, 3, none⟩ = some (.slice A0_3 l0_3.length c0_3) := (blk_cell BK312.out 3).trans rfl
  have hfz30_0 := blk_frozen BK312.out 0
  have hfz30_1 := blk_frozen BK312.out 1
  have hfz30_2 := blk_frozen BK312.out 2
  have hfz30_3 := blk_frozen BK312.out 3
  have p315 : 0 ≤ (x5_4 : Int) := of_decide_eq_true (by first | (with_reducible assumption) | assumption)
  have q315 : x5_4 < (l0_1.length : Int) := of_decide_eq_true (by first | (with_reducible assumption) | assumption)
  obtain ⟨ad315, A315_7, c315_7, e315, hx315_0, hx315_1, hx315_2, hx315_3, hx315_4, hx315_5, hx315_6, hx315_7, hl315_7, hi315_7⟩ := at_T51 HR0_1.out x5_4 p315 q315
  obtain rfl : ad313 = ad315 := (by injection e315)
  replace hx315_0 := (HB.out.cell (World.block_lt_of_cell? w _ hx315_0)).trans hx315_0
  replace hx315_1 := (HB.out.cell (World.block_lt_of_cell? w _ hx315_1)).trans hx315_1
  replace hx315_2 := (HB.out.cell (World.block_lt_of_cell? w _ hx315_2)).trans hx315_2
  replace hx315_3 := (HB.out.cell (World.block_lt_of_cell? w _ hx315_3)).trans hx315_3
  replace hx315_4 := (HB.out.cell (World.block_lt_of_cell? w _ hx315_4)).trans hx315_4
  replace hx315_5 := (HB.out.cell (World.block_lt_of_cell? w _ hx315_5)).trans hx315_5
  replace hx315_6 := (HB.out.cell (World.block_lt_of_cell? w _ hx315_6)).trans hx315_6
  replace hx315_7 := (HB.out.cell (World.block_lt_of_cell? w _ hx315_7)).trans hx315_7
  have HR315_7 := Aside0.mk hi315_7
  have HC315_7 := Aside0.mk hl315_7
  clear hi315_7 hl315_7
  replace p315 := eq_true p315
  replace q315 := eq_true q315
  have p316 : 0 ≤ (x3_3 : Int) := of_decide_eq_true (by first | (with_reducible assumption) | assumption)
  have q316 : x3_3 < (l0_1.length : Int) := of_decide_eq_true (by first | (with_reducible assumption) | assumption)
  obtain ⟨ad316, A316_7, c316_7, e316, hx316_0, hx316_1, hx316_2, hx316_3, hx316_4, hx316_5, hx316_6, hx316_7, hl316_7, hi316_7⟩ := at_T51 HR0_1.out x3_3 p316 q316
  obtain rfl : ad313 = ad316 := (by injection e316)
  replace hx316_0 := (HB.out.cell (World.block_lt_of_cell? w _ hx316_0)).trans hx316_0
  replace hx316_1 := (HB.out.cell (World.block_lt_of_cell? w _ hx316_1)).trans hx316_1
  replace hx316_2 := (HB.out.cell (World.block_lt_of_cell? w _ hx316_2)).trans hx316_2
  replace hx316_3 := (HB.out.cell (World.block_lt_of_cell? w _ hx316_3)).trans hx316_3
  replace hx316_4 := (HB.out.cell (World.block_lt_of_cell? w _ hx316_4)).trans hx316_4
  replace hx316_5 := (HB.out.cell (World.block_lt_of_cell? w _ hx316_5)).trans hx316_5
  replace hx316_6 := (HB.out.cell (World.block_lt_of_cell? w _ hx316_6)).trans hx316_6
  replace hx316_7 := (HB.out.cell (World.block_lt_of_cell? w _ hx316_7)).trans hx316_7
  have HR316_7 := Aside0.mk hi316_7
  have HC316_7 := Aside0.mk hl316_7
  clear hi316_7 hl316_7
  replace p316 := eq_true p316
  replace q316 := eq_true q316
  go_wp2
  repeat (go_quiet (fail); try go_wp2)
  go_roundg k4
  case measure => have := HJ1.out; have := HJ11.out; have := HK3.out; have := HK4.out; omega
  case rel => exact ⟨(wrap64 (x5_4 + 1)), (by first | rfl | (simp; done) | (simp [*]; done)), H', ⟨by have := HJ1.out; have := HJ11.out; have := HK3.out; have := HK4.out; omega⟩, ⟨by (with_reducible repeat (first | refine blk_drewN ?_ _ | refine blk_drew ?_ | refine blk_alloc ?_ _)); exact BK312.out⟩, ⟨by repeat (first | (with_reducible first | exact HB.out | apply below_alloc | apply pw_below_drewN | apply below_drew1 | refine below_set ?_ GE312.out) | exact HB.out)⟩⟩
 rw [if_neg c23] at H
 have c23b0 : decide (x5_4 < x3_3) = false := decide_eq_false c23
 clear c23
 by_cases c31 : 0 ≤ x3_3
 rotate_left
 ·rw [if_neg c31] at H
  exact absurd H (by simp)
 rw [if_pos c31] at H
 have c31b0 : decide (0 ≤ x3_3) = true := decide_eq_true c31
 clear c31
 by_cases c32 : x3_3 < (l0_2.length : Int)
 rotate_left
 ·rw [if_neg c32] at H
  exact absurd H (by simp)
 rw [if_pos c32] at H
 have c32b0 : decide (x3_3 < (l0_2.length : Int)) = true := decide_eq_true c32
 clear c32
 by_cases c33 : x3_3 < (l0_1.length : Int)
 rotate_left
 ·rw [if_neg c33] at H
  exact absurd H (by simp)
 rw [if_pos c33] at H
 have c33b0 : decide (x3_3 < (l0_1.length : Int)) = true := decide_eq_true c33
 clear c33
 by_cases c34 : ((rd_L9 l0_2 x3_3).length : Int) = (((rd_T51 l0_1 x3_3).f7).length : Int)
 rotate_left
 ·rw [if_neg c34] at H
  have c34b0 : (((rd_L9 l0_2 x3_3).length : Int) == (((rd_T51 l0_1 x3_3).f7).length : Int)) = false := beq_eq_false_iff_ne.mpr c34
  have c34b1 : (((rd_L9 l0_2 x3_3).length : Int) != (((rd_T51 l0_1 x3_3).f7).length : Int)) = true := bne_iff_ne.mpr c34
  have c34b2 : ((rd_L9 l0_2 x3_3).length == ((rd_T51 l0_1 x3_3).f7).length) = false := by first | simpa using c34 | (simp at c34 ⊢; omega)
  obtain rfl := Option.some.inj H
  have hcz46_0 : wr.cell? ⟨gb312, 0, none⟩ = some (.int .i64 a0_0) := (blk_cell BK312.out 0).trans rfl
  have hcz46_1 : wr.cell? ⟨gb312, 1, none⟩ = some (.slice (some ad313) l0_1.length c0_1) := (blk_cell BK312.out 1).trans rfl
  have hcz46_2 : wr.cell? ⟨gb312, 2, none⟩ = some (.slice A0_2 l0_2.length c0_2) := (blk_cell BK312.out 2).trans rfl
  have hcz46_3 : wr.cell? ⟨gb312, 3, none⟩ = some (.slice A0_3 l0_3.length c0_3) := (blk_cell BK312.out 3).trans rfl
  have hfz46_0 := blk_frozen BK312.out 0
  have hfz46_1 := blk_frozen BK312.out 1
  have hfz46_2 := blk_frozen BK312.out 2
  have hfz46_3 := blk_frozen BK312.out 3
  have p317 : 0 ≤ (x3_3 : Int) := of_decide_eq_true (by first | (with_reducible assumption) | assumption)
  have q317 : x3_3 < (l0_2.length : Int) := of_decide_eq_true (by first | (with_reducible assumption) | assumption)
  obtain ⟨ad317, A317_0, c317_0, e317, hx317_0, hl317_0, hi317_0⟩ := at_L9 HR0_2.out x3_3 p317 q317
  cases e317
  replace hx317_0 := (HB.out.cell (World.block_lt_of_cell? w _ hx317_0)).trans hx317_0
  have HR317_0 := Aside0.mk hi317_0
  have HC317_0 := Aside0.mk hl317_0
  clear hi317_0 hl317_0
  replace p317 := eq_true p317
  replace q317 := eq_true q317
  have p318 : 0 ≤ (x3_3 : Int) := of_decide_eq_true (by first | (with_reducible assumption) | assumption)
  have q318 : x3_3 < (l0_1.length : Int) := of_decide_eq_true (by first | (with_reducible assumption) | assumption)
  obtain ⟨ad318, A318_7, c318_7, e318, hx318_0, hx318_1, hx318_2, hx318_3, hx318_4, hx318_5, hx318_6, hx318_7, hl318_7, hi318_7⟩ := at_T51 HR0_1.out x3_3 p318 q318
  obtain rfl : ad313 = ad318 := (by injection e318)
  replace hx318_0 := (HB.out.cell (World.block_lt_of_cell? w _ hx318_0)).trans hx318_0
  replace hx318_1 := (HB.out.cell (World.block_lt_of_cell? w _ hx318_1)).trans hx318_1
  replace hx318_2 := (HB.out.cell (World.block_lt_of_cell? w _ hx318_2)).trans hx318_2
  replace hx318_3 := (HB.out.cell (World.block_lt_of_cell? w _ hx318_3)).trans hx318_3
  replace hx318_4 := (HB.out.cell (World.block_lt_of_cell? w _ hx318_4)).trans hx318_4
  replace hx318_5 := (HB.out.cell (World.block_lt_of_cell? w _ hx318_5)).trans hx318_5
  replace hx318_6 := (HB.out.cell (World.block_lt_of_cell? w _ hx318_6)).trans hx318_6
  replace hx318_7 := (HB.out.cell (World.block_lt_of_cell? w _ hx318_7)).trans hx318_7
  have HR318_7 := Aside0.mk hi318_7
  have HC318_7 := Aside0.mk hl318_7
  clear hi318_7 hl318_7
  replace p318 := eq_true p318
  replace q318 := eq_true q318
  go_wp2
  repeat (go_quiet (fail); try go_wp2)
  go_ret
  exact ⟨by first | rfl | (simp [errW_none, errW_some] <;> rfl) | (simp [*, errW_none, errW_some] <;> rfl), by repeat (first | (with_reducible first | exact HB.out | apply below_alloc | apply pw_below_drewN | apply below_drew1 | refine below_set ?_ GE312.out) | exact HB.out)⟩
 rw [if_pos c34] at H
 have c34b0 : (((rd_L9 l0_2 x3_3).length : Int) == (((rd_T51 l0_1 x3_3).f7).length : Int)) = true := beq_iff_eq.mpr c34
 have c34b1 : (((rd_L9 l0_2 x3_3).length : Int) != (((rd_T51 l0_1 x3_3).f7).length : Int)) = false := bne_eq_false_iff_eq.mpr c34
 have c34b2 : ((rd_L9 l0_2 x3_3).length == ((rd_T51 l0_1 x3_3).f7).length) = true := by first | simpa using c34 | (simp at c34 ⊢; omega)
 clear c34
 have H' := Aside0.mk H
 clear H
 have hcz35_0 : wr.cell? ⟨gb312, 0, none⟩ = some (.int .i64 a0_0) := (blk_cell BK312.out 0).trans rfl
 have hcz35_1 : wr.cell? ⟨gb312, 1, none⟩ = some (.slice (some ad313) l0_1.length c0_1) := (blk_cell BK312.out 1).trans rfl
 have hcz35_2 : wr.cell? ⟨gb312, 2, none⟩ = some (.slice A0_2 l0_2.length c0_2) := (blk_cell BK312.out 2).trans rfl
 have hcz35_3 : wr.cell? ⟨gb312, 3, none⟩ = some (.slice A0_3 l0_3.length c0_3) := (blk_cell BK312.out 3).trans rfl
 have hfz35_0 := blk_frozen BK312.out 0
 have hfz35_1 := blk_frozen BK312.out 1
 have hfz35_2 := blk_frozen BK312.out 2
 have hfz35_3 := blk_frozen BK312.out 3
 have p317 : 0 ≤ (x3_3 : Int) := of_decide_eq_true (by first | (with_reducible assumption) | assumption)
 have q317 : x3_3 < (l0_2.length : Int) := of_decide_eq_true (by first | (with_reducible assumption) | assumption)
 obtain ⟨ad317, A317_0, c317_0, e317, hx317_0, hl317_0, hi317_0⟩ := at_L9 HR0_2.out x3_3 p317 q317
 cases e317
 replace hx317_0 := (HB.out.cell (World.block_lt_of_cell? w _ hx317_0)).trans hx317_0
 have HR317_0 := Aside0.mk hi317_0
 have HC317_0 := Aside0.mk hl317_0
 clear hi317_0 hl317_0
 replace p317 := eq_true p317
 replace q317 := eq_true q317
 have p318 : 0 ≤ (x3_3 : Int) := of_decide_eq_true (by first | (with_reducible assumption) | assumption)
 have q318 : x3_3 < (l0_1.length : Int) := of_decide_eq_true (by first | (with_reducible assumption) | assumption)
 obtain ⟨ad318, A318_7, c318_7, e318, hx318_0, hx318_1, hx318_2, hx318_3, hx318_4, hx318_5, hx318_6, hx318_7, hl318_7, hi318_7⟩ := at_T51 HR0_1.out x3_3 p318 q318
 obtain rfl : ad313 = ad318 := (by injection e318)
 replace hx318_0 := (HB.out.cell (World.block_lt_of_cell? w _ hx318_0)).trans hx318_0
 replace hx318_1 := (HB.out.cell (World.block_lt_of_cell? w _ hx318_1)).trans hx318_1
 replace hx318_2 := (HB.out.cell (World.block_lt_of_cell? w _ hx318_2)).trans hx318_2
 replace hx318_3 := (HB.out.cell (World.block_lt_of_cell? w _ hx318_3)).trans hx318_3
 replace hx318_4 := (HB.out.cell (World.block_lt_of_cell? w _ hx318_4)).trans hx318_4
 replace hx318_5 := (HB.out.cell (World.block_lt_of_cell? w _ hx318_5)).trans hx318_5
 replace hx318_6 := (HB.out.cell (World.block_lt_of_cell? w _ hx318_6)).trans hx318_6
 replace hx318_7 := (HB.out.cell (World.block_lt_of_cell? w _ hx318_7)).trans hx318_7
 have HR318_7 := Aside0.mk hi318_7
 have HC318_7 := Aside0.mk hl318_7
 clear hi318_7 hl318_7
 replace p318 := eq_true p318
 replace q318 := eq_true q318
 go_wp2
 repeat (go_quiet (fail); try go_wp2)
 go_loopg [6] k4 (fun kq v6 w' => ∃ (x6_5 : Int), v6 = .int .i64 x6_5 ∧ Aside0 (treelineref20_Check.l2 kq x3_3 x6_5 a0_0 l0_1 l0_2 l0_3 = some r) ∧ Aside0 (kq ≤ k4) ∧ Aside0 (w'.heap[gb312]? = some (.cells #[.int .i64 a0_0, (.slice (some ad313) l0_1.length c0_1), (.slice (some ad317) l0_2.length c0_2), (.slice A0_3 l0_3.length c0_3)] 28 (0, 0))) ∧ Aside0 (Below w.heap.size w w'))
 case atStart => exact ⟨(0), (by first | rfl | (simp; done) | (simp [*]; done)), H', ⟨Nat.le_refl _⟩, ⟨by (with_reducible repeat (first | refine blk_drewN ?_ _ | refine blk_drew ?_ | refine blk_alloc ?_ _)); exact BK312.out⟩, ⟨by repeat (first | (with_reducible first | exact HB.out | apply below_alloc | apply pw_below_drewN | apply below_drew1 | refine below_set ?_ GE312.out) | exact HB.out)⟩⟩
 clear H'
 try clear c1
 try clear c2
 try clear p2
 try clear c3
 try clear p3
 try clear q3
 try clear hx3
 try clear c4
 try clear c4b0
 try clear c6
 try clear c6b0
 try clear p6
 try clear c8
 try clear c8b0
 try clear c8b1
 try clear c11
 try clear c13
 try clear c13b0
 try clear c13b1
 try clear c16
 try clear c17
 try clear c17b0
 try clear c18
 try clear c18b0
 try clear c20
 try clear c20b0
 try clear c20b1
 try clear c23
 try clear c23b0
 try clear c24
 try clear c24b0
 try clear c25
 try clear c25b0
 try clear c26
 try clear c26b0
 try clear c27
 try clear c27b0
 try clear c28
 try clear c28b0
 try clear c28b1
 try clear c31
 try clear c31b0
 try clear p31
 try clear q31
 try clear hx31
 try clear c32
 try clear c32b0
 try clear c33
 try clear c33b0
 try clear c34
 try clear c34b0
 try clear c34b1
 try clear c34b2
 try clear hcz10_0
 try clear hcz10_1
 try clear hcz10_2
 try clear hcz10_3
 try clear hcz14_0
 try clear hcz14_1
 try clear hcz14_2
 try clear hcz14_3
 try clear hcz15_0
 try clear hcz15_1
 try clear hcz15_2
 try clear hcz15_3
 try clear hcz21_0
 try clear hcz21_1
 try clear hcz21_2
 try clear hcz21_3
 try clear hcz29_0
 try clear hcz29_1
 try clear hcz29_2
 try clear hcz29_3
 try clear hcz30_0
 try clear hcz30_1
 try clear hcz30_2
 try clear hcz30_3
 try clear hcz35_0
 try clear hcz35_1
 try clear hcz35_2
 try clear hcz35_3
 try clear hcz5_0
 try clear hcz5_1
 try clear hcz5_2
 try clear hcz5_3
 try clear hcz7_0
 try clear hcz7_1
 try clear hcz7_2
 try clear hcz7_3
 try clear hcz9_0
 try clear hcz9_1
 try clear hcz9_2
 try clear hcz9_3
 try clear hfz10_0
 try clear hfz10_1
 try clear hfz10_2
 try clear hfz10_3
 try clear hfz14_0
 try clear hfz14_1
 try clear hfz14_2
 try clear hfz14_3
 try clear hfz15_0
 try clear hfz15_1
 try clear hfz15_2
 try clear hfz15_3
 try clear hfz21_0
 try clear hfz21_1
 try clear hfz21_2
 try clear hfz21_3
 try clear hfz29_0
 try clear hfz29_1
 try clear hfz29_2
 try clear hfz29_3
 try clear hfz30_0
 try clear hfz30_1
 try clear hfz30_2
 try clear hfz30_3
 try clear hfz35_0
 try clear hfz35_1
 try clear hfz35_2
 try clear hfz35_3
 try clear hfz5_0
 try clear hfz5_1
 try clear hfz5_2
 try clear hfz5_3
 try clear hfz7_0
 try clear hfz7_1
 try clear hfz7_2
 try clear hfz7_3
 try clear hfz9_0
 try clear hfz9_1
 try clear hfz9_2
 try clear hfz9_3
 try clear hx313_0
 try clear hx313_1
 try clear hx313_2
 try clear hx313_3
 try clear hx313_4
 try clear hx313_5
 try clear hx313_6
 try clear hx313_7
 try clear hx315_0
 try clear hx315_1
 try clear hx315_2
 try clear hx315_3
 try clear hx315_4
 try clear hx315_5
 try clear hx315_6
 try clear hx315_7
 try clear hx316_0
 try clear hx316_1
 try clear hx316_2
 try clear hx316_3
 try clear hx316_4
 try clear hx316_5
 try clear hx316_6
 try clear hx316_7
 try clear hx317_0
 try clear hx318_0
 try clear hx318_1
 try clear hx318_2
 try clear hx318_3
 try clear hx318_4
 try clear hx318_5
 try clear hx318_6
 try clear hx318_7
 try clear p2
 try clear p3
 try clear p313
 try clear p315
 try clear p316
 try clear p317
 try clear p318
 try clear q3
 try clear q313
 try clear q315
 try clear q316
 try clear q317
 try clear q318
 obtain ⟨x6_5, rfl, HA, HK5, BK312, HB⟩ := hrel
 cases gk with
 | zero => exact absurd HA.out (by simp [treelineref20_Check.l2])
 | succ k5 => ?_
 have H := HA.out
 clear HA
 simp only [treelineref20_Check.l2] at H
 by_cases c36 : 0 ≤ x3_3
 rotate_left
 ·rw [if_neg c36] at H
  exact absurd H (by simp)
 rw [if_pos c36] at H
 have c36b0 : decide (0 ≤ x3_3) = true := decide_eq_true c36
 clear c36
 by_cases c37 : x3_3 < (l0_2.length : Int)
 rotate_left
 ·rw [if_neg c37] at H
  exact absurd H (by simp)
 rw [if_pos c37] at H
 have c37b0 : decide (x3_3 < (l0_2.length : Int)) = true := decide_eq_true c37
 clear c37
 by_cases c38 : x6_5 < ((rd_L9 l0_2 x3_3).length : Int)
 rotate_left
 ·rw [if_neg c38] at H
  have c38b0 : decide (x6_5 < ((rd_L9 l0_2 x3_3).length : Int)) = false := decide_eq_false c38
  clear c38
  have H' := Aside0.mk H
  clear H
  have hcz45_0 : wr.cell? ⟨gb312, 0, none⟩ = some (.int .i64 a0_0) := (blk_cell BK312.out 0).trans rfl
  have hcz45_1 : wr.cell? ⟨gb312, 1, none⟩ = some (.slice (some ad313) l0_1.length c0_1) := (blk_cell BK312.out 1).trans rfl
  have hcz45_2 : wr.cell? ⟨gb312, 2, none⟩ = some (.slice (some ad317) l0_2.length c0_2) := (blk_cell BK312.out 2).trans rfl
  have hcz45_3 : wr.cell? ⟨gb312, 3, none⟩ = some (.slice A0_3 l0_3.length c0_3) := (blk_cell BK312.out 3).trans rfl
  have hfz45_0 := blk_frozen BK312.out 0
  have hfz45_1 := blk_frozen BK312.out 1
  have hfz45_2 := blk_frozen BK312.out 2
  have hfz45_3 := blk_frozen BK312.out 3
  have p319 : 0 ≤ (x3_3 : Int) := of_decide_eq_true (by first | (with_reducible assumption) | assumption)
  have q319 : x3_3 < (l0_2.length : Int) := of_decide_eq_true (by first | (with_reducible assumption) | assumption)
  obtain ⟨ad319, A319_0, c319_0, e319, hx319_0, hl319_0, hi319_0⟩ := at_L9 HR0_2.out x3_3 p319 q319
  obtain rfl : ad317 = ad319 := (by injection e319)
  replace hx319_0 := (HB.out.cell (World.block_lt_of_cell? w _ hx319_0)).trans hx319_0
  have HR319_0 := Aside0.mk hi319_0
  have HC319_0 := Aside0.mk hl319_0
  clear hi319_0 hl319_0
  replace p319 := eq_true p319
  replace q319 := eq_true q319
  go_wp2
  repeat (go_quiet (fail); try go_wp2)
  go_roundg k5
  case measure => have := HJ1.out; have := HJ11.out; have := HK3.out; have := HK4.out; have := HK5.out; omega
  case rel => exact ⟨(wrap64 (x3_3 + 1)), (by first | rfl | (simp; done) | (simp [*]; done)), H', ⟨by have := HJ1.out; have := HJ11.out; have := HK3.out; have := HK4.out; have := HK5.out; omega⟩, ⟨by (with_reducible repeat (first | refine blk_drewN ?_ _ | refine blk_drew ?_ | refine blk_alloc ?_ _)); exact BK312.out⟩, ⟨by repeat (first | (with_reducible first | exact HB.out | apply below_alloc | apply pw_below_drewN | apply below_drew1 | refine below_set ?_ GE312.out) | exact HB.out)⟩⟩
 rw [if_pos c38] at H
 have c38b0 : decide (x6_5 < ((rd_L9 l0_2 x3_3).length : Int)) = true := decide_eq_true c38
 clear c38
 by_cases c39 : 0 ≤ x6_5
 rotate_left
 ·rw [if_neg c39] at H
  exact absurd H (by simp)
 rw [if_pos c39] at H
 have c39b0 : decide (0 ≤ x6_5) = true := decide_eq_true c39
 clear c39
 by_cases c40 : (rd (rd_L9 l0_2 x3_3) x6_5) < 0
 ·rw [if_pos c40] at H
  have c40b0 : decide ((rd (rd_L9 l0_2 x3_3) x6_5) < 0) = true := decide_eq_true c40
  clear c40
  obtain rfl := Option.some.inj H
  have hcz41_0 : wr.cell? ⟨gb312, 0, none⟩ = some (.int .i64 a0_0) := (blk_cell BK312.out 0).trans rfl
  have hcz41_1 : wr.cell? ⟨gb312, 1, none⟩ = some (.slice (some ad313) l0_1.length c0_1) := (blk_cell BK312.out 1).trans rfl
  have hcz41_2 : wr.cell? ⟨gb312, 2, none⟩ = some (.slice (some ad317) l0_2.length c0_2) := (blk_cell BK312.out 2).trans rfl
  have hcz41_3 : wr.cell? ⟨gb312, 3, none⟩ = some (.slice A0_3 l0_3.length c0_3) := (blk_cell BK312.out 3).trans rfl
  have hfz41_0 := blk_frozen BK312.out 0
  have hfz41_1 := blk_frozen BK312.out 1
  have hfz41_2 := blk_frozen BK312.out 2
  have hfz41_3 := blk_frozen BK312.out 3
  have p319 : 0 ≤ (x3_3 : Int) := of_decide_eq_true (by first | (with_reducible assumption) | assumption)
  have q319 : x3_3 < (l0_2.length : Int) := of_decide_eq_true (by first | (with_reducible assumption) | assumption)
  obtain ⟨ad319, A319_0, c319_0, e319, hx319_0, hl319_0, hi319_0⟩ := at_L9 HR0_2.out x3_3 p319 q319
  obtain rfl : ad317 = ad319 := (by injection e319)
  replace hx319_0 := (HB.out.cell (World.block_lt_of_cell? w _ hx319_0)).trans hx319_0
  have HR319_0 := Aside0.mk hi319_0
  have HC319_0 := Aside0.mk hl319_0
  clear hi319_0 hl319_0
  replace p319 := eq_true p319
  replace q319 := eq_true q319
  have p320 : 0 ≤ (x3_3 : Int) := of_decide_eq_true (by first | (with_reducible assumption) | assumption)
  have q320 : x3_3 < (l0_2.length : Int) := of_decide_eq_true (by first | (with_reducible assumption) | assumption)
  obtain ⟨ad320, A320_0, c320_0, e320, hx320_0, hl320_0, hi320_0⟩ := at_L9 HR0_2.out x3_3 p320 q320
  obtain rfl : ad317 = ad320 := (by injection e320)
  replace hx320_0 := (HB.out.cell (World.block_lt_of_cell? w _ hx320_0)).trans hx320_0
  have HR320_0 := Aside0.mk hi320_0
  have HC320_0 := Aside0.mk hl320_0
  clear hi320_0 hl320_0
  replace p320 := eq_true p320
  replace q320 := eq_true q320
  have ea_ := Option.some.inj (hx319_0.symm.trans hx320_0)
  injection ea_ with ea_ en_ ec_
  subst ea_
  subst ec_
  clear en_
  have p321 : 0 ≤ (x6_5 : Int) := of_decide_eq_true (by first | (with_reducible assumption) | assumption)
  have q321 : x6_5 < ((rd_L9 l0_2 x3_3).length : Int) := of_decide_eq_true (by first | (with_reducible assumption) | assumption)
  obtain ⟨ad321, e321, hx321_0⟩ := Kd.at_int HR320_0.out x6_5 p321 q321
  cases e321
  replace hx321_0 := (HB.out.cell (World.block_lt_of_cell? w _ hx321_0)).trans hx321_0
  replace p321 := eq_true p321
  replace q321 := eq_true q321
  go_wp2
  repeat (go_quiet (fail); try go_wp2)
  go_ret
  exact ⟨by first | rfl | (simp [errW_none, errW_some] <;> rfl) | (simp [*, errW_none, errW_some] <;> rfl), by repeat (first | (with_reducible first | exact HB.out | apply below_alloc | apply pw_below_drewN | apply below_drew1 | refine below_set ?_ GE312.out) | exact HB.out)⟩
 rw [if_neg c40] at H
 have c40b0 : decide ((rd (rd_L9 l0_2 x3_3) x6_5) < 0) = false := decide_eq_false c40
 clear c40
 by_cases c42 : (rd (rd_L9 l0_2 x3_3) x6_5) ≥ a0_0
 ·rw [if_pos c42] at H
  have c42b0 : decide (a0_0 ≤ (rd (rd_L9 l0_2 x3_3) x6_5)) = true := decide_eq_true c42
  clear c42
  obtain rfl := Option.some.inj H
  have hcz43_0 : wr.cell? ⟨gb312, 0, none⟩ = some (.int .i64 a0_0) := (blk_cell BK312.out 0).trans rfl
  have hcz43_1 : wr.cell? ⟨gb312, 1, none⟩ = some (.slice (some ad313) l0_1.length c0_1) := (blk_cell BK312.out 1).trans rfl
  have hcz43_2 : wr.cell? ⟨gb312, 2, none⟩ = some (.slice (some ad317) l0_2.length c0_2) := (blk_cell BK312.out 2).trans rfl
  have hcz43_3 : wr.cell? ⟨gb312, 3, none⟩ = some (.slice A0_3 l0_3.length c0_3) := (blk_cell BK312.out 3).trans rfl
  have hfz43_0 := blk_frozen BK312.out 0
  have hfz43_1 := blk_frozen BK312.out 1
  have hfz43_2 := blk_frozen BK312.out 2
  have hfz43_3 := blk_frozen BK312.out 3
  have p319 : 0 ≤ (x3_3 : Int) := of_decide_eq_true (by first | (with_reducible assumption) | assumption)
  have q319 : x3_3 < (l0_2.length : Int) := of_decide_eq_true (by first | (with_reducible assumption) | assumption)
  obtain ⟨ad319, A319_0, c319_0, e319, hx319_0, hl319_0, hi319_0⟩ := at_L9 HR0_2.out x3_3 p319 q319
  obtain rfl : ad317 = ad319 := (by injection e319)
  replace hx319_0 := (HB.out.cell (World.block_lt_of_cell? w _ hx319_0)).trans hx319_0
  have HR319_0 := Aside0.mk hi319_0
  have HC319_0 := Aside0.mk hl319_0
  clear hi319_0 hl319_0
  replace p319 := eq_true p319
  replace q319 := eq_true q319
  have p320 : 0 ≤ (x3_3 : Int) := of_decide_eq_true (by first | (with_reducible assumption) | assumption)
  have q320 : x3_3 < (l0_2.length : Int) := of_decide_eq_true (by first | (with_reducible assumption) | assumption)
  obtain ⟨ad320, A320_0, c320_0, e320, hx320_0, hl320_0, hi320_0⟩ := at_L9 HR0_2.out x3_3 p320 q320
  obtain rfl : ad317 = ad320 := (by injection e320)
  replace hx320_0 := (HB.out.cell (World.block_lt_of_cell? w _ hx320_0)).trans hx320_0
  have HR320_0 := Aside0.mk hi320_0
  have HC320_0 := Aside0.mk hl320_0
  clear hi320_0 hl320_0
  replace p320 := eq_true p320
  replace q320 := eq_true q320
  have ea_ := Option.some.inj (hx319_0.symm.trans hx320_0)
  injection ea_ with ea_ en_ ec_
  subst ea_
  subst ec_
  clear en_
  have p321 : 0 ≤ (x6_5 : Int) := of_decide_eq_true (by first | (with_reducible assumption) | assumption)
  have q321 : x6_5 < ((rd_L9 l0_2 x3_3).length : Int) := of_decide_eq_true (by first | (with_reducible assumption) | assumption)
  obtain ⟨ad321, e321, hx321_0⟩ := Kd.at_int HR320_0.out x6_5 p321 q321
  cases e321
  replace hx321_0 := (HB.out.cell (World.block_lt_of_cell? w _ hx321_0)).trans hx321_0
  replace p321 := eq_true p321
  replace q321 := eq_true q321
  have p322 : 0 ≤ (x3_3 : Int) := of_decide_eq_true (by first | (with_reducible assumption) | assumption)
  have q322 : x3_3 < (l0_2.length : Int) := of_decide_eq_true (by first | (with_reducible assumption) | assumption)
  obtain ⟨ad322, A322_0, c322_0, e322, hx322_0, hl322_0, hi322_0⟩ := at_L9 HR0_2.out x3_3 p322 q322
  obtain rfl : ad317 = ad322 := (by injection e322)
  replace hx322_0 := (HB.out.cell (World.block_lt_of_cell? w _ hx322_0)).trans hx322_0
  have HR322_0 := Aside0.mk hi322_0
  have HC322_0 := Aside0.mk hl322_0
  clear hi322_0 hl322_0
  replace p322 := eq_true p322
  replace q322 := eq_true q322
  have ea_ := Option.some.inj (hx319_0.symm.trans hx322_0)
  injection ea_ with ea_ en_ ec_
  subst ea_
  subst ec_
  clear en_
  have p323 : 0 ≤ (x6_5 : Int) := of_decide_eq_true (by first | (with_reducible assumption) | assumption)
  have q323 : x6_5 < ((rd_L9 l0_2 x3_3).length : Int) := of_decide_eq_true (by first | (with_reducible assumption) | assumption)
  obtain ⟨ad323, e323, hx323_0⟩ := Kd.at_int HR322_0.out x6_5 p323 q323
  cases e323
  replace hx323_0 := (HB.out.cell (World.block_lt_of_cell? w _ hx323_0)).trans hx323_0
  replace p323 := eq_true p323
  replace q323 := eq_true q323
  go_wp2
  repeat (go_quiet (fail); try go_wp2)
  go_ret
  exact ⟨by first | rfl | (simp [errW_none, errW_some] <;> rfl) | (simp [*, errW_none, errW_some] <;> rfl), by repeat (first | (with_reducible first | exact HB.out | apply below_alloc | apply pw_below_drewN | apply below_drew1 | refine below_set ?_ GE312.out) | exact HB.out)⟩
 rw [if_neg c42] at H
 have c42b0 : decide (a0_0 ≤ (rd (rd_L9 l0_2 x3_3) x6_5)) = false := decide_eq_false c42
 clear c42
 have H' := Aside0.mk H
 clear H
 have hcz44_0 : wr.cell? ⟨gb312, 0, none⟩ = some (.int .i64 a0_0) := (blk_cell BK312.out 0).trans rfl
 have hcz44_1 : wr.cell? ⟨gb312, 1, none⟩ = some (.slice (some ad313) l0_1.length c0_1) := (blk_cell BK312.out 1).trans rfl
 have hcz44_2 : wr.cell? ⟨gb312, 2, none⟩ = some (.slice (some ad317) l0_2.length c0_2) := (blk_cell BK312.out 2).trans rfl
 have hcz44_3 : wr.cell? ⟨gb312, 3, none⟩ = some (.slice A0_3 l0_3.length c0_3) := (blk_cell BK312.out 3).trans rfl
 have hfz44_0 := blk_frozen BK312.out 0
 have hfz44_1 := blk_frozen BK312.out 1
 have hfz44_2 := blk_frozen BK312.out 2
 have hfz44_3 := blk_frozen BK312.out 3
 have p319 : 0 ≤ (x3_3 : Int) := of_decide_eq_true (by first | (with_reducible assumption) | assumption)
 have q319 : x3_3 < (l0_2.length : Int) := of_decide_eq_true (by first | (with_reducible assumption) | assumption)
 obtain ⟨ad319, A319_0, c319_0, e319, hx319_0, hl319_0, hi319_0⟩ := at_L9 HR0_2.out x3_3 p319 q319
 obtain rfl : ad317 = ad319 := (by injection e319)
 replace hx319_0 := (HB.out.cell (World.block_lt_of_cell? w _ hx319_0)).trans hx319_0
 have HR319_0 := Aside0.mk hi319_0
 have HC319_0 := Aside0.mk hl319_0
 clear hi319_0 hl319_0
 replace p319 := eq_true p319
 replace q319 := eq_true q319
 have p320 : 0 ≤ (x3_3 : Int) := of_decide_eq_true (by first | (with_reducible assumption) | assumption)
 have q320 : x3_3 < (l0_2.length : Int) := of_decide_eq_true (by first | (with_reducible assumption) | assumption)
 obtain ⟨ad320, A320_0, c320_0, e320, hx320_0, hl320_0, hi320_0⟩ := at_L9 HR0_2.out x3_3 p320 q320
 obtain rfl : ad317 = ad320 := (by injection e320)
 replace hx320_0 := (HB.out.cell (World.block_lt_of_cell? w _ hx320_0)).trans hx320_0
 have HR320_0 := Aside0.mk hi320_0
 have HC320_0 := Aside0.mk hl320_0
 clear hi320_0 hl320_0
 replace p320 := eq_true p320
 replace q320 := eq_true q320
 have ea_ := Option.some.inj (hx319_0.symm.trans hx320_0)
 injection ea_ with ea_ en_ ec_
 subst ea_
 subst ec_
 clear en_
 have p321 : 0 ≤ (x6_5 : Int) := of_decide_eq_true (by first | (with_reducible assumption) | assumption)
 have q321 : x6_5 < ((rd_L9 l0_2 x3_3).length : Int) := of_decide_eq_true (by first | (with_reducible assumption) | assumption)
 obtain ⟨ad321, e321, hx321_0⟩ := Kd.at_int HR320_0.out x6_5 p321 q321
 cases e321
 replace hx321_0 := (HB.out.cell (World.block_lt_of_cell? w _ hx321_0)).trans hx321_0
 replace p321 := eq_true p321
 replace q321 := eq_true q321
 have p322 : 0 ≤ (x3_3 : Int) := of_decide_eq_true (by first | (with_reducible assumption) | assumption)
 have q322 : x3_3 < (l0_2.length : Int) := of_decide_eq_true (by first | (with_reducible assumption) | assumption)
 obtain ⟨ad322, A322_0, c322_0, e322, hx322_0, hl322_0, hi322_0⟩ := at_L9 HR0_2.out x3_3 p322 q322
 obtain rfl : ad317 = ad322 := (by injection e322)
 replace hx322_0 := (HB.out.cell (World.block_lt_of_cell? w _ hx322_0)).trans hx322_0
 have HR322_0 := Aside0.mk hi322_0
 have HC322_0 := Aside0.mk hl322_0
 clear hi322_0 hl322_0
 replace p322 := eq_true p322
 replace q322 := eq_true q322
 have ea_ := Option.some.inj (hx319_0.symm.trans hx322_0)
 injection ea_ with ea_ en_ ec_
 subst ea_
 subst ec_
 clear en_
 have p323 : 0 ≤ (x6_5 : Int) := of_decide_eq_true (by first | (with_reducible assumption) | assumption)
 have q323 : x6_5 < ((rd_L9 l0_2 x3_3).length : Int) := of_decide_eq_true (by first | (with_reducible assumption) | assumption)
 obtain ⟨ad323, e323, hx323_0⟩ := Kd.at_int HR322_0.out x6_5 p323 q323
 cases e323
 replace hx323_0 := (HB.out.cell (World.block_lt_of_cell? w _ hx323_0)).trans hx323_0
 replace p323 := eq_true p323
 replace q323 := eq_true q323
 go_wp2
 repeat (go_quiet (fail); try go_wp2)
 go_roundg k5
 case measure => have := HJ1.out; have := HJ11.out; have := HK3.out; have := HK4.out; have := HK5.out; omega
 case rel => exact ⟨(wrap64 (x6_5 + 1)), (by first | rfl | (simp; done) | (simp [*]; done)), H', ⟨by have := HJ1.out; have := HJ11.out; have := HK3.out; have := HK4.out; have := HK5.out; omega⟩, ⟨by (with_reducible repeat (first | refine blk_drewN ?_ _ | refine blk_drew ?_ | refine blk_alloc ?_ _)); exact BK312.out⟩, ⟨by repeat (first | (with_reducible first | exact HB.out | apply below_alloc | apply pw_below_drewN | apply below_drew1 | refine below_set ?_ GE312.out) | exact HB.out)⟩⟩
end Go.Proofs.YtiikllgppmmiaaaDoor.OScriptMay
