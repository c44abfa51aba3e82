/- A part of what Go functions that the law RankPlays uses come to. Made out of the kit's print by a program of this session (wip/tools/mend.py), with more rows. -/
import Derived.Test.YtnoejdogickplaaPRankPlaysx0
import Derived.Test.YtnoejdogickplaaORankPlaysx1
import Derived.Test.YtnoejdogickplaaORankPlaysx2
import Derived.Test.YtnoejdogickplaaORankPlaysx3
import Derived.Test.YtnoejdogickplaaORankPlaysx4
namespace Go.Proofs.Ytnoejdogickplaa.PRankPlays
open Go.RowKit Go.Proofs.YtnoejdogickplaaW.PrintWords Go.Proofs.YtnoejdogickplaaW.PrintLast Go.Proofs.YtnoejdogickplaaW.PrintMore
attribute [local go_sem] max2_int min2_int max_two min_two max_three min_three max_four min_four   -- for this text's walks alone
set_option linter.unusedVariables false
set_option linter.unusedSimpArgs false
private theorem setCell_drewN_ (w : World) (n : Nat) (p : Addr) (u : Value) : (w.drewN n).setCell p u = (w.setCell p u).drewN n := by
  unfold World.setCell World.drewN
  split <;> rfl

attribute [local go_sem high] eqA31
/-! ### treelinelaw10_RankPlays: function 7 -/
mutual
def treelinelaw10_RankPlays.j0 : Nat → Int → Int → Int → Int → Int → Int → Int → Int → Int → Int → Int → Int → Int → Int → Int → Int → Int → Int → Int → Int → Option (Bool)
  | 0, _, _, _, _, _, _, _, _, _, _, _, _, _, _, _, _, _, _, _, _ => none
  | k + 1, x2, x3, x9, x12, q1420, q1421, q1422, q1423, q1430, q1431, q1432, q1433, q1540, q1541, q1542, q1543, q1550, q1551, q1552, q1553 => (treelineref10_Less.f q1550 q1551 q1552 q1553 q1540 q1541 q1542 q1543).bind fun t156 => (if t156 = true then (treelinelaw10_RankPlays.j1 k x2 x3 x9 1 q1420 q1421 q1422 q1423 q1430 q1431 q1432 q1433 q1540 q1541 q1542 q1543 q1550 q1551 q1552 q1553) else (treelinelaw10_RankPlays.j1 k x2 x3 x9 x12 q1420 q1421 q1422 q1423 q1430 q1431 q1432 q1433 q1540 q1541 q1542 q1543 q1550 q1551 q1552 q1553))
def treelinelaw10_RankPlays.j1 : Nat → Int → Int → Int → Int → Int → Int → Int → Int → Int → Int → Int → Int → Int → Int → Int → Int → Int → Int → Int → Int → Option (Bool)
  | 0, _, _, _, _, _, _, _, _, _, _, _, _, _, _, _, _, _, _, _, _ => none
  | k + 1, x2, x3, x9, x12, q1420, q1421, q1422, q1423, q1430, q1431, q1432, q1433, q1540, q1541, q1542, q1543, q1550, q1551, q1552, q1553 => (rank_Via.f q1420 q1421 q1422 q1423 x3).bind fun bt157 => ((treelineref10_Far.f q1421 x3).bind fun t163 => (if x9 = x12 then ((rank_Keeps.f k q1420 q1421 q1422 q1423 q1430 q1431 q1432 q1433).bind fun t164 => (if (t164 == (decide (x12 ≤ 0))) = true then ((rank_Far.f q1421 q1431).bind fun t165 => ((treelineref10_Far.f q1421 q1431).bind fun t166 => (if t165 = t166 then (if (bt157.1 == q1420 && (bt157.2.1 == t163 && (bt157.2.2.1 == q1422 && (bt157.2.2.2 == q1423)))) = true then ((rank_Supersedes.f k q1420 q1421 q1422 q1423 q1430 q1431 q1432 q1433 x2).bind fun t167 => ((treelineref10_Supersedes.f k q1540 q1541 q1542 q1543 q1550 q1551 q1552 q1553 x2).bind fun t168 => (some (t167 == t168)))) else (some false)) else (some false)))) else (some false))) else (some false)))
end
def treelinelaw10_RankPlays.f (k : Nat) (a0_0 : Int) (a0_1 : Int) (a0_2 : Int) (a0_3 : Int) (a1_0 : Int) (a1_1 : Int) (a1_2 : Int) (a1_3 : Int) (a2 : Int) (a3 : Int) : Option (Bool) := (treelinelaw10_awake.f k).bind fun t143 => (if t143 = true then ((rank_Compare.f k a0_0 a0_1 a0_2 a0_3 a1_0 a1_1 a1_2 a1_3).bind fun t144 => ((treelinelaw10_Plain.f a0_0 a0_1 a0_2 a0_3).bind fun bt145 => ((treelinelaw10_Plain.f a1_0 a1_1 a1_2 a1_3).bind fun bt149 => ((treelineref10_Less.f bt145.1 bt145.2.1 bt145.2.2.1 bt145.2.2.2 bt149.1 bt149.2.1 bt149.2.2.1 bt149.2.2.2).bind fun t155 => (if t155 = true then (treelinelaw10_RankPlays.j0 k a2 a3 t144 (-1) a0_0 a0_1 a0_2 a0_3 a1_0 a1_1 a1_2 a1_3 bt145.1 bt145.2.1 bt145.2.2.1 bt145.2.2.2 bt149.1 bt149.2.1 bt149.2.2.1 bt149.2.2.2) else (treelinelaw10_RankPlays.j0 k a2 a3 t144 0 a0_0 a0_1 a0_2 a0_3 a1_0 a1_1 a1_2 a1_3 bt145.1 bt145.2.1 bt145.2.2.1 bt145.2.2.2 bt149.1 bt149.2.1 bt149.2.2.1 bt149.2.2.2)))))) else (some false))
theorem treelinelaw10_RankPlays.mono_l : ∀ k, (∀ y0 y1 y2 y3 y4 y5 y6 y7 y8 y9 y10 y11 y12 y13 y14 y15 y16 y17 y18 y19, LeO (treelinelaw10_RankPlays.j0 k y0 y1 y2 y3 y4 y5 y6 y7 y8 y9 y10 y11 y12 y13 y14 y15 y16 y17 y18 y19) (treelinelaw10_RankPlays.j0 (k + 1) y0 y1 y2 y3 y4 y5 y6 y7 y8 y9 y10 y11 y12 y13 y14 y15 y16 y17 y18 y19)) ∧ (∀ y0 y1 y2 y3 y4 y5 y6 y7 y8 y9 y10 y11 y12 y13 y14 y15 y16 y17 y18 y19, LeO (treelinelaw10_RankPlays.j1 k y0 y1 y2 y3 y4 y5 y6 y7 y8 y9 y10 y11 y12 y13 y14 y15 y16 y17 y18 y19) (treelinelaw10_RankPlays.j1 (k + 1) y0 y1 y2 y3 y4 y5 y6 y7 y8 y9 y10 y11 y12 y13 y14 y15 y16 y17 y18 y19))
  | 0 => ⟨fun _ _ _ _ _ _ _ _ _ _ _ _ _ _ _ _ _ _ _ _ r h => by simp [treelinelaw10_RankPlays.j0] at h, fun _ _ _ _ _ _ _ _ _ _ _ _ _ _ _ _ _ _ _ _ r h => by simp [treelinelaw10_RankPlays.j1] at h⟩
  | k + 1 => by
    obtain ⟨ih0, ih1⟩ := treelinelaw10_RankPlays.mono_l k
    refine ⟨?_, ?_⟩
    · intro y0 y1 y2 y3 y4 y5 y6 y7 y8 y9 y10 y11 y12 y13 y14 y15 y16 y17 y18 y19
      unfold treelinelaw10_RankPlays.j0
      repeat' first
      | (with_reducible exact ih0 _ _ _ _ _ _ _ _ _ _ _ _ _ _ _ _ _ _ _ _)
      | (with_reducible exact ih1 _ _ _ _ _ _ _ _ _ _ _ _ _ _ _ _ _ _ _ _)
      | (with_reducible exact rank_Compare.mono _ _ _ _ _ _ _ _ _)
      | (with_reducible exact rank_Keeps.mono _ _ _ _ _ _ _ _ _)
      | (with_reducible exact rank_Supersedes.mono _ _ _ _ _ _ _ _ _ _)
      | (with_reducible exact treelinelaw10_awake.mono _)
      | (with_reducible exact treelineref10_Supersedes.mono _ _ _ _ _ _ _ _ _ _)
      | (with_reducible exact LeO.refl _)
      | (with_reducible exact LeO.none _)
      | (with_reducible refine LeO.ite ?_ ?_)
      | (with_reducible refine LeO.bind ?_ (fun _ => ?_))
      | exact ih0 _ _ _ _ _ _ _ _ _ _ _ _ _ _ _ _ _ _ _ _
      | exact ih1 _ _ _ _ _ _ _ _ _ _ _ _ _ _ _ _ _ _ _ _
      | exact rank_Compare.mono _ _ _ _ _ _ _ _ _
      | exact rank_Keeps.mono _ _ _ _ _ _ _ _ _
      | exact rank_Supersedes.mono _ _ _ _ _ _ _ _ _ _
      | exact treelinelaw10_awake.mono _
      | exact treelineref10_Supersedes.mono _ _ _ _ _ _ _ _ _ _
      | exact LeO.none _
      | refine LeO.ite ?_ ?_
      | refine LeO.bind ?_ (fun _ => ?_)
    · intro y0 y1 y2 y3 y4 y5 y6 y7 y8 y9 y10 y11 y12 y13 y14 y15 y16 y17 y18 y19
      unfold treelinelaw10_RankPlays.j1
      repeat' first
      | (with_reducible exact ih0 _ _ _ _ _ _ _ _ _ _ _ _ _ _ _ _ _ _ _ _)
      | (with_reducible exact ih1 _ _ _ _ _ _ _ _ _ _ _ _ _ _ _ _ _ _ _ _)
      | (with_reducible exact rank_Compare.mono _ _ _ _ _ _ _ _ _)
      | (with_reducible exact rank_Keeps.mono _ _ _ _ _ _ _ _ _)
      | (with_reducible exact rank_Supersedes.mono _ _ _ _ _ _ _ _ _ _)
      | (with_reducible exact treelinelaw10_awake.mono _)
      | (with_reducible exact treelineref10_Supersedes.mono _ _ _ _ _ _ _ _ _ _)
      | (with_reducible exact LeO.refl _)
      | (with_reducible exact LeO.none _)
      | (with_reducible refine LeO.ite ?_ ?_)
      | (with_reducible refine LeO.bind ?_ (fun _ => ?_))
      | exact ih0 _ _ _ _ _ _ _ _ _ _ _ _ _ _ _ _ _ _ _ _
      | exact ih1 _ _ _ _ _ _ _ _ _ _ _ _ _ _ _ _ _ _ _ _
      | exact rank_Compare.mono _ _ _ _ _ _ _ _ _
      | exact rank_Keeps.mono _ _ _ _ _ _ _ _ _
      | exact rank_Supersedes.mono _ _ _ _ _ _ _ _ _ _
      | exact treelinelaw10_awake.mono _
      | exact treelineref10_Supersedes.mono _ _ _ _ _ _ _ _ _ _
      | exact LeO.none _
      | refine LeO.ite ?_ ?_
      | refine LeO.bind ?_ (fun _ => ?_)
theorem treelinelaw10_RankPlays.mono : ∀ a0 a1 a2 a3 a4 a5 a6 a7 a8 a9 k, LeO (treelinelaw10_RankPlays.f k a0 a1 a2 a3 a4 a5 a6 a7 a8 a9) (treelinelaw10_RankPlays.f (k + 1) a0 a1 a2 a3 a4 a5 a6 a7 a8 a9) := by
  intro a0 a1 a2 a3 a4 a5 a6 a7 a8 a9 k
  obtain ⟨ih0, ih1⟩ := treelinelaw10_RankPlays.mono_l k
  unfold treelinelaw10_RankPlays.f
  repeat' first
      | (with_reducible exact ih0 _ _ _ _ _ _ _ _ _ _ _ _ _ _ _ _ _ _ _ _)
      | (with_reducible exact ih1 _ _ _ _ _ _ _ _ _ _ _ _ _ _ _ _ _ _ _ _)
      | (with_reducible exact rank_Compare.mono _ _ _ _ _ _ _ _ _)
      | (with_reducible exact rank_Keeps.mono _ _ _ _ _ _ _ _ _)
      | (with_reducible exact rank_Supersedes.mono _ _ _ _ _ _ _ _ _ _)
      | (with_reducible exact treelinelaw10_awake.mono _)
      | (with_reducible exact treelineref10_Supersedes.mono _ _ _ _ _ _ _ _ _ _)
      | (with_reducible exact LeO.refl _)
      | (with_reducible exact LeO.none _)
      | (with_reducible refine LeO.ite ?_ ?_)
      | (with_reducible refine LeO.bind ?_ (fun _ => ?_))
      | exact ih0 _ _ _ _ _ _ _ _ _ _ _ _ _ _ _ _ _ _ _ _
      | exact ih1 _ _ _ _ _ _ _ _ _ _ _ _ _ _ _ _ _ _ _ _
      | exact rank_Compare.mono _ _ _ _ _ _ _ _ _
      | exact rank_Keeps.mono _ _ _ _ _ _ _ _ _
      | exact rank_Supersedes.mono _ _ _ _ _ _ _ _ _ _
      | exact treelinelaw10_awake.mono _
      | exact treelineref10_Supersedes.mono _ _ _ _ _ _ _ _ _ _
      | exact LeO.none _
      | refine LeO.ite ?_ ?_
      | refine LeO.bind ?_ (fun _ => ?_)
def treelinelaw10_RankPlays.T4 : Bool × List (List Nat × List Nat) := (true, [([], []), ([0], [0]), ([], []), ([2, 1], [2]), ([], []), ([], []), ([4, 1, 3, 0, 1, 4, 5], [1, 4]), ([5, 3, 6, 0, 1, 2, 3, 4, 5, 6], [3, 5])])
def treelinelaw10_RankPlays.B4 : List Nat := [0, 1, 0, 7, 0, 0, 63, 127]
theorem treelinelaw10_RankPlays.tab4 : rtab .any (opsOf Try.f7 4) = treelinelaw10_RankPlays.T4 := by kernel_rfl
theorem treelinelaw10_RankPlays.bits4 : waitsOk treelinelaw10_RankPlays.T4.2 treelinelaw10_RankPlays.B4 = true := by kernel_rfl
def treelinelaw10_RankPlays.T13 : Bool × List (List Nat × List Nat) := (true, [([], []), ([], []), ([0, 1], [0, 1]), ([2], [2]), ([3], [3]), ([3], [3]), ([4, 5, 3, 3], [3, 4, 5]), ([3], [3]), ([7, 3], [3, 7]), ([6, 8, 3], [3, 6, 8]), ([3, 9], [3, 9]), ([10, 6], [10]), ([11], [11]), ([12, 11], [11, 12]), ([11], [11]), ([14, 11], [11, 14]), ([13, 15, 11, 11], [11, 13, 15]), ([11], [11]), ([17, 11], [11, 17]), ([11], [11]), ([19, 11], [11, 19]), ([18, 20, 16, 11], [11, 18, 20]), ([16, 21, 11], [11, 16, 21]), ([11, 22], [11, 22]), ([23, 21], [23]), ([24], [24]), ([24], [24]), ([25, 26, 24], [24, 25, 26]), ([24, 27], [24, 27]), ([28, 24], [28]), ([29], [29]), ([29], [29]), ([29], [29]), ([30, 31, 32, 29, 29], [29, 30, 31, 32]), ([29], [29]), ([29], [29]), ([29], [29]), ([34, 35, 36, 33, 29], [29, 34, 35, 36]), ([33, 37, 29], [29, 33, 37]), ([29, 38], [29, 38]), ([39, 37, 0, 1, 2, 3, 4, 5, 6, 7, 8, 9, 10, 11, 12, 13, 14, 15, 16, 17, 18, 19, 20, 21, 22, 23, 24, 25, 26, 27, 28, 29, 30, 31, 32, 33, 34, 35, 36, 37, 38, 39], [39])])
def treelinelaw10_RankPlays.B13 : List Nat := [0, 0, 3, 7, 15, 15, 63, 15, 143, 511, 1023, 2047, 4095, 8191, 4095, 20479, 65535, 4095, 135167, 4095, 528383, 2097151, 4194303, 8388607, 16777215, 33554431, 33554431, 134217727, 268435455, 536870911, 1073741823, 1073741823, 1073741823, 8589934591, 1073741823, 1073741823, 1073741823, 137438953471, 274877906943, 549755813887, 1099511627775]
theorem treelinelaw10_RankPlays.tab13 : rtab .any (opsOf Try.f7 13) = treelinelaw10_RankPlays.T13 := by kernel_rfl
theorem treelinelaw10_RankPlays.bits13 : waitsOk treelinelaw10_RankPlays.T13.2 treelinelaw10_RankPlays.B13 = true := by kernel_rfl
end Go.Proofs.Ytnoejdogickplaa.PRankPlays
