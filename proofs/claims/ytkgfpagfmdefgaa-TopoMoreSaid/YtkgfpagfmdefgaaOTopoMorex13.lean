/- What Go functions that the law TopoMore uses come to, and why: part 13. Made out of the kit's print by a program of this session (wip/tools/stub.py, splice.py), functions that it does not take told by hand. -/
import Derived.Test.YtkgfpagfmdefgaaOTopoMorex12
namespace Go.Proofs.Ytkgfpagfmdefgaa.OTopoMore
open Go.RowKit Go.Proofs.YtkgfpagfmdefgaaW.PrintWords Go.Proofs.YtkgfpagfmdefgaaW.PrintLast Go.Proofs.YtkgfpagfmdefgaaW.PrintMore
attribute [local go_sem] max2_int min2_int max_two min_two max_three min_three max_four min_four   -- for this text's walks alone
set_option linter.unusedVariables false
set_option linter.unusedSimpArgs false

/-! ### treelinelaw20_TopoMore: function 5 -/
mutual
def treelinelaw20_TopoMore.j0 : Nat → List (List Bool) → Int → Int → Bool → Int → List (S48) → List (List Int) → List (S59) → Option (Bool)
  | 0, _, _, _, _, _, _, _, _ => none
  | k + 1, x1, x2, x3, x36, x206000, x206001, x206002, x206003 => if x36 = true then ((treelinelaw20_awake.f k).bind fun t208 => (some t208)) else (if (x206002.length : Int) = 0 then (none) else (treelinelaw20_TopoMore.l0 k x1 x3 (Int.tmod (wrap64 (x2)) (x206002.length : Int)) ([] : List (List Bool)) 0 x206000 x206001 x206002 x206003))
def treelinelaw20_TopoMore.l0 : Nat → List (List Bool) → Int → Int → List (List Bool) → Int → Int → List (S48) → List (List Int) → List (S59) → Option (Bool)
  | 0, _, _, _, _, _, _, _, _, _ => none
  | k + 1, x1, x3, x9, x10, x11, x206000, x206001, x206002, x206003 => if x11 < (x206002.length : Int) then (if 0 ≤ x11 then (if 0 ≤ ((rd_L9 x206002 x11).length : Int) then (if (((rd_L9 x206002 x11).length : Int) : Int).toNat ≤ 281474976710656 then (treelinelaw20_TopoMore.l1 k x1 x3 x9 x10 x11 (List.replicate (((rd_L9 x206002 x11).length : Int) : Int).toNat false) 0 x206000 x206001 x206002 x206003) else (none)) else (none)) else (none)) else ((topo_Parts.f k x206000 x206001 x206002 x206003 x1).bind fun t220 => ((topo_Parts.f k x206000 x206001 x206002 x206003 x10).bind fun t223 => ((topo_Parts.f k x206000 x206001 x206002 x206003 ([] : List (List Bool))).bind fun t226 => (treelinelaw20_TopoMore.l2 k t220 t223 t226 0))))
def treelinelaw20_TopoMore.l1 : Nat → List (List Bool) → Int → Int → List (List Bool) → Int → List Bool → Int → Int → List (S48) → List (List Int) → List (S59) → Option (Bool)
  | 0, _, _, _, _, _, _, _, _, _, _, _ => none
  | k + 1, x1, x3, x9, x10, x11, x12, x13, x206000, x206001, x206002, x206003 => if x13 < (x12.length : Int) then ((treelineref20_On.f x1 x11 x13).bind fun t213 => (if t213 = true then (if 0 ≤ x13 then (treelinelaw20_TopoMore.l1 k x1 x3 x9 x10 x11 (x12.set (x13 : Int).toNat true) (wrap64 (x13 + 1)) x206000 x206001 x206002 x206003) else (none)) else (if x11 = x9 then (if (x12.length : Int) = 0 then (none) else (if 0 ≤ x13 then (treelinelaw20_TopoMore.l1 k x1 x3 x9 x10 x11 (x12.set (x13 : Int).toNat (x13 == (Int.tmod (wrap64 (x3)) (x12.length : Int)))) (wrap64 (x13 + 1)) x206000 x206001 x206002 x206003) else (none))) else (if 0 ≤ x13 then (treelinelaw20_TopoMore.l1 k x1 x3 x9 x10 x11 (x12.set (x13 : Int).toNat false) (wrap64 (x13 + 1)) x206000 x206001 x206002 x206003) else (none))))) else (if x10.length < 5864062014805 then (treelinelaw20_TopoMore.l0 k x1 x3 x9 (x10 ++ [x12]) (wrap64 (x11 + 1)) x206000 x206001 x206002 x206003) else (none))
def treelinelaw20_TopoMore.l2 : Nat → List Int → List Int → List Int → Int → Option (Bool)
  | 0, _, _, _, _ => none
  | k + 1, x14, x15, x16, x17 => if x17 < (x14.length : Int) then (if 0 ≤ x17 then (if x17 < (x15.length : Int) then (if (rd x15 x17) > (rd x14 x17) then (treelinelaw20_TopoMore.j4 k x14 x15 x16 x17 true) else (if x17 < (x16.length : Int) then (treelinelaw20_TopoMore.j4 k x14 x15 x16 x17 ((rd x16 x17) != x17)) else (none))) else (none)) else (none)) else (some true)
def treelinelaw20_TopoMore.j4 : Nat → List Int → List Int → List Int → Int → Bool → Option (Bool)
  | 0, _, _, _, _, _ => none
  | k + 1, x14, x15, x16, x17, x119 => if x119 = true then (some false) else (treelinelaw20_TopoMore.l3 k x14 x15 x16 x17 0)
def treelinelaw20_TopoMore.l3 : Nat → List Int → List Int → List Int → Int → Int → Option (Bool)
  | 0, _, _, _, _, _ => none
  | k + 1, x14, x15, x16, x17, x18 => if x18 < (x14.length : Int) then (if 0 ≤ x17 then (if x17 < (x14.length : Int) then (if 0 ≤ x18 then (if (rd x14 x17) = (rd x14 x18) then (if x17 < (x15.length : Int) then (if x18 < (x15.length : Int) then (if (rd x15 x17) = (rd x15 x18) then (treelinelaw20_TopoMore.l3 k x14 x15 x16 x17 (wrap64 (x18 + 1))) else (some false)) else (none)) else (none)) else (treelinelaw20_TopoMore.l3 k x14 x15 x16 x17 (wrap64 (x18 + 1)))) else (none)) else (none)) else (none)) else (treelinelaw20_TopoMore.l2 k x14 x15 x16 (wrap64 (x17 + 1)))
end
def treelinelaw20_TopoMore.f (k : Nat) (a0_0 : Int) (l0_1 : List (S48)) (l0_2 : List (List Int)) (l0_3 : List (S59)) (l1 : List (List Bool)) (a2 : Int) (a3 : Int) : Option (Bool) := (treelinelaw20_awake.f k).bind fun t206 => (if t206 = true then ((treelineref20_Few.f k a0_0 l0_1 l0_2 l0_3).bind fun t207 => (if t207 = true then (if (l1.length : Int) > 20 then (treelinelaw20_TopoMore.j0 k l1 a2 a3 true a0_0 l0_1 l0_2 l0_3) else (treelinelaw20_TopoMore.j0 k l1 a2 a3 ((l0_2.length : Int) == 0) a0_0 l0_1 l0_2 l0_3)) else (treelinelaw20_TopoMore.j0 k l1 a2 a3 true a0_0 l0_1 l0_2 l0_3))) else (treelinelaw20_TopoMore.j0 k l1 a2 a3 true a0_0 l0_1 l0_2 l0_3))
theorem treelinelaw20_TopoMore.mono_l : ∀ k, (∀ y0 y1 y2 y3 y4 y5 y6 y7, LeO (treelinelaw20_TopoMore.j0 k y0 y1 y2 y3 y4 y5 y6 y7) (treelinelaw20_TopoMore.j0 (k + 1) y0 y1 y2 y3 y4 y5 y6 y7)) ∧ (∀ y0 y1 y2 y3 y4 y5 y6 y7 y8, LeO (treelinelaw20_TopoMore.l0 k y0 y1 y2 y3 y4 y5 y6 y7 y8) (treelinelaw20_TopoMore.l0 (k + 1) y0 y1 y2 y3 y4 y5 y6 y7 y8)) ∧ (∀ y0 y1 y2 y3 y4 y5 y6 y7 y8 y9 y10, LeO (treelinelaw20_TopoMore.l1 k y0 y1 y2 y3 y4 y5 y6 y7 y8 y9 y10) (treelinelaw20_TopoMore.l1 (k + 1) y0 y1 y2 y3 y4 y5 y6 y7 y8 y9 y10)) ∧ (∀ y0 y1 y2 y3, LeO (treelinelaw20_TopoMore.l2 k y0 y1 y2 y3) (treelinelaw20_TopoMore.l2 (k + 1) y0 y1 y2 y3)) ∧ (∀ y0 y1 y2 y3 y4, LeO (treelinelaw20_TopoMore.j4 k y0 y1 y2 y3 y4) (treelinelaw20_TopoMore.j4 (k + 1) y0 y1 y2 y3 y4)) ∧ (∀ y0 y1 y2 y3 y4, LeO (treelinelaw20_TopoMore.l3 k y0 y1 y2 y3 y4) (treelinelaw20_TopoMore.l3 (k + 1) y0 y1 y2 y3 y4))
  | 0 => ⟨fun _ _ _ _ _ _ _ _ r h => by simp [treelinelaw20_TopoMore.j0] at h, fun _ _ _ _ _ _ _ _ _ r h => by simp [treelinelaw20_TopoMore.l0] at h, fun _ _ _ _ _ _ _ _ _ _ _ r h => by simp [treelinelaw20_TopoMore.l1] at h, fun _ _ _ _ r h => by simp [treelinelaw20_TopoMore.l2] at h, fun _ _ _ _ _ r h => by simp [treelinelaw20_TopoMore.j4] at h, fun _ _ _ _ _ r h => by simp [treelinelaw20_TopoMore.l3] at h⟩
  | k + 1 => by
    obtain ⟨ih0, ih1, ih2, ih3, ih4, ih5⟩ := treelinelaw20_TopoMore.mono_l k
    refine ⟨?_, ?_, ?_, ?_, ?_, ?_⟩
    · intro y0 y1 y2 y3 y4 y5 y6 y7
      unfold treelinelaw20_TopoMore.j0
      repeat' first
      | (with_reducible exact ih0 _ _ _ _ _ _ _ _)
      | (with_reducible exact ih1 _ _ _ _ _ _ _ _ _)
      | (with_reducible exact ih2 _ _ _ _ _ _ _ _ _ _ _)
      | (with_reducible exact ih3 _ _ _ _)
      | (with_reducible exact ih4 _ _ _ _ _)
      | (with_reducible exact ih5 _ _ _ _ _)
      | (with_reducible exact topo_Parts.mono _ _ _ _ _ _)
      | (with_reducible exact treelinelaw20_awake.mono _)
      | (with_reducible exact treelineref20_Few.mono _ _ _ _ _)
      | (with_reducible exact LeO.refl _)
      | (with_reducible exact LeO.none _)
      | (with_reducible refine LeO.ite ?_ ?_)
      | (with_reducible refine LeO.bind ?_ (fun _ => ?_))
      | exact ih0 _ _ _ _ _ _ _ _
      | exact ih1 _ _ _ _ _ _ _ _ _
      | exact ih2 _ _ _ _ _ _ _ _ _ _ _
      | exact ih3 _ _ _ _
      | exact ih4 _ _ _ _ _
      | exact ih5 _ _ _ _ _
      | exact topo_Parts.mono _ _ _ _ _ _
      | exact treelinelaw20_awake.mono _
      | exact treelineref20_Few.mono _ _ _ _ _
      | exact LeO.none _
      | refine LeO.ite ?_ ?_
      | refine LeO.bind ?_ (fun _ => ?_)
    · intro y0 y1 y2 y3 y4 y5 y6 y7 y8
      unfold treelinelaw20_TopoMore.l0
      repeat' first
      | (with_reducible exact ih0 _ _ _ _ _ _ _ _)
      | (with_reducible exact ih1 _ _ _ _ _ _ _ _ _)
      | (with_reducible exact ih2 _ _ _ _ _ _ _ _ _ _ _)
      | (with_reducible exact ih3 _ _ _ _)
      | (with_reducible exact ih4 _ _ _ _ _)
      | (with_reducible exact ih5 _ _ _ _ _)
      | (with_reducible exact topo_Parts.mono _ _ _ _ _ _)
      | (with_reducible exact treelinelaw20_awake.mono _)
      | (with_reducible exact treelineref20_Few.mono _ _ _ _ _)
      | (with_reducible exact LeO.refl _)
      | (with_reducible exact LeO.none _)
      | (with_reducible refine LeO.ite ?_ ?_)
      | (with_reducible refine LeO.bind ?_ (fun _ => ?_))
      | exact ih0 _ _ _ _ _ _ _ _
      | exact ih1 _ _ _ _ _ _ _ _ _
      | exact ih2 _ _ _ _ _ _ _ _ _ _ _
      | exact ih3 _ _ _ _
      | exact ih4 _ _ _ _ _
      | exact ih5 _ _ _ _ _
      | exact topo_Parts.mono _ _ _ _ _ _
      | exact treelinelaw20_awake.mono _
      | exact treelineref20_Few.mono _ _ _ _ _
      | exact LeO.none _
      | refine LeO.ite ?_ ?_
      | refine LeO.bind ?_ (fun _ => ?_)
    · intro y0 y1 y2 y3 y4 y5 y6 y7 y8 y9 y10
      unfold treelinelaw20_TopoMore.l1
      repeat' first
      | (with_reducible exact ih0 _ _ _ _ _ _ _ _)
      | (with_reducible exact ih1 _ _ _ _ _ _ _ _ _)
      | (with_reducible exact ih2 _ _ _ _ _ _ _ _ _ _ _)
      | (with_reducible exact ih3 _ _ _ _)
      | (with_reducible exact ih4 _ _ _ _ _)
      | (with_reducible exact ih5 _ _ _ _ _)
      | (with_reducible exact topo_Parts.mono _ _ _ _ _ _)
      | (with_reducible exact treelinelaw20_awake.mono _)
      | (with_reducible exact treelineref20_Few.mono _ _ _ _ _)
      | (with_reducible exact LeO.refl _)
      | (with_reducible exact LeO.none _)
      | (with_reducible refine LeO.ite ?_ ?_)
      | (with_reducible refine LeO.bind ?_ (fun _ => ?_))
      | exact ih0 _ _ _ _ _ _ _ _
      | exact ih1 _ _ _ _ _ _ _ _ _
      | exact ih2 _ _ _ _ _ _ _ _ _ _ _
      | exact ih3 _ _ _ _
      | exact ih4 _ _ _ _ _
      | exact ih5 _ _ _ _ _
      | exact topo_Parts.mono _ _ _ _ _ _
      | exact treelinelaw20_awake.mono _
      | exact treelineref20_Few.mono _ _ _ _ _
      | exact LeO.none _
      | refine LeO.ite ?_ ?_
      | refine LeO.bind ?_ (fun _ => ?_)
    · intro y0 y1 y2 y3
      unfold treelinelaw20_TopoMore.l2
      repeat' first
      | (with_reducible exact ih0 _ _ _ _ _ _ _ _)
      | (with_reducible exact ih1 _ _ _ _ _ _ _ _ _)
      | (with_reducible exact ih2 _ _ _ _ _ _ _ _ _ _ _)
      | (with_reducible exact ih3 _ _ _ _)
      | (with_reducible exact ih4 _ _ _ _ _)
      | (with_reducible exact ih5 _ _ _ _ _)
      | (with_reducible exact topo_Parts.mono _ _ _ _ _ _)
      | (with_reducible exact treelinelaw20_awake.mono _)
      | (with_reducible exact treelineref20_Few.mono _ _ _ _ _)
      | (with_reducible exact LeO.refl _)
      | (with_reducible exact LeO.none _)
      | (with_reducible refine LeO.ite ?_ ?_)
      | (with_reducible refine LeO.bind ?_ (fun _ => ?_))
      | exact ih0 _ _ _ _ _ _ _ _
      | exact ih1 _ _ _ _ _ _ _ _ _
      | exact ih2 _ _ _ _ _ _ _ _ _ _ _
      | exact ih3 _ _ _ _
      | exact ih4 _ _ _ _ _
      | exact ih5 _ _ _ _ _
      | exact topo_Parts.mono _ _ _ _ _ _
      | exact treelinelaw20_awake.mono _
      | exact treelineref20_Few.mono _ _ _ _ _
      | exact LeO.none _
      | refine LeO.ite ?_ ?_
      | refine LeO.bind ?_ (fun _ => ?_)
    · intro y0 y1 y2 y3 y4
      unfold treelinelaw20_TopoMore.j4
      repeat' first
      | (with_reducible exact ih0 _ _ _ _ _ _ _ _)
      | (with_reducible exact ih1 _ _ _ _ _ _ _ _ _)
      | (with_reducible exact ih2 _ _ _ _ _ _ _ _ _ _ _)
      | (with_reducible exact ih3 _ _ _ _)
      | (with_reducible exact ih4 _ _ _ _ _)
      | (with_reducible exact ih5 _ _ _ _ _)
      | (with_reducible exact topo_Parts.mono _ _ _ _ _ _)
      | (with_reducible exact treelinelaw20_awake.mono _)
      | (with_reducible exact treelineref20_Few.mono _ _ _ _ _)
      | (with_reducible exact LeO.refl _)
      | (with_reducible exact LeO.none _)
      | (with_reducible refine LeO.ite ?_ ?_)
      | (with_reducible refine LeO.bind ?_ (fun _ => ?_))
      | exact ih0 _ _ _ _ _ _ _ _
      | exact ih1 _ _ _ _ _ _ _ _ _
      | exact ih2 _ _ _ _ _ _ _ _ _ _ _
      | exact ih3 _ _ _ _
      | exact ih4 _ _ _ _ _
      | exact ih5 _ _ _ _ _
      | exact topo_Parts.mono _ _ _ _ _ _
      | exact treelinelaw20_awake.mono _
      | exact treelineref20_Few.mono _ _ _ _ _
      | exact LeO.none _
      | refine LeO.ite ?_ ?_
      | refine LeO.bind ?_ (fun _ => ?_)
    · intro y0 y1 y2 y3 y4
      unfold treelinelaw20_TopoMore.l3
      repeat' first
      | (with_reducible exact ih0 _ _ _ _ _ _ _ _)
      | (with_reducible exact ih1 _ _ _ _ _ _ _ _ _)
      | (with_reducible exact ih2 _ _ _ _ _ _ _ _ _ _ _)
      | (with_reducible exact ih3 _ _ _ _)
      | (with_reducible exact ih4 _ _ _ _ _)
      | (with_reducible exact ih5 _ _ _ _ _)
      | (with_reducible exact topo_Parts.mono _ _ _ _ _ _)
      | (with_reducible exact treelinelaw20_awake.mono _)
      | (with_reducible exact treelineref20_Few.mono _ _ _ _ _)
      | (with_reducible exact LeO.refl _)
      | (with_reducible exact LeO.none _)
      | (with_reducible refine LeO.ite ?_ ?_)
      | (with_reducible refine LeO.bind ?_ (fun _ => ?_))
      | exact ih0 _ _ _ _ _ _ _ _
      | exact ih1 _ _ _ _ _ _ _ _ _
      | exact ih2 _ _ _ _ _ _ _ _ _ _ _
      | exact ih3 _ _ _ _
      | exact ih4 _ _ _ _ _
      | exact ih5 _ _ _ _ _
      | exact topo_Parts.mono _ _ _ _ _ _
      | exact treelinelaw20_awake.mono _
      | exact treelineref20_Few.mono _ _ _ _ _
      | exact LeO.none _
      | refine LeO.ite ?_ ?_
      | refine LeO.bind ?_ (fun _ => ?_)
theorem treelinelaw20_TopoMore.mono : ∀ a0 a1 a2 a3 a4 a5 a6 k, LeO (treelinelaw20_TopoMore.f k a0 a1 a2 a3 a4 a5 a6) (treelinelaw20_TopoMore.f (k + 1) a0 a1 a2 a3 a4 a5 a6) := by
  intro a0 a1 a2 a3 a4 a5 a6 k
  obtain ⟨ih0, ih1, ih2, ih3, ih4, ih5⟩ := treelinelaw20_TopoMore.mono_l k
  unfold treelinelaw20_TopoMore.f
  repeat' first
      | (with_reducible exact ih0 _ _ _ _ _ _ _ _)
      | (with_reducible exact ih1 _ _ _ _ _ _ _ _ _)
      | (with_reducible exact ih2 _ _ _ _ _ _ _ _ _ _ _)
      | (with_reducible exact ih3 _ _ _ _)
      | (with_reducible exact ih4 _ _ _ _ _)
      | (with_reducible exact ih5 _ _ _ _ _)
      | (with_reducible exact topo_Parts.mono _ _ _ _ _ _)
      | (with_reducible exact treelinelaw20_awake.mono _)
      | (with_reducible exact treelineref20_Few.mono _ _ _ _ _)
      | (with_reducible exact LeO.refl _)
      | (with_reducible exact LeO.none _)
      | (with_reducible refine LeO.ite ?_ ?_)
      | (with_reducible refine LeO.bind ?_ (fun _ => ?_))
      | exact ih0 _ _ _ _ _ _ _ _
      | exact ih1 _ _ _ _ _ _ _ _ _
      | exact ih2 _ _ _ _ _ _ _ _ _ _ _
      | exact ih3 _ _ _ _
      | exact ih4 _ _ _ _ _
      | exact ih5 _ _ _ _ _
      | exact topo_Parts.mono _ _ _ _ _ _
      | exact treelinelaw20_awake.mono _
      | exact treelineref20_Few.mono _ _ _ _ _
      | exact LeO.none _
      | refine LeO.ite ?_ ?_
      | refine LeO.bind ?_ (fun _ => ?_)
def treelinelaw20_TopoMore.T14 : Bool × List (List Nat × List Nat) := (true, [([], []), ([], []), ([0, 1], [0, 1]), ([], []), ([], []), ([3, 4, 2], [3, 4]), ([], []), ([6, 5], [6]), ([2, 7, 0, 1, 2], [2]), ([5, 8, 0, 1, 2, 3, 4, 5, 8], [5]), ([7, 9, 0, 1, 2, 3, 4, 5, 6, 7, 8, 9], [7])])
def treelinelaw20_TopoMore.B14 : List Nat := [0, 0, 3, 0, 0, 31, 0, 127, 255, 511, 1023]
theorem treelinelaw20_TopoMore.tab14 : rtab .any (opsOf Try.f5 14) = treelinelaw20_TopoMore.T14 := by kernel_rfl
theorem treelinelaw20_TopoMore.bits14 : waitsOk treelinelaw20_TopoMore.T14.2 treelinelaw20_TopoMore.B14 = true := by kernel_rfl
def treelinelaw20_TopoMore.T18 : Bool × List (List Nat × List Nat) := (true, [([], []), ([], []), ([0, 1], [0, 1]), ([2], [2]), ([], []), ([], []), ([4, 5], [4, 5]), ([6], [6]), ([3, 7], [3, 7]), ([8], [8]), ([9], [9]), ([9], [9]), ([10, 11, 9], [9, 10, 11]), ([12, 9], [9, 12]), ([9], [9]), ([13, 14, 9], [9, 13, 14]), ([9, 15], [9, 15])])
def treelinelaw20_TopoMore.B18 : List Nat := [0, 0, 3, 7, 0, 0, 48, 112, 255, 511, 1023, 1023, 4095, 8191, 1023, 32767, 65535]
theorem treelinelaw20_TopoMore.tab18 : rtab .any (opsOf Try.f5 18) = treelinelaw20_TopoMore.T18 := by kernel_rfl
theorem treelinelaw20_TopoMore.bits18 : waitsOk treelinelaw20_TopoMore.T18.2 treelinelaw20_TopoMore.B18 = true := by kernel_rfl
def treelinelaw20_TopoMore.T23 : Bool × List (List Nat × List Nat) := (true, [([], []), ([], []), ([0, 1], [0, 1]), ([2], [2]), ([], []), ([], []), ([4, 5], [4, 5]), ([6], [6]), ([3, 7], [3, 7]), ([8], [8]), ([9], [9]), ([9], [9]), ([10, 11, 9], [9, 10, 11]), ([12, 9], [9, 12]), ([9], [9]), ([9], [9]), ([14, 15, 9], [9, 14, 15]), ([16, 9], [9, 16]), ([13, 17, 9], [9, 13, 17]), ([9, 18], [9, 18])])
def treelinelaw20_TopoMore.B23 : List Nat := [0, 0, 3, 7, 0, 0, 48, 112, 255, 511, 1023, 1023, 4095, 8191, 1023, 1023, 50175, 115711, 262143, 524287]
theorem treelinelaw20_TopoMore.tab23 : rtab .any (opsOf Try.f5 23) = treelinelaw20_TopoMore.T23 := by kernel_rfl
theorem treelinelaw20_TopoMore.bits23 : waitsOk treelinelaw20_TopoMore.T23.2 treelinelaw20_TopoMore.B23 = true := by kernel_rfl
set_option maxHeartbeats 8000000 in
set_option maxRecDepth 100000 in
theorem treelinelaw20_TopoMore.calls (k : Nat) (a0_0 : Int) (A0_1 : Option Addr) (c0_1 : Nat) (l0_1 : List (S48)) (A0_2 : Option Addr) (c0_2 : Nat) (l0_2 : List (List Int)) (A0_3 : Option Addr) (c0_3 : Nat) (l0_3 : List (S59)) (A1 : Option Addr) (c1 : Nat) (l1 : List (List Bool)) (a2 : Int) (a3 : Int) (r : Bool) (w : World) (hr0_1 : Kd.C k48 w A0_1 l0_1.length l0_1) (hc0_1 : l0_1.length ≤ c0_1) (hr0_2 : Kd.C (Kd.slice 3 (Kd.int .i64)) w A0_2 l0_2.length l0_2) (hc0_2 : l0_2.length ≤ c0_2) (hr0_3 : Kd.C k59 w A0_3 l0_3.length l0_3) (hc0_3 : l0_3.length ≤ c0_3) (hr1 : Kd.C (Kd.slice 4 Kd.bool) w A1 l1.length l1) (hc1 : l1.length ≤ c1) (h : treelinelaw20_TopoMore.f k a0_0 l0_1 l0_2 l0_3 l1 a2 a3 = some r) (LRT : Aside0 (r = true)) :
  Calls Try.prog 5 #[.agg #[.int .i64 a0_0, .slice A0_1 l0_1.length c0_1, .slice A0_2 l0_2.length c0_2, .slice A0_3 l0_3.length c0_3], .slice A1 l1.length c1, .int .u8 a2, .int .u8 a3] w fun e w' => e = .returned (.bool r) ∧ Below w.heap.size w w' := by
 have hu26 := Try.underlying26
 have HR0_1 := Aside0.mk hr0_1
 have HC0_1 := Aside0.mk hc0_1
 clear hr0_1 hc0_1
 have HR0_2 := Aside0.mk hr0_2
 have HC0_2 := Aside0.mk hc0_2
 clear hr0_2 hc0_2
 have HR0_3 := Aside0.mk hr0_3
 have HC0_3 := Aside0.mk hc0_3
 clear hr0_3 hc0_3
 have HR1 := Aside0.mk hr1
 have HC1 := Aside0.mk hc1
 clear hr1 hc1
 have HB := Aside0.mk (Below.refl w.heap.size w)
 have H : ((treelinelaw20_awake.f k).bind fun t206 => (if t206 = true then ((treelineref20_Few.f k a0_0 l0_1 l0_2 l0_3).bind fun t207 => (if t207 = true then (if (l1.length : Int) > 20 then (treelinelaw20_TopoMore.j0 k l1 a2 a3 true a0_0 l0_1 l0_2 l0_3) else (treelinelaw20_TopoMore.j0 k l1 a2 a3 ((l0_2.length : Int) == 0) a0_0 l0_1 l0_2 l0_3)) else (treelinelaw20_TopoMore.j0 k l1 a2 a3 true a0_0 l0_1 l0_2 l0_3))) else (treelinelaw20_TopoMore.j0 k l1 a2 a3 true a0_0 l0_1 l0_2 l0_3))) = some r := h
 clear h
 have HC5 := Aside0.mk H
 clear H
 go_enter Try.func5, Try.ntmps5
 go_upto_region 1 with (first | ((with_reducible refine gate_dst (N := 4) rfl ?_); (try (refine gate_guard (by rfl) ?_; dsimp only)); refine box_event ?hg (N := 4) ?hd (cs := #[.int .i64 a0_0, .slice A0_1 l0_1.length c0_1, .slice A0_2 l0_2.length c0_2, .slice A0_3 l0_3.length c0_3]) (t := 26) ?hr ?_; (case hd => rfl); (case hg => rfl); (case hr => first | (go_simp; done) | (go_simp; rfl)); intro gb205 hg w6 hbox hb; have n0_ := Aside0.mk (below_step (by repeat (first | (with_reducible first | exact HB.out | apply below_alloc | apply pw_below_drewN | apply below_drew1) | exact HB.out)) hb); have n1_ := Aside0.mk (hbox); have n2_ := Aside0.mk ((by rw [hg]; exact (below_size (by repeat (first | (with_reducible first | exact HB.out | apply below_alloc | apply pw_below_drewN | apply below_drew1) | exact HB.out))) : w.heap.size ≤ gb205)); have n3_ := Aside0.mk ((by rw [hg]; exact (below_size (by repeat (first | (with_reducible first | exact HB.out | apply below_alloc | apply pw_below_drewN | apply below_drew1) | exact HB.out))) : w.heap.size ≤ gb205)); clear HB; have HB := n0_; have BK205 := n1_; have GW205 := n2_; have GE205 := n3_; clear n0_ n1_ n2_ n3_; clear hb hbox hg))
 (try simp only [Act.put, List.setIfInBounds_toArray, List.set_cons_zero, List.set_cons_succ])
 go_cut [36] (fun v36 wc => ∃ (kq : Nat) (x36_4 : Bool), v36 = .bool x36_4 ∧ Aside0 (treelinelaw20_TopoMore.j0 kq l1 a2 a3 x36_4 a0_0 l0_1 l0_2 l0_3 = some r) ∧ Aside0 (kq ≤ k) ∧ Aside0 (wc.heap[gb205]? = some (.cells #[.int .i64 a0_0, (.slice A0_1 l0_1.length c0_1), (.slice A0_2 l0_2.length c0_2), (.slice A0_3 l0_3.length c0_3)] 26 (0, 0))) ∧ Aside0 (Below w.heap.size w wc))
 case first =>
  have H := HC5.out
  clear HC5
  replace H := Option.bind_eq_some_iff.mp H
  obtain ⟨t206, A70, H⟩ := H
  replace H : (if t206 = true then ((treelineref20_Few.f k a0_0 l0_1 l0_2 l0_3).bind fun t207 => (if t207 = true then (if (l1.length : Int) > 20 then (treelinelaw20_TopoMore.j0 k l1 a2 a3 true a0_0 l0_1 l0_2 l0_3) else (treelinelaw20_TopoMore.j0 k l1 a2 a3 ((l0_2.length : Int) == 0) a0_0 l0_1 l0_2 l0_3)) else (treelinelaw20_TopoMore.j0 k l1 a2 a3 true a0_0 l0_1 l0_2 l0_3))) else (treelinelaw20_TopoMore.j0 k l1 a2 a3 true a0_0 l0_1 l0_2 l0_3)) = some r := H
  have A7 := Aside0.mk A70
  clear A70
  by_cases c8 : t206 = true
  ·subst c8
   have H1 : ((treelineref20_Few.f k a0_0 l0_1 l0_2 l0_3).bind fun t207 => (if t207 = true then (if (l1.length : Int) > 20 then (treelinelaw20_TopoMore.j0 k l1 a2 a3 true a0_0 l0_1 l0_2 l0_3) else (treelinelaw20_TopoMore.j0 k l1 a2 a3 ((l0_2.length : Int) == 0) a0_0 l0_1 l0_2 l0_3)) else (treelinelaw20_TopoMore.j0 k l1 a2 a3 true a0_0 l0_1 l0_2 l0_3))) = some r := by rw [if_pos rfl] at H; exact H
   clear H
   have H := H1
   clear H1
   replace H := Option.bind_eq_some_iff.mp H
   obtain ⟨t207, A90, H⟩ := H
   replace H : (if t207 = true then (if (l1.length : Int) > 20 then (treelinelaw20_TopoMore.j0 k l1 a2 a3 true a0_0 l0_1 l0_2 l0_3) else (treelinelaw20_TopoMore.j0 k l1 a2 a3 ((l0_2.length : Int) == 0) a0_0 l0_1 l0_2 l0_3)) else (treelinelaw20_TopoMore.j0 k l1 a2 a3 true a0_0 l0_1 l0_2 l0_3)) = some r := H
   have A9 := Aside0.mk A90
   clear A90
   by_cases c10 : t207 = true
   ·subst c10
    have H1 : (if (l1.length : Int) > 20 then (treelinelaw20_TopoMore.j0 k l1 a2 a3 true a0_0 l0_1 l0_2 l0_3) else (treelinelaw20_TopoMore.j0 k l1 a2 a3 ((l0_2.length : Int) == 0) a0_0 l0_1 l0_2 l0_3)) = some r := by rw [if_pos rfl] at H; exact H
    clear H
    have H := H1
    clear H1
    by_cases c11 : (l1.length : Int) > 20
    ·rw [if_pos c11] at H
     have c11b0 : decide (20 < (l1.length : Int)) = true := decide_eq_true c11
     have c11b1 : decide (20 < l1.length) = true := decide_eq_true (by omega)
     clear c11
     (first | rw [c11b0] | (simp only [i64_w, i32_w]; rw [c11b0]) | skip)
     have H' := Aside0.mk H
     clear H
     go_wp2_with (first | ((with_reducible refine gate_callee (f := 7) rfl ?_); refine goesL_ (some 19) rfl rfl Try.func7 (by kernel_rfl) rfl #[] rfl (by (try simp only [List.map_toArray, List.map_cons, List.map_nil]); first | done | rfl | (simp only [List.length_drop, List.length_take]; rfl)) ?_; (with_reducible refine (treelinelaw20_awake.calls k  true _ A7.out).mono ?_); rintro e w12 ⟨rfl, hb⟩; refine ⟨_, rfl, ?_⟩; have n0_ := Aside0.mk (blk_below (g := gb205) (o := .cells #[.int .i64 a0_0, .slice A0_1 l0_1.length c0_1, .slice A0_2 l0_2.length c0_2, .slice A0_3 l0_3.length c0_3] 26 (0, 0)) (by (with_reducible repeat (first | refine blk_drewN ?_ _ | refine blk_drew ?_ | refine blk_alloc ?_ _)); exact BK205.out) hb); have n1_ := Aside0.mk (below_step (by repeat (first | (with_reducible first | exact HB.out | apply below_alloc | apply pw_below_drewN | apply below_drew1 | refine below_set ?_ GE205.out) | exact HB.out)) hb); clear BK205; clear HB; have BK205 := n0_; have HB := n1_; clear n0_ n1_; (try clear hb); (try clear hb2); (try clear hk); (try clear hi); have hcz13_0 : w12.cell? ⟨gb205, 0, none⟩ = some (.int .i64 a0_0) := (blk_cell BK205.out 0).trans rfl; have hcz13_1 : w12.cell? ⟨gb205, 1, none⟩ = some (.slice A0_1 l0_1.length c0_1) := (blk_cell BK205.out 1).trans rfl; have hcz13_2 : w12.cell? ⟨gb205, 2, none⟩ = some (.slice A0_2 l0_2.length c0_2) := (blk_cell BK205.out 2).trans rfl; have hcz13_3 : w12.cell? ⟨gb205, 3, none⟩ = some (.slice A0_3 l0_3.length c0_3) := (blk_cell BK205.out 3).trans rfl; have hfz13_0 := blk_frozen BK205.out 0; have hfz13_1 := blk_frozen BK205.out 1; have hfz13_2 := blk_frozen BK205.out 2; have hfz13_3 := blk_frozen BK205.out 3) | (go_at_call 8; (with_reducible refine (treelineref20_Few.calls k a0_0 _ _ l0_1 _ _ l0_2 _ _ l0_3 true _ ?side1 ?side2 ?side3 ?side4 ?side5 ?side6 A9.out).mono ?_); (case side1 => repeat (first | exact (Kd.C_below HR0_1.out HB.out) | (with_reducible refine Kd.C_alloc ?_ _) | (with_reducible refine Kd.C_drewN ?_ _) | (with_reducible refine Kd.C_drew ?_))); (case side2 => exact HC0_1.out); (case side3 => repeat (first | exact (Kd.C_below HR0_2.out HB.out) | (with_reducible refine Kd.C_alloc ?_ _) | (with_reducible refine Kd.C_drewN ?_ _) | (with_reducible refine Kd.C_drew ?_))); (case side4 => exact HC0_2.out); (case side5 => repeat (first | exact (Kd.C_below HR0_3.out HB.out) | (with_reducible refine Kd.C_alloc ?_ _) | (with_reducible refine Kd.C_drewN ?_ _) | (with_reducible refine Kd.C_drew ?_))); (case side6 => exact HC0_3.out); rintro e w14 ⟨rfl, hb⟩; have n0_ := Aside0.mk (blk_below (g := gb205) (o := .cells #[.int .i64 a0_0, .slice A0_1 l0_1.length c0_1, .slice A0_2 l0_2.length c0_2, .slice A0_3 l0_3.length c0_3] 26 (0, 0)) (by (with_reducible repeat (first | refine blk_drewN ?_ _ | refine blk_drew ?_ | refine blk_alloc ?_ _)); exact BK205.out) hb); have n1_ := Aside0.mk (below_step (by repeat (first | (with_reducible first | exact HB.out | apply below_alloc | apply pw_below_drewN | apply below_drew1 | refine below_set ?_ GE205.out) | exact HB.out)) hb); clear BK205; clear HB; have BK205 := n0_; have HB := n1_; clear n0_ n1_; (try clear hb); (try clear hb2); (try clear hk); (try clear hi)) | (go_at_call 7; (with_reducible refine (treelinelaw20_awake.calls k  true _ A7.out).mono ?_); rintro e w12 ⟨rfl, hb⟩; have n0_ := Aside0.mk (blk_below (g := gb205) (o := .cells #[.int .i64 a0_0, .slice A0_1 l0_1.length c0_1, .slice A0_2 l0_2.length c0_2, .slice A0_3 l0_3.length c0_3] 26 (0, 0)) (by (with_reducible repeat (first | refine blk_drewN ?_ _ | refine blk_drew ?_ | refine blk_alloc ?_ _)); exact BK205.out) hb); have n1_ := Aside0.mk (below_step (by repeat (first | (with_reducible first | exact HB.out | apply below_alloc | apply pw_below_drewN | apply below_drew1 | refine below_set ?_ GE205.out) | exact HB.out)) hb); clear BK205; clear HB; have BK205 := n0_; have HB := n1_; clear n0_ n1_; (try clear hb); (try clear hb2); (try clear hk); (try clear hi); have hcz13_0 : w12.cell? ⟨gb205, 0, none⟩ = some (.int .i64 a0_0) := (blk_cell BK205.out 0).trans rfl; have hcz13_1 : w12.cell? ⟨gb205, 1, none⟩ = some (.slice A0_1 l0_1.length c0_1) := (blk_cell BK205.out 1).trans rfl; have hcz13_2 : w12.cell? ⟨gb205, 2, none⟩ = some (.slice A0_2 l0_2.length c0_2) := (blk_cell BK205.out 2).trans rfl; have hcz13_3 : w12.cell? ⟨gb205, 3, none⟩ = some (.slice A0_3 l0_3.length c0_3) := (blk_cell BK205.out 3).trans rfl; have hfz13_0 := blk_frozen BK205.out 0; have hfz13_1 := blk_frozen BK205.out 1; have hfz13_2 := blk_frozen BK205.out 2; have hfz13_3 := blk_frozen BK205.out 3))
     go_meet
     case rel => exact ⟨_, (true), (by first | rfl | (simp; done) | (simp [*]; done)), H', ⟨by first | omega | exact Nat.le_refl _⟩, ⟨by (with_reducible repeat (first | refine blk_drewN ?_ _ | refine blk_drew ?_ | refine blk_alloc ?_ _)); exact BK205.out⟩, ⟨by repeat (first | (with_reducible first | exact HB.out | apply below_alloc | apply pw_below_drewN | apply below_drew1 | refine below_set ?_ GE205.out) | exact HB.out)⟩⟩
    ·rw [if_neg c11] at H
     have c11b0 : decide (20 < (l1.length : Int)) = false := decide_eq_false c11
     have c11b1 : decide (20 < l1.length) = false := decide_eq_false (by omega)
     clear c11
     (first | rw [c11b0] | (simp only [i64_w, i32_w]; rw [c11b0]) | skip)
     have H' := Aside0.mk H
     clear H
     go_wp2_with (first | ((with_reducible refine gate_callee (f := 7) rfl ?_); refine goesL_ (some 19) rfl rfl Try.func7 (by kernel_rfl) rfl #[] rfl (by (try simp only [List.map_toArray, List.map_cons, List.map_nil]); first | done | rfl | (simp only [List.length_drop, List.length_take]; rfl)) ?_; (with_reducible refine (treelinelaw20_awake.calls k  true _ A7.out).mono ?_); rintro e w15 ⟨rfl, hb⟩; refine ⟨_, rfl, ?_⟩; have n0_ := Aside0.mk (blk_below (g := gb205) (o := .cells #[.int .i64 a0_0, .slice A0_1 l0_1.length c0_1, .slice A0_2 l0_2.length c0_2, .slice A0_3 l0_3.length c0_3] 26 (0, 0)) (by (with_reducible repeat (first | refine blk_drewN ?_ _ | refine blk_drew ?_ | refine blk_alloc ?_ _)); exact BK205.out) hb); have n1_ := Aside0.mk (below_step (by repeat (first | (with_reducible first | exact HB.out | apply below_alloc | apply pw_below_drewN | apply below_drew1 | refine below_set ?_ GE205.out) | exact HB.out)) hb); clear BK205; clear HB; have BK205 := n0_; have HB := n1_; clear n0_ n1_; (try clear hb); (try clear hb2); (try clear hk); (try clear hi); have hcz16_0 : w15.cell? ⟨gb205, 0, none⟩ = some (.int .i64 a0_0) := (blk_cell BK205.out 0).trans rfl; have hcz16_1 : w15.cell? ⟨gb205, 1, none⟩ = some (.slice A0_1 l0_1.length c0_1) := (blk_cell BK205.out 1).trans rfl; have hcz16_2 : w15.cell? ⟨gb205, 2, none⟩ = some (.slice A0_2 l0_2.length c0_2) := (blk_cell BK205.out 2).trans rfl; have hcz16_3 : w15.cell? ⟨gb205, 3, none⟩ = some (.slice A0_3 l0_3.length c0_3) := (blk_cell BK205.out 3).trans rfl; have hfz16_0 := blk_frozen BK205.out 0; have hfz16_1 := blk_frozen BK205.out 1; have hfz16_2 := blk_frozen BK205.out 2; have hfz16_3 := blk_frozen BK205.out 3) | (go_at_call 8; (with_reducible refine (treelineref20_Few.calls k a0_0 _ _ l0_1 _ _ l0_2 _ _ l0_3 true _ ?side1 ?side2 ?side3 ?side4 ?side5 ?side6 A9.out).mono ?_); (case side1 => repeat (first | exact (Kd.C_below HR0_1.out HB.out) | (with_reducible refine Kd.C_alloc ?_ _) | (with_reducible refine Kd.C_drewN ?_ _) | (with_reducible refine Kd.C_drew ?_))); (case side2 => exact HC0_1.out); (case side3 => repeat (first | exact (Kd.C_below HR0_2.out HB.out) | (with_reducible refine Kd.C_alloc ?_ _) | (with_reducible refine Kd.C_drewN ?_ _) | (with_reducible refine Kd.C_drew ?_))); (case side4 => exact HC0_2.out); (case side5 => repeat (first | exact (Kd.C_below HR0_3.out HB.out) | (with_reducible refine Kd.C_alloc ?_ _) | (with_reducible refine Kd.C_drewN ?_ _) | (with_reducible refine Kd.C_drew ?_))); (case side6 => exact HC0_3.out); rintro e w17 ⟨rfl, hb⟩; have n0_ := Aside0.mk (blk_below (g := gb205) (o := .cells #[.int .i64 a0_0, .slice A0_1 l0_1.length c0_1, .slice A0_2 l0_2.length c0_2, .slice A0_3 l0_3.length c0_3] 26 (0, 0)) (by (with_reducible repeat (first | refine blk_drewN ?_ _ | refine blk_drew ?_ | refine blk_alloc ?_ _)); exact BK205.out) hb); have n1_ := Aside0.mk (below_step (by repeat (first | (with_reducible first | exact HB.out | apply below_alloc | apply pw_below_drewN | apply below_drew1 | refine below_set ?_ GE205.out) | exact HB.out)) hb); clear BK205; clear HB; have BK205 := n0_; have HB := n1_; clear n0_ n1_; (try clear hb); (try clear hb2); (try clear hk); (try clear hi); have hcz18_0 : w17.cell? ⟨gb205, 0, none⟩ = some (.int .i64 a0_0) := (blk_cell BK205.out 0).trans rfl; have hcz18_1 : w17.cell? ⟨gb205, 1, none⟩ = some (.slice A0_1 l0_1.length c0_1) := (blk_cell BK205.out 1).trans rfl; have hcz18_2 : w17.cell? ⟨gb205, 2, none⟩ = some (.slice A0_2 l0_2.length c0_2) := (blk_cell BK205.out 2).trans rfl; have hcz18_3 : w17.cell? ⟨gb205, 3, none⟩ = some (.slice A0_3 l0_3.length c0_3) := (blk_cell BK205.out 3).trans rfl; have hfz18_0 := blk_frozen BK205.out 0; have hfz18_1 := blk_frozen BK205.out 1; have hfz18_2 := blk_frozen BK205.out 2; have hfz18_3 := blk_frozen BK205.out 3) | (go_at_call 7; (with_reducible refine (treelinelaw20_awake.calls k  true _ A7.out).mono ?_); rintro e w15 ⟨rfl, hb⟩; have n0_ := Aside0.mk (blk_below (g := gb205) (o := .cells #[.int .i64 a0_0, .slice A0_1 l0_1.length c0_1, .slice A0_2 l0_2.length c0_2, .slice A0_3 l0_3.length c0_3] 26 (0, 0)) (by (with_reducible repeat (first | refine blk_drewN ?_ _ | refine blk_drew ?_ | refine blk_alloc ?_ _)); exact BK205.out) hb); have n1_ := Aside0.mk (below_step (by repeat (first | (with_reducible first | exact HB.out | apply below_alloc | apply pw_below_drewN | apply below_drew1 | refine below_set ?_ GE205.out) | exact HB.out)) hb); clear BK205; clear HB; have BK205 := n0_; have HB := n1_; clear n0_ n1_; (try clear hb); (try clear hb2); (try clear hk); (try clear hi); have hcz16_0 : w15.cell? ⟨gb205, 0, none⟩ = some (.int .i64 a0_0) := (blk_cell BK205.out 0).trans rfl; have hcz16_1 : w15.cell? ⟨gb205, 1, none⟩ = some (.slice A0_1 l0_1.length c0_1) := (blk_cell BK205.out 1).trans rfl; have hcz16_2 : w15.cell? ⟨gb205, 2, none⟩ = some (.slice A0_2 l0_2.length c0_2) := (blk_cell BK205.out 2).trans rfl; have hcz16_3 : w15.cell? ⟨gb205, 3, none⟩ = some (.slice A0_3 l0_3.length c0_3) := (blk_cell BK205.out 3).trans rfl; have hfz16_0 := blk_frozen BK205.out 0; have hfz16_1 := blk_frozen BK205.out 1; have hfz16_2 := blk_frozen BK205.out 2; have hfz16_3 := blk_frozen BK205.out 3))
     go_meet
     case rel => exact ⟨_, (((l0_2.length : Int) == 0)), (by first | rfl | (simp; done) | (simp [*]; done)), H', ⟨by first | omega | exact Nat.le_refl _⟩, ⟨by (with_reducible repeat (first | refine blk_drewN ?_ _ | refine blk_drew ?_ | refine blk_alloc ?_ _)); exact BK205.out⟩, ⟨by repeat (first | (with_reducible first | exact HB.out | apply below_alloc | apply pw_below_drewN | apply below_drew1 | refine below_set ?_ GE205.out) | exact HB.out)⟩⟩
   ·replace c10 := Bool.eq_false_iff.mpr c10
    subst c10
    have H1 : (treelinelaw20_TopoMore.j0 k l1 a2 a3 true a0_0 l0_1 l0_2 l0_3) = some r := by rw [if_neg (show ¬ (false = true) by decide)] at H; exact H
    clear H
    have H := H1
    clear H1
    have H' := Aside0.mk H
    clear H
    go_wp2_with (first | ((with_reducible refine gate_callee (f := 7) rfl ?_); refine goesL_ (some 19) rfl rfl Try.func7 (by kernel_rfl) rfl #[] rfl (by (try simp only [List.map_toArray, List.map_cons, List.map_nil]); first | done | rfl | (simp only [List.length_drop, List.length_take]; rfl)) ?_; (with_reducible refine (treelinelaw20_awake.calls k  true _ A7.out).mono ?_); rintro e w19 ⟨rfl, hb⟩; refine ⟨_, rfl, ?_⟩; have n0_ := Aside0.mk (blk_below (g := gb205) (o := .cells #[.int .i64 a0_0, .slice A0_1 l0_1.length c0_1, .slice A0_2 l0_2.length c0_2, .slice A0_3 l0_3.length c0_3] 26 (0, 0)) (by (with_reducible repeat (first | refine blk_drewN ?_ _ | refine blk_drew ?_ | refine blk_alloc ?_ _)); exact BK205.out) hb); have n1_ := Aside0.mk (below_step (by repeat (first | (with_reducible first | exact HB.out | apply below_alloc | apply pw_below_drewN | apply below_drew1 | refine below_set ?_ GE205.out) | exact HB.out)) hb); clear BK205; clear HB; have BK205 := n0_; have HB := n1_; clear n0_ n1_; (try clear hb); (try clear hb2); (try clear hk); (try clear hi); have hcz20_0 : w19.cell? ⟨gb205, 0, none⟩ = some (.int .i64 a0_0) := (blk_cell BK205.out 0).trans rfl; have hcz20_1 : w19.cell? ⟨gb205, 1, none⟩ = some (.slice A0_1 l0_1.length c0_1) := (blk_cell BK205.out 1).trans rfl; have hcz20_2 : w19.cell? ⟨gb205, 2, none⟩ = some (.slice A0_2 l0_2.length c0_2) := (blk_cell BK205.out 2).trans rfl; have hcz20_3 : w19.cell? ⟨gb205, 3, none⟩ = some (.slice A0_3 l0_3.length c0_3) := (blk_cell BK205.out 3).trans rfl; have hfz20_0 := blk_frozen BK205.out 0; have hfz20_1 := blk_frozen BK205.out 1; have hfz20_2 := blk_frozen BK205.out 2; have hfz20_3 := blk_frozen BK205.out 3) | (go_at_call 8; (with_reducible refine (treelineref20_Few.calls k a0_0 _ _ l0_1 _ _ l0_2 _ _ l0_3 false _ ?side1 ?side2 ?side3 ?side4 ?side5 ?side6 A9.out).mono ?_); (case side1 => repeat (first | exact (Kd.C_below HR0_1.out HB.out) | (with_reducible refine Kd.C_alloc ?_ _) | (with_reducible refine Kd.C_drewN ?_ _) | (with_reducible refine Kd.C_drew ?_))); (case side2 => exact HC0_1.out); (case side3 => repeat (first | exact (Kd.C_below HR0_2.out HB.out) | (with_reducible refine Kd.C_alloc ?_ _) | (with_reducible refine Kd.C_drewN ?_ _) | (with_reducible refine Kd.C_drew ?_))); (case side4 => exact HC0_2.out); (case side5 => repeat (first | exact (Kd.C_below HR0_3.out HB.out) | (with_reducible refine Kd.C_alloc ?_ _) | (with_reducible refine Kd.C_drewN ?_ _) | (with_reducible refine Kd.C_drew ?_))); (case side6 => exact HC0_3.out); rintro e w21 ⟨rfl, hb⟩; have n0_ := Aside0.mk (blk_below (g := gb205) (o := .cells #[.int .i64 a0_0, .slice A0_1 l0_1.length c0_1, .slice A0_2 l0_2.length c0_2, .slice A0_3 l0_3.length c0_3] 26 (0, 0)) (by (with_reducible repeat (first | refine blk_drewN ?_ _ | refine blk_drew ?_ | refine blk_alloc ?_ _)); exact BK205.out) hb); have n1_ := Aside0.mk (below_step (by repeat (first | (with_reducible first | exact HB.out | apply below_alloc | apply pw_below_drewN | apply below_drew1 | refine below_set ?_ GE205.out) | exact HB.out)) hb); clear BK205; clear HB; have BK205 := n0_; have HB := n1_; clear n0_ n1_; (try clear hb); (try clear hb2); (try clear hk); (try clear hi)) | (go_at_call 7; (with_reducible refine (treelinelaw20_awake.calls k  true _ A7.out).mono ?_); rintro e w19 ⟨rfl, hb⟩; have n0_ := Aside0.mk (blk_below (g := gb205) (o := .cells #[.int .i64 a0_0, .slice A0_1 l0_1.length c0_1, .slice A0_2 l0_2.length c0_2, .slice A0_3 l0_3.length c0_3] 26 (0, 0)) (by (with_reducible repeat (first | refine blk_drewN ?_ _ | refine blk_drew ?_ | refine blk_alloc ?_ _)); exact BK205.out) hb); have n1_ := Aside0.mk (below_step (by repeat (first | (with_reducible first | exact HB.out | apply below_alloc | apply pw_below_drewN | apply below_drew1 | refine below_set ?_ GE205.out) | exact HB.out)) hb); clear BK205; clear HB; have BK205 := n0_; have HB := n1_; clear n0_ n1_; (try clear hb); (try clear hb2); (try clear hk); (try clear hi); have hcz20_0 : w19.cell? ⟨gb205, 0, none⟩ = some (.int .i64 a0_0) := (blk_cell BK205.out 0).trans rfl; have hcz20_1 : w19.cell? ⟨gb205, 1, none⟩ = some (.slice A0_1 l0_1.length c0_1) := (blk_cell BK205.out 1).trans rfl; have hcz20_2 : w19.cell? ⟨gb205, 2, none⟩ = some (.slice A0_2 l0_2.length c0_2) := (blk_cell BK205.out 2).trans rfl; have hcz20_3 : w19.cell? ⟨gb205, 3, none⟩ = some (.slice A0_3 l0_3.length c0_3) := (blk_cell BK205.out 3).trans rfl; have hfz20_0 := blk_frozen BK205.out 0; have hfz20_1 := blk_frozen BK205.out 1; have hfz20_2 := blk_frozen BK205.out 2; have hfz20_3 := blk_frozen BK205.out 3))
    go_meet
    case rel => exact ⟨_, (true), (by first | rfl | (simp; done) | (simp [*]; done)), H', ⟨by first | omega | exact Nat.le_refl _⟩, ⟨by (with_reducible repeat (first | refine blk_drewN ?_ _ | refine blk_drew ?_ | refine blk_alloc ?_ _)); exact BK205.out⟩, ⟨by repeat (first | (with_reducible first | exact HB.out | apply below_alloc | apply pw_below_drewN | apply below_drew1 | refine below_set ?_ GE205.out) | exact HB.out)⟩⟩
  ·replace c8 := Bool.eq_false_iff.mpr c8
   subst c8
   have H1 : (treelinelaw20_TopoMore.j0 k l1 a2 a3 true a0_0 l0_1 l0_2 l0_3) = some r := by rw [if_neg (show ¬ (false = true) by decide)] at H; exact H
   clear H
   have H := H1
   clear H1
   have H' := Aside0.mk H
   clear H
   go_wp2_with (first | ((with_reducible refine gate_callee (f := 7) rfl ?_); refine goesL_ (some 19) rfl rfl Try.func7 (by kernel_rfl) rfl #[] rfl (by (try simp only [List.map_toArray, List.map_cons, List.map_nil]); first | done | rfl | (simp only [List.length_drop, List.length_take]; rfl)) ?_; (with_reducible refine (treelinelaw20_awake.calls k  false _ A7.out).mono ?_); rintro e w22 ⟨rfl, hb⟩; refine ⟨_, rfl, ?_⟩; have n0_ := Aside0.mk (blk_below (g := gb205) (o := .cells #[.int .i64 a0_0, .slice A0_1 l0_1.length c0_1, .slice A0_2 l0_2.length c0_2, .slice A0_3 l0_3.length c0_3] 26 (0, 0)) (by (with_reducible repeat (first | refine blk_drewN ?_ _ | refine blk_drew ?_ | refine blk_alloc ?_ _)); exact BK205.out) hb); have n1_ := Aside0.mk (below_step (by repeat (first | (with_reducible first | exact HB.out | apply below_alloc | apply pw_below_drewN | apply below_drew1 | refine below_set ?_ GE205.out) | exact HB.out)) hb); clear BK205; clear HB; have BK205 := n0_; have HB := n1_; clear n0_ n1_; (try clear hb); (try clear hb2); (try clear hk); (try clear hi)) | (go_at_call 7; (with_reducible refine (treelinelaw20_awake.calls k  false _ A7.out).mono ?_); rintro e w22 ⟨rfl, hb⟩; have n0_ := Aside0.mk (blk_below (g := gb205) (o := .cells #[.int .i64 a0_0, .slice A0_1 l0_1.length c0_1, .slice A0_2 l0_2.length c0_2, .slice A0_3 l0_3.length c0_3] 26 (0, 0)) (by (with_reducible repeat (first | refine blk_drewN ?_ _ | refine blk_drew ?_ | refine blk_alloc ?_ _)); exact BK205.out) hb); have n1_ := Aside0.mk (below_step (by repeat (first | (with_reducible first | exact HB.out | apply below_alloc | apply pw_below_drewN | apply below_drew1 | refine below_set ?_ GE205.out) | exact HB.out)) hb); clear BK205; clear HB; have BK205 := n0_; have HB := n1_; clear n0_ n1_; (try clear hb); (try clear hb2); (try clear hk); (try clear hi)))
   go_meet
   case rel => exact ⟨_, (true), (by first | rfl | (simp; done) | (simp [*]; done)), H', ⟨by first | omega | exact Nat.le_refl _⟩, ⟨by (with_reducible repeat (first | refine blk_drewN ?_ _ | refine blk_drew ?_ | refine blk_alloc ?_ _)); exact BK205.out⟩, ⟨by repeat (first | (with_reducible first | exact HB.out | apply below_alloc | apply pw_below_drewN | apply below_drew1 | refine below_set ?_ GE205.out) | exact HB.out)⟩⟩
 case rest =>
  clear HC5
  try clear c1
  try clear p2
  try clear c5
  try clear c7
  try clear c8
  try clear c10
  try clear c11
  try clear c11b0
  try clear c11b1
  try clear hcz13_0
  try clear hcz13_1
  try clear hcz13_2
  try clear hcz13_3
  try clear hcz16_0
  try clear hcz16_1
  try clear hcz16_2
  try clear hcz16_3
  try clear hcz18_0
  try clear hcz18_1
  try clear hcz18_2
  try clear hcz18_3
  try clear hcz20_0
  try clear hcz20_1
  try clear hcz20_2
  try clear hcz20_3
  try clear hfz13_0
  try clear hfz13_1
  try clear hfz13_2
  try clear hfz13_3
  try clear hfz16_0
  try clear hfz16_1
  try clear hfz16_2
  try clear hfz16_3
  try clear hfz18_0
  try clear hfz18_1
  try clear hfz18_2
  try clear hfz18_3
  try clear hfz20_0
  try clear hfz20_1
  try clear hfz20_2
  try clear hfz20_3
  obtain ⟨kq, x36_4, rfl, HA, HJ4, BK205, HB⟩ := hcut
  cases kq with
  | zero => exact absurd HA.out (by simp [treelinelaw20_TopoMore.j0])
  | succ kj4 =>
   have H := HA.out
   clear HA
   simp only [treelinelaw20_TopoMore.j0] at H
   by_cases c23 : x36_4 = true
   ·subst c23
    have H1 : ((treelinelaw20_awake.f kj4).bind fun t208 => (some t208)) = some r := by rw [if_pos rfl] at H; exact H
    clear H
    have H := H1
    clear H1
    replace H := Option.bind_eq_some_iff.mp H
    obtain ⟨t208, A240, H⟩ := H
    replace H : (some t208) = some r := H
    have A24 := Aside0.mk A240
    clear A240
    obtain rfl := Option.some.inj H
    (try exact absurd LRT.out (by decide))
    all_goals
     go_wp2_with (first | ((with_reducible refine gate_callee (f := 7) rfl ?_); refine goesL_ (some 37) rfl rfl Try.func7 (by kernel_rfl) rfl #[] rfl (by (try simp only [List.map_toArray, List.map_cons, List.map_nil]); first | done | rfl | (simp only [List.length_drop, List.length_take]; rfl)) ?_; (with_reducible refine (treelinelaw20_awake.calls kj4  t208 _ A24.out).mono ?_); rintro e w25 ⟨rfl, hb⟩; refine ⟨_, rfl, ?_⟩; have n0_ := Aside0.mk (blk_below (g := gb205) (o := .cells #[.int .i64 a0_0, .slice A0_1 l0_1.length c0_1, .slice A0_2 l0_2.length c0_2, .slice A0_3 l0_3.length c0_3] 26 (0, 0)) (by (with_reducible repeat (first | refine blk_drewN ?_ _ | refine blk_drew ?_ | refine blk_alloc ?_ _)); exact BK205.out) hb); have n1_ := Aside0.mk (below_step (by repeat (first | (with_reducible first | exact HB.out | apply below_alloc | apply pw_below_drewN | apply below_drew1 | refine below_set ?_ GE205.out) | exact HB.out)) hb); clear BK205; clear HB; have BK205 := n0_; have HB := n1_; clear n0_ n1_; (try clear hb); (try clear hb2); (try clear hk); (try clear hi)) | (go_at_call 7; (with_reducible refine (treelinelaw20_awake.calls kj4  t208 _ A24.out).mono ?_); rintro e w25 ⟨rfl, hb⟩; have n0_ := Aside0.mk (blk_below (g := gb205) (o := .cells #[.int .i64 a0_0, .slice A0_1 l0_1.length c0_1, .slice A0_2 l0_2.length c0_2, .slice A0_3 l0_3.length c0_3] 26 (0, 0)) (by (with_reducible repeat (first | refine blk_drewN ?_ _ | refine blk_drew ?_ | refine blk_alloc ?_ _)); exact BK205.out) hb); have n1_ := Aside0.mk (below_step (by repeat (first | (with_reducible first | exact HB.out | apply below_alloc | apply pw_below_drewN | apply below_drew1 | refine below_set ?_ GE205.out) | exact HB.out)) hb); clear BK205; clear HB; have BK205 := n0_; have HB := n1_; clear n0_ n1_; (try clear hb); (try clear hb2); (try clear hk); (try clear hi)))
     go_ret
     exact ⟨by first | rfl | (simp [errW_none, errW_some] <;> rfl) | (simp [*, errW_none, errW_some] <;> rfl), by repeat (first | (with_reducible first | exact HB.out | apply below_alloc | apply pw_below_drewN | apply below_drew1 | refine below_set ?_ GE205.out) | exact HB.out)⟩
   ·replace c23 := Bool.eq_false_iff.mpr c23
    subst c23
    have H1 : (if (l0_2.length : Int) = 0 then (none) else (treelinelaw20_TopoMore.l0 kj4 l1 a3 (Int.tmod (wrap64 (a2)) (l0_2.length : Int)) ([] : List (List Bool)) 0 a0_0 l0_1 l0_2 l0_3)) = some r := by rw [if_neg (show ¬ (false = true) by decide)] at H; exact H
    clear H
    have H := H1
    clear H1
    by_cases c26 : (l0_2.length : Int) = 0
    ·rw [if_pos c26] at H
     exact absurd H (by simp)
    ·rw [if_neg c26] at H
     have c26b0 : ((l0_2.length : Int) == 0) = false := beq_eq_false_iff_ne.mpr c26
     have c26b1 : ((l0_2.length : Int) != 0) = true := bne_iff_ne.mpr c26
     have c26b2 : ¬ (l0_2 = []) := fun h_ => c26 (by rw [h_]; rfl)
     have H' := Aside0.mk H
     clear H
     have hcz27_0 : wc.cell? ⟨gb205, 0, none⟩ = some (.int .i64 a0_0) := (blk_cell BK205.out 0).trans rfl
     have hcz27_1 : wc.cell? ⟨gb205, 1, none⟩ = some (.slice A0_1 l0_1.length c0_1) := (blk_cell BK205.out 1).trans rfl
     have hcz27_2 : wc.cell? ⟨gb205, 2, none⟩ = some (.slice A0_2 l0_2.length c0_2) := (blk_cell BK205.out 2).trans rfl
     have hcz27_3 : wc.cell? ⟨gb205, 3, none⟩ = some (.slice A0_3 l0_3.length c0_3) := (blk_cell BK205.out 3).trans rfl
     have hfz27_0 := blk_frozen BK205.out 0
     have hfz27_1 := blk_frozen BK205.out 1
     have hfz27_2 := blk_frozen BK205.out 2
     have hfz27_3 := blk_frozen BK205.out 3
     go_wp2
     go_loopg [10, 11] kj4 (fun kq v10 v11 w' => ∃ (x10_2 : List (List Bool)) (x11_2 : Int), v11 = .int .i64 x11_2 ∧ Aside0 (treelinelaw20_TopoMore.l0 kq l1 a3 (Int.tmod (wrap64 (a2)) (l0_2.length : Int)) x10_2 x11_2 a0_0 l0_1 l0_2 l0_3 = some r) ∧ Aside0 (kq ≤ kj4) ∧ Aside0 (Kd.S (Kd.slice 4 Kd.bool) 36 w' w.heap.size (fun _ => True) v10 x10_2) ∧ Aside0 (w'.heap[gb205]? = some (.cells #[.int .i64 a0_0, (.slice A0_1 l0_1.length c0_1), (.slice A0_2 l0_2.length c0_2), (.slice A0_3 l0_3.length c0_3)] 26 (0, 0))) ∧ Aside0 (Below w.heap.size w w'))
     case atStart => exact ⟨(([] : List (List Bool))), (0), (by first | rfl | (simp; done) | (simp [*]; done)), H', ⟨Nat.le_refl _⟩, ⟨by first | exact Kd.S_nil _ _ _ _ _ | exact Kd.N_nil _ _ _ _ _ | exact Kd.V_nil _ _ _ _ _ | exact Kd.Q_nil _ _ _ _ _ | exact Kd.R_nil _ _ _ _ _⟩, ⟨by (with_reducible repeat (first | refine blk_drewN ?_ _ | refine blk_drew ?_ | refine blk_alloc ?_ _)); exact BK205.out⟩, ⟨by repeat (first | (with_reducible first | exact HB.out | apply below_alloc | apply pw_below_drewN | apply below_drew1 | refine below_set ?_ GE205.out) | exact HB.out)⟩⟩
     case round =>
      clear H'
      try clear c1
      try clear c2
      try clear p2
      try clear c5
      try clear p6
      try clear c7
      try clear c8
      try clear c10
      try clear c11
      try clear c11b0
      try clear c11b1
      try clear c23
      try clear c26
      try clear c26b0
      try clear c26b1
      try clear c26b2
      try clear hcz13_0
      try clear hcz13_1
      try clear hcz13_2
      try clear hcz13_3
      try clear hcz16_0
      try clear hcz16_1
      try clear hcz16_2
      try clear hcz16_3
      try clear hcz18_0
      try clear hcz18_1
      try clear hcz18_2
      try clear hcz18_3
      try clear hcz20_0
      try clear hcz20_1
      try clear hcz20_2
      try clear hcz20_3
      try clear hcz27_0
      try clear hcz27_1
      try clear hcz27_2
      try clear hcz27_3
      try clear hfz13_0
      try clear hfz13_1
      try clear hfz13_2
      try clear hfz13_3
      try clear hfz16_0
      try clear hfz16_1
      try clear hfz16_2
      try clear hfz16_3
      try clear hfz18_0
      try clear hfz18_1
      try clear hfz18_2
      try clear hfz18_3
      try clear hfz20_0
      try clear hfz20_1
      try clear hfz20_2
      try clear hfz20_3
      try clear hfz27_0
      try clear hfz27_1
      try clear hfz27_2
      try clear hfz27_3
      try clear p2
      obtain ⟨x10_2, x11_2, rfl, HA, HK2, HO_10, BK205, HB⟩ := hrel
      cases gk with
      | zero => exact absurd HA.out (by simp [treelinelaw20_TopoMore.l0])
      | succ k2 =>
       have H := HA.out
       clear HA
       simp only [treelinelaw20_TopoMore.l0] at H
       by_cases c28 : x11_2 < (l0_2.length : Int)
       ·rw [if_pos c28] at H
        have c28b0 : decide (x11_2 < (l0_2.length : Int)) = true := decide_eq_true c28
        clear c28
        by_cases c29 : 0 ≤ x11_2
        ·rw [if_pos c29] at H
         have c29b0 : decide (0 ≤ x11_2) = true := decide_eq_true c29
         clear c29
         by_cases c30 : 0 ≤ ((rd_L9 l0_2 x11_2).length : Int)
         ·rw [if_pos c30] at H
          have c30b0 := eq_true c30
          have c30b1 : decide (0 ≤ ((rd_L9 l0_2 x11_2).length : Int)) = true := decide_eq_true c30
          clear c30
          by_cases c31 : (((rd_L9 l0_2 x11_2).length : Int) : Int).toNat ≤ 281474976710656
          ·rw [if_pos c31] at H
           have c31b0 := eq_true c31
           have c31b1 : decide ((((rd_L9 l0_2 x11_2).length : Int) : Int).toNat ≤ 281474976710656) = true := decide_eq_true c31
           clear c31
           obtain ⟨y210, hy210⟩ : ∃ y_ : List Bool, y_ = (List.replicate (((rd_L9 l0_2 x11_2).length : Int) : Int).toNat false) := ⟨_, rfl⟩
           replace H : (treelinelaw20_TopoMore.l1 k2 l1 a3 (Int.tmod (wrap64 (a2)) (l0_2.length : Int)) x10_2 x11_2 y210 0 a0_0 l0_1 l0_2 l0_3) = some r := by first | (rw [hy210]; with_reducible exact H) | (have H2_ := (Option.bind_some _ _).symm.trans H; rw [hy210]; with_reducible exact H2_) | (have H2_ := (Option.bind_some _ _).symm.trans H; with_reducible exact H2_) | with_reducible exact H | (rw [hy210]; exact H) | exact H
           have Ny210 := Aside0.mk hy210
           clear hy210
           have H' := Aside0.mk H
           clear H
           have hcz32_0 : wr.cell? ⟨gb205, 0, none⟩ = some (.int .i64 a0_0) := (blk_cell BK205.out 0).trans rfl
           have hcz32_1 : wr.cell? ⟨gb205, 1, none⟩ = some (.slice A0_1 l0_1.length c0_1) := (blk_cell BK205.out 1).trans rfl
           have hcz32_2 : wr.cell? ⟨gb205, 2, none⟩ = some (.slice A0_2 l0_2.length c0_2) := (blk_cell BK205.out 2).trans rfl
           have hcz32_3 : wr.cell? ⟨gb205, 3, none⟩ = some (.slice A0_3 l0_3.length c0_3) := (blk_cell BK205.out 3).trans rfl
           have hfz32_0 := blk_frozen BK205.out 0
           have hfz32_1 := blk_frozen BK205.out 1
           have hfz32_2 := blk_frozen BK205.out 2
           have hfz32_3 := blk_frozen BK205.out 3
           have p209 : 0 ≤ (x11_2 : Int) := of_decide_eq_true (by first | (with_reducible assumption) | assumption)
           have q209 : x11_2 < (l0_2.length : Int) := of_decide_eq_true (by first | (with_reducible assumption) | assumption)
           obtain ⟨ad209, A209_0, c209_0, e209, hx209_0, hl209_0, hi209_0⟩ := at_L9 HR0_2.out x11_2 p209 q209
           cases e209
           replace hx209_0 := (HB.out.cell (World.block_lt_of_cell? w _ hx209_0)).trans hx209_0
           have HR209_0 := Aside0.mk hi209_0
           have HC209_0 := Aside0.mk hl209_0
           clear hi209_0 hl209_0
           replace p209 := eq_true p209
           replace q209 := eq_true q209
           go_wp2_with (first | ((with_reducible refine gate_dst (N := 57) rfl ?_); (try (refine gate_guard (by rfl) ?_; dsimp only)); refine Kd.R_make Kd.bool _ 4 rfl (N := 57) rfl 36 _ _ rfl ((rd_L9 l0_2 x11_2).length : Int) rfl rfl Try.underlying36 (.bool false) 1 info4 rfl (by decide) (by omega) false (ok := fun _ => True) (okp := fun _ => True) rfl (fun _ hk => hk) trivial (of_decide_eq_true (by first | (with_reducible assumption) | assumption)) (Nat.le_trans (Nat.mul_le_mul_right _ (of_decide_eq_true (by first | (with_reducible assumption) | assumption) : ((rd_L9 l0_2 x11_2).length : Int).toNat ≤ 281474976710656)) (by omega)) (Below.refl _ _) (Nat.le_refl _) ?_; intro v211 w33 ho34 hb hg_ hnew_; clear hg_ hnew_; (first | rw [← Ny210.out] at ho34 | (simp only [Int.reduceToNat] at ho34; rw [← Ny210.out] at ho34)); have n0_ := Aside0.mk (Kd.S_elder' (by (with_reducible repeat (first | apply Kd.S_alloc | apply Kd.S_drewN | apply Kd.S_drew)); exact HO_10.out) (Kd.R_base ho34) hb); have n1_ := Aside0.mk (Kd.R_lower ho34 (below_size (by repeat (first | (with_reducible first | exact HB.out | apply below_alloc | apply pw_below_drewN | apply below_drew1 | refine below_set ?_ GE205.out) | exact HB.out)))); have n2_ := Aside0.mk (blk_below (g := gb205) (o := .cells #[.int .i64 a0_0, .slice A0_1 l0_1.length c0_1, .slice (some ad209) l0_2.length c0_2, .slice A0_3 l0_3.length c0_3] 26 (0, 0)) (by (with_reducible repeat (first | refine blk_drewN ?_ _ | refine blk_drew ?_ | refine blk_alloc ?_ _)); exact BK205.out) hb); have n3_ := Aside0.mk (below_step (by repeat (first | (with_reducible first | exact HB.out | apply below_alloc | apply pw_below_drewN | apply below_drew1 | refine below_set ?_ GE205.out) | exact HB.out)) hb); clear HO_10; clear BK205; clear HB; have HO_10 := n0_; have HO212 := n1_; have BK205 := n2_; have HB := n3_; clear n0_ n1_ n2_ n3_; clear hb ho34))
           go_loopg [13] k2 (fun kq v13 w' => ∃ (x12_3 : List Bool) (x13_3 : Int), v13 = .int .i64 x13_3 ∧ Aside0 (treelinelaw20_TopoMore.l1 kq l1 a3 (Int.tmod (wrap64 (a2)) (l0_2.length : Int)) x10_2 x11_2 x12_3 x13_3 a0_0 l0_1 l0_2 l0_3 = some r) ∧ Aside0 (kq ≤ k2) ∧ Aside0 (Kd.S (Kd.slice 4 Kd.bool) 36 w' w.heap.size (fun k_ => some k_ ≠ (v211 : Value).ownBlock) u10 x10_2) ∧ Aside0 (Kd.R Kd.bool 4 w' w.heap.size (fun _ => True) v211 x12_3) ∧ Aside0 (w'.heap[gb205]? = some (.cells #[.int .i64 a0_0, (.slice A0_1 l0_1.length c0_1), (.slice (some ad209) l0_2.length c0_2), (.slice A0_3 l0_3.length c0_3)] 26 (0, 0))) ∧ Aside0 (Below w.heap.size w w'))
           case atStart => exact ⟨(y210), (0), (by first | rfl | (simp; done) | (simp [*]; done)), H', ⟨Nat.le_refl _⟩, ⟨by (with_reducible repeat (first | apply Kd.S_alloc | apply Kd.S_drewN | apply Kd.S_drew)); exact Kd.S_mono HO_10.out (fun _ hk => hk.2)⟩, ⟨by (with_reducible repeat (first | apply Kd.R_alloc | apply Kd.R_drewN | apply Kd.R_drew)); exact HO212.out⟩, ⟨by (with_reducible repeat (first | refine blk_drewN ?_ _ | refine blk_drew ?_ | refine blk_alloc ?_ _)); exact BK205.out⟩, ⟨by repeat (first | (with_reducible first | exact HB.out | apply below_alloc | apply pw_below_drewN | apply below_drew1 | refine below_set ?_ GE205.out) | exact HB.out)⟩⟩
           case round =>
            clear H'
            try clear c1
            try clear c2
            try clear p2
            try clear q2
            try clear hx2
            try clear c3
            try clear c5
            try clear p6
            try clear c7
            try clear c8
            try clear c10
            try clear c11
            try clear c11b0
            try clear c11b1
            try clear c20
            try clear p20
            try clear q20
            try clear hx20
            try clear c23
            try clear c26
            try clear c26b0
            try clear c26b1
            try clear c26b2
            try clear c28
            try clear c28b0
            try clear c29
            try clear c29b0
            try clear c30
            try clear c30b0
            try clear c30b1
            try clear c31
            try clear c31b0
            try clear c31b1
            try clear hcz13_0
            try clear hcz13_1
            try clear hcz13_2
            try clear hcz13_3
            try clear hcz16_0
            try clear hcz16_1
            try clear hcz16_2
            try clear hcz16_3
            try clear hcz18_0
            try clear hcz18_1
            try clear hcz18_2
            try clear hcz18_3
            try clear hcz20_0
            try clear hcz20_1
            try clear hcz20_2
            try clear hcz20_3
            try clear hcz27_0
            try clear hcz27_1
            try clear hcz27_2
            try clear hcz27_3
            try clear hcz32_0
            try clear hcz32_1
            try clear hcz32_2
            try clear hcz32_3
            try clear hfz13_0
            try clear hfz13_1
            try clear hfz13_2
            try clear hfz13_3
            try clear hfz16_0
            try clear hfz16_1
            try clear hfz16_2
            try clear hfz16_3
            try clear hfz18_0
            try clear hfz18_1
            try clear hfz18_2
            try clear hfz18_3
            try clear hfz20_0
            try clear hfz20_1
            try clear hfz20_2
            try clear hfz20_3
            try clear hfz27_0
            try clear hfz27_1
            try clear hfz27_2
            try clear hfz27_3
            try clear hfz32_0
            try clear hfz32_1
            try clear hfz32_2
            try clear hfz32_3
            try clear hx209_0
            try clear p2
            try clear p209
            try clear p6
            try clear q209
            obtain ⟨x12_3, x13_3, rfl, HA, HK3, HO_10, HO_12, BK205, HB⟩ := hrel
            cases gk with
            | zero => exact absurd HA.out (by simp [treelinelaw20_TopoMore.l1])
            | succ k3 =>
             have H := HA.out
             clear HA
             simp only [treelinelaw20_TopoMore.l1] at H
             by_cases c35 : x13_3 < (x12_3.length : Int)
             ·rw [if_pos c35] at H
              have c35b0 : decide (x13_3 < (x12_3.length : Int)) = true := decide_eq_true c35
              clear c35
              replace H := Option.bind_eq_some_iff.mp H
              obtain ⟨t213, A360, H⟩ := H
              replace H : (if t213 = true then (if 0 ≤ x13_3 then (treelinelaw20_TopoMore.l1 k3 l1 a3 (Int.tmod (wrap64 (a2)) (l0_2.length : Int)) x10_2 x11_2 (x12_3.set (x13_3 : Int).toNat true) (wrap64 (x13_3 + 1)) a0_0 l0_1 l0_2 l0_3) else (none)) else (if x11_2 = (Int.tmod (wrap64 (a2)) (l0_2.length : Int)) then (if (x12_3.length : Int) = 0 then (none) else (if 0 ≤ x13_3 then (treelinelaw20_TopoMore.l1 k3 l1 a3 (Int.tmod (wrap64 (a2)) (l0_2.length : Int)) x10_2 x11_2 (x12_3.set (x13_3 : Int).toNat (x13_3 == (Int.tmod (wrap64 (a3)) (x12_3.length : Int)))) (wrap64 (x13_3 + 1)) a0_0 l0_1 l0_2 l0_3) else (none))) else (if 0 ≤ x13_3 then (treelinelaw20_TopoMore.l1 k3 l1 a3 (Int.tmod (wrap64 (a2)) (l0_2.length : Int)) x10_2 x11_2 (x12_3.set (x13_3 : Int).toNat false) (wrap64 (x13_3 + 1)) a0_0 l0_1 l0_2 l0_3) else (none)))) = some r := H
              have A36 := Aside0.mk A360
              clear A360
              by_cases c37 : t213 = true
              ·subst c37
               have H1 : (if 0 ≤ x13_3 then (treelinelaw20_TopoMore.l1 k3 l1 a3 (Int.tmod (wrap64 (a2)) (l0_2.length : Int)) x10_2 x11_2 (x12_3.set (x13_3 : Int).toNat true) (wrap64 (x13_3 + 1)) a0_0 l0_1 l0_2 l0_3) else (none)) = some r := by rw [if_pos rfl] at H; exact H
               clear H
               have H := H1
               clear H1
               by_cases c38 : 0 ≤ x13_3
               ·rw [if_pos c38] at H
                have c38b0 : decide (0 ≤ x13_3) = true := decide_eq_true c38
                clear c38
                obtain ⟨y214, hy214⟩ : ∃ y_ : List Bool, y_ = (x12_3.set (x13_3 : Int).toNat true) := ⟨_, rfl⟩
                replace H : (treelinelaw20_TopoMore.l1 k3 l1 a3 (Int.tmod (wrap64 (a2)) (l0_2.length : Int)) x10_2 x11_2 y214 (wrap64 (x13_3 + 1)) a0_0 l0_1 l0_2 l0_3) = some r := by first | (rw [hy214]; with_reducible exact H) | (have H2_ := (Option.bind_some _ _).symm.trans H; rw [hy214]; with_reducible exact H2_) | (have H2_ := (Option.bind_some _ _).symm.trans H; with_reducible exact H2_) | with_reducible exact H | (rw [hy214]; exact H) | exact H
                have Ny214 := Aside0.mk hy214
                clear hy214
                have H' := Aside0.mk H
                clear H
                obtain ⟨Ao40, co40, eo40⟩ := Kd.R_slice HO_12.out
                subst eo40
                go_wp2_with (first | ((with_reducible refine gate_callee (f := 14) rfl ?_); refine goesL_ (some 69) rfl rfl Try.func14 (by kernel_rfl) rfl #[.slice A1 l1.length c1, .int .i64 x11_2, .int .i64 x13_3] rfl (by (try simp only [List.map_toArray, List.map_cons, List.map_nil]); first | done | rfl | (simp only [List.length_drop, List.length_take]; rfl)) ?_; (with_reducible refine (treelineref20_On.calls _ _ l1 x11_2 x13_3 true _ ?side1 ?side2 A36.out).mono ?_); (case side1 => repeat (first | exact (Kd.C_below HR1.out HB.out) | (with_reducible refine Kd.C_alloc ?_ _) | (with_reducible refine Kd.C_drewN ?_ _) | (with_reducible refine Kd.C_drew ?_))); (case side2 => exact HC1.out); rintro e w' ⟨rfl, ⟨nd, rfl⟩⟩; refine ⟨_, rfl, ?_⟩; (try (rw [drewN_self wr]; generalize hq_ : World.drewN wr _ = wr; have n0_ : Aside0 (Kd.S (Kd.slice 4 Kd.bool) 36 wr w.heap.size (fun k_ => some k_ ≠ (.slice Ao40 x12_3.length co40 : Value).ownBlock) u10 x10_2) := ⟨by rw [← hq_]; exact (by (with_reducible repeat (first | apply Kd.S_alloc | apply Kd.S_drewN | apply Kd.S_drew)); exact HO_10.out)⟩; have n1_ : Aside0 (Kd.R Kd.bool 4 wr w.heap.size (fun _ => True) (.slice Ao40 x12_3.length co40) x12_3) := ⟨by rw [← hq_]; exact (by (with_reducible repeat (first | apply Kd.R_alloc | apply Kd.R_drewN | apply Kd.R_drew)); exact HO_12.out)⟩; have n2_ : Aside0 (wr.heap[gb205]? = some (.cells #[.int .i64 a0_0, .slice A0_1 l0_1.length c0_1, .slice (some ad209) l0_2.length c0_2, .slice A0_3 l0_3.length c0_3] 26 (0, 0))) := ⟨by rw [← hq_]; exact (by (with_reducible repeat (first | refine blk_drewN ?_ _ | refine blk_drew ?_ | refine blk_alloc ?_ _)); exact BK205.out)⟩; have n3_ : Aside0 (Below w.heap.size w wr) := ⟨by rw [← hq_]; exact (by repeat (first | (with_reducible first | exact HB.out | apply below_alloc | apply pw_below_drewN | apply below_drew1 | refine below_set ?_ GE205.out) | exact HB.out))⟩; clear HO_10 HO_12 BK205 HB hq_; have HO_10 := n0_; have HO_12 := n1_; have BK205 := n2_; have HB := n3_; clear n0_ n1_ n2_ n3_)); have p39 : 0 ≤ (x13_3 : Int) := of_decide_eq_true (by first | (with_reducible assumption) | assumption); have q39 : (x13_3 : Int) < ((x12_3.length : Int) : Int) := of_decide_eq_true (by first | (with_reducible assumption) | assumption); obtain ⟨go39, co39, eo39, gb39, gl39, cl39, HG39⟩ := Kd.R_form HO_12.out (by omega); (first | cases eo39 | (injection eo39 with ea_ en_ ec_; (first | subst ea_ | (injection ea_ with ea_; subst ea_)); subst ec_; clear en_)); have GB39 := Aside0.mk gb39; have GG39 := Aside0.mk HG39; clear gb39 gl39 HG39; obtain ⟨hx39_0, hf39_0⟩ := Kd.R_celln false HO_12.out (x13_3 : Int) p39 q39; replace p39 := eq_true p39; replace q39 := eq_true q39; obtain ⟨hy41_, hz41_⟩ := Kd.R_celln false HO_12.out (x13_3 : Int) (of_decide_eq_true (by first | (with_reducible assumption) | assumption)) (of_decide_eq_true (by first | (with_reducible assumption) | assumption)); have HP41 := Kd.R_putg HO_12.out (x13_3 : Int) true) | ((with_reducible refine gate_store (t := 4) (p := 84) rfl ?_); refine store_event (t := 4) (p := 84) (v := ?vo_w42) (w1 := (wr.setCell ⟨go39, (x13_3 : Int).toNat, none⟩ (.bool true))) ?hg ?ho ?hn ?hr ?_; (case ho => rfl); (case hg => rfl); (case hn => rfl); (case hr => first | (go_simp; done) | (go_simp; rfl)); intro w42 hw; have hg : wr.grownBy w42 (some go39) := (by rw [hw]; exact HP41.2); have hp_ : Kd.R Kd.bool 4 w42 w.heap.size (fun _ => True) (.slice (some ⟨go39, 0, none⟩) x12_3.length co40) y214 := (by rw [hw, Ny214.out]; exact HP41.1); clear HP41; have n0_ := Aside0.mk (Kd.S_after (v := (.slice (some ⟨go39, 0, none⟩) x12_3.length co40)) (v1 := (.slice (some ⟨go39, 0, none⟩) x12_3.length co40)) (ok := (fun _ => True)) (by (with_reducible repeat (first | apply Kd.S_alloc | apply Kd.S_drewN | apply Kd.S_drew)); exact Kd.S_mono HO_10.out (fun _ hk => ⟨trivial, hk⟩)) hg (.inl rfl)); have n1_ := Aside0.mk (hp_); have n2_ := Aside0.mk (blk_grown (g := gb205) (o := .cells #[.int .i64 a0_0, .slice A0_1 l0_1.length c0_1, .slice (some ad209) l0_2.length c0_2, .slice A0_3 l0_3.length c0_3] 26 (0, 0)) (by (with_reducible repeat (first | refine blk_drewN ?_ _ | refine blk_drew ?_ | refine blk_alloc ?_ _)); exact BK205.out) hg (Kd.R_ne HO_12.out BK205.out (by decide))); have n3_ := Aside0.mk ((by rw [hw]; exact below_set (HB.out) GB39.out : Below w.heap.size w w42)); clear HO_10; clear HO_12; clear BK205; clear HB; have HO_10 := n0_; have HO_12 := n1_; have BK205 := n2_; have HB := n3_; clear n0_ n1_ n2_ n3_; clear hg hw hp_) | (go_at_call 14; (with_reducible refine (treelineref20_On.calls _ _ l1 x11_2 x13_3 true _ ?side1 ?side2 A36.out).mono ?_); (case side1 => repeat (first | exact (Kd.C_below HR1.out HB.out) | (with_reducible refine Kd.C_alloc ?_ _) | (with_reducible refine Kd.C_drewN ?_ _) | (with_reducible refine Kd.C_drew ?_))); (case side2 => exact HC1.out); rintro e w' ⟨rfl, ⟨nd, rfl⟩⟩; (try (rw [drewN_self wr]; generalize hq_ : World.drewN wr _ = wr; have n0_ : Aside0 (Kd.S (Kd.slice 4 Kd.bool) 36 wr w.heap.size (fun k_ => some k_ ≠ (.slice Ao40 x12_3.length co40 : Value).ownBlock) u10 x10_2) := ⟨by rw [← hq_]; exact (by (with_reducible repeat (first | apply Kd.S_alloc | apply Kd.S_drewN | apply Kd.S_drew)); exact HO_10.out)⟩; have n1_ : Aside0 (Kd.R Kd.bool 4 wr w.heap.size (fun _ => True) (.slice Ao40 x12_3.length co40) x12_3) := ⟨by rw [← hq_]; exact (by (with_reducible repeat (first | apply Kd.R_alloc | apply Kd.R_drewN | apply Kd.R_drew)); exact HO_12.out)⟩; have n2_ : Aside0 (wr.heap[gb205]? = some (.cells #[.int .i64 a0_0, .slice A0_1 l0_1.length c0_1, .slice (some ad209) l0_2.length c0_2, .slice A0_3 l0_3.length c0_3] 26 (0, 0))) := ⟨by rw [← hq_]; exact (by (with_reducible repeat (first | refine blk_drewN ?_ _ | refine blk_drew ?_ | refine blk_alloc ?_ _)); exact BK205.out)⟩; have n3_ : Aside0 (Below w.heap.size w wr) := ⟨by rw [← hq_]; exact (by repeat (first | (with_reducible first | exact HB.out | apply below_alloc | apply pw_below_drewN | apply below_drew1 | refine below_set ?_ GE205.out) | exact HB.out))⟩; clear HO_10 HO_12 BK205 HB hq_; have HO_10 := n0_; have HO_12 := n1_; have BK205 := n2_; have HB := n3_; clear n0_ n1_ n2_ n3_)); have p39 : 0 ≤ (x13_3 : Int) := of_decide_eq_true (by first | (with_reducible assumption) | assumption); have q39 : (x13_3 : Int) < ((x12_3.length : Int) : Int) := of_decide_eq_true (by first | (with_reducible assumption) | assumption); obtain ⟨go39, co39, eo39, gb39, gl39, cl39, HG39⟩ := Kd.R_form HO_12.out (by omega); (first | cases eo39 | (injection eo39 with ea_ en_ ec_; (first | subst ea_ | (injection ea_ with ea_; subst ea_)); subst ec_; clear en_)); have GB39 := Aside0.mk gb39; have GG39 := Aside0.mk HG39; clear gb39 gl39 HG39; obtain ⟨hx39_0, hf39_0⟩ := Kd.R_celln false HO_12.out (x13_3 : Int) p39 q39; replace p39 := eq_true p39; replace q39 := eq_true q39; obtain ⟨hy41_, hz41_⟩ := Kd.R_celln false HO_12.out (x13_3 : Int) (of_decide_eq_true (by first | (with_reducible assumption) | assumption)) (of_decide_eq_true (by first | (with_reducible assumption) | assumption)); have HP41 := Kd.R_putg HO_12.out (x13_3 : Int) true))
                go_roundg k3
                case measure => have := HJ4.out; have := HK2.out; have := HK3.out; omega
                case rel => exact ⟨(y214), (wrap64 (x13_3 + 1)), (by first | rfl | (simp; done) | (simp [*]; done)), H', ⟨by have := HJ4.out; have := HK2.out; have := HK3.out; omega⟩, ⟨by (with_reducible repeat (first | apply Kd.S_alloc | apply Kd.S_drewN | apply Kd.S_drew)); exact Kd.S_mono HO_10.out (fun _ hk => hk.2)⟩, ⟨by (with_reducible repeat (first | apply Kd.R_alloc | apply Kd.R_drewN | apply Kd.R_drew)); exact HO_12.out⟩, ⟨by (with_reducible repeat (first | refine blk_drewN ?_ _ | refine blk_drew ?_ | refine blk_alloc ?_ _)); exact BK205.out⟩, ⟨by repeat (first | (with_reducible first | exact HB.out | apply below_alloc | apply pw_below_drewN | apply below_drew1 | refine below_set ?_ GE205.out) | exact HB.out)⟩⟩
               ·rw [if_neg c38] at H
                exact absurd H (by simp)
              ·replace c37 := Bool.eq_false_iff.mpr c37
               subst c37
               have H1 : (if x11_2 = (Int.tmod (wrap64 (a2)) (l0_2.length : Int)) then (if (x12_3.length : Int) = 0 then (none) else (if 0 ≤ x13_3 then (treelinelaw20_TopoMore.l1 k3 l1 a3 (Int.tmod (wrap64 (a2)) (l0_2.length : Int)) x10_2 x11_2 (x12_3.set (x13_3 : Int).toNat (x13_3 == (Int.tmod (wrap64 (a3)) (x12_3.length : Int)))) (wrap64 (x13_3 + 1)) a0_0 l0_1 l0_2 l0_3) else (none))) else (if 0 ≤ x13_3 then (treelinelaw20_TopoMore.l1 k3 l1 a3 (Int.tmod (wrap64 (a2)) (l0_2.length : Int)) x10_2 x11_2 (x12_3.set (x13_3 : Int).toNat false) (wrap64 (x13_3 + 1)) a0_0 l0_1 l0_2 l0_3) else (none))) = some r := by rw [if_neg (show ¬ (false = true) by decide)] at H; exact H
               clear H
               have H := H1
               clear H1
               by_cases c43 : x11_2 = (Int.tmod (wrap64 (a2)) (l0_2.length : Int))
               ·rw [if_pos c43] at H
                have c43b0 : (x11_2 == (Int.tmod (wrap64 (a2)) (l0_2.length : Int))) = true := beq_iff_eq.mpr c43
                have c43b1 : (x11_2 != (Int.tmod (wrap64 (a2)) (l0_2.length : Int))) = false := bne_eq_false_iff_eq.mpr c43
                clear c43
                by_cases c44 : (x12_3.length : Int) = 0
                ·rw [if_pos c44] at H
                 exact absurd H (by simp)
                ·rw [if_neg c44] at H
                 have c44b0 : ((x12_3.length : Int) == 0) = false := beq_eq_false_iff_ne.mpr c44
                 have c44b1 : ((x12_3.length : Int) != 0) = true := bne_iff_ne.mpr c44
                 have c44b2 : ¬ (x12_3 = []) := fun h_ => c44 (by rw [h_]; rfl)
                 by_cases c45 : 0 ≤ x13_3
                 ·rw [if_pos c45] at H
                  have c45b0 : decide (0 ≤ x13_3) = true := decide_eq_true c45
                  clear c45
                  obtain ⟨y215, hy215⟩ : ∃ y_ : List Bool, y_ = (x12_3.set (x13_3 : Int).toNat (x13_3 == (Int.tmod (wrap64 (a3)) (x12_3.length : Int)))) := ⟨_, rfl⟩
                  replace H : (treelinelaw20_TopoMore.l1 k3 l1 a3 (Int.tmod (wrap64 (a2)) (l0_2.length : Int)) x10_2 x11_2 y215 (wrap64 (x13_3 + 1)) a0_0 l0_1 l0_2 l0_3) = some r := by first | (rw [hy215]; with_reducible exact H) | (have H2_ := (Option.bind_some _ _).symm.trans H; rw [hy215]; with_reducible exact H2_) | (have H2_ := (Option.bind_some _ _).symm.trans H; with_reducible exact H2_) | with_reducible exact H | (rw [hy215]; exact H) | exact H
                  have Ny215 := Aside0.mk hy215
                  clear hy215
                  have H' := Aside0.mk H
                  clear H
                  obtain ⟨Ao47, co47, eo47⟩ := Kd.R_slice HO_12.out
                  subst eo47
                  go_wp2_with (first | ((with_reducible refine gate_callee (f := 14) rfl ?_); refine goesL_ (some 69) rfl rfl Try.func14 (by kernel_rfl) rfl #[.slice A1 l1.length c1, .int .i64 x11_2, .int .i64 x13_3] rfl (by (try simp only [List.map_toArray, List.map_cons, List.map_nil]); first | done | rfl | (simp only [List.length_drop, List.length_take]; rfl)) ?_; (with_reducible refine (treelineref20_On.calls _ _ l1 x11_2 x13_3 false _ ?side1 ?side2 A36.out).mono ?_); (case side1 => repeat (first | exact (Kd.C_below HR1.out HB.out) | (with_reducible refine Kd.C_alloc ?_ _) | (with_reducible refine Kd.C_drewN ?_ _) | (with_reducible refine Kd.C_drew ?_))); (case side2 => exact HC1.out); rintro e w' ⟨rfl, ⟨nd, rfl⟩⟩; refine ⟨_, rfl, ?_⟩; (try (rw [drewN_self wr]; generalize hq_ : World.drewN wr _ = wr; have n0_ : Aside0 (Kd.S (Kd.slice 4 Kd.bool) 36 wr w.heap.size (fun k_ => some k_ ≠ (.slice Ao47 x12_3.length co47 : Value).ownBlock) u10 x10_2) := ⟨by rw [← hq_]; exact (by (with_reducible repeat (first | apply Kd.S_alloc | apply Kd.S_drewN | apply Kd.S_drew)); exact HO_10.out)⟩; have n1_ : Aside0 (Kd.R Kd.bool 4 wr w.heap.size (fun _ => True) (.slice Ao47 x12_3.length co47) x12_3) := ⟨by rw [← hq_]; exact (by (with_reducible repeat (first | apply Kd.R_alloc | apply Kd.R_drewN | apply Kd.R_drew)); exact HO_12.out)⟩; have n2_ : Aside0 (wr.heap[gb205]? = some (.cells #[.int .i64 a0_0, .slice A0_1 l0_1.length c0_1, .slice (some ad209) l0_2.length c0_2, .slice A0_3 l0_3.length c0_3] 26 (0, 0))) := ⟨by rw [← hq_]; exact (by (with_reducible repeat (first | refine blk_drewN ?_ _ | refine blk_drew ?_ | refine blk_alloc ?_ _)); exact BK205.out)⟩; have n3_ : Aside0 (Below w.heap.size w wr) := ⟨by rw [← hq_]; exact (by repeat (first | (with_reducible first | exact HB.out | apply below_alloc | apply pw_below_drewN | apply below_drew1 | refine below_set ?_ GE205.out) | exact HB.out))⟩; clear HO_10 HO_12 BK205 HB hq_; have HO_10 := n0_; have HO_12 := n1_; have BK205 := n2_; have HB := n3_; clear n0_ n1_ n2_ n3_)); have p46 : 0 ≤ (x13_3 : Int) := of_decide_eq_true (by first | (with_reducible assumption) | assumption); have q46 : (x13_3 : Int) < ((x12_3.length : Int) : Int) := of_decide_eq_true (by first | (with_reducible assumption) | assumption); obtain ⟨go46, co46, eo46, gb46, gl46, cl46, HG46⟩ := Kd.R_form HO_12.out (by omega); (first | cases eo46 | (injection eo46 with ea_ en_ ec_; (first | subst ea_ | (injection ea_ with ea_; subst ea_)); subst ec_; clear en_)); have GB46 := Aside0.mk gb46; have GG46 := Aside0.mk HG46; clear gb46 gl46 HG46; obtain ⟨hx46_0, hf46_0⟩ := Kd.R_celln false HO_12.out (x13_3 : Int) p46 q46; replace p46 := eq_true p46; replace q46 := eq_true q46; obtain ⟨hy48_, hz48_⟩ := Kd.R_celln false HO_12.out (x13_3 : Int) (of_decide_eq_true (by first | (with_reducible assumption) | assumption)) (of_decide_eq_true (by first | (with_reducible assumption) | assumption)); have HP48 := Kd.R_putg HO_12.out (x13_3 : Int) (x13_3 == (Int.tmod (wrap64 (a3)) (x12_3.length : Int)))) | ((with_reducible refine gate_store (t := 4) (p := 84) rfl ?_); refine store_event (t := 4) (p := 84) (v := ?vo_w49) (w1 := (wr.setCell ⟨go46, (x13_3 : Int).toNat, none⟩ (.bool (x13_3 == (Int.tmod (wrap64 (a3)) (x12_3.length : Int)))))) ?hg ?ho ?hn ?hr ?_; (case ho => rfl); (case hg => rfl); (case hn => rfl); (case hr => first | (go_simp; done) | (go_simp; rfl)); intro w49 hw; have hg : wr.grownBy w49 (some go46) := (by rw [hw]; exact HP48.2); have hp_ : Kd.R Kd.bool 4 w49 w.heap.size (fun _ => True) (.slice (some ⟨go46, 0, none⟩) x12_3.length co47) y215 := (by rw [hw, Ny215.out]; exact HP48.1); clear HP48; have n0_ := Aside0.mk (Kd.S_after (v := (.slice (some ⟨go46, 0, none⟩) x12_3.length co47)) (v1 := (.slice (some ⟨go46, 0, none⟩) x12_3.length co47)) (ok := (fun _ => True)) (by (with_reducible repeat (first | apply Kd.S_alloc | apply Kd.S_drewN | apply Kd.S_drew)); exact Kd.S_mono HO_10.out (fun _ hk => ⟨trivial, hk⟩)) hg (.inl rfl)); have n1_ := Aside0.mk (hp_); have n2_ := Aside0.mk (blk_grown (g := gb205) (o := .cells #[.int .i64 a0_0, .slice A0_1 l0_1.length c0_1, .slice (some ad209) l0_2.length c0_2, .slice A0_3 l0_3.length c0_3] 26 (0, 0)) (by (with_reducible repeat (first | refine blk_drewN ?_ _ | refine blk_drew ?_ | refine blk_alloc ?_ _)); exact BK205.out) hg (Kd.R_ne HO_12.out BK205.out (by decide))); have n3_ := Aside0.mk ((by rw [hw]; exact below_set (HB.out) GB46.out : Below w.heap.size w w49)); clear HO_10; clear HO_12; clear BK205; clear HB; have HO_10 := n0_; have HO_12 := n1_; have BK205 := n2_; have HB := n3_; clear n0_ n1_ n2_ n3_; clear hg hw hp_) | (go_at_call 14; (with_reducible refine (treelineref20_On.calls _ _ l1 x11_2 x13_3 false _ ?side1 ?side2 A36.out).mono ?_); (case side1 => repeat (first | exact (Kd.C_below HR1.out HB.out) | (with_reducible refine Kd.C_alloc ?_ _) | (with_reducible refine Kd.C_drewN ?_ _) | (with_reducible refine Kd.C_drew ?_))); (case side2 => exact HC1.out); rintro e w' ⟨rfl, ⟨nd, rfl⟩⟩; (try (rw [drewN_self wr]; generalize hq_ : World.drewN wr _ = wr; have n0_ : Aside0 (Kd.S (Kd.slice 4 Kd.bool) 36 wr w.heap.size (fun k_ => some k_ ≠ (.slice Ao47 x12_3.length co47 : Value).ownBlock) u10 x10_2) := ⟨by rw [← hq_]; exact (by (with_reducible repeat (first | apply Kd.S_alloc | apply Kd.S_drewN | apply Kd.S_drew)); exact HO_10.out)⟩; have n1_ : Aside0 (Kd.R Kd.bool 4 wr w.heap.size (fun _ => True) (.slice Ao47 x12_3.length co47) x12_3) := ⟨by rw [← hq_]; exact (by (with_reducible repeat (first | apply Kd.R_alloc | apply Kd.R_drewN | apply Kd.R_drew)); exact HO_12.out)⟩; have n2_ : Aside0 (wr.heap[gb205]? = some (.cells #[.int .i64 a0_0, .slice A0_1 l0_1.length c0_1, .slice (some ad209) l0_2.length c0_2, .slice A0_3 l0_3.length c0_3] 26 (0, 0))) := ⟨by rw [← hq_]; exact (by (with_reducible repeat (first | refine blk_drewN ?_ _ | refine blk_drew ?_ | refine blk_alloc ?_ _)); exact BK205.out)⟩; have n3_ : Aside0 (Below w.heap.size w wr) := ⟨by rw [← hq_]; exact (by repeat (first | (with_reducible first | exact HB.out | apply below_alloc | apply pw_below_drewN | apply below_drew1 | refine below_set ?_ GE205.out) | exact HB.out))⟩; clear HO_10 HO_12 BK205 HB hq_; have HO_10 := n0_; have HO_12 := n1_; have BK205 := n2_; have HB := n3_; clear n0_ n1_ n2_ n3_)); have p46 : 0 ≤ (x13_3 : Int) := of_decide_eq_true (by first | (with_reducible assumption) | assumption); have q46 : (x13_3 : Int) < ((x12_3.length : Int) : Int) := of_decide_eq_true (by first | (with_reducible assumption) | assumption); obtain ⟨go46, co46, eo46, gb46, gl46, cl46, HG46⟩ := Kd.R_form HO_12.out (by omega); (first | cases eo46 | (injection eo46 with ea_ en_ ec_; (first | subst ea_ | (injection ea_ with ea_; subst ea_)); subst ec_; clear en_)); have GB46 := Aside0.mk gb46; have GG46 := Aside0.mk HG46; clear gb46 gl46 HG46; obtain ⟨hx46_0, hf46_0⟩ := Kd.R_celln false HO_12.out (x13_3 : Int) p46 q46; replace p46 := eq_true p46; replace q46 := eq_true q46; obtain ⟨hy48_, hz48_⟩ := Kd.R_celln false HO_12.out (x13_3 : Int) (of_decide_eq_true (by first | (with_reducible assumption) | assumption)) (of_decide_eq_true (by first | (with_reducible assumption) | assumption)); have HP48 := Kd.R_putg HO_12.out (x13_3 : Int) (x13_3 == (Int.tmod (wrap64 (a3)) (x12_3.length : Int)))))
                  go_roundg k3
                  case measure => have := HJ4.out; have := HK2.out; have := HK3.out; omega
                  case rel => exact ⟨(y215), (wrap64 (x13_3 + 1)), (by first | rfl | (simp; done) | (simp [*]; done)), H', ⟨by have := HJ4.out; have := HK2.out; have := HK3.out; omega⟩, ⟨by (with_reducible repeat (first | apply Kd.S_alloc | apply Kd.S_drewN | apply Kd.S_drew)); exact Kd.S_mono HO_10.out (fun _ hk => hk.2)⟩, ⟨by (with_reducible repeat (first | apply Kd.R_alloc | apply Kd.R_drewN | apply Kd.R_drew)); exact HO_12.out⟩, ⟨by (with_reducible repeat (first | refine blk_drewN ?_ _ | refine blk_drew ?_ | refine blk_alloc ?_ _)); exact BK205.out⟩, ⟨by repeat (first | (with_reducible first | exact HB.out | apply below_alloc | apply pw_below_drewN | apply below_drew1 | refine below_set ?_ GE205.out) | exact HB.out)⟩⟩
                 ·rw [if_neg c45] at H
                  exact absurd H (by simp)
               ·rw [if_neg c43] at H
                have c43b0 : (x11_2 == (Int.tmod (wrap64 (a2)) (l0_2.length : Int))) = false := beq_eq_false_iff_ne.mpr c43
                have c43b1 : (x11_2 != (Int.tmod (wrap64 (a2)) (l0_2.length : Int))) = true := bne_iff_ne.mpr c43
                by_cases c50 : 0 ≤ x13_3
                ·rw [if_pos c50] at H
                 have c50b0 : decide (0 ≤ x13_3) = true := decide_eq_true c50
                 clear c50
                 obtain ⟨y216, hy216⟩ : ∃ y_ : List Bool, y_ = (x12_3.set (x13_3 : Int).toNat false) := ⟨_, rfl⟩
                 replace H : (treelinelaw20_TopoMore.l1 k3 l1 a3 (Int.tmod (wrap64 (a2)) (l0_2.length : Int)) x10_2 x11_2 y216 (wrap64 (x13_3 + 1)) a0_0 l0_1 l0_2 l0_3) = some r := by first | (rw [hy216]; with_reducible exact H) | (have H2_ := (Option.bind_some _ _).symm.trans H; rw [hy216]; with_reducible exact H2_) | (have H2_ := (Option.bind_some _ _).symm.trans H; with_reducible exact H2_) | with_reducible exact H | (rw [hy216]; exact H) | exact H
                 have Ny216 := Aside0.mk hy216
                 clear hy216
                 have H' := Aside0.mk H
                 clear H
                 obtain ⟨Ao52, co52, eo52⟩ := Kd.R_slice HO_12.out
                 subst eo52
                 go_wp2_with (first | ((with_reducible refine gate_callee (f := 14) rfl ?_); refine goesL_ (some 69) rfl rfl Try.func14 (by kernel_rfl) rfl #[.slice A1 l1.length c1, .int .i64 x11_2, .int .i64 x13_3] rfl (by (try simp only [List.map_toArray, List.map_cons, List.map_nil]); first | done | rfl | (simp only [List.length_drop, List.length_take]; rfl)) ?_; (with_reducible refine (treelineref20_On.calls _ _ l1 x11_2 x13_3 false _ ?side1 ?side2 A36.out).mono ?_); (case side1 => repeat (first | exact (Kd.C_below HR1.out HB.out) | (with_reducible refine Kd.C_alloc ?_ _) | (with_reducible refine Kd.C_drewN ?_ _) | (with_reducible refine Kd.C_drew ?_))); (case side2 => exact HC1.out); rintro e w' ⟨rfl, ⟨nd, rfl⟩⟩; refine ⟨_, rfl, ?_⟩; (try (rw [drewN_self wr]; generalize hq_ : World.drewN wr _ = wr; have n0_ : Aside0 (Kd.S (Kd.slice 4 Kd.bool) 36 wr w.heap.size (fun k_ => some k_ ≠ (.slice Ao52 x12_3.length co52 : Value).ownBlock) u10 x10_2) := ⟨by rw [← hq_]; exact (by (with_reducible repeat (first | apply Kd.S_alloc | apply Kd.S_drewN | apply Kd.S_drew)); exact HO_10.out)⟩; have n1_ : Aside0 (Kd.R Kd.bool 4 wr w.heap.size (fun _ => True) (.slice Ao52 x12_3.length co52) x12_3) := ⟨by rw [← hq_]; exact (by (with_reducible repeat (first | apply Kd.R_alloc | apply Kd.R_drewN | apply Kd.R_drew)); exact HO_12.out)⟩; have n2_ : Aside0 (wr.heap[gb205]? = some (.cells #[.int .i64 a0_0, .slice A0_1 l0_1.length c0_1, .slice (some ad209) l0_2.length c0_2, .slice A0_3 l0_3.length c0_3] 26 (0, 0))) := ⟨by rw [← hq_]; exact (by (with_reducible repeat (first | refine blk_drewN ?_ _ | refine blk_drew ?_ | refine blk_alloc ?_ _)); exact BK205.out)⟩; have n3_ : Aside0 (Below w.heap.size w wr) := ⟨by rw [← hq_]; exact (by repeat (first | (with_reducible first | exact HB.out | apply below_alloc | apply pw_below_drewN | apply below_drew1 | refine below_set ?_ GE205.out) | exact HB.out))⟩; clear HO_10 HO_12 BK205 HB hq_; have HO_10 := n0_; have HO_12 := n1_; have BK205 := n2_; have HB := n3_; clear n0_ n1_ n2_ n3_)); have p51 : 0 ≤ (x13_3 : Int) := of_decide_eq_true (by first | (with_reducible assumption) | assumption); have q51 : (x13_3 : Int) < ((x12_3.length : Int) : Int) := of_decide_eq_true (by first | (with_reducible assumption) | assumption); obtain ⟨go51, co51, eo51, gb51, gl51, cl51, HG51⟩ := Kd.R_form HO_12.out (by omega); (first | cases eo51 | (injection eo51 with ea_ en_ ec_; (first | subst ea_ | (injection ea_ with ea_; subst ea_)); subst ec_; clear en_)); have GB51 := Aside0.mk gb51; have GG51 := Aside0.mk HG51; clear gb51 gl51 HG51; obtain ⟨hx51_0, hf51_0⟩ := Kd.R_celln false HO_12.out (x13_3 : Int) p51 q51; replace p51 := eq_true p51; replace q51 := eq_true q51; obtain ⟨hy53_, hz53_⟩ := Kd.R_celln false HO_12.out (x13_3 : Int) (of_decide_eq_true (by first | (with_reducible assumption) | assumption)) (of_decide_eq_true (by first | (with_reducible assumption) | assumption)); have HP53 := Kd.R_putg HO_12.out (x13_3 : Int) false) | ((with_reducible refine gate_store (t := 4) (p := 84) rfl ?_); refine store_event (t := 4) (p := 84) (v := ?vo_w54) (w1 := (wr.setCell ⟨go51, (x13_3 : Int).toNat, none⟩ (.bool false))) ?hg ?ho ?hn ?hr ?_; (case ho => rfl); (case hg => rfl); (case hn => rfl); (case hr => first | (go_simp; done) | (go_simp; rfl)); intro w54 hw; have hg : wr.grownBy w54 (some go51) := (by rw [hw]; exact HP53.2); have hp_ : Kd.R Kd.bool 4 w54 w.heap.size (fun _ => True) (.slice (some ⟨go51, 0, none⟩) x12_3.length co52) y216 := (by rw [hw, Ny216.out]; exact HP53.1); clear HP53; have n0_ := Aside0.mk (Kd.S_after (v := (.slice (some ⟨go51, 0, none⟩) x12_3.length co52)) (v1 := (.slice (some ⟨go51, 0, none⟩) x12_3.length co52)) (ok := (fun _ => True)) (by (with_reducible repeat (first | apply Kd.S_alloc | apply Kd.S_drewN | apply Kd.S_drew)); exact Kd.S_mono HO_10.out (fun _ hk => ⟨trivial, hk⟩)) hg (.inl rfl)); have n1_ := Aside0.mk (hp_); have n2_ := Aside0.mk (blk_grown (g := gb205) (o := .cells #[.int .i64 a0_0, .slice A0_1 l0_1.length c0_1, .slice (some ad209) l0_2.length c0_2, .slice A0_3 l0_3.length c0_3] 26 (0, 0)) (by (with_reducible repeat (first | refine blk_drewN ?_ _ | refine blk_drew ?_ | refine blk_alloc ?_ _)); exact BK205.out) hg (Kd.R_ne HO_12.out BK205.out (by decide))); have n3_ := Aside0.mk ((by rw [hw]; exact below_set (HB.out) GB51.out : Below w.heap.size w w54)); clear HO_10; clear HO_12; clear BK205; clear HB; have HO_10 := n0_; have HO_12 := n1_; have BK205 := n2_; have HB := n3_; clear n0_ n1_ n2_ n3_; clear hg hw hp_) | (go_at_call 14; (with_reducible refine (treelineref20_On.calls _ _ l1 x11_2 x13_3 false _ ?side1 ?side2 A36.out).mono ?_); (case side1 => repeat (first | exact (Kd.C_below HR1.out HB.out) | (with_reducible refine Kd.C_alloc ?_ _) | (with_reducible refine Kd.C_drewN ?_ _) | (with_reducible refine Kd.C_drew ?_))); (case side2 => exact HC1.out); rintro e w' ⟨rfl, ⟨nd, rfl⟩⟩; (try (rw [drewN_self wr]; generalize hq_ : World.drewN wr _ = wr; have n0_ : Aside0 (Kd.S (Kd.slice 4 Kd.bool) 36 wr w.heap.size (fun k_ => some k_ ≠ (.slice Ao52 x12_3.length co52 : Value).ownBlock) u10 x10_2) := ⟨by rw [← hq_]; exact (by (with_reducible repeat (first | apply Kd.S_alloc | apply Kd.S_drewN | apply Kd.S_drew)); exact HO_10.out)⟩; have n1_ : Aside0 (Kd.R Kd.bool 4 wr w.heap.size (fun _ => True) (.slice Ao52 x12_3.length co52) x12_3) := ⟨by rw [← hq_]; exact (by (with_reducible repeat (first | apply Kd.R_alloc | apply Kd.R_drewN | apply Kd.R_drew)); exact HO_12.out)⟩; have n2_ : Aside0 (wr.heap[gb205]? = some (.cells #[.int .i64 a0_0, .slice A0_1 l0_1.length c0_1, .slice (some ad209) l0_2.length c0_2, .slice A0_3 l0_3.length c0_3] 26 (0, 0))) := ⟨by rw [← hq_]; exact (by (with_reducible repeat (first | refine blk_drewN ?_ _ | refine blk_drew ?_ | refine blk_alloc ?_ _)); exact BK205.out)⟩; have n3_ : Aside0 (Below w.heap.size w wr) := ⟨by rw [← hq_]; exact (by repeat (first | (with_reducible first | exact HB.out | apply below_alloc | apply pw_below_drewN | apply below_drew1 | refine below_set ?_ GE205.out) | exact HB.out))⟩; clear HO_10 HO_12 BK205 HB hq_; have HO_10 := n0_; have HO_12 := n1_; have BK205 := n2_; have HB := n3_; clear n0_ n1_ n2_ n3_)); have p51 : 0 ≤ (x13_3 : Int) := of_decide_eq_true (by first | (with_reducible assumption) | assumption); have q51 : (x13_3 : Int) < ((x12_3.length : Int) : Int) := of_decide_eq_true (by first | (with_reducible assumption) | assumption); obtain ⟨go51, co51, eo51, gb51, gl51, cl51, HG51⟩ := Kd.R_form HO_12.out (by omega); (first | cases eo51 | (injection eo51 with ea_ en_ ec_; (first | subst ea_ | (injection ea_ with ea_; subst ea_)); subst ec_; clear en_)); have GB51 := Aside0.mk gb51; have GG51 := Aside0.mk HG51; clear gb51 gl51 HG51; obtain ⟨hx51_0, hf51_0⟩ := Kd.R_celln false HO_12.out (x13_3 : Int) p51 q51; replace p51 := eq_true p51; replace q51 := eq_true q51; obtain ⟨hy53_, hz53_⟩ := Kd.R_celln false HO_12.out (x13_3 : Int) (of_decide_eq_true (by first | (with_reducible assumption) | assumption)) (of_decide_eq_true (by first | (with_reducible assumption) | assumption)); have HP53 := Kd.R_putg HO_12.out (x13_3 : Int) false))
                 go_roundg k3
                 case measure => have := HJ4.out; have := HK2.out; have := HK3.out; omega
                 case rel => exact ⟨(y216), (wrap64 (x13_3 + 1)), (by first | rfl | (simp; done) | (simp [*]; done)), H', ⟨by have := HJ4.out; have := HK2.out; have := HK3.out; omega⟩, ⟨by (with_reducible repeat (first | apply Kd.S_alloc | apply Kd.S_drewN | apply Kd.S_drew)); exact Kd.S_mono HO_10.out (fun _ hk => hk.2)⟩, ⟨by (with_reducible repeat (first | apply Kd.R_alloc | apply Kd.R_drewN | apply Kd.R_drew)); exact HO_12.out⟩, ⟨by (with_reducible repeat (first | refine blk_drewN ?_ _ | refine blk_drew ?_ | refine blk_alloc ?_ _)); exact BK205.out⟩, ⟨by repeat (first | (with_reducible first | exact HB.out | apply below_alloc | apply pw_below_drewN | apply below_drew1 | refine below_set ?_ GE205.out) | exact HB.out)⟩⟩
                ·rw [if_neg c50] at H
                 exact absurd H (by simp)
             ·rw [if_neg c35] at H
              have c35b0 : decide (x13_3 < (x12_3.length : Int)) = false := decide_eq_false c35
              clear c35
              by_cases c55 : x10_2.length < 5864062014805
              ·rw [if_pos c55] at H
               have LMc55 := Aside0.mk c55
               clear c55
               obtain ⟨y217, hy217⟩ : ∃ y_ : List (List Bool), y_ = (x10_2 ++ [x12_3]) := ⟨_, rfl⟩
               replace H : (treelinelaw20_TopoMore.l0 k3 l1 a3 (Int.tmod (wrap64 (a2)) (l0_2.length : Int)) y217 (wrap64 (x11_2 + 1)) a0_0 l0_1 l0_2 l0_3) = some r := by first | (rw [hy217]; with_reducible exact H) | (have H2_ := (Option.bind_some _ _).symm.trans H; rw [hy217]; with_reducible exact H2_) | (have H2_ := (Option.bind_some _ _).symm.trans H; with_reducible exact H2_) | with_reducible exact H | (rw [hy217]; exact H) | exact H
               have Ny217 := Aside0.mk hy217
               clear hy217
               have H' := Aside0.mk H
               clear H
               obtain ⟨Ao56, co56, eo56⟩ := Kd.R_slice HO_12.out
               subst eo56
               go_wp2_with (first | ((with_reducible refine gate_builtin (b := .append) (xs := #[.tmp 85, .tmp 87]) rfl ?_); (try (refine gate_guard (by rfl) ?_; dsimp only)); at_builtin; refine Kd.S_append (Kd.slice 4 Kd.bool) (w0 := w) w.heap.size rfl (.tmp 85) (.tmp 87) 32 36 (.slice none 0 0) 24 rfl Try.underlying32 info36 rfl (by decide) (by omega) u10 x10_2 x12_3 [.slice Ao56 x12_3.length co56] (fun _ => True) (fun k_ => some k_ = (.slice Ao56 x12_3.length co56 : Value).ownBlock) rfl rfl ?aP (fun k_ hk_ => ((Kd.R_mono (ok' := fun k_ => ((fun _ => True)) k_ ∧ some k_ ≠ (u10 : Value).ownBlock) (Kd.R_apart' (HO_12.out) (Kd.S_typed HO_10.out) (by decide)) (fun k_ hk => ⟨trivial, hk.2⟩))).1 k_ hk_.symm) ?aF ?aO ?aB ?aS ?aL ?_; (case aP => exact Kd.M_row (Kd.R_mono (Kd.R_tight rfl (Kd.R_mono (ok' := fun k_ => ((fun _ => True)) k_ ∧ some k_ ≠ (u10 : Value).ownBlock) (Kd.R_apart' (HO_12.out) (Kd.S_typed HO_10.out) (by decide)) (fun k_ hk => ⟨trivial, hk.2⟩))) (fun _ h_ => h_))); (case aB => exact (by repeat (first | (with_reducible first | exact HB.out | apply below_alloc | apply pw_below_drewN | apply below_drew1 | refine below_set ?_ GE205.out) | exact HB.out))); (case aF => exact (fun _ _ => trivial)); (case aO => exact (by (with_reducible repeat (first | apply Kd.S_alloc | apply Kd.S_drewN | apply Kd.S_drew)); exact Kd.S_mono HO_10.out (fun k_ hk => ⟨trivial, fun e_ => hk e_⟩))); (case aS => exact (below_size (by repeat (first | (with_reducible first | exact HB.out | apply below_alloc | apply pw_below_drewN | apply below_drew1 | refine below_set ?_ GE205.out) | exact HB.out)))); (case aL => have := LMc55.out; omega); intro v218 w57 ho hb hg hat; rw [← Ny217.out] at ho; have n0_ := Aside0.mk (blk_grown (g := gb205) (o := .cells #[.int .i64 a0_0, .slice A0_1 l0_1.length c0_1, .slice (some ad209) l0_2.length c0_2, .slice A0_3 l0_3.length c0_3] 26 (0, 0)) (by (with_reducible repeat (first | refine blk_drewN ?_ _ | refine blk_drew ?_ | refine blk_alloc ?_ _)); exact BK205.out) hg (Kd.S_ne HO_10.out BK205.out (by decide))); have n1_ := Aside0.mk (hb); have n2_ := Aside0.mk (ho); clear BK205; clear HB; clear HO_10; clear HO_12; have BK205 := n0_; have HB := n1_; have HO219 := n2_; clear n0_ n1_ n2_; clear ho hb hg hat))
               go_roundg k3
               case measure => have := HJ4.out; have := HK2.out; have := HK3.out; omega
               case rel => exact ⟨(y217), (wrap64 (x11_2 + 1)), (by first | rfl | (simp; done) | (simp [*]; done)), H', ⟨by have := HJ4.out; have := HK2.out; have := HK3.out; omega⟩, ⟨by (with_reducible repeat (first | apply Kd.S_alloc | apply Kd.S_drewN | apply Kd.S_drew)); exact HO219.out⟩, ⟨by (with_reducible repeat (first | refine blk_drewN ?_ _ | refine blk_drew ?_ | refine blk_alloc ?_ _)); exact BK205.out⟩, ⟨by repeat (first | (with_reducible first | exact HB.out | apply below_alloc | apply pw_below_drewN | apply below_drew1 | refine below_set ?_ GE205.out) | exact HB.out)⟩⟩
              ·rw [if_neg c55] at H
               exact absurd H (by simp)
          ·rw [if_neg c31] at H
           exact absurd H (by simp)
         ·rw [if_neg c30] at H
          exact absurd H (by simp)
        ·rw [if_neg c29] at H
         exact absurd H (by simp)
       ·rw [if_neg c28] at H
        have c28b0 : decide (x11_2 < (l0_2.length : Int)) = false := decide_eq_false c28
        clear c28
        replace H := Option.bind_eq_some_iff.mp H
        obtain ⟨t220, A580, H⟩ := H
        replace H : ((topo_Parts.f k2 a0_0 l0_1 l0_2 l0_3 x10_2).bind fun t223 => ((topo_Parts.f k2 a0_0 l0_1 l0_2 l0_3 ([] : List (List Bool))).bind fun t226 => (treelinelaw20_TopoMore.l2 k2 t220 t223 t226 0))) = some r := H
        have A58 := Aside0.mk A580
        clear A580
        replace H := Option.bind_eq_some_iff.mp H
        obtain ⟨t223, A590, H⟩ := H
        replace H : ((topo_Parts.f k2 a0_0 l0_1 l0_2 l0_3 ([] : List (List Bool))).bind fun t226 => (treelinelaw20_TopoMore.l2 k2 t220 t223 t226 0)) = some r := H
        have A59 := Aside0.mk A590
        clear A590
        replace H := Option.bind_eq_some_iff.mp H
        obtain ⟨t226, A600, H⟩ := H
        replace H : (treelinelaw20_TopoMore.l2 k2 t220 t223 t226 0) = some r := H
        have A60 := Aside0.mk A600
        clear A600
        have H' := Aside0.mk H
        clear H
        have hcz61_0 : wr.cell? ⟨gb205, 0, none⟩ = some (.int .i64 a0_0) := (blk_cell BK205.out 0).trans rfl
        have hcz61_1 : wr.cell? ⟨gb205, 1, none⟩ = some (.slice A0_1 l0_1.length c0_1) := (blk_cell BK205.out 1).trans rfl
        have hcz61_2 : wr.cell? ⟨gb205, 2, none⟩ = some (.slice A0_2 l0_2.length c0_2) := (blk_cell BK205.out 2).trans rfl
        have hcz61_3 : wr.cell? ⟨gb205, 3, none⟩ = some (.slice A0_3 l0_3.length c0_3) := (blk_cell BK205.out 3).trans rfl
        have hfz61_0 := blk_frozen BK205.out 0
        have hfz61_1 := blk_frozen BK205.out 1
        have hfz61_2 := blk_frozen BK205.out 2
        have hfz61_3 := blk_frozen BK205.out 3
        try go_wp2
        have n0_ := Aside0.mk (Kd.S_drew HO_10.out)
        have n1_ := Aside0.mk (blk_drew BK205.out)
        have n2_ := Aside0.mk (below_drew1 HB.out)
        clear HO_10
        clear BK205
        clear HB
        have HO_10 := n0_
        have BK205 := n1_
        have HB := n2_
        clear n0_ n1_ n2_
        refine start_ (n := 11) (S := fun w' => w'.cell? ⟨gb205, 0, none⟩ = some (.int .i64 a0_0) ∧ w'.cell? ⟨gb205, 1, none⟩ = some (.slice A0_1 l0_1.length c0_1) ∧ w'.cell? ⟨gb205, 2, none⟩ = some (.slice A0_2 l0_2.length c0_2) ∧ w'.cell? ⟨gb205, 3, none⟩ = some (.slice A0_3 l0_3.length c0_3)) (ds := []) #[false, false, false, false, false, false, false, false, false, false, false] (by kernel_rfl) rfl rfl ⟨(blk_cell BK205.out 0).trans rfl, (blk_cell BK205.out 1).trans rfl, (blk_cell BK205.out 2).trans rfl, (blk_cell BK205.out 3).trans rfl⟩ (fun hHeld => ?_); refine with_tabW treelinelaw20_TopoMore.tab14 treelinelaw20_TopoMore.bits14 (fun HT_ HW_ => ?_)
        generalize wr.drew = w62 at HO_10 BK205 HB hHeld ⊢
        refine pure_ (i := 1) (N := some 90) (v := ?_) (a' := ?_) #[false, true, false, false, false, false, false, false, false, false, false] rfl rfl (any_of HT_.out (by kernel_rfl)) (fun _ _ _ h => h) (Or.inl ⟨by rfl, ?_⟩) ?_ ?_
        rotate_left
        ·intro w'
         go_simp
         with_reducible rfl
        rotate_left
        ·simp only [Act.put, List.setIfInBounds_toArray, List.set_cons_zero, List.set_cons_succ, i64_w, i32_w]
         rfl
        refine pure_ (i := 4) (N := some 93) (v := ?_) (a' := ?_) #[false, true, false, false, true, false, false, false, false, false, false] rfl rfl (any_of HT_.out (by kernel_rfl)) (fun _ _ _ h => h) (Or.inl ⟨by rfl, ?_⟩) ?_ ?_
        rotate_left
        ·intro w'
         go_simp
         with_reducible rfl
        rotate_left
        ·simp only [Act.put, List.setIfInBounds_toArray, List.set_cons_zero, List.set_cons_succ, i64_w, i32_w]
         rfl
        refine take_ (i := 0) (N := some 89) (v := ?_) (a' := ?_) #[true, true, false, false, true, false, false, false, false, false, false] rfl rfl (take_ofW HT_.out HW_.out (by kernel_rfl)) (fun _ _ _ h => h) (Or.inl ⟨by rfl, ?_⟩) hHeld ?_ ?_
        rotate_left
        ·rintro w' ⟨s0, s1, s2, s3⟩
         go_simp
         with_reducible rfl
        rotate_left
        ·simp only [Act.put, List.setIfInBounds_toArray, List.set_cons_zero, List.set_cons_succ, i64_w, i32_w]
         rfl
        refine take_ (i := 3) (N := some 92) (v := ?_) (a' := ?_) #[true, true, false, true, true, false, false, false, false, false, false] rfl rfl (take_ofW HT_.out HW_.out (by kernel_rfl)) (fun _ _ _ h => h) (Or.inl ⟨by rfl, ?_⟩) hHeld ?_ ?_
        rotate_left
        ·rintro w' ⟨s0, s1, s2, s3⟩
         go_simp
         with_reducible rfl
        rotate_left
        ·simp only [Act.put, List.setIfInBounds_toArray, List.set_cons_zero, List.set_cons_succ, i64_w, i32_w]
         rfl
        refine take_ (i := 6) (N := some 95) (v := ?_) (a' := ?_) #[true, true, false, true, true, false, true, false, false, false, false] rfl rfl (take_ofW HT_.out HW_.out (by kernel_rfl)) (fun _ _ _ h => h) (Or.inl ⟨by rfl, ?_⟩) hHeld ?_ ?_
        rotate_left
        ·rintro w' ⟨s0, s1, s2, s3⟩
         go_simp
         with_reducible rfl
        rotate_left
        ·simp only [Act.put, List.setIfInBounds_toArray, List.set_cons_zero, List.set_cons_succ, i64_w, i32_w]
         rfl
        refine one_ (i := 2) (N := some 91) #[true, true, true, true, true, false, true, false, false, false, false] rfl rfl (one_of HT_.out (by kernel_rfl)) (by decide) (fun K hK => ?_)
        refine goes_ Try.func11 (by kernel_rfl) rfl #[.agg #[.int .i64 a0_0, .slice A0_1 l0_1.length c0_1, .slice A0_2 l0_2.length c0_2, .slice A0_3 l0_3.length c0_3], .slice A1 l1.length c1] (by rfl) rfl rfl (by (try simp only [List.map_toArray, List.map_cons, List.map_nil]); first | done | rfl | (simp only [List.length_drop, List.length_take]; rfl)) ?_
        with_reducible refine (topo_Parts.calls k2 a0_0 _ _ l0_1 _ _ l0_2 _ _ l0_3 _ _ l1 t220 _ ?side1 ?side2 ?side3 ?side4 ?side5 ?side6 ?side7 ?side8 A58.out).mono ?_
        (case side1 => repeat (first | exact (Kd.C_below HR0_1.out HB.out) | (with_reducible refine Kd.C_alloc ?_ _) | (with_reducible refine Kd.C_drewN ?_ _) | (with_reducible refine Kd.C_drew ?_)))
        (case side2 => exact HC0_1.out)
        (case side3 => repeat (first | exact (Kd.C_below HR0_2.out HB.out) | (with_reducible refine Kd.C_alloc ?_ _) | (with_reducible refine Kd.C_drewN ?_ _) | (with_reducible refine Kd.C_drew ?_)))
        (case side4 => exact HC0_2.out)
        (case side5 => repeat (first | exact (Kd.C_below HR0_3.out HB.out) | (with_reducible refine Kd.C_alloc ?_ _) | (with_reducible refine Kd.C_drewN ?_ _) | (with_reducible refine Kd.C_drew ?_)))
        (case side6 => exact HC0_3.out)
        (case side7 => repeat (first | exact (Kd.C_below HR1.out HB.out) | (with_reducible refine Kd.C_alloc ?_ _) | (with_reducible refine Kd.C_drewN ?_ _) | (with_reducible refine Kd.C_drew ?_)))
        (case side8 => exact HC1.out)
        rintro e w63 ⟨v221, rfl, ho0, hb⟩
        refine ⟨_, rfl, ?_⟩
        have n0_ := Aside0.mk (Kd.S_below (by (with_reducible repeat (first | apply Kd.S_alloc | apply Kd.S_drewN | apply Kd.S_drew)); exact HO_10.out) hb)
        have n1_ := Aside0.mk (Kd.R_lower ho0 (below_size (by repeat (first | (with_reducible first | exact HB.out | apply below_alloc | apply pw_below_drewN | apply below_drew1 | refine below_set ?_ GE205.out) | exact HB.out))))
        have n2_ := Aside0.mk (blk_below (g := gb205) (o := .cells #[.int .i64 a0_0, .slice A0_1 l0_1.length c0_1, .slice A0_2 l0_2.length c0_2, .slice A0_3 l0_3.length c0_3] 26 (0, 0)) (by (with_reducible repeat (first | refine blk_drewN ?_ _ | refine blk_drew ?_ | refine blk_alloc ?_ _)); exact BK205.out) hb)
        have n3_ := Aside0.mk (below_step (by repeat (first | (with_reducible first | exact HB.out | apply below_alloc | apply pw_below_drewN | apply below_drew1 | refine below_set ?_ GE205.out) | exact HB.out)) hb)
        clear HO_10
        clear BK205
        clear HB
        have HO_10 := n0_
        have HO222 := n1_
        have BK205 := n2_
        have HB := n3_
        clear n0_ n1_ n2_ n3_
        (try clear hb)
        (try clear hb2)
        (try clear hk)
        (try clear hi)
        (try clear ho0)
        obtain ⟨Ao64, co64, eo64⟩ := Kd.S_slice HO_10.out
        (first | subst eo64 | (injection eo64 with f1_ f2_ f3_; have f4_ := f1_.symm; have f5_ := f3_.symm; clear f1_ f2_ f3_; subst f4_; subst f5_))
        refine hK.out _ _ ⟨(blk_cell BK205.out 0).trans rfl, (blk_cell BK205.out 1).trans rfl, (blk_cell BK205.out 2).trans rfl, (blk_cell BK205.out 3).trans rfl⟩ (fun hHeld => ?_)
        clear hK K
        refine norm_ (a' := ?_) ?_ ?_
        rotate_left
        ·show Act.put _ (some 91) _ = _
         simp only [Act.put, List.setIfInBounds_toArray, List.set_cons_zero, List.set_cons_succ, i64_w, i32_w]
         rfl
        refine one_ (i := 5) (N := some 94) #[true, true, true, true, true, true, true, false, false, false, false] rfl rfl (one_of HT_.out (by kernel_rfl)) (by decide) (fun K hK => ?_)
        refine goes_ Try.func11 (by kernel_rfl) rfl #[.agg #[.int .i64 a0_0, .slice A0_1 l0_1.length c0_1, .slice A0_2 l0_2.length c0_2, .slice A0_3 l0_3.length c0_3], .slice Ao64 x10_2.length co64] (by rfl) rfl rfl (by (try simp only [List.map_toArray, List.map_cons, List.map_nil]); first | done | rfl | (simp only [List.length_drop, List.length_take]; rfl)) ?_
        with_reducible refine (topo_Parts.calls k2 a0_0 _ _ l0_1 _ _ l0_2 _ _ l0_3 _ _ x10_2 t223 _ ?side1 ?side2 ?side3 ?side4 ?side5 ?side6 ?side7 ?side8 A59.out).mono ?_
        (case side1 => repeat (first | exact (Kd.C_below HR0_1.out HB.out) | (with_reducible refine Kd.C_alloc ?_ _) | (with_reducible refine Kd.C_drewN ?_ _) | (with_reducible refine Kd.C_drew ?_)))
        (case side2 => exact HC0_1.out)
        (case side3 => repeat (first | exact (Kd.C_below HR0_2.out HB.out) | (with_reducible refine Kd.C_alloc ?_ _) | (with_reducible refine Kd.C_drewN ?_ _) | (with_reducible refine Kd.C_drew ?_)))
        (case side4 => exact HC0_2.out)
        (case side5 => repeat (first | exact (Kd.C_below HR0_3.out HB.out) | (with_reducible refine Kd.C_alloc ?_ _) | (with_reducible refine Kd.C_drewN ?_ _) | (with_reducible refine Kd.C_drew ?_)))
        (case side6 => exact HC0_3.out)
        (case side7 => repeat (first | exact (Kd.S_reads' HO_10.out).2.2 | (with_reducible refine Kd.C_alloc ?_ _) | (with_reducible refine Kd.C_drewN ?_ _) | (with_reducible refine Kd.C_drew ?_)))
        (case side8 => exact (Kd.S_reads' HO_10.out).2.1)
        rintro e w65 ⟨v224, rfl, ho0, hb⟩
        refine ⟨_, rfl, ?_⟩
        have n0_ := Aside0.mk (Kd.S_below (by (with_reducible repeat (first | apply Kd.S_alloc | apply Kd.S_drewN | apply Kd.S_drew)); exact HO_10.out) hb)
        have n1_ := Aside0.mk (Kd.R_elder' (by (with_reducible repeat (first | apply Kd.R_alloc | apply Kd.R_drewN | apply Kd.R_drew)); exact HO222.out) (Kd.R_base ho0) hb)
        have n2_ := Aside0.mk (Kd.R_lower (Kd.R_new' ho0 (Kd.R_lt (by (with_reducible repeat (first | apply Kd.R_alloc | apply Kd.R_drewN | apply Kd.R_drew)); exact HO222.out))) (below_size (by repeat (first | (with_reducible first | exact HB.out | apply below_alloc | apply pw_below_drewN | apply below_drew1 | refine below_set ?_ GE205.out) | exact HB.out))))
        have n3_ := Aside0.mk (blk_below (g := gb205) (o := .cells #[.int .i64 a0_0, .slice A0_1 l0_1.length c0_1, .slice A0_2 l0_2.length c0_2, .slice A0_3 l0_3.length c0_3] 26 (0, 0)) (by (with_reducible repeat (first | refine blk_drewN ?_ _ | refine blk_drew ?_ | refine blk_alloc ?_ _)); exact BK205.out) hb)
        have n4_ := Aside0.mk (below_step (by repeat (first | (with_reducible first | exact HB.out | apply below_alloc | apply pw_below_drewN | apply below_drew1 | refine below_set ?_ GE205.out) | exact HB.out)) hb)
        clear HO_10
        clear HO222
        clear BK205
        clear HB
        have HO_10 := n0_
        have HO222 := n1_
        have HO225 := n2_
        have BK205 := n3_
        have HB := n4_
        clear n0_ n1_ n2_ n3_ n4_
        (try clear hb)
        (try clear hb2)
        (try clear hk)
        (try clear hi)
        (try clear ho0)
        refine hK.out _ _ ⟨(blk_cell BK205.out 0).trans rfl, (blk_cell BK205.out 1).trans rfl, (blk_cell BK205.out 2).trans rfl, (blk_cell BK205.out 3).trans rfl⟩ (fun hHeld => ?_)
        clear hK K
        refine norm_ (a' := ?_) ?_ ?_
        rotate_left
        ·show Act.put _ (some 94) _ = _
         simp only [Act.put, List.setIfInBounds_toArray, List.set_cons_zero, List.set_cons_succ, i64_w, i32_w]
         rfl
        refine one_ (i := 7) (N := some 96) #[true, true, true, true, true, true, true, true, false, false, false] rfl rfl (one_of HT_.out (by kernel_rfl)) (by decide) (fun K hK => ?_)
        refine goes_ Try.func11 (by kernel_rfl) rfl #[.agg #[.int .i64 a0_0, .slice A0_1 l0_1.length c0_1, .slice A0_2 l0_2.length c0_2, .slice A0_3 l0_3.length c0_3], .slice none 0 0] (by rfl) rfl rfl (by (try simp only [List.map_toArray, List.map_cons, List.map_nil]); first | done | rfl | (simp only [List.length_drop, List.length_take]; rfl)) ?_
        refine (topo_Parts.calls k2 a0_0 _ _ l0_1 _ _ l0_2 _ _ l0_3 _ _ ([] : List (List Bool)) t226 _ ?side1 ?side2 ?side3 ?side4 ?side5 ?side6 ?side7 ?side8 A60.out).mono ?_
        (case side1 => repeat (first | exact (Kd.C_below HR0_1.out HB.out) | (with_reducible refine Kd.C_alloc ?_ _) | (with_reducible refine Kd.C_drewN ?_ _) | (with_reducible refine Kd.C_drew ?_)))
        (case side2 => exact HC0_1.out)
        (case side3 => repeat (first | exact (Kd.C_below HR0_2.out HB.out) | (with_reducible refine Kd.C_alloc ?_ _) | (with_reducible refine Kd.C_drewN ?_ _) | (with_reducible refine Kd.C_drew ?_)))
        (case side4 => exact HC0_2.out)
        (case side5 => repeat (first | exact (Kd.C_below HR0_3.out HB.out) | (with_reducible refine Kd.C_alloc ?_ _) | (with_reducible refine Kd.C_drewN ?_ _) | (with_reducible refine Kd.C_drew ?_)))
        (case side6 => exact HC0_3.out)
        (case side7 => exact Kd.C_nil _ _)
        (case side8 => exact Nat.le_refl _)
        rintro e w66 ⟨v227, rfl, ho0, hb⟩
        refine ⟨_, rfl, ?_⟩
        have n0_ := Aside0.mk (Kd.S_below (by (with_reducible repeat (first | apply Kd.S_alloc | apply Kd.S_drewN | apply Kd.S_drew)); exact HO_10.out) hb)
        have n1_ := Aside0.mk (Kd.R_elder' (by (with_reducible repeat (first | apply Kd.R_alloc | apply Kd.R_drewN | apply Kd.R_drew)); exact HO222.out) (Kd.R_base ho0) hb)
        have n2_ := Aside0.mk (Kd.R_elder' (by (with_reducible repeat (first | apply Kd.R_alloc | apply Kd.R_drewN | apply Kd.R_drew)); exact HO225.out) (Kd.R_base ho0) hb)
        have n3_ := Aside0.mk (Kd.R_lower (Kd.R_new' (Kd.R_new' ho0 (Kd.R_lt (by (with_reducible repeat (first | apply Kd.R_alloc | apply Kd.R_drewN | apply Kd.R_drew)); exact HO222.out))) (Kd.R_lt (by (with_reducible repeat (first | apply Kd.R_alloc | apply Kd.R_drewN | apply Kd.R_drew)); exact HO225.out))) (below_size (by repeat (first | (with_reducible first | exact HB.out | apply below_alloc | apply pw_below_drewN | apply below_drew1 | refine below_set ?_ GE205.out) | exact HB.out))))
        have n4_ := Aside0.mk (blk_below (g := gb205) (o := .cells #[.int .i64 a0_0, .slice A0_1 l0_1.length c0_1, .slice A0_2 l0_2.length c0_2, .slice A0_3 l0_3.length c0_3] 26 (0, 0)) (by (with_reducible repeat (first | refine blk_drewN ?_ _ | refine blk_drew ?_ | refine blk_alloc ?_ _)); exact BK205.out) hb)
        have n5_ := Aside0.mk (below_step (by repeat (first | (with_reducible first | exact HB.out | apply below_alloc | apply pw_below_drewN | apply below_drew1 | refine below_set ?_ GE205.out) | exact HB.out)) hb)
        clear HO_10
        clear HO222
        clear HO225
        clear BK205
        clear HB
        have HO_10 := n0_
        have HO222 := n1_
        have HO225 := n2_
        have HO228 := n3_
        have BK205 := n4_
        have HB := n5_
        clear n0_ n1_ n2_ n3_ n4_ n5_
        (try clear hb)
        (try clear hb2)
        (try clear hk)
        (try clear hi)
        (try clear ho0)
        refine hK.out _ _ ⟨(blk_cell BK205.out 0).trans rfl, (blk_cell BK205.out 1).trans rfl, (blk_cell BK205.out 2).trans rfl, (blk_cell BK205.out 3).trans rfl⟩ (fun hHeld => ?_)
        clear hK K
        refine norm_ (a' := ?_) ?_ ?_
        rotate_left
        ·show Act.put _ (some 96) _ = _
         simp only [Act.put, List.setIfInBounds_toArray, List.set_cons_zero, List.set_cons_succ, i64_w, i32_w]
         rfl
        refine pure_ (i := 8) (N := some 14) (v := ?_) (a' := ?_) #[true, true, true, true, true, true, true, true, true, false, false] rfl rfl (any_of HT_.out (by kernel_rfl)) (fun _ _ _ h => h) (Or.inl ⟨by rfl, ?_⟩) ?_ ?_
        rotate_left
        ·intro w'
         go_simp
         with_reducible rfl
        rotate_left
        ·simp only [Act.put, List.setIfInBounds_toArray, List.set_cons_zero, List.set_cons_succ, i64_w, i32_w]
         rfl
        refine pure_ (i := 9) (N := some 15) (v := ?_) (a' := ?_) #[true, true, true, true, true, true, true, true, true, true, false] rfl rfl (any_of HT_.out (by kernel_rfl)) (fun _ _ _ h => h) (Or.inl ⟨by rfl, ?_⟩) ?_ ?_
        rotate_left
        ·intro w'
         go_simp
         with_reducible rfl
        rotate_left
        ·simp only [Act.put, List.setIfInBounds_toArray, List.set_cons_zero, List.set_cons_succ, i64_w, i32_w]
         rfl
        refine pure_ (i := 10) (N := some 16) (v := ?_) (a' := ?_) #[true, true, true, true, true, true, true, true, true, true, true] rfl rfl (any_of HT_.out (by kernel_rfl)) (fun _ _ _ h => h) (Or.inl ⟨by rfl, ?_⟩) ?_ ?_
        rotate_left
        ·intro w'
         go_simp
         with_reducible rfl
        rotate_left
        ·simp only [Act.put, List.setIfInBounds_toArray, List.set_cons_zero, List.set_cons_succ, i64_w, i32_w]
         rfl
        refine done_ (done_of HT_.out (by kernel_rfl)) ?_
        try go_wp2
        go_loopg [17] k2 (fun kq v17 w' => ∃ (x17_3 : Int), v17 = .int .i64 x17_3 ∧ Aside0 (treelinelaw20_TopoMore.l2 kq t220 t223 t226 x17_3 = some r) ∧ Aside0 (kq ≤ k2) ∧ Aside0 (Kd.R (Kd.int .i64) 3 w' w.heap.size (fun k_ => some k_ ≠ (v224 : Value).ownBlock ∧ some k_ ≠ (v227 : Value).ownBlock) v221 t220) ∧ Aside0 (Kd.R (Kd.int .i64) 3 w' w.heap.size (fun k_ => some k_ ≠ (v221 : Value).ownBlock ∧ some k_ ≠ (v227 : Value).ownBlock) v224 t223) ∧ Aside0 (Kd.R (Kd.int .i64) 3 w' w.heap.size (fun k_ => some k_ ≠ (v221 : Value).ownBlock ∧ some k_ ≠ (v224 : Value).ownBlock) v227 t226) ∧ Aside0 (w'.heap[gb205]? = some (.cells #[.int .i64 a0_0, (.slice A0_1 l0_1.length c0_1), (.slice A0_2 l0_2.length c0_2), (.slice A0_3 l0_3.length c0_3)] 26 (0, 0))) ∧ Aside0 (Below w.heap.size w w'))
        case atStart => exact ⟨(0), (by first | rfl | (simp; done) | (simp [*]; done)), H', ⟨Nat.le_refl _⟩, ⟨by (with_reducible repeat (first | apply Kd.R_alloc | apply Kd.R_drewN | apply Kd.R_drew)); exact Kd.R_mono HO222.out (fun _ hk => ⟨hk.1.2, hk.2⟩)⟩, ⟨by (with_reducible repeat (first | apply Kd.R_alloc | apply Kd.R_drewN | apply Kd.R_drew)); exact Kd.R_mono HO225.out (fun _ hk => ⟨hk.1.2, hk.2⟩)⟩, ⟨by (with_reducible repeat (first | apply Kd.R_alloc | apply Kd.R_drewN | apply Kd.R_drew)); exact Kd.R_mono HO228.out (fun _ hk => ⟨hk.1.2, hk.2⟩)⟩, ⟨by (with_reducible repeat (first | refine blk_drewN ?_ _ | refine blk_drew ?_ | refine blk_alloc ?_ _)); exact BK205.out⟩, ⟨by repeat (first | (with_reducible first | exact HB.out | apply below_alloc | apply pw_below_drewN | apply below_drew1 | refine below_set ?_ GE205.out) | exact HB.out)⟩⟩
        case round =>
         clear H'
         try clear c1
         try clear c2
         try clear p2
         try clear q2
         try clear hx2
         try clear c3
         try clear p3
         try clear q3
         try clear hx3
         try clear c4
         try clear p4
         try clear q4
         try clear hx4
         try clear hf4
         try clear c5
         try clear p5
         try clear q5
         try clear hx5
         try clear hf5
         try clear p6
         try clear c7
         try clear c8
         try clear c10
         try clear c11
         try clear c11b0
         try clear c11b1
         try clear c14
         try clear c20
         try clear p20
         try clear q20
         try clear hx20
         try clear c23
         try clear c26
         try clear c26b0
         try clear c26b1
         try clear c26b2
         try clear c28
         try clear c28b0
         try clear c29
         try clear c29b0
         try clear c30
         try clear c30b0
         try clear c30b1
         try clear c31
         try clear c31b0
         try clear c31b1
         try clear c35
         try clear c35b0
         try clear c37
         try clear c38
         try clear c38b0
         try clear p39
         try clear q39
         try clear hx39
         try clear hf39
         try clear c43
         try clear c43b0
         try clear c43b1
         try clear c44
         try clear c44b0
         try clear c44b1
         try clear c44b2
         try clear c45
         try clear c45b0
         try clear p46
         try clear q46
         try clear hx46
         try clear hf46
         try clear c50
         try clear c50b0
         try clear p51
         try clear q51
         try clear hx51
         try clear hf51
         try clear c55
         try clear p64
         try clear hcz13_0
         try clear hcz13_1
         try clear hcz13_2
         try clear hcz13_3
         try clear hcz16_0
         try clear hcz16_1
         try clear hcz16_2
         try clear hcz16_3
         try clear hcz18_0
         try clear hcz18_1
         try clear hcz18_2
         try clear hcz18_3
         try clear hcz20_0
         try clear hcz20_1
         try clear hcz20_2
         try clear hcz20_3
         try clear hcz27_0
         try clear hcz27_1
         try clear hcz27_2
         try clear hcz27_3
         try clear hcz32_0
         try clear hcz32_1
         try clear hcz32_2
         try clear hcz32_3
         try clear hcz61_0
         try clear hcz61_1
         try clear hcz61_2
         try clear hcz61_3
         try clear hfz13_0
         try clear hfz13_1
         try clear hfz13_2
         try clear hfz13_3
         try clear hfz16_0
         try clear hfz16_1
         try clear hfz16_2
         try clear hfz16_3
         try clear hfz18_0
         try clear hfz18_1
         try clear hfz18_2
         try clear hfz18_3
         try clear hfz20_0
         try clear hfz20_1
         try clear hfz20_2
         try clear hfz20_3
         try clear hfz27_0
         try clear hfz27_1
         try clear hfz27_2
         try clear hfz27_3
         try clear hfz32_0
         try clear hfz32_1
         try clear hfz32_2
         try clear hfz32_3
         try clear hfz61_0
         try clear hfz61_1
         try clear hfz61_2
         try clear hfz61_3
         try clear hx209_0
         try clear hx39_0
         try clear hx46_0
         try clear hx51_0
         try clear p2
         try clear p20
         try clear p209
         try clear p39
         try clear p46
         try clear p51
         try clear p6
         try clear q2
         try clear q20
         try clear q209
         try clear q39
         try clear q46
         try clear q51
         obtain ⟨x17_3, rfl, HA, HK3, HO_14, HO_15, HO_16, BK205, HB⟩ := hrel
         cases gk with
         | zero => exact absurd HA.out (by simp [treelinelaw20_TopoMore.l2])
         | succ k3 =>
          have H := HA.out
          clear HA
          simp only [treelinelaw20_TopoMore.l2] at H
          by_cases c67 : x17_3 < (t220.length : Int)
          ·rw [if_pos c67] at H
           have c67b0 : decide (x17_3 < (t220.length : Int)) = true := decide_eq_true c67
           clear c67
           have HC68 := Aside0.mk H
           clear H
           obtain ⟨Ao69, co69, eo69⟩ := Kd.R_slice HO_14.out
           subst eo69
           go_upto_region 18 with (fail)
           go_cut [119] (fun v119 wc => ∃ (kq : Nat) (x119_67 : Bool), v119 = .bool x119_67 ∧ Aside0 (treelinelaw20_TopoMore.j4 kq t220 t223 t226 x17_3 x119_67 = some r) ∧ Aside0 (kq ≤ k3) ∧ Aside0 (Kd.R (Kd.int .i64) 3 wc w.heap.size (fun k_ => some k_ ≠ (v224 : Value).ownBlock ∧ some k_ ≠ (v227 : Value).ownBlock) (.slice Ao69 t220.length co69) t220) ∧ Aside0 (Kd.R (Kd.int .i64) 3 wc w.heap.size (fun k_ => some k_ ≠ ((.slice Ao69 t220.length co69) : Value).ownBlock ∧ some k_ ≠ (v227 : Value).ownBlock) v224 t223) ∧ Aside0 (Kd.R (Kd.int .i64) 3 wc w.heap.size (fun k_ => some k_ ≠ ((.slice Ao69 t220.length co69) : Value).ownBlock ∧ some k_ ≠ (v224 : Value).ownBlock) v227 t226) ∧ Aside0 (wc.heap[gb205]? = some (.cells #[.int .i64 a0_0, (.slice A0_1 l0_1.length c0_1), (.slice A0_2 l0_2.length c0_2), (.slice A0_3 l0_3.length c0_3)] 26 (0, 0))) ∧ Aside0 (Below w.heap.size w wc))
           case first =>
            have H := HC68.out
            clear HC68
            by_cases c70 : 0 ≤ x17_3
            ·rw [if_pos c70] at H
             have c70b0 : decide (0 ≤ x17_3) = true := decide_eq_true c70
             clear c70
             (first | rw [c70b0] | (simp only [i64_w, i32_w]; rw [c70b0]) | skip)
             by_cases c71 : x17_3 < (t223.length : Int)
             ·rw [if_pos c71] at H
              have c71b0 : decide (x17_3 < (t223.length : Int)) = true := decide_eq_true c71
              clear c71
              by_cases c72 : (rd t223 x17_3) > (rd t220 x17_3)
              ·rw [if_pos c72] at H
               have c72b0 : decide ((rd t220 x17_3) < (rd t223 x17_3)) = true := decide_eq_true c72
               clear c72
               have H' := Aside0.mk H
               clear H
               try go_wp2
               have n0_ := Aside0.mk (Kd.R_drew HO_14.out)
               have n1_ := Aside0.mk (Kd.R_drew HO_15.out)
               have n2_ := Aside0.mk (Kd.R_drew HO_16.out)
               have n3_ := Aside0.mk (blk_drew BK205.out)
               have n4_ := Aside0.mk (below_drew1 HB.out)
               clear HO_14
               clear HO_15
               clear HO_16
               clear BK205
               clear HB
               have HO_14 := n0_
               have HO_15 := n1_
               have HO_16 := n2_
               have BK205 := n3_
               have HB := n4_
               clear n0_ n1_ n2_ n3_ n4_
               obtain ⟨Ao74, co74, eo74⟩ := Kd.R_slice HO_15.out
               (first | subst eo74 | (injection eo74 with f1_ f2_ f3_; have f4_ := f1_.symm; have f5_ := f3_.symm; clear f1_ f2_ f3_; subst f4_; subst f5_))
               have p229 : 0 ≤ (x17_3 : Int) := of_decide_eq_true (by first | (with_reducible assumption) | assumption)
               have q229 : x17_3 < (t223.length : Int) := of_decide_eq_true (by first | (with_reducible assumption) | assumption)
               obtain ⟨ad229, e229, hx229_0⟩ := Kd.at_int (Kd.R_reads' HO_15.out).2.2 x17_3 p229 q229
               cases e229
               replace p229 := eq_true p229
               replace q229 := eq_true q229
               have p230 : 0 ≤ (x17_3 : Int) := of_decide_eq_true (by first | (with_reducible assumption) | assumption)
               have q230 : x17_3 < (t220.length : Int) := of_decide_eq_true (by first | (with_reducible assumption) | assumption)
               obtain ⟨ad230, e230, hx230_0⟩ := Kd.at_int (Kd.R_reads' HO_14.out).2.2 x17_3 p230 q230
               cases e230
               replace p230 := eq_true p230
               replace q230 := eq_true q230
               refine start_ (n := 17) (S := fun w' => w'.cell? (ad229.add (x17_3).toNat) = some (.int .i64 (rd t223 x17_3)) ∧ w'.cell? (ad230.add (x17_3).toNat) = some (.int .i64 (rd t220 x17_3))) (ds := []) #[false, false, false, false, false, false, false, false, false, false, false, false, false, false, false, false, false] (by kernel_rfl) rfl rfl ⟨hx229_0, hx230_0⟩ (fun hHeld => ?_); refine with_tabW treelinelaw20_TopoMore.tab18 treelinelaw20_TopoMore.bits18 (fun HT_ HW_ => ?_)
               generalize wr.drew = w73 at HO_14 HO_15 HO_16 BK205 HB hx229_0 hx230_0 hHeld ⊢
               refine pure_ (i := 0) (N := some 103) (v := ?_) (a' := ?_) #[true, false, false, false, false, false, false, false, false, false, false, false, false, false, false, false, false] rfl rfl (any_of HT_.out (by kernel_rfl)) (fun _ _ _ h => h) (Or.inl ⟨by rfl, ?_⟩) ?_ ?_
               rotate_left
               ·intro w'
                go_simp
                with_reducible rfl
               rotate_left
               ·simp only [Act.put, List.setIfInBounds_toArray, List.set_cons_zero, List.set_cons_succ, i64_w, i32_w]
                rfl
               refine pure_ (i := 1) (N := some 104) (v := ?_) (a' := ?_) #[true, true, false, false, false, false, false, false, false, false, false, false, false, false, false, false, false] rfl rfl (any_of HT_.out (by kernel_rfl)) (fun _ _ _ h => h) (Or.inl ⟨by rfl, ?_⟩) ?_ ?_
               rotate_left
               ·intro w'
                go_simp
                with_reducible rfl
               rotate_left
               ·simp only [Act.put, List.setIfInBounds_toArray, List.set_cons_zero, List.set_cons_succ, i64_w, i32_w]
                rfl
               refine pure_ (i := 2) (N := some 105) (v := ?_) (a' := ?_) #[true, true, true, false, false, false, false, false, false, false, false, false, false, false, false, false, false] rfl rfl (any_of HT_.out (by kernel_rfl)) (fun _ _ _ h => h) (Or.inl ⟨by rfl, ?_⟩) ?_ ?_
               rotate_left
               ·intro w'
                go_simp
                with_reducible rfl
               rotate_left
               ·simp only [Act.put, List.setIfInBounds_toArray, List.set_cons_zero, List.set_cons_succ, i64_w, i32_w]
                rfl
               refine pure_ (i := 4) (N := some 107) (v := ?_) (a' := ?_) #[true, true, true, false, true, false, false, false, false, false, false, false, false, false, false, false, false] rfl rfl (any_of HT_.out (by kernel_rfl)) (fun _ _ _ h => h) (Or.inl ⟨by rfl, ?_⟩) ?_ ?_
               rotate_left
               ·intro w'
                go_simp
                with_reducible rfl
               rotate_left
               ·simp only [Act.put, List.setIfInBounds_toArray, List.set_cons_zero, List.set_cons_succ, i64_w, i32_w]
                rfl
               refine pure_ (i := 5) (N := some 108) (v := ?_) (a' := ?_) #[true, true, true, false, true, true, false, false, false, false, false, false, false, false, false, false, false] rfl rfl (any_of HT_.out (by kernel_rfl)) (fun _ _ _ h => h) (Or.inl ⟨by rfl, ?_⟩) ?_ ?_
               rotate_left
               ·intro w'
                go_simp
                with_reducible rfl
               rotate_left
               ·simp only [Act.put, List.setIfInBounds_toArray, List.set_cons_zero, List.set_cons_succ, i64_w, i32_w]
                rfl
               refine pure_ (i := 6) (N := some 109) (v := ?_) (a' := ?_) #[true, true, true, false, true, true, true, false, false, false, false, false, false, false, false, false, false] rfl rfl (any_of HT_.out (by kernel_rfl)) (fun _ _ _ h => h) (Or.inl ⟨by rfl, ?_⟩) ?_ ?_
               rotate_left
               ·intro w'
                go_simp
                with_reducible rfl
               rotate_left
               ·simp only [Act.put, List.setIfInBounds_toArray, List.set_cons_zero, List.set_cons_succ, i64_w, i32_w]
                rfl
               refine take_ (i := 3) (N := some 106) (v := ?_) (a' := ?_) #[true, true, true, true, true, true, true, false, false, false, false, false, false, false, false, false, false] rfl rfl (take_ofW HT_.out HW_.out (by kernel_rfl)) (fun _ _ _ h => h) (Or.inl ⟨by rfl, ?_⟩) hHeld ?_ ?_
               rotate_left
               ·rintro w' ⟨s0, s1⟩
                go_simp
                with_reducible rfl
               rotate_left
               ·simp only [Act.put, List.setIfInBounds_toArray, List.set_cons_zero, List.set_cons_succ, i64_w, i32_w]
                rfl
               refine take_ (i := 7) (N := some 110) (v := ?_) (a' := ?_) #[true, true, true, true, true, true, true, true, false, false, false, false, false, false, false, false, false] rfl rfl (take_ofW HT_.out HW_.out (by kernel_rfl)) (fun _ _ _ h => h) (Or.inl ⟨by rfl, ?_⟩) hHeld ?_ ?_
               rotate_left
               ·rintro w' ⟨s0, s1⟩
                go_simp
                with_reducible rfl
               rotate_left
               ·simp only [Act.put, List.setIfInBounds_toArray, List.set_cons_zero, List.set_cons_succ, i64_w, i32_w]
                rfl
               refine pure_ (i := 8) (N := some 111) (v := ?_) (a' := ?_) #[true, true, true, true, true, true, true, true, true, false, false, false, false, false, false, false, false] rfl rfl (any_of HT_.out (by kernel_rfl)) (fun _ _ _ h => h) (Or.inl ⟨by rfl, ?_⟩) ?_ ?_
               rotate_left
               ·intro w'
                go_simp
                with_reducible rfl
               rotate_left
               ·simp only [Act.put, List.setIfInBounds_toArray, List.set_cons_zero, List.set_cons_succ, i64_w, i32_w]
                rfl
               refine pure_ (i := 9) (N := some 112) (v := ?_) (a' := ?_) #[true, true, true, true, true, true, true, true, true, true, false, false, false, false, false, false, false] rfl rfl (any_of HT_.out (by kernel_rfl)) (fun _ _ _ h => h) (Or.inl ⟨by rfl, ?_⟩) ?_ ?_
               rotate_left
               ·intro w'
                go_simp
                with_reducible rfl
               rotate_left
               ·simp only [Act.put, List.setIfInBounds_toArray, List.set_cons_zero, List.set_cons_succ, i64_w, i32_w]
                rfl
               refine pure_ (i := 10) (N := some 113) (v := undef) (a' := ?_) #[true, true, true, true, true, true, true, true, true, true, true, false, false, false, false, false, false] rfl rfl (any_of HT_.out (by kernel_rfl)) (fun _ _ _ h => h) (Or.inr ⟨by rfl, rfl⟩) ?_ ?_
               rotate_left
               ·simp only [Act.put, List.setIfInBounds_toArray, List.set_cons_zero, List.set_cons_succ, i64_w, i32_w]
                rfl
               refine pure_ (i := 11) (N := some 114) (v := undef) (a' := ?_) #[true, true, true, true, true, true, true, true, true, true, true, true, false, false, false, false, false] rfl rfl (any_of HT_.out (by kernel_rfl)) (fun _ _ _ h => h) (Or.inr ⟨by rfl, rfl⟩) ?_ ?_
               rotate_left
               ·simp only [Act.put, List.setIfInBounds_toArray, List.set_cons_zero, List.set_cons_succ, i64_w, i32_w]
                rfl
               refine pure_ (i := 12) (N := some 115) (v := undef) (a' := ?_) #[true, true, true, true, true, true, true, true, true, true, true, true, true, false, false, false, false] rfl rfl (any_of HT_.out (by kernel_rfl)) (fun _ _ _ h => h) (Or.inr ⟨by rfl, rfl⟩) ?_ ?_
               rotate_left
               ·simp only [Act.put, List.setIfInBounds_toArray, List.set_cons_zero, List.set_cons_succ, i64_w, i32_w]
                rfl
               refine pure_ (i := 13) (N := some 116) (v := undef) (a' := ?_) #[true, true, true, true, true, true, true, true, true, true, true, true, true, true, false, false, false] rfl rfl (any_of HT_.out (by kernel_rfl)) (fun _ _ _ h => h) (Or.inr ⟨by rfl, rfl⟩) ?_ ?_
               rotate_left
               ·simp only [Act.put, List.setIfInBounds_toArray, List.set_cons_zero, List.set_cons_succ, i64_w, i32_w]
                rfl
               refine pure_ (i := 14) (N := some 117) (v := undef) (a' := ?_) #[true, true, true, true, true, true, true, true, true, true, true, true, true, true, true, false, false] rfl rfl (any_of HT_.out (by kernel_rfl)) (fun _ _ _ h => h) (Or.inr ⟨by rfl, rfl⟩) ?_ ?_
               rotate_left
               ·simp only [Act.put, List.setIfInBounds_toArray, List.set_cons_zero, List.set_cons_succ, i64_w, i32_w]
                rfl
               refine pure_ (i := 15) (N := some 118) (v := undef) (a' := ?_) #[true, true, true, true, true, true, true, true, true, true, true, true, true, true, true, true, false] rfl rfl (any_of HT_.out (by kernel_rfl)) (fun _ _ _ h => h) (Or.inr ⟨by rfl, rfl⟩) ?_ ?_
               rotate_left
               ·simp only [Act.put, List.setIfInBounds_toArray, List.set_cons_zero, List.set_cons_succ, i64_w, i32_w]
                rfl
               refine pure_ (i := 16) (N := some 119) (v := ?_) (a' := ?_) #[true, true, true, true, true, true, true, true, true, true, true, true, true, true, true, true, true] rfl rfl (any_of HT_.out (by kernel_rfl)) (fun _ _ _ h => h) (Or.inl ⟨by rfl, ?_⟩) ?_ ?_
               rotate_left
               ·intro w'
                go_simp
                with_reducible rfl
               rotate_left
               ·simp only [Act.put, List.setIfInBounds_toArray, List.set_cons_zero, List.set_cons_succ, i64_w, i32_w]
                rfl
               refine done_ (done_of HT_.out (by kernel_rfl)) ?_
               try go_wp2
               go_meet
               case rel => exact ⟨_, (true), (by first | rfl | (simp; done) | (simp [*]; done)), H', ⟨by have := HJ4.out; have := HK2.out; have := HK3.out; first | omega | exact Nat.le_refl _⟩, ⟨by (with_reducible repeat (first | apply Kd.R_alloc | apply Kd.R_drewN | apply Kd.R_drew)); exact HO_14.out⟩, ⟨by (with_reducible repeat (first | apply Kd.R_alloc | apply Kd.R_drewN | apply Kd.R_drew)); exact HO_15.out⟩, ⟨by (with_reducible repeat (first | apply Kd.R_alloc | apply Kd.R_drewN | apply Kd.R_drew)); exact HO_16.out⟩, ⟨by (with_reducible repeat (first | refine blk_drewN ?_ _ | refine blk_drew ?_ | refine blk_alloc ?_ _)); exact BK205.out⟩, ⟨by repeat (first | (with_reducible first | exact HB.out | apply below_alloc | apply pw_below_drewN | apply below_drew1 | refine below_set ?_ GE205.out) | exact HB.out)⟩⟩
              ·rw [if_neg c72] at H
               have c72b0 : decide ((rd t220 x17_3) < (rd t223 x17_3)) = false := decide_eq_false c72
               clear c72
               by_cases c75 : x17_3 < (t226.length : Int)
               ·rw [if_pos c75] at H
                have c75b0 : decide (x17_3 < (t226.length : Int)) = true := decide_eq_true c75
                clear c75
                have H' := Aside0.mk H
                clear H
                try go_wp2
                have n0_ := Aside0.mk (Kd.R_drew HO_14.out)
                have n1_ := Aside0.mk (Kd.R_drew HO_15.out)
                have n2_ := Aside0.mk (Kd.R_drew HO_16.out)
                have n3_ := Aside0.mk (blk_drew BK205.out)
                have n4_ := Aside0.mk (below_drew1 HB.out)
                clear HO_14
                clear HO_15
                clear HO_16
                clear BK205
                clear HB
                have HO_14 := n0_
                have HO_15 := n1_
                have HO_16 := n2_
                have BK205 := n3_
                have HB := n4_
                clear n0_ n1_ n2_ n3_ n4_
                obtain ⟨Ao77, co77, eo77⟩ := Kd.R_slice HO_15.out
                (first | subst eo77 | (injection eo77 with f1_ f2_ f3_; have f4_ := f1_.symm; have f5_ := f3_.symm; clear f1_ f2_ f3_; subst f4_; subst f5_))
                have p229 : 0 ≤ (x17_3 : Int) := of_decide_eq_true (by first | (with_reducible assumption) | assumption)
                have q229 : x17_3 < (t223.length : Int) := of_decide_eq_true (by first | (with_reducible assumption) | assumption)
                obtain ⟨ad229, e229, hx229_0⟩ := Kd.at_int (Kd.R_reads' HO_15.out).2.2 x17_3 p229 q229
                cases e229
                replace p229 := eq_true p229
                replace q229 := eq_true q229
                have p230 : 0 ≤ (x17_3 : Int) := of_decide_eq_true (by first | (with_reducible assumption) | assumption)
                have q230 : x17_3 < (t220.length : Int) := of_decide_eq_true (by first | (with_reducible assumption) | assumption)
                obtain ⟨ad230, e230, hx230_0⟩ := Kd.at_int (Kd.R_reads' HO_14.out).2.2 x17_3 p230 q230
                cases e230
                replace p230 := eq_true p230
                replace q230 := eq_true q230
                obtain ⟨Ao78, co78, eo78⟩ := Kd.R_slice HO_16.out
                (first | subst eo78 | (injection eo78 with f1_ f2_ f3_; have f4_ := f1_.symm; have f5_ := f3_.symm; clear f1_ f2_ f3_; subst f4_; subst f5_))
                have p231 : 0 ≤ (x17_3 : Int) := of_decide_eq_true (by first | (with_reducible assumption) | assumption)
                have q231 : x17_3 < (t226.length : Int) := of_decide_eq_true (by first | (with_reducible assumption) | assumption)
                obtain ⟨ad231, e231, hx231_0⟩ := Kd.at_int (Kd.R_reads' HO_16.out).2.2 x17_3 p231 q231
                cases e231
                replace p231 := eq_true p231
                replace q231 := eq_true q231
                refine start_ (n := 17) (S := fun w' => w'.cell? (ad229.add (x17_3).toNat) = some (.int .i64 (rd t223 x17_3)) ∧ w'.cell? (ad230.add (x17_3).toNat) = some (.int .i64 (rd t220 x17_3)) ∧ w'.cell? (ad231.add (x17_3).toNat) = some (.int .i64 (rd t226 x17_3))) (ds := []) #[false, false, false, false, false, false, false, false, false, false, false, false, false, false, false, false, false] (by kernel_rfl) rfl rfl ⟨hx229_0, hx230_0, hx231_0⟩ (fun hHeld => ?_); refine with_tabW treelinelaw20_TopoMore.tab18 treelinelaw20_TopoMore.bits18 (fun HT_ HW_ => ?_)
                generalize wr.drew = w76 at HO_14 HO_15 HO_16 BK205 HB hx229_0 hx230_0 hx231_0 hHeld ⊢
                refine pure_ (i := 0) (N := some 103) (v := ?_) (a' := ?_) #[true, false, false, false, false, false, false, false, false, false, false, false, false, false, false, false, false] rfl rfl (any_of HT_.out (by kernel_rfl)) (fun _ _ _ h => h) (Or.inl ⟨by rfl, ?_⟩) ?_ ?_
                rotate_left
                ·intro w'
                 go_simp
                 with_reducible rfl
                rotate_left
                ·simp only [Act.put, List.setIfInBounds_toArray, List.set_cons_zero, List.set_cons_succ, i64_w, i32_w]
                 rfl
                refine pure_ (i := 1) (N := some 104) (v := ?_) (a' := ?_) #[true, true, false, false, false, false, false, false, false, false, false, false, false, false, false, false, false] rfl rfl (any_of HT_.out (by kernel_rfl)) (fun _ _ _ h => h) (Or.inl ⟨by rfl, ?_⟩) ?_ ?_
                rotate_left
                ·intro w'
                 go_simp
                 with_reducible rfl
                rotate_left
                ·simp only [Act.put, List.setIfInBounds_toArray, List.set_cons_zero, List.set_cons_succ, i64_w, i32_w]
                 rfl
                refine pure_ (i := 2) (N := some 105) (v := ?_) (a' := ?_) #[true, true, true, false, false, false, false, false, false, false, false, false, false, false, false, false, false] rfl rfl (any_of HT_.out (by kernel_rfl)) (fun _ _ _ h => h) (Or.inl ⟨by rfl, ?_⟩) ?_ ?_
                rotate_left
                ·intro w'
                 go_simp
                 with_reducible rfl
                rotate_left
                ·simp only [Act.put, List.setIfInBounds_toArray, List.set_cons_zero, List.set_cons_succ, i64_w, i32_w]
                 rfl
                refine pure_ (i := 4) (N := some 107) (v := ?_) (a' := ?_) #[true, true, true, false, true, false, false, false, false, false, false, false, false, false, false, false, false] rfl rfl (any_of HT_.out (by kernel_rfl)) (fun _ _ _ h => h) (Or.inl ⟨by rfl, ?_⟩) ?_ ?_
                rotate_left
                ·intro w'
                 go_simp
                 with_reducible rfl
                rotate_left
                ·simp only [Act.put, List.setIfInBounds_toArray, List.set_cons_zero, List.set_cons_succ, i64_w, i32_w]
                 rfl
                refine pure_ (i := 5) (N := some 108) (v := ?_) (a' := ?_) #[true, true, true, false, true, true, false, false, false, false, false, false, false, false, false, false, false] rfl rfl (any_of HT_.out (by kernel_rfl)) (fun _ _ _ h => h) (Or.inl ⟨by rfl, ?_⟩) ?_ ?_
                rotate_left
                ·intro w'
                 go_simp
                 with_reducible rfl
                rotate_left
                ·simp only [Act.put, List.setIfInBounds_toArray, List.set_cons_zero, List.set_cons_succ, i64_w, i32_w]
                 rfl
                refine pure_ (i := 6) (N := some 109) (v := ?_) (a' := ?_) #[true, true, true, false, true, true, true, false, false, false, false, false, false, false, false, false, false] rfl rfl (any_of HT_.out (by kernel_rfl)) (fun _ _ _ h => h) (Or.inl ⟨by rfl, ?_⟩) ?_ ?_
                rotate_left
                ·intro w'
                 go_simp
                 with_reducible rfl
                rotate_left
                ·simp only [Act.put, List.setIfInBounds_toArray, List.set_cons_zero, List.set_cons_succ, i64_w, i32_w]
                 rfl
                refine take_ (i := 3) (N := some 106) (v := ?_) (a' := ?_) #[true, true, true, true, true, true, true, false, false, false, false, false, false, false, false, false, false] rfl rfl (take_ofW HT_.out HW_.out (by kernel_rfl)) (fun _ _ _ h => h) (Or.inl ⟨by rfl, ?_⟩) hHeld ?_ ?_
                rotate_left
                ·rintro w' ⟨s0, s1, s2⟩
                 go_simp
                 with_reducible rfl
                rotate_left
                ·simp only [Act.put, List.setIfInBounds_toArray, List.set_cons_zero, List.set_cons_succ, i64_w, i32_w]
                 rfl
                refine take_ (i := 7) (N := some 110) (v := ?_) (a' := ?_) #[true, true, true, true, true, true, true, true, false, false, false, false, false, false, false, false, false] rfl rfl (take_ofW HT_.out HW_.out (by kernel_rfl)) (fun _ _ _ h => h) (Or.inl ⟨by rfl, ?_⟩) hHeld ?_ ?_
                rotate_left
                ·rintro w' ⟨s0, s1, s2⟩
                 go_simp
                 with_reducible rfl
                rotate_left
                ·simp only [Act.put, List.setIfInBounds_toArray, List.set_cons_zero, List.set_cons_succ, i64_w, i32_w]
                 rfl
                refine pure_ (i := 8) (N := some 111) (v := ?_) (a' := ?_) #[true, true, true, true, true, true, true, true, true, false, false, false, false, false, false, false, false] rfl rfl (any_of HT_.out (by kernel_rfl)) (fun _ _ _ h => h) (Or.inl ⟨by rfl, ?_⟩) ?_ ?_
                rotate_left
                ·intro w'
                 go_simp
                 with_reducible rfl
                rotate_left
                ·simp only [Act.put, List.setIfInBounds_toArray, List.set_cons_zero, List.set_cons_succ, i64_w, i32_w]
                 rfl
                refine pure_ (i := 9) (N := some 112) (v := ?_) (a' := ?_) #[true, true, true, true, true, true, true, true, true, true, false, false, false, false, false, false, false] rfl rfl (any_of HT_.out (by kernel_rfl)) (fun _ _ _ h => h) (Or.inl ⟨by rfl, ?_⟩) ?_ ?_
                rotate_left
                ·intro w'
                 go_simp
                 with_reducible rfl
                rotate_left
                ·simp only [Act.put, List.setIfInBounds_toArray, List.set_cons_zero, List.set_cons_succ, i64_w, i32_w]
                 rfl
                refine pure_ (i := 10) (N := some 113) (v := ?_) (a' := ?_) #[true, true, true, true, true, true, true, true, true, true, true, false, false, false, false, false, false] rfl rfl (any_of HT_.out (by kernel_rfl)) (fun _ _ _ h => h) (Or.inl ⟨by rfl, ?_⟩) ?_ ?_
                rotate_left
                ·intro w'
                 go_simp
                 with_reducible rfl
                rotate_left
                ·simp only [Act.put, List.setIfInBounds_toArray, List.set_cons_zero, List.set_cons_succ, i64_w, i32_w]
                 rfl
                refine pure_ (i := 11) (N := some 114) (v := ?_) (a' := ?_) #[true, true, true, true, true, true, true, true, true, true, true, true, false, false, false, false, false] rfl rfl (any_of HT_.out (by kernel_rfl)) (fun _ _ _ h => h) (Or.inl ⟨by rfl, ?_⟩) ?_ ?_
                rotate_left
                ·intro w'
                 go_simp
                 with_reducible rfl
                rotate_left
                ·simp only [Act.put, List.setIfInBounds_toArray, List.set_cons_zero, List.set_cons_succ, i64_w, i32_w]
                 rfl
                refine pure_ (i := 12) (N := some 115) (v := ?_) (a' := ?_) #[true, true, true, true, true, true, true, true, true, true, true, true, true, false, false, false, false] rfl rfl (any_of HT_.out (by kernel_rfl)) (fun _ _ _ h => h) (Or.inl ⟨by rfl, ?_⟩) ?_ ?_
                rotate_left
                ·intro w'
                 go_simp
                 with_reducible rfl
                rotate_left
                ·simp only [Act.put, List.setIfInBounds_toArray, List.set_cons_zero, List.set_cons_succ, i64_w, i32_w]
                 rfl
                refine pure_ (i := 14) (N := some 117) (v := ?_) (a' := ?_) #[true, true, true, true, true, true, true, true, true, true, true, true, true, false, true, false, false] rfl rfl (any_of HT_.out (by kernel_rfl)) (fun _ _ _ h => h) (Or.inl ⟨by rfl, ?_⟩) ?_ ?_
                rotate_left
                ·intro w'
                 go_simp
                 with_reducible rfl
                rotate_left
                ·simp only [Act.put, List.setIfInBounds_toArray, List.set_cons_zero, List.set_cons_succ, i64_w, i32_w]
                 rfl
                refine take_ (i := 13) (N := some 116) (v := ?_) (a' := ?_) #[true, true, true, true, true, true, true, true, true, true, true, true, true, true, true, false, false] rfl rfl (take_ofW HT_.out HW_.out (by kernel_rfl)) (fun _ _ _ h => h) (Or.inl ⟨by rfl, ?_⟩) hHeld ?_ ?_
                rotate_left
                ·rintro w' ⟨s0, s1, s2⟩
                 go_simp
                 with_reducible rfl
                rotate_left
                ·simp only [Act.put, List.setIfInBounds_toArray, List.set_cons_zero, List.set_cons_succ, i64_w, i32_w]
                 rfl
                refine pure_ (i := 15) (N := some 118) (v := ?_) (a' := ?_) #[true, true, true, true, true, true, true, true, true, true, true, true, true, true, true, true, false] rfl rfl (any_of HT_.out (by kernel_rfl)) (fun _ _ _ h => h) (Or.inl ⟨by rfl, ?_⟩) ?_ ?_
                rotate_left
                ·intro w'
                 go_simp
                 with_reducible rfl
                rotate_left
                ·simp only [Act.put, List.setIfInBounds_toArray, List.set_cons_zero, List.set_cons_succ, i64_w, i32_w]
                 rfl
                refine pure_ (i := 16) (N := some 119) (v := ?_) (a' := ?_) #[true, true, true, true, true, true, true, true, true, true, true, true, true, true, true, true, true] rfl rfl (any_of HT_.out (by kernel_rfl)) (fun _ _ _ h => h) (Or.inl ⟨by rfl, ?_⟩) ?_ ?_
                rotate_left
                ·intro w'
                 go_simp
                 with_reducible rfl
                rotate_left
                ·simp only [Act.put, List.setIfInBounds_toArray, List.set_cons_zero, List.set_cons_succ, i64_w, i32_w]
                 rfl
                refine done_ (done_of HT_.out (by kernel_rfl)) ?_
                try go_wp2
                go_meet
                case rel => exact ⟨_, (((rd t226 x17_3) != x17_3)), (by first | rfl | (simp; done) | (simp [*]; done)), H', ⟨by have := HJ4.out; have := HK2.out; have := HK3.out; first | omega | exact Nat.le_refl _⟩, ⟨by (with_reducible repeat (first | apply Kd.R_alloc | apply Kd.R_drewN | apply Kd.R_drew)); exact HO_14.out⟩, ⟨by (with_reducible repeat (first | apply Kd.R_alloc | apply Kd.R_drewN | apply Kd.R_drew)); exact HO_15.out⟩, ⟨by (with_reducible repeat (first | apply Kd.R_alloc | apply Kd.R_drewN | apply Kd.R_drew)); exact HO_16.out⟩, ⟨by (with_reducible repeat (first | refine blk_drewN ?_ _ | refine blk_drew ?_ | refine blk_alloc ?_ _)); exact BK205.out⟩, ⟨by repeat (first | (with_reducible first | exact HB.out | apply below_alloc | apply pw_below_drewN | apply below_drew1 | refine below_set ?_ GE205.out) | exact HB.out)⟩⟩
               ·rw [if_neg c75] at H
                exact absurd H (by simp)
             ·rw [if_neg c71] at H
              exact absurd H (by simp)
            ·rw [if_neg c70] at H
             exact absurd H (by simp)
           case rest =>
            clear HC68
            try clear c1
            try clear c2
            try clear p2
            try clear q2
            try clear hx2
            try clear c3
            try clear p3
            try clear q3
            try clear hx3
            try clear c4
            try clear p4
            try clear q4
            try clear hx4
            try clear hf4
            try clear c5
            try clear p5
            try clear q5
            try clear hx5
            try clear hf5
            try clear c6
            try clear p6
            try clear c7
            try clear c8
            try clear c10
            try clear c11
            try clear c11b0
            try clear c11b1
            try clear c14
            try clear c20
            try clear p20
            try clear q20
            try clear hx20
            try clear p22
            try clear q22
            try clear hx22
            try clear c23
            try clear p23
            try clear q23
            try clear hx23
            try clear c26
            try clear c26b0
            try clear c26b1
            try clear c26b2
            try clear c28
            try clear c28b0
            try clear c29
            try clear c29b0
            try clear c30
            try clear c30b0
            try clear c30b1
            try clear c31
            try clear c31b0
            try clear c31b1
            try clear c35
            try clear c35b0
            try clear c37
            try clear c38
            try clear c38b0
            try clear p39
            try clear q39
            try clear hx39
            try clear hf39
            try clear c43
            try clear c43b0
            try clear c43b1
            try clear c44
            try clear c44b0
            try clear c44b1
            try clear c44b2
            try clear c45
            try clear c45b0
            try clear p46
            try clear q46
            try clear hx46
            try clear hf46
            try clear c50
            try clear c50b0
            try clear p51
            try clear q51
            try clear hx51
            try clear hf51
            try clear c55
            try clear p64
            try clear c67
            try clear c67b0
            try clear c70
            try clear c70b0
            try clear c71
            try clear c71b0
            try clear c72
            try clear c72b0
            try clear c75
            try clear c75b0
            try clear hcz13_0
            try clear hcz13_1
            try clear hcz13_2
            try clear hcz13_3
            try clear hcz16_0
            try clear hcz16_1
            try clear hcz16_2
            try clear hcz16_3
            try clear hcz18_0
            try clear hcz18_1
            try clear hcz18_2
            try clear hcz18_3
            try clear hcz20_0
            try clear hcz20_1
            try clear hcz20_2
            try clear hcz20_3
            try clear hcz27_0
            try clear hcz27_1
            try clear hcz27_2
            try clear hcz27_3
            try clear hcz32_0
            try clear hcz32_1
            try clear hcz32_2
            try clear hcz32_3
            try clear hcz61_0
            try clear hcz61_1
            try clear hcz61_2
            try clear hcz61_3
            try clear hfz13_0
            try clear hfz13_1
            try clear hfz13_2
            try clear hfz13_3
            try clear hfz16_0
            try clear hfz16_1
            try clear hfz16_2
            try clear hfz16_3
            try clear hfz18_0
            try clear hfz18_1
            try clear hfz18_2
            try clear hfz18_3
            try clear hfz20_0
            try clear hfz20_1
            try clear hfz20_2
            try clear hfz20_3
            try clear hfz27_0
            try clear hfz27_1
            try clear hfz27_2
            try clear hfz27_3
            try clear hfz32_0
            try clear hfz32_1
            try clear hfz32_2
            try clear hfz32_3
            try clear hfz61_0
            try clear hfz61_1
            try clear hfz61_2
            try clear hfz61_3
            try clear hx209_0
            try clear hx229_0
            try clear hx230_0
            try clear hx231_0
            try clear hx39_0
            try clear hx46_0
            try clear hx51_0
            try clear p2
            try clear p20
            try clear p209
            try clear p229
            try clear p230
            try clear p231
            try clear p3
            try clear p39
            try clear p4
            try clear p46
            try clear p5
            try clear p51
            try clear p6
            try clear p64
            try clear q2
            try clear q20
            try clear q209
            try clear q229
            try clear q230
            try clear q231
            try clear q3
            try clear q39
            try clear q4
            try clear q46
            try clear q5
            try clear q51
            obtain ⟨kq, x119_67, rfl, HA, HJ67, HO_14, HO_15, HO_16, BK205, HB⟩ := hcut
            cases kq with
            | zero => exact absurd HA.out (by simp [treelinelaw20_TopoMore.j4])
            | succ kj67 =>
             have H := HA.out
             clear HA
             simp only [treelinelaw20_TopoMore.j4] at H
             by_cases c79 : x119_67 = true
             ·subst c79
              have H1 : (some false) = some r := by rw [if_pos rfl] at H; exact H
              clear H
              have H := H1
              clear H1
              exact absurd ((Option.some.inj H).trans LRT.out) (by decide)
             ·replace c79 := Bool.eq_false_iff.mpr c79
              subst c79
              have H1 : (treelinelaw20_TopoMore.l3 kj67 t220 t223 t226 x17_3 0) = some r := by rw [if_neg (show ¬ (false = true) by decide)] at H; exact H
              clear H
              have H := H1
              clear H1
              have H' := Aside0.mk H
              clear H
              go_wp2
              go_loopg [18] kj67 (fun kq v18 w' => ∃ (x18_5 : Int), v18 = .int .i64 x18_5 ∧ Aside0 (treelinelaw20_TopoMore.l3 kq t220 t223 t226 x17_3 x18_5 = some r) ∧ Aside0 (kq ≤ kj67) ∧ Aside0 (Kd.R (Kd.int .i64) 3 w' w.heap.size (fun k_ => some k_ ≠ (v224 : Value).ownBlock ∧ some k_ ≠ (v227 : Value).ownBlock) (.slice Ao69 t220.length co69) t220) ∧ Aside0 (Kd.R (Kd.int .i64) 3 w' w.heap.size (fun k_ => some k_ ≠ ((.slice Ao69 t220.length co69) : Value).ownBlock ∧ some k_ ≠ (v227 : Value).ownBlock) v224 t223) ∧ Aside0 (Kd.R (Kd.int .i64) 3 w' w.heap.size (fun k_ => some k_ ≠ ((.slice Ao69 t220.length co69) : Value).ownBlock ∧ some k_ ≠ (v224 : Value).ownBlock) v227 t226) ∧ Aside0 (w'.heap[gb205]? = some (.cells #[.int .i64 a0_0, (.slice A0_1 l0_1.length c0_1), (.slice A0_2 l0_2.length c0_2), (.slice A0_3 l0_3.length c0_3)] 26 (0, 0))) ∧ Aside0 (Below w.heap.size w w'))
              case atStart => exact ⟨(0), (by first | rfl | (simp; done) | (simp [*]; done)), H', ⟨Nat.le_refl _⟩, ⟨by (with_reducible repeat (first | apply Kd.R_alloc | apply Kd.R_drewN | apply Kd.R_drew)); exact HO_14.out⟩, ⟨by (with_reducible repeat (first | apply Kd.R_alloc | apply Kd.R_drewN | apply Kd.R_drew)); exact HO_15.out⟩, ⟨by (with_reducible repeat (first | apply Kd.R_alloc | apply Kd.R_drewN | apply Kd.R_drew)); exact HO_16.out⟩, ⟨by (with_reducible repeat (first | refine blk_drewN ?_ _ | refine blk_drew ?_ | refine blk_alloc ?_ _)); exact BK205.out⟩, ⟨by repeat (first | (with_reducible first | exact HB.out | apply below_alloc | apply pw_below_drewN | apply below_drew1 | refine below_set ?_ GE205.out) | exact HB.out)⟩⟩
              case round =>
               clear H'
               try clear c1
               try clear c2
               try clear p2
               try clear q2
               try clear hx2
               try clear c3
               try clear p3
               try clear q3
               try clear hx3
               try clear c4
               try clear p4
               try clear q4
               try clear hx4
               try clear hf4
               try clear c5
               try clear p5
               try clear q5
               try clear hx5
               try clear hf5
               try clear c6
               try clear p6
               try clear c7
               try clear c8
               try clear c10
               try clear c11
               try clear c11b0
               try clear c11b1
               try clear c14
               try clear c20
               try clear p20
               try clear q20
               try clear hx20
               try clear p22
               try clear q22
               try clear hx22
               try clear c23
               try clear p23
               try clear q23
               try clear hx23
               try clear c26
               try clear c26b0
               try clear c26b1
               try clear c26b2
               try clear c28
               try clear c28b0
               try clear c29
               try clear c29b0
               try clear c30
               try clear c30b0
               try clear c30b1
               try clear c31
               try clear c31b0
               try clear c31b1
               try clear c35
               try clear c35b0
               try clear c37
               try clear c38
               try clear c38b0
               try clear p39
               try clear q39
               try clear hx39
               try clear hf39
               try clear c43
               try clear c43b0
               try clear c43b1
               try clear c44
               try clear c44b0
               try clear c44b1
               try clear c44b2
               try clear c45
               try clear c45b0
               try clear p46
               try clear q46
               try clear hx46
               try clear hf46
               try clear c50
               try clear c50b0
               try clear p51
               try clear q51
               try clear hx51
               try clear hf51
               try clear c55
               try clear p64
               try clear c67
               try clear c67b0
               try clear c70
               try clear c70b0
               try clear c71
               try clear c71b0
               try clear c72
               try clear c72b0
               try clear c75
               try clear c75b0
               try clear c79
               try clear hcz13_0
               try clear hcz13_1
               try clear hcz13_2
               try clear hcz13_3
               try clear hcz16_0
               try clear hcz16_1
               try clear hcz16_2
               try clear hcz16_3
               try clear hcz18_0
               try clear hcz18_1
               try clear hcz18_2
               try clear hcz18_3
               try clear hcz20_0
               try clear hcz20_1
               try clear hcz20_2
               try clear hcz20_3
               try clear hcz27_0
               try clear hcz27_1
               try clear hcz27_2
               try clear hcz27_3
               try clear hcz32_0
               try clear hcz32_1
               try clear hcz32_2
               try clear hcz32_3
               try clear hcz61_0
               try clear hcz61_1
               try clear hcz61_2
               try clear hcz61_3
               try clear hfz13_0
               try clear hfz13_1
               try clear hfz13_2
               try clear hfz13_3
               try clear hfz16_0
               try clear hfz16_1
               try clear hfz16_2
               try clear hfz16_3
               try clear hfz18_0
               try clear hfz18_1
               try clear hfz18_2
               try clear hfz18_3
               try clear hfz20_0
               try clear hfz20_1
               try clear hfz20_2
               try clear hfz20_3
               try clear hfz27_0
               try clear hfz27_1
               try clear hfz27_2
               try clear hfz27_3
               try clear hfz32_0
               try clear hfz32_1
               try clear hfz32_2
               try clear hfz32_3
               try clear hfz61_0
               try clear hfz61_1
               try clear hfz61_2
               try clear hfz61_3
               try clear hx209_0
               try clear hx229_0
               try clear hx230_0
               try clear hx231_0
               try clear hx39_0
               try clear hx46_0
               try clear hx51_0
               try clear p2
               try clear p20
               try clear p209
               try clear p22
               try clear p229
               try clear p23
               try clear p230
               try clear p231
               try clear p3
               try clear p39
               try clear p4
               try clear p46
               try clear p5
               try clear p51
               try clear p6
               try clear p64
               try clear q2
               try clear q20
               try clear q209
               try clear q22
               try clear q229
               try clear q23
               try clear q230
               try clear q231
               try clear q3
               try clear q39
               try clear q4
               try clear q46
               try clear q5
               try clear q51
               obtain ⟨x18_5, rfl, HA, HK5, HO_14, HO_15, HO_16, BK205, HB⟩ := hrel
               cases gk with
               | zero => exact absurd HA.out (by simp [treelinelaw20_TopoMore.l3])
               | succ k5 =>
                have H := HA.out
                clear HA
                simp only [treelinelaw20_TopoMore.l3] at H
                by_cases c80 : x18_5 < (t220.length : Int)
                ·rw [if_pos c80] at H
                 have c80b0 : decide (x18_5 < (t220.length : Int)) = true := decide_eq_true c80
                 clear c80
                 by_cases c81 : 0 ≤ x17_3
                 ·rw [if_pos c81] at H
                  have c81b0 : decide (0 ≤ x17_3) = true := decide_eq_true c81
                  clear c81
                  by_cases c82 : x17_3 < (t220.length : Int)
                  ·rw [if_pos c82] at H
                   have c82b0 : decide (x17_3 < (t220.length : Int)) = true := decide_eq_true c82
                   clear c82
                   by_cases c83 : 0 ≤ x18_5
                   ·rw [if_pos c83] at H
                    have c83b0 : decide (0 ≤ x18_5) = true := decide_eq_true c83
                    clear c83
                    by_cases c84 : (rd t220 x17_3) = (rd t220 x18_5)
                    ·rw [if_pos c84] at H
                     have c84b0 : ((rd t220 x17_3) == (rd t220 x18_5)) = true := beq_iff_eq.mpr c84
                     have c84b1 : ((rd t220 x17_3) != (rd t220 x18_5)) = false := bne_eq_false_iff_eq.mpr c84
                     clear c84
                     by_cases c85 : x17_3 < (t223.length : Int)
                     ·rw [if_pos c85] at H
                      have c85b0 : decide (x17_3 < (t223.length : Int)) = true := decide_eq_true c85
                      clear c85
                      by_cases c86 : x18_5 < (t223.length : Int)
                      ·rw [if_pos c86] at H
                       have c86b0 : decide (x18_5 < (t223.length : Int)) = true := decide_eq_true c86
                       clear c86
                       by_cases c87 : (rd t223 x17_3) = (rd t223 x18_5)
                       ·rw [if_pos c87] at H
                        have c87b0 : ((rd t223 x17_3) == (rd t223 x18_5)) = true := beq_iff_eq.mpr c87
                        have c87b1 : ((rd t223 x17_3) != (rd t223 x18_5)) = false := bne_eq_false_iff_eq.mpr c87
                        clear c87
                        have H' := Aside0.mk H
                        clear H
                        try go_wp2
                        have n0_ := Aside0.mk (Kd.R_drew HO_14.out)
                        have n1_ := Aside0.mk (Kd.R_drew HO_15.out)
                        have n2_ := Aside0.mk (Kd.R_drew HO_16.out)
                        have n3_ := Aside0.mk (blk_drew BK205.out)
                        have n4_ := Aside0.mk (below_drew1 HB.out)
                        clear HO_14
                        clear HO_15
                        clear HO_16
                        clear BK205
                        clear HB
                        have HO_14 := n0_
                        have HO_15 := n1_
                        have HO_16 := n2_
                        have BK205 := n3_
                        have HB := n4_
                        clear n0_ n1_ n2_ n3_ n4_
                        have p232 : 0 ≤ (x17_3 : Int) := of_decide_eq_true (by first | (with_reducible assumption) | assumption)
                        have q232 : x17_3 < (t220.length : Int) := of_decide_eq_true (by first | (with_reducible assumption) | assumption)
                        obtain ⟨ad232, e232, hx232_0⟩ := Kd.at_int (Kd.R_reads' HO_14.out).2.2 x17_3 p232 q232
                        cases e232
                        replace p232 := eq_true p232
                        replace q232 := eq_true q232
                        have p233 : 0 ≤ (x18_5 : Int) := of_decide_eq_true (by first | (with_reducible assumption) | assumption)
                        have q233 : x18_5 < (t220.length : Int) := of_decide_eq_true (by first | (with_reducible assumption) | assumption)
                        obtain ⟨ad233, e233, hx233_0⟩ := Kd.at_int (Kd.R_reads' HO_14.out).2.2 x18_5 p233 q233
                        obtain rfl : ad232 = ad233 := (by injection e233)
                        replace p233 := eq_true p233
                        replace q233 := eq_true q233
                        obtain ⟨Ao89, co89, eo89⟩ := Kd.R_slice HO_15.out
                        (first | subst eo89 | (injection eo89 with f1_ f2_ f3_; have f4_ := f1_.symm; have f5_ := f3_.symm; clear f1_ f2_ f3_; subst f4_; subst f5_))
                        have p234 : 0 ≤ (x17_3 : Int) := of_decide_eq_true (by first | (with_reducible assumption) | assumption)
                        have q234 : x17_3 < (t223.length : Int) := of_decide_eq_true (by first | (with_reducible assumption) | assumption)
                        obtain ⟨ad234, e234, hx234_0⟩ := Kd.at_int (Kd.R_reads' HO_15.out).2.2 x17_3 p234 q234
                        cases e234
                        replace p234 := eq_true p234
                        replace q234 := eq_true q234
                        have p235 : 0 ≤ (x18_5 : Int) := of_decide_eq_true (by first | (with_reducible assumption) | assumption)
                        have q235 : x18_5 < (t223.length : Int) := of_decide_eq_true (by first | (with_reducible assumption) | assumption)
                        obtain ⟨ad235, e235, hx235_0⟩ := Kd.at_int (Kd.R_reads' HO_15.out).2.2 x18_5 p235 q235
                        obtain rfl : ad234 = ad235 := (by injection e235)
                        replace p235 := eq_true p235
                        replace q235 := eq_true q235
                        refine start_ (n := 20) (S := fun w' => w'.cell? (ad232.add (x17_3).toNat) = some (.int .i64 (rd t220 x17_3)) ∧ w'.cell? (ad232.add (x18_5).toNat) = some (.int .i64 (rd t220 x18_5)) ∧ w'.cell? (ad234.add (x17_3).toNat) = some (.int .i64 (rd t223 x17_3)) ∧ w'.cell? (ad234.add (x18_5).toNat) = some (.int .i64 (rd t223 x18_5))) (ds := []) #[false, false, false, false, false, false, false, false, false, false, false, false, false, false, false, false, false, false, false, false] (by kernel_rfl) rfl rfl ⟨hx232_0, hx233_0, hx234_0, hx235_0⟩ (fun hHeld => ?_); refine with_tabW treelinelaw20_TopoMore.tab23 treelinelaw20_TopoMore.bits23 (fun HT_ HW_ => ?_)
                        generalize wr.drew = w88 at HO_14 HO_15 HO_16 BK205 HB hx232_0 hx233_0 hx234_0 hx235_0 hHeld ⊢
                        refine pure_ (i := 0) (N := some 126) (v := ?_) (a' := ?_) #[true, false, false, false, false, false, false, false, false, false, false, false, false, false, false, false, false, false, false, false] rfl rfl (any_of HT_.out (by kernel_rfl)) (fun _ _ _ h => h) (Or.inl ⟨by rfl, ?_⟩) ?_ ?_
                        rotate_left
                        ·intro w'
                         go_simp
                         with_reducible rfl
                        rotate_left
                        ·simp only [Act.put, List.setIfInBounds_toArray, List.set_cons_zero, List.set_cons_succ, i64_w, i32_w]
                         rfl
                        refine pure_ (i := 1) (N := some 127) (v := ?_) (a' := ?_) #[true, true, false, false, false, false, false, false, false, false, false, false, false, false, false, false, false, false, false, false] rfl rfl (any_of HT_.out (by kernel_rfl)) (fun _ _ _ h => h) (Or.inl ⟨by rfl, ?_⟩) ?_ ?_
                        rotate_left
                        ·intro w'
                         go_simp
                         with_reducible rfl
                        rotate_left
                        ·simp only [Act.put, List.setIfInBounds_toArray, List.set_cons_zero, List.set_cons_succ, i64_w, i32_w]
                         rfl
                        refine pure_ (i := 2) (N := some 128) (v := ?_) (a' := ?_) #[true, true, true, false, false, false, false, false, false, false, false, false, false, false, false, false, false, false, false, false] rfl rfl (any_of HT_.out (by kernel_rfl)) (fun _ _ _ h => h) (Or.inl ⟨by rfl, ?_⟩) ?_ ?_
                        rotate_left
                        ·intro w'
                         go_simp
                         with_reducible rfl
                        rotate_left
                        ·simp only [Act.put, List.setIfInBounds_toArray, List.set_cons_zero, List.set_cons_succ, i64_w, i32_w]
                         rfl
                        refine pure_ (i := 4) (N := some 130) (v := ?_) (a' := ?_) #[true, true, true, false, true, false, false, false, false, false, false, false, false, false, false, false, false, false, false, false] rfl rfl (any_of HT_.out (by kernel_rfl)) (fun _ _ _ h => h) (Or.inl ⟨by rfl, ?_⟩) ?_ ?_
                        rotate_left
                        ·intro w'
                         go_simp
                         with_reducible rfl
                        rotate_left
                        ·simp only [Act.put, List.setIfInBounds_toArray, List.set_cons_zero, List.set_cons_succ, i64_w, i32_w]
                         rfl
                        refine pure_ (i := 5) (N := some 131) (v := ?_) (a' := ?_) #[true, true, true, false, true, true, false, false, false, false, false, false, false, false, false, false, false, false, false, false] rfl rfl (any_of HT_.out (by kernel_rfl)) (fun _ _ _ h => h) (Or.inl ⟨by rfl, ?_⟩) ?_ ?_
                        rotate_left
                        ·intro w'
                         go_simp
                         with_reducible rfl
                        rotate_left
                        ·simp only [Act.put, List.setIfInBounds_toArray, List.set_cons_zero, List.set_cons_succ, i64_w, i32_w]
                         rfl
                        refine pure_ (i := 6) (N := some 132) (v := ?_) (a' := ?_) #[true, true, true, false, true, true, true, false, false, false, false, false, false, false, false, false, false, false, false, false] rfl rfl (any_of HT_.out (by kernel_rfl)) (fun _ _ _ h => h) (Or.inl ⟨by rfl, ?_⟩) ?_ ?_
                        rotate_left
                        ·intro w'
                         go_simp
                         with_reducible rfl
                        rotate_left
                        ·simp only [Act.put, List.setIfInBounds_toArray, List.set_cons_zero, List.set_cons_succ, i64_w, i32_w]
                         rfl
                        refine take_ (i := 3) (N := some 129) (v := ?_) (a' := ?_) #[true, true, true, true, true, true, true, false, false, false, false, false, false, false, false, false, false, false, false, false] rfl rfl (take_ofW HT_.out HW_.out (by kernel_rfl)) (fun _ _ _ h => h) (Or.inl ⟨by rfl, ?_⟩) hHeld ?_ ?_
                        rotate_left
                        ·rintro w' ⟨s0, s1, s2, s3⟩
                         go_simp
                         with_reducible rfl
                        rotate_left
                        ·simp only [Act.put, List.setIfInBounds_toArray, List.set_cons_zero, List.set_cons_succ, i64_w, i32_w]
                         rfl
                        refine take_ (i := 7) (N := some 133) (v := ?_) (a' := ?_) #[true, true, true, true, true, true, true, true, false, false, false, false, false, false, false, false, false, false, false, false] rfl rfl (take_ofW HT_.out HW_.out (by kernel_rfl)) (fun _ _ _ h => h) (Or.inl ⟨by rfl, ?_⟩) hHeld ?_ ?_
                        rotate_left
                        ·rintro w' ⟨s0, s1, s2, s3⟩
                         go_simp
                         with_reducible rfl
                        rotate_left
                        ·simp only [Act.put, List.setIfInBounds_toArray, List.set_cons_zero, List.set_cons_succ, i64_w, i32_w]
                         rfl
                        refine pure_ (i := 8) (N := some 134) (v := ?_) (a' := ?_) #[true, true, true, true, true, true, true, true, true, false, false, false, false, false, false, false, false, false, false, false] rfl rfl (any_of HT_.out (by kernel_rfl)) (fun _ _ _ h => h) (Or.inl ⟨by rfl, ?_⟩) ?_ ?_
                        rotate_left
                        ·intro w'
                         go_simp
                         with_reducible rfl
                        rotate_left
                        ·simp only [Act.put, List.setIfInBounds_toArray, List.set_cons_zero, List.set_cons_succ, i64_w, i32_w]
                         rfl
                        refine pure_ (i := 9) (N := some 135) (v := ?_) (a' := ?_) #[true, true, true, true, true, true, true, true, true, true, false, false, false, false, false, false, false, false, false, false] rfl rfl (any_of HT_.out (by kernel_rfl)) (fun _ _ _ h => h) (Or.inl ⟨by rfl, ?_⟩) ?_ ?_
                        rotate_left
                        ·intro w'
                         go_simp
                         with_reducible rfl
                        rotate_left
                        ·simp only [Act.put, List.setIfInBounds_toArray, List.set_cons_zero, List.set_cons_succ, i64_w, i32_w]
                         rfl
                        refine pure_ (i := 10) (N := some 136) (v := ?_) (a' := ?_) #[true, true, true, true, true, true, true, true, true, true, true, false, false, false, false, false, false, false, false, false] rfl rfl (any_of HT_.out (by kernel_rfl)) (fun _ _ _ h => h) (Or.inl ⟨by rfl, ?_⟩) ?_ ?_
                        rotate_left
                        ·intro w'
                         go_simp
                         with_reducible rfl
                        rotate_left
                        ·simp only [Act.put, List.setIfInBounds_toArray, List.set_cons_zero, List.set_cons_succ, i64_w, i32_w]
                         rfl
                        refine pure_ (i := 11) (N := some 137) (v := ?_) (a' := ?_) #[true, true, true, true, true, true, true, true, true, true, true, true, false, false, false, false, false, false, false, false] rfl rfl (any_of HT_.out (by kernel_rfl)) (fun _ _ _ h => h) (Or.inl ⟨by rfl, ?_⟩) ?_ ?_
                        rotate_left
                        ·intro w'
                         go_simp
                         with_reducible rfl
                        rotate_left
                        ·simp only [Act.put, List.setIfInBounds_toArray, List.set_cons_zero, List.set_cons_succ, i64_w, i32_w]
                         rfl
                        refine pure_ (i := 12) (N := some 138) (v := ?_) (a' := ?_) #[true, true, true, true, true, true, true, true, true, true, true, true, true, false, false, false, false, false, false, false] rfl rfl (any_of HT_.out (by kernel_rfl)) (fun _ _ _ h => h) (Or.inl ⟨by rfl, ?_⟩) ?_ ?_
                        rotate_left
                        ·intro w'
                         go_simp
                         with_reducible rfl
                        rotate_left
                        ·simp only [Act.put, List.setIfInBounds_toArray, List.set_cons_zero, List.set_cons_succ, i64_w, i32_w]
                         rfl
                        refine pure_ (i := 14) (N := some 140) (v := ?_) (a' := ?_) #[true, true, true, true, true, true, true, true, true, true, true, true, true, false, true, false, false, false, false, false] rfl rfl (any_of HT_.out (by kernel_rfl)) (fun _ _ _ h => h) (Or.inl ⟨by rfl, ?_⟩) ?_ ?_
                        rotate_left
                        ·intro w'
                         go_simp
                         with_reducible rfl
                        rotate_left
                        ·simp only [Act.put, List.setIfInBounds_toArray, List.set_cons_zero, List.set_cons_succ, i64_w, i32_w]
                         rfl
                        refine pure_ (i := 15) (N := some 141) (v := ?_) (a' := ?_) #[true, true, true, true, true, true, true, true, true, true, true, true, true, false, true, true, false, false, false, false] rfl rfl (any_of HT_.out (by kernel_rfl)) (fun _ _ _ h => h) (Or.inl ⟨by rfl, ?_⟩) ?_ ?_
                        rotate_left
                        ·intro w'
                         go_simp
                         with_reducible rfl
                        rotate_left
                        ·simp only [Act.put, List.setIfInBounds_toArray, List.set_cons_zero, List.set_cons_succ, i64_w, i32_w]
                         rfl
                        refine pure_ (i := 16) (N := some 142) (v := ?_) (a' := ?_) #[true, true, true, true, true, true, true, true, true, true, true, true, true, false, true, true, true, false, false, false] rfl rfl (any_of HT_.out (by kernel_rfl)) (fun _ _ _ h => h) (Or.inl ⟨by rfl, ?_⟩) ?_ ?_
                        rotate_left
                        ·intro w'
                         go_simp
                         with_reducible rfl
                        rotate_left
                        ·simp only [Act.put, List.setIfInBounds_toArray, List.set_cons_zero, List.set_cons_succ, i64_w, i32_w]
                         rfl
                        refine take_ (i := 13) (N := some 139) (v := ?_) (a' := ?_) #[true, true, true, true, true, true, true, true, true, true, true, true, true, true, true, true, true, false, false, false] rfl rfl (take_ofW HT_.out HW_.out (by kernel_rfl)) (fun _ _ _ h => h) (Or.inl ⟨by rfl, ?_⟩) hHeld ?_ ?_
                        rotate_left
                        ·rintro w' ⟨s0, s1, s2, s3⟩
                         go_simp
                         with_reducible rfl
                        rotate_left
                        ·simp only [Act.put, List.setIfInBounds_toArray, List.set_cons_zero, List.set_cons_succ, i64_w, i32_w]
                         rfl
                        refine take_ (i := 17) (N := some 143) (v := ?_) (a' := ?_) #[true, true, true, true, true, true, true, true, true, true, true, true, true, true, true, true, true, true, false, false] rfl rfl (take_ofW HT_.out HW_.out (by kernel_rfl)) (fun _ _ _ h => h) (Or.inl ⟨by rfl, ?_⟩) hHeld ?_ ?_
                        rotate_left
                        ·rintro w' ⟨s0, s1, s2, s3⟩
                         go_simp
                         with_reducible rfl
                        rotate_left
                        ·simp only [Act.put, List.setIfInBounds_toArray, List.set_cons_zero, List.set_cons_succ, i64_w, i32_w]
                         rfl
                        refine pure_ (i := 18) (N := some 144) (v := ?_) (a' := ?_) #[true, true, true, true, true, true, true, true, true, true, true, true, true, true, true, true, true, true, true, false] rfl rfl (any_of HT_.out (by kernel_rfl)) (fun _ _ _ h => h) (Or.inl ⟨by rfl, ?_⟩) ?_ ?_
                        rotate_left
                        ·intro w'
                         go_simp
                         with_reducible rfl
                        rotate_left
                        ·simp only [Act.put, List.setIfInBounds_toArray, List.set_cons_zero, List.set_cons_succ, i64_w, i32_w]
                         rfl
                        refine pure_ (i := 19) (N := some 145) (v := ?_) (a' := ?_) #[true, true, true, true, true, true, true, true, true, true, true, true, true, true, true, true, true, true, true, true] rfl rfl (any_of HT_.out (by kernel_rfl)) (fun _ _ _ h => h) (Or.inl ⟨by rfl, ?_⟩) ?_ ?_
                        rotate_left
                        ·intro w'
                         go_simp
                         with_reducible rfl
                        rotate_left
                        ·simp only [Act.put, List.setIfInBounds_toArray, List.set_cons_zero, List.set_cons_succ, i64_w, i32_w]
                         rfl
                        refine done_ (done_of HT_.out (by kernel_rfl)) ?_
                        try go_wp2
                        go_roundg k5
                        case measure => have := HJ4.out; have := HK2.out; have := HK3.out; have := HJ67.out; have := HK5.out; omega
                        case rel => exact ⟨(wrap64 (x18_5 + 1)), (by first | rfl | (simp; done) | (simp [*]; done)), H', ⟨by have := HJ4.out; have := HK2.out; have := HK3.out; have := HJ67.out; have := HK5.out; omega⟩, ⟨by (with_reducible repeat (first | apply Kd.R_alloc | apply Kd.R_drewN | apply Kd.R_drew)); exact HO_14.out⟩, ⟨by (with_reducible repeat (first | apply Kd.R_alloc | apply Kd.R_drewN | apply Kd.R_drew)); exact HO_15.out⟩, ⟨by (with_reducible repeat (first | apply Kd.R_alloc | apply Kd.R_drewN | apply Kd.R_drew)); exact HO_16.out⟩, ⟨by (with_reducible repeat (first | refine blk_drewN ?_ _ | refine blk_drew ?_ | refine blk_alloc ?_ _)); exact BK205.out⟩, ⟨by repeat (first | (with_reducible first | exact HB.out | apply below_alloc | apply pw_below_drewN | apply below_drew1 | refine below_set ?_ GE205.out) | exact HB.out)⟩⟩
                       ·rw [if_neg c87] at H
                        have c87b0 : ((rd t223 x17_3) == (rd t223 x18_5)) = false := beq_eq_false_iff_ne.mpr c87
                        have c87b1 : ((rd t223 x17_3) != (rd t223 x18_5)) = true := bne_iff_ne.mpr c87
                        obtain rfl := Option.some.inj H
                        (try exact absurd LRT.out (by decide))
                        all_goals
                         try go_wp2
                         have n0_ := Aside0.mk (Kd.R_drew HO_14.out)
                         have n1_ := Aside0.mk (Kd.R_drew HO_15.out)
                         have n2_ := Aside0.mk (Kd.R_drew HO_16.out)
                         have n3_ := Aside0.mk (blk_drew BK205.out)
                         have n4_ := Aside0.mk (below_drew1 HB.out)
                         clear HO_14
                         clear HO_15
                         clear HO_16
                         clear BK205
                         clear HB
                         have HO_14 := n0_
                         have HO_15 := n1_
                         have HO_16 := n2_
                         have BK205 := n3_
                         have HB := n4_
                         clear n0_ n1_ n2_ n3_ n4_
                         have p232 : 0 ≤ (x17_3 : Int) := of_decide_eq_true (by first | (with_reducible assumption) | assumption)
                         have q232 : x17_3 < (t220.length : Int) := of_decide_eq_true (by first | (with_reducible assumption) | assumption)
                         obtain ⟨ad232, e232, hx232_0⟩ := Kd.at_int (Kd.R_reads' HO_14.out).2.2 x17_3 p232 q232
                         cases e232
                         replace p232 := eq_true p232
                         replace q232 := eq_true q232
                         have p233 : 0 ≤ (x18_5 : Int) := of_decide_eq_true (by first | (with_reducible assumption) | assumption)
                         have q233 : x18_5 < (t220.length : Int) := of_decide_eq_true (by first | (with_reducible assumption) | assumption)
                         obtain ⟨ad233, e233, hx233_0⟩ := Kd.at_int (Kd.R_reads' HO_14.out).2.2 x18_5 p233 q233
                         obtain rfl : ad232 = ad233 := (by injection e233)
                         replace p233 := eq_true p233
                         replace q233 := eq_true q233
                         obtain ⟨Ao91, co91, eo91⟩ := Kd.R_slice HO_15.out
                         (first | subst eo91 | (injection eo91 with f1_ f2_ f3_; have f4_ := f1_.symm; have f5_ := f3_.symm; clear f1_ f2_ f3_; subst f4_; subst f5_))
                         have p234 : 0 ≤ (x17_3 : Int) := of_decide_eq_true (by first | (with_reducible assumption) | assumption)
                         have q234 : x17_3 < (t223.length : Int) := of_decide_eq_true (by first | (with_reducible assumption) | assumption)
                         obtain ⟨ad234, e234, hx234_0⟩ := Kd.at_int (Kd.R_reads' HO_15.out).2.2 x17_3 p234 q234
                         cases e234
                         replace p234 := eq_true p234
                         replace q234 := eq_true q234
                         have p235 : 0 ≤ (x18_5 : Int) := of_decide_eq_true (by first | (with_reducible assumption) | assumption)
                         have q235 : x18_5 < (t223.length : Int) := of_decide_eq_true (by first | (with_reducible assumption) | assumption)
                         obtain ⟨ad235, e235, hx235_0⟩ := Kd.at_int (Kd.R_reads' HO_15.out).2.2 x18_5 p235 q235
                         obtain rfl : ad234 = ad235 := (by injection e235)
                         replace p235 := eq_true p235
                         replace q235 := eq_true q235
                         refine start_ (n := 20) (S := fun w' => w'.cell? (ad232.add (x17_3).toNat) = some (.int .i64 (rd t220 x17_3)) ∧ w'.cell? (ad232.add (x18_5).toNat) = some (.int .i64 (rd t220 x18_5)) ∧ w'.cell? (ad234.add (x17_3).toNat) = some (.int .i64 (rd t223 x17_3)) ∧ w'.cell? (ad234.add (x18_5).toNat) = some (.int .i64 (rd t223 x18_5))) (ds := []) #[false, false, false, false, false, false, false, false, false, false, false, false, false, false, false, false, false, false, false, false] (by kernel_rfl) rfl rfl ⟨hx232_0, hx233_0, hx234_0, hx235_0⟩ (fun hHeld => ?_); refine with_tabW treelinelaw20_TopoMore.tab23 treelinelaw20_TopoMore.bits23 (fun HT_ HW_ => ?_)
                         generalize wr.drew = w90 at HO_14 HO_15 HO_16 BK205 HB hx232_0 hx233_0 hx234_0 hx235_0 hHeld ⊢
                         refine pure_ (i := 0) (N := some 126) (v := ?_) (a' := ?_) #[true, false, false, false, false, false, false, false, false, false, false, false, false, false, false, false, false, false, false, false] rfl rfl (any_of HT_.out (by kernel_rfl)) (fun _ _ _ h => h) (Or.inl ⟨by rfl, ?_⟩) ?_ ?_
                         rotate_left
                         ·intro w'
                          go_simp
                          with_reducible rfl
                         rotate_left
                         ·simp only [Act.put, List.setIfInBounds_toArray, List.set_cons_zero, List.set_cons_succ, i64_w, i32_w]
                          rfl
                         refine pure_ (i := 1) (N := some 127) (v := ?_) (a' := ?_) #[true, true, false, false, false, false, false, false, false, false, false, false, false, false, false, false, false, false, false, false] rfl rfl (any_of HT_.out (by kernel_rfl)) (fun _ _ _ h => h) (Or.inl ⟨by rfl, ?_⟩) ?_ ?_
                         rotate_left
                         ·intro w'
                          go_simp
                          with_reducible rfl
                         rotate_left
                         ·simp only [Act.put, List.setIfInBounds_toArray, List.set_cons_zero, List.set_cons_succ, i64_w, i32_w]
                          rfl
                         refine pure_ (i := 2) (N := some 128) (v := ?_) (a' := ?_) #[true, true, true, false, false, false, false, false, false, false, false, false, false, false, false, false, false, false, false, false] rfl rfl (any_of HT_.out (by kernel_rfl)) (fun _ _ _ h => h) (Or.inl ⟨by rfl, ?_⟩) ?_ ?_
                         rotate_left
                         ·intro w'
                          go_simp
                          with_reducible rfl
                         rotate_left
                         ·simp only [Act.put, List.setIfInBounds_toArray, List.set_cons_zero, List.set_cons_succ, i64_w, i32_w]
                          rfl
                         refine pure_ (i := 4) (N := some 130) (v := ?_) (a' := ?_) #[true, true, true, false, true, false, false, false, false, false, false, false, false, false, false, false, false, false, false, false] rfl rfl (any_of HT_.out (by kernel_rfl)) (fun _ _ _ h => h) (Or.inl ⟨by rfl, ?_⟩) ?_ ?_
                         rotate_left
                         ·intro w'
                          go_simp
                          with_reducible rfl
                         rotate_left
                         ·simp only [Act.put, List.setIfInBounds_toArray, List.set_cons_zero, List.set_cons_succ, i64_w, i32_w]
                          rfl
                         refine pure_ (i := 5) (N := some 131) (v := ?_) (a' := ?_) #[true, true, true, false, true, true, false, false, false, false, false, false, false, false, false, false, false, false, false, false] rfl rfl (any_of HT_.out (by kernel_rfl)) (fun _ _ _ h => h) (Or.inl ⟨by rfl, ?_⟩) ?_ ?_
                         rotate_left
                         ·intro w'
                          go_simp
                          with_reducible rfl
                         rotate_left
                         ·simp only [Act.put, List.setIfInBounds_toArray, List.set_cons_zero, List.set_cons_succ, i64_w, i32_w]
                          rfl
                         refine pure_ (i := 6) (N := some 132) (v := ?_) (a' := ?_) #[true, true, true, false, true, true, true, false, false, false, false, false, false, false, false, false, false, false, false, false] rfl rfl (any_of HT_.out (by kernel_rfl)) (fun _ _ _ h => h) (Or.inl ⟨by rfl, ?_⟩) ?_ ?_
                         rotate_left
                         ·intro w'
                          go_simp
                          with_reducible rfl
                         rotate_left
                         ·simp only [Act.put, List.setIfInBounds_toArray, List.set_cons_zero, List.set_cons_succ, i64_w, i32_w]
                          rfl
                         refine take_ (i := 3) (N := some 129) (v := ?_) (a' := ?_) #[true, true, true, true, true, true, true, false, false, false, false, false, false, false, false, false, false, false, false, false] rfl rfl (take_ofW HT_.out HW_.out (by kernel_rfl)) (fun _ _ _ h => h) (Or.inl ⟨by rfl, ?_⟩) hHeld ?_ ?_
                         rotate_left
                         ·rintro w' ⟨s0, s1, s2, s3⟩
                          go_simp
                          with_reducible rfl
                         rotate_left
                         ·simp only [Act.put, List.setIfInBounds_toArray, List.set_cons_zero, List.set_cons_succ, i64_w, i32_w]
                          rfl
                         refine take_ (i := 7) (N := some 133) (v := ?_) (a' := ?_) #[true, true, true, true, true, true, true, true, false, false, false, false, false, false, false, false, false, false, false, false] rfl rfl (take_ofW HT_.out HW_.out (by kernel_rfl)) (fun _ _ _ h => h) (Or.inl ⟨by rfl, ?_⟩) hHeld ?_ ?_
                         rotate_left
                         ·rintro w' ⟨s0, s1, s2, s3⟩
                          go_simp
                          with_reducible rfl
                         rotate_left
                         ·simp only [Act.put, List.setIfInBounds_toArray, List.set_cons_zero, List.set_cons_succ, i64_w, i32_w]
                          rfl
                         refine pure_ (i := 8) (N := some 134) (v := ?_) (a' := ?_) #[true, true, true, true, true, true, true, true, true, false, false, false, false, false, false, false, false, false, false, false] rfl rfl (any_of HT_.out (by kernel_rfl)) (fun _ _ _ h => h) (Or.inl ⟨by rfl, ?_⟩) ?_ ?_
                         rotate_left
                         ·intro w'
                          go_simp
                          with_reducible rfl
                         rotate_left
                         ·simp only [Act.put, List.setIfInBounds_toArray, List.set_cons_zero, List.set_cons_succ, i64_w, i32_w]
                          rfl
                         refine pure_ (i := 9) (N := some 135) (v := ?_) (a' := ?_) #[true, true, true, true, true, true, true, true, true, true, false, false, false, false, false, false, false, false, false, false] rfl rfl (any_of HT_.out (by kernel_rfl)) (fun _ _ _ h => h) (Or.inl ⟨by rfl, ?_⟩) ?_ ?_
                         rotate_left
                         ·intro w'
                          go_simp
                          with_reducible rfl
                         rotate_left
                         ·simp only [Act.put, List.setIfInBounds_toArray, List.set_cons_zero, List.set_cons_succ, i64_w, i32_w]
                          rfl
                         refine pure_ (i := 10) (N := some 136) (v := ?_) (a' := ?_) #[true, true, true, true, true, true, true, true, true, true, true, false, false, false, false, false, false, false, false, false] rfl rfl (any_of HT_.out (by kernel_rfl)) (fun _ _ _ h => h) (Or.inl ⟨by rfl, ?_⟩) ?_ ?_
                         rotate_left
                         ·intro w'
                          go_simp
                          with_reducible rfl
                         rotate_left
                         ·simp only [Act.put, List.setIfInBounds_toArray, List.set_cons_zero, List.set_cons_succ, i64_w, i32_w]
                          rfl
                         refine pure_ (i := 11) (N := some 137) (v := ?_) (a' := ?_) #[true, true, true, true, true, true, true, true, true, true, true, true, false, false, false, false, false, false, false, false] rfl rfl (any_of HT_.out (by kernel_rfl)) (fun _ _ _ h => h) (Or.inl ⟨by rfl, ?_⟩) ?_ ?_
                         rotate_left
                         ·intro w'
                          go_simp
                          with_reducible rfl
                         rotate_left
                         ·simp only [Act.put, List.setIfInBounds_toArray, List.set_cons_zero, List.set_cons_succ, i64_w, i32_w]
                          rfl
                         refine pure_ (i := 12) (N := some 138) (v := ?_) (a' := ?_) #[true, true, true, true, true, true, true, true, true, true, true, true, true, false, false, false, false, false, false, false] rfl rfl (any_of HT_.out (by kernel_rfl)) (fun _ _ _ h => h) (Or.inl ⟨by rfl, ?_⟩) ?_ ?_
                         rotate_left
                         ·intro w'
                          go_simp
                          with_reducible rfl
                         rotate_left
                         ·simp only [Act.put, List.setIfInBounds_toArray, List.set_cons_zero, List.set_cons_succ, i64_w, i32_w]
                          rfl
                         refine pure_ (i := 14) (N := some 140) (v := ?_) (a' := ?_) #[true, true, true, true, true, true, true, true, true, true, true, true, true, false, true, false, false, false, false, false] rfl rfl (any_of HT_.out (by kernel_rfl)) (fun _ _ _ h => h) (Or.inl ⟨by rfl, ?_⟩) ?_ ?_
                         rotate_left
                         ·intro w'
                          go_simp
                          with_reducible rfl
                         rotate_left
                         ·simp only [Act.put, List.setIfInBounds_toArray, List.set_cons_zero, List.set_cons_succ, i64_w, i32_w]
                          rfl
                         refine pure_ (i := 15) (N := some 141) (v := ?_) (a' := ?_) #[true, true, true, true, true, true, true, true, true, true, true, true, true, false, true, true, false, false, false, false] rfl rfl (any_of HT_.out (by kernel_rfl)) (fun _ _ _ h => h) (Or.inl ⟨by rfl, ?_⟩) ?_ ?_
                         rotate_left
                         ·intro w'
                          go_simp
                          with_reducible rfl
                         rotate_left
                         ·simp only [Act.put, List.setIfInBounds_toArray, List.set_cons_zero, List.set_cons_succ, i64_w, i32_w]
                          rfl
                         refine pure_ (i := 16) (N := some 142) (v := ?_) (a' := ?_) #[true, true, true, true, true, true, true, true, true, true, true, true, true, false, true, true, true, false, false, false] rfl rfl (any_of HT_.out (by kernel_rfl)) (fun _ _ _ h => h) (Or.inl ⟨by rfl, ?_⟩) ?_ ?_
                         rotate_left
                         ·intro w'
                          go_simp
                          with_reducible rfl
                         rotate_left
                         ·simp only [Act.put, List.setIfInBounds_toArray, List.set_cons_zero, List.set_cons_succ, i64_w, i32_w]
                          rfl
                         refine take_ (i := 13) (N := some 139) (v := ?_) (a' := ?_) #[true, true, true, true, true, true, true, true, true, true, true, true, true, true, true, true, true, false, false, false] rfl rfl (take_ofW HT_.out HW_.out (by kernel_rfl)) (fun _ _ _ h => h) (Or.inl ⟨by rfl, ?_⟩) hHeld ?_ ?_
                         rotate_left
                         ·rintro w' ⟨s0, s1, s2, s3⟩
                          go_simp
                          with_reducible rfl
                         rotate_left
                         ·simp only [Act.put, List.setIfInBounds_toArray, List.set_cons_zero, List.set_cons_succ, i64_w, i32_w]
                          rfl
                         refine take_ (i := 17) (N := some 143) (v := ?_) (a' := ?_) #[true, true, true, true, true, true, true, true, true, true, true, true, true, true, true, true, true, true, false, false] rfl rfl (take_ofW HT_.out HW_.out (by kernel_rfl)) (fun _ _ _ h => h) (Or.inl ⟨by rfl, ?_⟩) hHeld ?_ ?_
                         rotate_left
                         ·rintro w' ⟨s0, s1, s2, s3⟩
                          go_simp
                          with_reducible rfl
                         rotate_left
                         ·simp only [Act.put, List.setIfInBounds_toArray, List.set_cons_zero, List.set_cons_succ, i64_w, i32_w]
                          rfl
                         refine pure_ (i := 18) (N := some 144) (v := ?_) (a' := ?_) #[true, true, true, true, true, true, true, true, true, true, true, true, true, true, true, true, true, true, true, false] rfl rfl (any_of HT_.out (by kernel_rfl)) (fun _ _ _ h => h) (Or.inl ⟨by rfl, ?_⟩) ?_ ?_
                         rotate_left
                         ·intro w'
                          go_simp
                          with_reducible rfl
                         rotate_left
                         ·simp only [Act.put, List.setIfInBounds_toArray, List.set_cons_zero, List.set_cons_succ, i64_w, i32_w]
                          rfl
                         refine pure_ (i := 19) (N := some 145) (v := ?_) (a' := ?_) #[true, true, true, true, true, true, true, true, true, true, true, true, true, true, true, true, true, true, true, true] rfl rfl (any_of HT_.out (by kernel_rfl)) (fun _ _ _ h => h) (Or.inl ⟨by rfl, ?_⟩) ?_ ?_
                         rotate_left
                         ·intro w'
                          go_simp
                          with_reducible rfl
                         rotate_left
                         ·simp only [Act.put, List.setIfInBounds_toArray, List.set_cons_zero, List.set_cons_succ, i64_w, i32_w]
                          rfl
                         refine done_ (done_of HT_.out (by kernel_rfl)) ?_
                         try go_wp2
                         go_ret
                         exact ⟨by first | rfl | (simp [errW_none, errW_some] <;> rfl) | (simp [*, errW_none, errW_some] <;> rfl), by repeat (first | (with_reducible first | exact HB.out | apply below_alloc | apply pw_below_drewN | apply below_drew1 | refine below_set ?_ GE205.out) | exact HB.out)⟩
                      ·rw [if_neg c86] at H
                       exact absurd H (by simp)
                     ·rw [if_neg c85] at H
                      exact absurd H (by simp)
                    ·rw [if_neg c84] at H
                     have c84b0 : ((rd t220 x17_3) == (rd t220 x18_5)) = false := beq_eq_false_iff_ne.mpr c84
                     have c84b1 : ((rd t220 x17_3) != (rd t220 x18_5)) = true := bne_iff_ne.mpr c84
                     have H' := Aside0.mk H
                     clear H
                     try go_wp2
                     have n0_ := Aside0.mk (Kd.R_drew HO_14.out)
                     have n1_ := Aside0.mk (Kd.R_drew HO_15.out)
                     have n2_ := Aside0.mk (Kd.R_drew HO_16.out)
                     have n3_ := Aside0.mk (blk_drew BK205.out)
                     have n4_ := Aside0.mk (below_drew1 HB.out)
                     clear HO_14
                     clear HO_15
                     clear HO_16
                     clear BK205
                     clear HB
                     have HO_14 := n0_
                     have HO_15 := n1_
                     have HO_16 := n2_
                     have BK205 := n3_
                     have HB := n4_
                     clear n0_ n1_ n2_ n3_ n4_
                     have p232 : 0 ≤ (x17_3 : Int) := of_decide_eq_true (by first | (with_reducible assumption) | assumption)
                     have q232 : x17_3 < (t220.length : Int) := of_decide_eq_true (by first | (with_reducible assumption) | assumption)
                     obtain ⟨ad232, e232, hx232_0⟩ := Kd.at_int (Kd.R_reads' HO_14.out).2.2 x17_3 p232 q232
                     cases e232
                     replace p232 := eq_true p232
                     replace q232 := eq_true q232
                     have p233 : 0 ≤ (x18_5 : Int) := of_decide_eq_true (by first | (with_reducible assumption) | assumption)
                     have q233 : x18_5 < (t220.length : Int) := of_decide_eq_true (by first | (with_reducible assumption) | assumption)
                     obtain ⟨ad233, e233, hx233_0⟩ := Kd.at_int (Kd.R_reads' HO_14.out).2.2 x18_5 p233 q233
                     obtain rfl : ad232 = ad233 := (by injection e233)
                     replace p233 := eq_true p233
                     replace q233 := eq_true q233
                     refine start_ (n := 20) (S := fun w' => w'.cell? (ad232.add (x17_3).toNat) = some (.int .i64 (rd t220 x17_3)) ∧ w'.cell? (ad232.add (x18_5).toNat) = some (.int .i64 (rd t220 x18_5))) (ds := []) #[false, false, false, false, false, false, false, false, false, false, false, false, false, false, false, false, false, false, false, false] (by kernel_rfl) rfl rfl ⟨hx232_0, hx233_0⟩ (fun hHeld => ?_); refine with_tabW treelinelaw20_TopoMore.tab23 treelinelaw20_TopoMore.bits23 (fun HT_ HW_ => ?_)
                     generalize wr.drew = w92 at HO_14 HO_15 HO_16 BK205 HB hx232_0 hx233_0 hHeld ⊢
                     refine pure_ (i := 0) (N := some 126) (v := ?_) (a' := ?_) #[true, false, false, false, false, false, false, false, false, false, false, false, false, false, false, false, false, false, false, false] rfl rfl (any_of HT_.out (by kernel_rfl)) (fun _ _ _ h => h) (Or.inl ⟨by rfl, ?_⟩) ?_ ?_
                     rotate_left
                     ·intro w'
                      go_simp
                      with_reducible rfl
                     rotate_left
                     ·simp only [Act.put, List.setIfInBounds_toArray, List.set_cons_zero, List.set_cons_succ, i64_w, i32_w]
                      rfl
                     refine pure_ (i := 1) (N := some 127) (v := ?_) (a' := ?_) #[true, true, false, false, false, false, false, false, false, false, false, false, false, false, false, false, false, false, false, false] rfl rfl (any_of HT_.out (by kernel_rfl)) (fun _ _ _ h => h) (Or.inl ⟨by rfl, ?_⟩) ?_ ?_
                     rotate_left
                     ·intro w'
                      go_simp
                      with_reducible rfl
                     rotate_left
                     ·simp only [Act.put, List.setIfInBounds_toArray, List.set_cons_zero, List.set_cons_succ, i64_w, i32_w]
                      rfl
                     refine pure_ (i := 2) (N := some 128) (v := ?_) (a' := ?_) #[true, true, true, false, false, false, false, false, false, false, false, false, false, false, false, false, false, false, false, false] rfl rfl (any_of HT_.out (by kernel_rfl)) (fun _ _ _ h => h) (Or.inl ⟨by rfl, ?_⟩) ?_ ?_
                     rotate_left
                     ·intro w'
                      go_simp
                      with_reducible rfl
                     rotate_left
                     ·simp only [Act.put, List.setIfInBounds_toArray, List.set_cons_zero, List.set_cons_succ, i64_w, i32_w]
                      rfl
                     refine pure_ (i := 4) (N := some 130) (v := ?_) (a' := ?_) #[true, true, true, false, true, false, false, false, false, false, false, false, false, false, false, false, false, false, false, false] rfl rfl (any_of HT_.out (by kernel_rfl)) (fun _ _ _ h => h) (Or.inl ⟨by rfl, ?_⟩) ?_ ?_
                     rotate_left
                     ·intro w'
                      go_simp
                      with_reducible rfl
                     rotate_left
                     ·simp only [Act.put, List.setIfInBounds_toArray, List.set_cons_zero, List.set_cons_succ, i64_w, i32_w]
                      rfl
                     refine pure_ (i := 5) (N := some 131) (v := ?_) (a' := ?_) #[true, true, true, false, true, true, false, false, false, false, false, false, false, false, false, false, false, false, false, false] rfl rfl (any_of HT_.out (by kernel_rfl)) (fun _ _ _ h => h) (Or.inl ⟨by rfl, ?_⟩) ?_ ?_
                     rotate_left
                     ·intro w'
                      go_simp
                      with_reducible rfl
                     rotate_left
                     ·simp only [Act.put, List.setIfInBounds_toArray, List.set_cons_zero, List.set_cons_succ, i64_w, i32_w]
                      rfl
                     refine pure_ (i := 6) (N := some 132) (v := ?_) (a' := ?_) #[true, true, true, false, true, true, true, false, false, false, false, false, false, false, false, false, false, false, false, false] rfl rfl (any_of HT_.out (by kernel_rfl)) (fun _ _ _ h => h) (Or.inl ⟨by rfl, ?_⟩) ?_ ?_
                     rotate_left
                     ·intro w'
                      go_simp
                      with_reducible rfl
                     rotate_left
                     ·simp only [Act.put, List.setIfInBounds_toArray, List.set_cons_zero, List.set_cons_succ, i64_w, i32_w]
                      rfl
                     refine take_ (i := 3) (N := some 129) (v := ?_) (a' := ?_) #[true, true, true, true, true, true, true, false, false, false, false, false, false, false, false, false, false, false, false, false] rfl rfl (take_ofW HT_.out HW_.out (by kernel_rfl)) (fun _ _ _ h => h) (Or.inl ⟨by rfl, ?_⟩) hHeld ?_ ?_
                     rotate_left
                     ·rintro w' ⟨s0, s1⟩
                      go_simp
                      with_reducible rfl
                     rotate_left
                     ·simp only [Act.put, List.setIfInBounds_toArray, List.set_cons_zero, List.set_cons_succ, i64_w, i32_w]
                      rfl
                     refine take_ (i := 7) (N := some 133) (v := ?_) (a' := ?_) #[true, true, true, true, true, true, true, true, false, false, false, false, false, false, false, false, false, false, false, false] rfl rfl (take_ofW HT_.out HW_.out (by kernel_rfl)) (fun _ _ _ h => h) (Or.inl ⟨by rfl, ?_⟩) hHeld ?_ ?_
                     rotate_left
                     ·rintro w' ⟨s0, s1⟩
                      go_simp
                      with_reducible rfl
                     rotate_left
                     ·simp only [Act.put, List.setIfInBounds_toArray, List.set_cons_zero, List.set_cons_succ, i64_w, i32_w]
                      rfl
                     refine pure_ (i := 8) (N := some 134) (v := ?_) (a' := ?_) #[true, true, true, true, true, true, true, true, true, false, false, false, false, false, false, false, false, false, false, false] rfl rfl (any_of HT_.out (by kernel_rfl)) (fun _ _ _ h => h) (Or.inl ⟨by rfl, ?_⟩) ?_ ?_
                     rotate_left
                     ·intro w'
                      go_simp
                      with_reducible rfl
                     rotate_left
                     ·simp only [Act.put, List.setIfInBounds_toArray, List.set_cons_zero, List.set_cons_succ, i64_w, i32_w]
                      rfl
                     refine pure_ (i := 9) (N := some 135) (v := ?_) (a' := ?_) #[true, true, true, true, true, true, true, true, true, true, false, false, false, false, false, false, false, false, false, false] rfl rfl (any_of HT_.out (by kernel_rfl)) (fun _ _ _ h => h) (Or.inl ⟨by rfl, ?_⟩) ?_ ?_
                     rotate_left
                     ·intro w'
                      go_simp
                      with_reducible rfl
                     rotate_left
                     ·simp only [Act.put, List.setIfInBounds_toArray, List.set_cons_zero, List.set_cons_succ, i64_w, i32_w]
                      rfl
                     refine pure_ (i := 10) (N := some 136) (v := undef) (a' := ?_) #[true, true, true, true, true, true, true, true, true, true, true, false, false, false, false, false, false, false, false, false] rfl rfl (any_of HT_.out (by kernel_rfl)) (fun _ _ _ h => h) (Or.inr ⟨by rfl, rfl⟩) ?_ ?_
                     rotate_left
                     ·simp only [Act.put, List.setIfInBounds_toArray, List.set_cons_zero, List.set_cons_succ, i64_w, i32_w]
                      rfl
                     refine pure_ (i := 11) (N := some 137) (v := undef) (a' := ?_) #[true, true, true, true, true, true, true, true, true, true, true, true, false, false, false, false, false, false, false, false] rfl rfl (any_of HT_.out (by kernel_rfl)) (fun _ _ _ h => h) (Or.inr ⟨by rfl, rfl⟩) ?_ ?_
                     rotate_left
                     ·simp only [Act.put, List.setIfInBounds_toArray, List.set_cons_zero, List.set_cons_succ, i64_w, i32_w]
                      rfl
                     refine pure_ (i := 12) (N := some 138) (v := undef) (a' := ?_) #[true, true, true, true, true, true, true, true, true, true, true, true, true, false, false, false, false, false, false, false] rfl rfl (any_of HT_.out (by kernel_rfl)) (fun _ _ _ h => h) (Or.inr ⟨by rfl, rfl⟩) ?_ ?_
                     rotate_left
                     ·simp only [Act.put, List.setIfInBounds_toArray, List.set_cons_zero, List.set_cons_succ, i64_w, i32_w]
                      rfl
                     refine pure_ (i := 13) (N := some 139) (v := undef) (a' := ?_) #[true, true, true, true, true, true, true, true, true, true, true, true, true, true, false, false, false, false, false, false] rfl rfl (any_of HT_.out (by kernel_rfl)) (fun _ _ _ h => h) (Or.inr ⟨by rfl, rfl⟩) ?_ ?_
                     rotate_left
                     ·simp only [Act.put, List.setIfInBounds_toArray, List.set_cons_zero, List.set_cons_succ, i64_w, i32_w]
                      rfl
                     refine pure_ (i := 14) (N := some 140) (v := undef) (a' := ?_) #[true, true, true, true, true, true, true, true, true, true, true, true, true, true, true, false, false, false, false, false] rfl rfl (any_of HT_.out (by kernel_rfl)) (fun _ _ _ h => h) (Or.inr ⟨by rfl, rfl⟩) ?_ ?_
                     rotate_left
                     ·simp only [Act.put, List.setIfInBounds_toArray, List.set_cons_zero, List.set_cons_succ, i64_w, i32_w]
                      rfl
                     refine pure_ (i := 15) (N := some 141) (v := undef) (a' := ?_) #[true, true, true, true, true, true, true, true, true, true, true, true, true, true, true, true, false, false, false, false] rfl rfl (any_of HT_.out (by kernel_rfl)) (fun _ _ _ h => h) (Or.inr ⟨by rfl, rfl⟩) ?_ ?_
                     rotate_left
                     ·simp only [Act.put, List.setIfInBounds_toArray, List.set_cons_zero, List.set_cons_succ, i64_w, i32_w]
                      rfl
                     refine pure_ (i := 16) (N := some 142) (v := undef) (a' := ?_) #[true, true, true, true, true, true, true, true, true, true, true, true, true, true, true, true, true, false, false, false] rfl rfl (any_of HT_.out (by kernel_rfl)) (fun _ _ _ h => h) (Or.inr ⟨by rfl, rfl⟩) ?_ ?_
                     rotate_left
                     ·simp only [Act.put, List.setIfInBounds_toArray, List.set_cons_zero, List.set_cons_succ, i64_w, i32_w]
                      rfl
                     refine pure_ (i := 17) (N := some 143) (v := undef) (a' := ?_) #[true, true, true, true, true, true, true, true, true, true, true, true, true, true, true, true, true, true, false, false] rfl rfl (any_of HT_.out (by kernel_rfl)) (fun _ _ _ h => h) (Or.inr ⟨by rfl, rfl⟩) ?_ ?_
                     rotate_left
                     ·simp only [Act.put, List.setIfInBounds_toArray, List.set_cons_zero, List.set_cons_succ, i64_w, i32_w]
                      rfl
                     refine pure_ (i := 18) (N := some 144) (v := undef) (a' := ?_) #[true, true, true, true, true, true, true, true, true, true, true, true, true, true, true, true, true, true, true, false] rfl rfl (any_of HT_.out (by kernel_rfl)) (fun _ _ _ h => h) (Or.inr ⟨by rfl, rfl⟩) ?_ ?_
                     rotate_left
                     ·simp only [Act.put, List.setIfInBounds_toArray, List.set_cons_zero, List.set_cons_succ, i64_w, i32_w]
                      rfl
                     refine pure_ (i := 19) (N := some 145) (v := ?_) (a' := ?_) #[true, true, true, true, true, true, true, true, true, true, true, true, true, true, true, true, true, true, true, true] rfl rfl (any_of HT_.out (by kernel_rfl)) (fun _ _ _ h => h) (Or.inl ⟨by rfl, ?_⟩) ?_ ?_
                     rotate_left
                     ·intro w'
                      go_simp
                      with_reducible rfl
                     rotate_left
                     ·simp only [Act.put, List.setIfInBounds_toArray, List.set_cons_zero, List.set_cons_succ, i64_w, i32_w]
                      rfl
                     refine done_ (done_of HT_.out (by kernel_rfl)) ?_
                     try go_wp2
                     go_roundg k5
                     case measure => have := HJ4.out; have := HK2.out; have := HK3.out; have := HJ67.out; have := HK5.out; omega
                     case rel => exact ⟨(wrap64 (x18_5 + 1)), (by first | rfl | (simp; done) | (simp [*]; done)), H', ⟨by have := HJ4.out; have := HK2.out; have := HK3.out; have := HJ67.out; have := HK5.out; omega⟩, ⟨by (with_reducible repeat (first | apply Kd.R_alloc | apply Kd.R_drewN | apply Kd.R_drew)); exact HO_14.out⟩, ⟨by (with_reducible repeat (first | apply Kd.R_alloc | apply Kd.R_drewN | apply Kd.R_drew)); exact HO_15.out⟩, ⟨by (with_reducible repeat (first | apply Kd.R_alloc | apply Kd.R_drewN | apply Kd.R_drew)); exact HO_16.out⟩, ⟨by (with_reducible repeat (first | refine blk_drewN ?_ _ | refine blk_drew ?_ | refine blk_alloc ?_ _)); exact BK205.out⟩, ⟨by repeat (first | (with_reducible first | exact HB.out | apply below_alloc | apply pw_below_drewN | apply below_drew1 | refine below_set ?_ GE205.out) | exact HB.out)⟩⟩
                   ·rw [if_neg c83] at H
                    exact absurd H (by simp)
                  ·rw [if_neg c82] at H
                   exact absurd H (by simp)
                 ·rw [if_neg c81] at H
                  exact absurd H (by simp)
                ·rw [if_neg c80] at H
                 have c80b0 : decide (x18_5 < (t220.length : Int)) = false := decide_eq_false c80
                 clear c80
                 have H' := Aside0.mk H
                 clear H
                 go_wp2
                 go_roundg k5
                 case measure => have := HJ4.out; have := HK2.out; have := HK3.out; have := HJ67.out; have := HK5.out; omega
                 case rel => exact ⟨(wrap64 (x17_3 + 1)), (by first | rfl | (simp; done) | (simp [*]; done)), H', ⟨by have := HJ4.out; have := HK2.out; have := HK3.out; have := HJ67.out; have := HK5.out; omega⟩, ⟨by (with_reducible repeat (first | apply Kd.R_alloc | apply Kd.R_drewN | apply Kd.R_drew)); exact HO_14.out⟩, ⟨by (with_reducible repeat (first | apply Kd.R_alloc | apply Kd.R_drewN | apply Kd.R_drew)); exact HO_15.out⟩, ⟨by (with_reducible repeat (first | apply Kd.R_alloc | apply Kd.R_drewN | apply Kd.R_drew)); exact HO_16.out⟩, ⟨by (with_reducible repeat (first | refine blk_drewN ?_ _ | refine blk_drew ?_ | refine blk_alloc ?_ _)); exact BK205.out⟩, ⟨by repeat (first | (with_reducible first | exact HB.out | apply below_alloc | apply pw_below_drewN | apply below_drew1 | refine below_set ?_ GE205.out) | exact HB.out)⟩⟩
          ·rw [if_neg c67] at H
           have c67b0 : decide (x17_3 < (t220.length : Int)) = false := decide_eq_false c67
           clear c67
           obtain rfl := Option.some.inj H
           (try exact absurd LRT.out (by decide))
           all_goals
            obtain ⟨Ao93, co93, eo93⟩ := Kd.R_slice HO_14.out
            subst eo93
            go_wp2
            go_ret
            exact ⟨by first | rfl | (simp [errW_none, errW_some] <;> rfl) | (simp [*, errW_none, errW_some] <;> rfl), by repeat (first | (with_reducible first | exact HB.out | apply below_alloc | apply pw_below_drewN | apply below_drew1 | refine below_set ?_ GE205.out) | exact HB.out)⟩


end Go.Proofs.Ytkgfpagfmdefgaa.OTopoMore
