/- What Go functions that the law TopoRight uses come to, and why: part 14. Made out of the kit's print by a program of this session (wip/tools/stub.py, splice.py), functions that it does not take told by hand. -/
import Derived.Test.YtkgfpagfmdefgaaOTopoRightx13
namespace Go.Proofs.Ytkgfpagfmdefgaa.OTopoRight
open Go.RowKit Go.Proofs.YtkgfpagfmdefgaaW.PrintWords Go.Proofs.YtkgfpagfmdefgaaW.PrintLast Go.Proofs.YtkgfpagfmdefgaaW.PrintMore
attribute [local go_sem] max2_int min2_int max_two min_two max_three min_three max_four min_four   -- for this text's walks alone
set_option linter.unusedVariables false
set_option linter.unusedSimpArgs false
private theorem setCell_drewN_ (w : World) (n : Nat) (p : Addr) (u : Value) : (w.drewN n).setCell p u = (w.setCell p u).drewN n := by
  unfold World.setCell World.drewN
  split <;> rfl

/-! ### topo_Copy: function 15 -/
mutual
def topo_Copy.l0 : Nat → List (S48) → Int → Int → Int → List (S48) → List (List Int) → List (S59) → Int → List (S48) → List (S59) → Option (Int × (List (S48)) × (List (List Int)) × (List (S59)))
  | 0, _, _, _, _, _, _, _, _, _, _ => none
  | k + 1, x12, x13, x14, x211000, x211001, x211002, x211003, x213000, x213001, x213003 => if x14 < x13 then (if 0 ≤ x14 then (if x14 < (x12.length : Int) then ((conf_Copy.f ((rd_T48 x12 x14).f0) ((rd_T48 x12 x14).f1) ((rd_T48 x12 x14).f2) ((rd_T48 x12 x14).f3) ((rd_T48 x12 x14).f4) ((rd_T48 x12 x14).f5) ((rd_T48 x12 x14).f6) ((rd_T48 x12 x14).f7)).bind fun bt215 => (if x213001.length < 1759218604441 then (topo_Copy.l0 k x12 x13 (wrap64 (x14 + 1)) x211000 x211001 x211002 x211003 x213000 (x213001 ++ [(⟨bt215.1, bt215.2.1, bt215.2.2.1, bt215.2.2.2.1, bt215.2.2.2.2.1, bt215.2.2.2.2.2.1, bt215.2.2.2.2.2.2.1, bt215.2.2.2.2.2.2.2⟩ : S48)]) x213003) else (none))) else (none)) else (none)) else (topo_Copy.l1 k x211002 (x211002.length : Int) 0 x211000 x211001 x211002 x211003 x213000 x213001 ([] : List (List Int)) x213003)
def topo_Copy.l1 : Nat → List (List Int) → Int → Int → Int → List (S48) → List (List Int) → List (S59) → Int → List (S48) → List (List Int) → List (S59) → Option (Int × (List (S48)) × (List (List Int)) × (List (S59)))
  | 0, _, _, _, _, _, _, _, _, _, _, _ => none
  | k + 1, x27, x28, x29, x211000, x211001, x211002, x211003, x213000, x213001, x213002, x213003 => if x29 < x28 then (if 0 ≤ x29 then (if x29 < (x27.length : Int) then ((some (([] : List Int) : List Int)).bind fun y229 => (if y229.length + (rd_L9 x27 x29).length < 17592186044416 then (if x213002.length < 5864062014805 then (topo_Copy.l1 k x27 x28 (wrap64 (x29 + 1)) x211000 x211001 x211002 x211003 x213000 x213001 (x213002 ++ [(y229 ++ (rd_L9 x27 x29))]) x213003) else (none)) else (none))) else (none)) else (none)) else ((some (([] : List (S59)) : List (S59))).bind fun y238 => (if y238.length + x211003.length < 8796093022208 then (some (x213000, x213001, x213002, (y238 ++ x211003))) else (none)))
end
def topo_Copy.f (k : Nat) (a0_0 : Int) (l0_1 : List (S48)) (l0_2 : List (List Int)) (l0_3 : List (S59)) : Option (Int × (List (S48)) × (List (List Int)) × (List (S59))) := topo_Copy.l0 k l0_1 (l0_1.length : Int) 0 a0_0 l0_1 l0_2 l0_3 a0_0 ([] : List (S48)) l0_3
theorem topo_Copy.mono_l : ∀ k, (∀ y0 y1 y2 y3 y4 y5 y6 y7 y8 y9, LeO (topo_Copy.l0 k y0 y1 y2 y3 y4 y5 y6 y7 y8 y9) (topo_Copy.l0 (k + 1) y0 y1 y2 y3 y4 y5 y6 y7 y8 y9)) ∧ (∀ y0 y1 y2 y3 y4 y5 y6 y7 y8 y9 y10, LeO (topo_Copy.l1 k y0 y1 y2 y3 y4 y5 y6 y7 y8 y9 y10) (topo_Copy.l1 (k + 1) y0 y1 y2 y3 y4 y5 y6 y7 y8 y9 y10))
  | 0 => ⟨fun _ _ _ _ _ _ _ _ _ _ r h => by simp [topo_Copy.l0] at h, fun _ _ _ _ _ _ _ _ _ _ _ r h => by simp [topo_Copy.l1] at h⟩
  | k + 1 => by
    obtain ⟨ih0, ih1⟩ := topo_Copy.mono_l k
    refine ⟨?_, ?_⟩
    · intro y0 y1 y2 y3 y4 y5 y6 y7 y8 y9
      unfold topo_Copy.l0
      repeat' first
      | (with_reducible exact ih0 _ _ _ _ _ _ _ _ _ _)
      | (with_reducible exact ih1 _ _ _ _ _ _ _ _ _ _ _)
      | (with_reducible exact LeO.refl _)
      | (with_reducible exact LeO.none _)
      | (with_reducible refine LeO.ite ?_ ?_)
      | (with_reducible refine LeO.bind ?_ (fun _ => ?_))
      | exact ih0 _ _ _ _ _ _ _ _ _ _
      | exact ih1 _ _ _ _ _ _ _ _ _ _ _
      | exact LeO.none _
      | refine LeO.ite ?_ ?_
      | refine LeO.bind ?_ (fun _ => ?_)
    · intro y0 y1 y2 y3 y4 y5 y6 y7 y8 y9 y10
      unfold topo_Copy.l1
      repeat' first
      | (with_reducible exact ih0 _ _ _ _ _ _ _ _ _ _)
      | (with_reducible exact ih1 _ _ _ _ _ _ _ _ _ _ _)
      | (with_reducible exact LeO.refl _)
      | (with_reducible exact LeO.none _)
      | (with_reducible refine LeO.ite ?_ ?_)
      | (with_reducible refine LeO.bind ?_ (fun _ => ?_))
      | exact ih0 _ _ _ _ _ _ _ _ _ _
      | exact ih1 _ _ _ _ _ _ _ _ _ _ _
      | exact LeO.none _
      | refine LeO.ite ?_ ?_
      | refine LeO.bind ?_ (fun _ => ?_)
theorem topo_Copy.mono : ∀ a0 a1 a2 a3 k, LeO (topo_Copy.f k a0 a1 a2 a3) (topo_Copy.f (k + 1) a0 a1 a2 a3) := by
  intro a0 a1 a2 a3 k
  obtain ⟨ih0, ih1⟩ := topo_Copy.mono_l k
  unfold topo_Copy.f
  repeat' first
      | (with_reducible exact ih0 _ _ _ _ _ _ _ _ _ _)
      | (with_reducible exact ih1 _ _ _ _ _ _ _ _ _ _ _)
      | (with_reducible exact LeO.refl _)
      | (with_reducible exact LeO.none _)
      | (with_reducible refine LeO.ite ?_ ?_)
      | (with_reducible refine LeO.bind ?_ (fun _ => ?_))
      | exact ih0 _ _ _ _ _ _ _ _ _ _
      | exact ih1 _ _ _ _ _ _ _ _ _ _ _
      | exact LeO.none _
      | refine LeO.ite ?_ ?_
      | refine LeO.bind ?_ (fun _ => ?_)
def topo_Copy.T6 : Bool × List (List Nat × List Nat) := (true, [([], []), ([0], [0]), ([], []), ([2], [2]), ([3], [3]), ([1, 4, 3], [1, 4]), ([0, 1, 2, 3, 4, 5], []), ([6, 5, 5, 0, 1, 2, 3, 4, 5], [5, 6])])
def topo_Copy.B6 : List Nat := [0, 1, 0, 4, 12, 31, 63, 127]
theorem topo_Copy.tab6 : rtab .any (opsOf Try.f15 6) = topo_Copy.T6 := by kernel_rfl
theorem topo_Copy.bits6 : waitsOk topo_Copy.T6.2 topo_Copy.B6 = true := by kernel_rfl
def topo_Copy.T11 : Bool × List (List Nat × List Nat) := (true, [([], []), ([0], [0]), ([], []), ([], []), ([2, 3], [2, 3]), ([4], [4]), ([1, 5, 4], [1, 5]), ([0, 1, 2, 3, 4, 5, 6], []), ([7, 6, 6, 0, 1, 2, 3, 4, 5, 6], [6, 7])])
def topo_Copy.B11 : List Nat := [0, 1, 0, 0, 12, 28, 63, 127, 255]
theorem topo_Copy.tab11 : rtab .any (opsOf Try.f15 11) = topo_Copy.T11 := by kernel_rfl
theorem topo_Copy.bits11 : waitsOk topo_Copy.T11.2 topo_Copy.B11 = true := by kernel_rfl
set_option maxHeartbeats 8000000 in
set_option maxRecDepth 100000 in
theorem topo_Copy.calls (k : Nat) (a0_0 : Int) (A0_1 : Option Addr) (c0_1 : Nat) (l0_1 : List (S48)) (A0_2 : Option Addr) (c0_2 : Nat) (l0_2 : List (List Int)) (A0_3 : Option Addr) (c0_3 : Nat) (l0_3 : List (S59)) (r1 : Int) (r2 : List (S48)) (r3 : List (List Int)) (r4 : List (S59)) (w : World) (hr0_1 : Kd.C k48 w A0_1 l0_1.length l0_1) (hc0_1 : l0_1.length ≤ c0_1) (hr0_2 : Kd.C (Kd.slice 3 (Kd.int .i64)) w A0_2 l0_2.length l0_2) (hc0_2 : l0_2.length ≤ c0_2) (hr0_3 : Kd.C k59 w A0_3 l0_3.length l0_3) (hc0_3 : l0_3.length ≤ c0_3) (h : topo_Copy.f k a0_0 l0_1 l0_2 l0_3 = some (r1, r2, r3, r4)) :
  Calls Try.prog 15 #[.agg #[.int .i64 a0_0, .slice A0_1 l0_1.length c0_1, .slice A0_2 l0_2.length c0_2, .slice A0_3 l0_3.length c0_3]] w fun e w' => ∃ v1_ v2_ v3_ : Value, e = .returned (.agg #[.int .i64 r1, v1_, v2_, v3_]) ∧ Kd.S k48 48 w' w.heap.size (fun _ => True) v1_ r2 ∧ Kd.S (Kd.slice 3 (Kd.int .i64)) 33 w' w.heap.size (fun _ => True) v2_ r3 ∧ Kd.R k59 59 w' w.heap.size (fun _ => True) v3_ r4 ∧ Below w.heap.size w w' := by
 have hu26 := Try.underlying26
 have hu48 := Try.underlying48
 have HR0_1 := Aside0.mk hr0_1
 have HC0_1 := Aside0.mk hc0_1
 clear hr0_1 hc0_1
 have HR0_2 := Aside0.mk hr0_2
 have HC0_2 := Aside0.mk hc0_2
 clear hr0_2 hc0_2
 have HR0_3 := Aside0.mk hr0_3
 have HC0_3 := Aside0.mk hc0_3
 clear hr0_3 hc0_3
 have HB := Aside0.mk (Below.refl w.heap.size w)
 have H : (topo_Copy.l0 k l0_1 (l0_1.length : Int) 0 a0_0 l0_1 l0_2 l0_3 a0_0 ([] : List (S48)) l0_3) = some (r1, r2, r3, r4) := h
 clear h
 have H' := Aside0.mk H
 clear H
 go_enter Try.func15, Try.ntmps15
 go_wp2_with (first | ((with_reducible refine gate_dst (N := 1) rfl ?_); refine box_event ?hg (N := 1) ?hd (cs := #[.int .i64 a0_0, .slice A0_1 l0_1.length c0_1, .slice A0_2 l0_2.length c0_2, .slice A0_3 l0_3.length c0_3]) (t := 26) ?hr ?_; (case hd => rfl); (case hg => rfl); (case hr => first | (go_simp; done) | (go_simp; rfl)); intro gb210 hg w2 hbox hb; have n0_ := Aside0.mk (below_step (by repeat (first | (with_reducible first | exact HB.out | apply below_alloc | apply pw_below_drewN | apply below_drew1) | exact HB.out)) hb); have n1_ := Aside0.mk (hbox); have n2_ := Aside0.mk ((by rw [hg]; exact (below_size (by repeat (first | (with_reducible first | exact HB.out | apply below_alloc | apply pw_below_drewN | apply below_drew1) | exact HB.out))) : w.heap.size ≤ gb210)); have n3_ := Aside0.mk ((by rw [hg]; exact (below_size (by repeat (first | (with_reducible first | exact HB.out | apply below_alloc | apply pw_below_drewN | apply below_drew1) | exact HB.out))) : w.heap.size ≤ gb210)); clear HB; have HB := n0_; have BK210 := n1_; have GW210 := n2_; have GE210 := n3_; clear n0_ n1_ n2_ n3_; clear hb hbox hg) | ((with_reducible refine gate_dst (N := 2) rfl ?_); refine box_event ?hg (N := 2) ?hd (cs := #[.int .i64 0, .slice none 0 0, .slice none 0 0, .slice none 0 0]) (t := 26) ?hr ?_; (case hd => rfl); (case hg => rfl); (case hr => first | (go_simp; done) | (go_simp; rfl)); intro gb211 hg w3 hbox hb; have n0_ := Aside0.mk (blk_below (g := gb210) (o := .cells #[.int .i64 a0_0, .slice A0_1 l0_1.length c0_1, .slice A0_2 l0_2.length c0_2, .slice A0_3 l0_3.length c0_3] 26 (0, 0)) (by (with_reducible repeat (first | refine blk_drewN ?_ _ | refine blk_drew ?_ | refine blk_alloc ?_ _)); exact BK210.out) hb); have n1_ := Aside0.mk (below_step (by repeat (first | (with_reducible first | exact HB.out | apply below_alloc | apply pw_below_drewN | apply below_drew1 | refine below_set ?_ GE210.out) | exact HB.out)) hb); have n2_ := Aside0.mk (hbox); have n3_ := Aside0.mk ((by rw [hg]; exact (below_size (by repeat (first | (with_reducible first | exact HB.out | apply below_alloc | apply pw_below_drewN | apply below_drew1 | refine below_set ?_ GE210.out) | exact HB.out))) : w.heap.size ≤ gb211)); have n4_ := Aside0.mk ((by rw [hg]; exact (below_size (by repeat (first | (with_reducible first | exact HB.out | apply below_alloc | apply pw_below_drewN | apply below_drew1 | refine below_set ?_ GE210.out) | exact HB.out))) : w.heap.size ≤ gb211)); have n5_ := Aside0.mk ((by rw [hg]; exact Nat.ne_of_lt (blk_lt (g := gb210) (o := .cells #[.int .i64 a0_0, .slice A0_1 l0_1.length c0_1, .slice A0_2 l0_2.length c0_2, .slice A0_3 l0_3.length c0_3] 26 (0, 0)) (by (with_reducible repeat (first | refine blk_drewN ?_ _ | refine blk_drew ?_ | refine blk_alloc ?_ _)); exact BK210.out)) : gb210 ≠ gb211)); have n6_ := Aside0.mk ((by rw [hg]; exact Nat.ne_of_gt (blk_lt (g := gb210) (o := .cells #[.int .i64 a0_0, .slice A0_1 l0_1.length c0_1, .slice A0_2 l0_2.length c0_2, .slice A0_3 l0_3.length c0_3] 26 (0, 0)) (by (with_reducible repeat (first | refine blk_drewN ?_ _ | refine blk_drew ?_ | refine blk_alloc ?_ _)); exact BK210.out)) : gb211 ≠ gb210)); clear BK210; clear HB; have BK210 := n0_; have HB := n1_; have BK211 := n2_; have GW211 := n3_; have GE211 := n4_; have NB210_211 := n5_; have NB211_210 := n6_; clear n0_ n1_ n2_ n3_ n4_ n5_ n6_; clear hb hbox hg; have hnb4 := NB210_211.out; have hnc4 := NB211_210.out; have hcz5_0 : w3.cell? ⟨gb210, 0, none⟩ = some (.int .i64 a0_0) := (blk_cell BK210.out 0).trans rfl; have hcz5_1 : w3.cell? ⟨gb210, 1, none⟩ = some (.slice A0_1 l0_1.length c0_1) := (blk_cell BK210.out 1).trans rfl; have hcz5_2 : w3.cell? ⟨gb210, 2, none⟩ = some (.slice A0_2 l0_2.length c0_2) := (blk_cell BK210.out 2).trans rfl; have hcz5_3 : w3.cell? ⟨gb210, 3, none⟩ = some (.slice A0_3 l0_3.length c0_3) := (blk_cell BK210.out 3).trans rfl; have hfz5_0 := blk_frozen BK210.out 0; have hfz5_1 := blk_frozen BK210.out 1; have hfz5_2 := blk_frozen BK210.out 2; have hfz5_3 := blk_frozen BK210.out 3) | ((with_reducible refine gate_dst (N := 3) rfl ?_); refine box_event ?hg (N := 3) ?hd (cs := #[.int .i64 0, .slice none 0 0, .slice none 0 0, .slice none 0 0]) (t := 26) ?hr ?_; (case hd => rfl); (case hg => rfl); (case hr => first | (go_simp; done) | (go_simp; rfl)); intro gb212 hg w6 hbox hb; have n0_ := Aside0.mk (blk_below (g := gb210) (o := .cells #[.int .i64 a0_0, .slice A0_1 l0_1.length c0_1, .slice A0_2 l0_2.length c0_2, .slice A0_3 l0_3.length c0_3] 26 (0, 0)) (by (with_reducible repeat (first | refine blk_drewN ?_ _ | refine blk_drew ?_ | refine blk_alloc ?_ _)); exact BK210.out) hb); have n1_ := Aside0.mk (blk_below (g := gb211) (o := .cells #[.int .i64 0, .slice none 0 0, .slice none 0 0, .slice none 0 0] 26 (0, 0)) (by (with_reducible repeat (first | refine blk_drewN ?_ _ | refine blk_drew ?_ | refine blk_alloc ?_ _)); exact BK211.out) hb); have n2_ := Aside0.mk (below_step (by repeat (first | (with_reducible first | exact HB.out | apply below_alloc | apply pw_below_drewN | apply below_drew1 | refine below_set ?_ GE210.out | refine below_set ?_ GE211.out) | exact HB.out)) hb); have n3_ := Aside0.mk (hbox); have n4_ := Aside0.mk ((by rw [hg]; exact (below_size (by repeat (first | (with_reducible first | exact HB.out | apply below_alloc | apply pw_below_drewN | apply below_drew1 | refine below_set ?_ GE210.out | refine below_set ?_ GE211.out) | exact HB.out))) : w.heap.size ≤ gb212)); have n5_ := Aside0.mk ((by rw [hg]; exact (below_size (by repeat (first | (with_reducible first | exact HB.out | apply below_alloc | apply pw_below_drewN | apply below_drew1 | refine below_set ?_ GE210.out | refine below_set ?_ GE211.out) | exact HB.out))) : w.heap.size ≤ gb212)); have n6_ := Aside0.mk ((by rw [hg]; exact Nat.ne_of_lt (blk_lt (g := gb210) (o := .cells #[.int .i64 a0_0, .slice A0_1 l0_1.length c0_1, .slice A0_2 l0_2.length c0_2, .slice A0_3 l0_3.length c0_3] 26 (0, 0)) (by (with_reducible repeat (first | refine blk_drewN ?_ _ | refine blk_drew ?_ | refine blk_alloc ?_ _)); exact BK210.out)) : gb210 ≠ gb212)); have n7_ := Aside0.mk ((by rw [hg]; exact Nat.ne_of_gt (blk_lt (g := gb210) (o := .cells #[.int .i64 a0_0, .slice A0_1 l0_1.length c0_1, .slice A0_2 l0_2.length c0_2, .slice A0_3 l0_3.length c0_3] 26 (0, 0)) (by (with_reducible repeat (first | refine blk_drewN ?_ _ | refine blk_drew ?_ | refine blk_alloc ?_ _)); exact BK210.out)) : gb212 ≠ gb210)); have n8_ := Aside0.mk ((by rw [hg]; exact Nat.ne_of_lt (blk_lt (g := gb211) (o := .cells #[.int .i64 0, .slice none 0 0, .slice none 0 0, .slice none 0 0] 26 (0, 0)) (by (with_reducible repeat (first | refine blk_drewN ?_ _ | refine blk_drew ?_ | refine blk_alloc ?_ _)); exact BK211.out)) : gb211 ≠ gb212)); have n9_ := Aside0.mk ((by rw [hg]; exact Nat.ne_of_gt (blk_lt (g := gb211) (o := .cells #[.int .i64 0, .slice none 0 0, .slice none 0 0, .slice none 0 0] 26 (0, 0)) (by (with_reducible repeat (first | refine blk_drewN ?_ _ | refine blk_drew ?_ | refine blk_alloc ?_ _)); exact BK211.out)) : gb212 ≠ gb211)); clear BK210; clear BK211; clear HB; have BK210 := n0_; have BK211 := n1_; have HB := n2_; have BK212 := n3_; have GW212 := n4_; have GE212 := n5_; have NB210_212 := n6_; have NB212_210 := n7_; have NB211_212 := n8_; have NB212_211 := n9_; clear n0_ n1_ n2_ n3_ n4_ n5_ n6_ n7_ n8_ n9_; clear hb hbox hg; have hnb7 := NB212_210.out; have hnc7 := NB210_212.out; have hnb8 := NB212_211.out; have hnc8 := NB211_212.out; have hcz9_0 : w6.cell? ⟨gb212, 0, none⟩ = some (.int .i64 0) := (blk_cell BK212.out 0).trans rfl; have hcz9_1 : w6.cell? ⟨gb212, 1, none⟩ = some (.slice none 0 0) := (blk_cell BK212.out 1).trans rfl; have hcz9_2 : w6.cell? ⟨gb212, 2, none⟩ = some (.slice none 0 0) := (blk_cell BK212.out 2).trans rfl; have hcz9_3 : w6.cell? ⟨gb212, 3, none⟩ = some (.slice none 0 0) := (blk_cell BK212.out 3).trans rfl; have hfz9_0 := blk_frozen BK212.out 0; have hfz9_1 := blk_frozen BK212.out 1; have hfz9_2 := blk_frozen BK212.out 2; have hfz9_3 := blk_frozen BK212.out 3; have hcz10_0 : w6.cell? ⟨gb210, 0, none⟩ = some (.int .i64 a0_0) := (blk_cell BK210.out 0).trans rfl; have hcz10_1 : w6.cell? ⟨gb210, 1, none⟩ = some (.slice A0_1 l0_1.length c0_1) := (blk_cell BK210.out 1).trans rfl; have hcz10_2 : w6.cell? ⟨gb210, 2, none⟩ = some (.slice A0_2 l0_2.length c0_2) := (blk_cell BK210.out 2).trans rfl; have hcz10_3 : w6.cell? ⟨gb210, 3, none⟩ = some (.slice A0_3 l0_3.length c0_3) := (blk_cell BK210.out 3).trans rfl; have hfz10_0 := blk_frozen BK210.out 0; have hfz10_1 := blk_frozen BK210.out 1; have hfz10_2 := blk_frozen BK210.out 2; have hfz10_3 := blk_frozen BK210.out 3))
 go_loopg [14] k (fun kq v14 w' => ∃ (x14_1 : Int) (x213001_1 : List (S48)) (u213001 : Value), v14 = .int .i64 x14_1 ∧ Aside0 (topo_Copy.l0 kq l0_1 (l0_1.length : Int) x14_1 a0_0 l0_1 l0_2 l0_3 a0_0 x213001_1 l0_3 = some (r1, r2, r3, r4)) ∧ Aside0 (kq ≤ k) ∧ Aside0 (Kd.S k48 48 w' w.heap.size (fun _ => True) u213001 x213001_1) ∧ Aside0 (w'.heap[gb210]? = some (.cells #[.int .i64 a0_0, (.slice A0_1 l0_1.length c0_1), (.slice A0_2 l0_2.length c0_2), (.slice A0_3 l0_3.length c0_3)] 26 (0, 0))) ∧ Aside0 (w'.heap[gb211]? = some (.cells #[.int .i64 0, (.slice none 0 0), (.slice none 0 0), (.slice none 0 0)] 26 (0, 0))) ∧ Aside0 (w'.heap[gb212]? = some (.cells #[.int .i64 a0_0, u213001, (.slice none 0 0), (.slice A0_3 l0_3.length c0_3)] 26 (0, 0))) ∧ Aside0 (Below w.heap.size w w'))
 case atStart => exact ⟨(0), (([] : List (S48))), (.slice none 0 0), (by first | rfl | (simp; done) | (simp [*]; done)), H', ⟨Nat.le_refl _⟩, ⟨by first | exact Kd.S_nil _ _ _ _ _ | exact Kd.N_nil _ _ _ _ _ | exact Kd.V_nil _ _ _ _ _ | exact Kd.Q_nil _ _ _ _ _ | exact Kd.R_nil _ _ _ _ _⟩, ⟨by (with_reducible repeat (first | refine blk_drewN ?_ _ | refine blk_drew ?_ | refine blk_alloc ?_ _)); refine blk_far ?_ NB210_212.out _; (with_reducible repeat (first | refine blk_drewN ?_ _ | refine blk_drew ?_ | refine blk_alloc ?_ _)); refine blk_far ?_ NB210_212.out _; (with_reducible repeat (first | refine blk_drewN ?_ _ | refine blk_drew ?_ | refine blk_alloc ?_ _)); refine blk_far ?_ NB210_212.out _; (with_reducible repeat (first | refine blk_drewN ?_ _ | refine blk_drew ?_ | refine blk_alloc ?_ _)); refine blk_far ?_ NB210_212.out _; (with_reducible repeat (first | refine blk_drewN ?_ _ | refine blk_drew ?_ | refine blk_alloc ?_ _)); refine blk_far ?_ NB210_212.out _; (with_reducible repeat (first | refine blk_drewN ?_ _ | refine blk_drew ?_ | refine blk_alloc ?_ _)); refine blk_far ?_ NB210_212.out _; (with_reducible repeat (first | refine blk_drewN ?_ _ | refine blk_drew ?_ | refine blk_alloc ?_ _)); exact BK210.out⟩, ⟨by (with_reducible repeat (first | refine blk_drewN ?_ _ | refine blk_drew ?_ | refine blk_alloc ?_ _)); refine blk_far ?_ NB211_212.out _; (with_reducible repeat (first | refine blk_drewN ?_ _ | refine blk_drew ?_ | refine blk_alloc ?_ _)); refine blk_far ?_ NB211_212.out _; (with_reducible repeat (first | refine blk_drewN ?_ _ | refine blk_drew ?_ | refine blk_alloc ?_ _)); refine blk_far ?_ NB211_212.out _; (with_reducible repeat (first | refine blk_drewN ?_ _ | refine blk_drew ?_ | refine blk_alloc ?_ _)); refine blk_far ?_ NB211_212.out _; (with_reducible repeat (first | refine blk_drewN ?_ _ | refine blk_drew ?_ | refine blk_alloc ?_ _)); refine blk_far ?_ NB211_212.out _; (with_reducible repeat (first | refine blk_drewN ?_ _ | refine blk_drew ?_ | refine blk_alloc ?_ _)); refine blk_far ?_ NB211_212.out _; (with_reducible repeat (first | refine blk_drewN ?_ _ | refine blk_drew ?_ | refine blk_alloc ?_ _)); exact BK211.out⟩, ⟨by (with_reducible repeat (first | refine blk_drewN ?_ _ | refine blk_drew ?_ | refine blk_alloc ?_ _)); refine blk_put (cs := #[.int .i64 a0_0, .slice none 0 0, .slice A0_2 l0_2.length c0_2, .slice A0_3 l0_3.length c0_3]) ?_ 2 _ rfl; (with_reducible repeat (first | refine blk_drewN ?_ _ | refine blk_drew ?_ | refine blk_alloc ?_ _)); refine blk_put (cs := #[.int .i64 a0_0, .slice A0_1 l0_1.length c0_1, .slice A0_2 l0_2.length c0_2, .slice A0_3 l0_3.length c0_3]) ?_ 1 _ rfl; (with_reducible repeat (first | refine blk_drewN ?_ _ | refine blk_drew ?_ | refine blk_alloc ?_ _)); refine blk_put (cs := #[.int .i64 a0_0, .slice A0_1 l0_1.length c0_1, .slice A0_2 l0_2.length c0_2, .slice none 0 0]) ?_ 3 _ rfl; (with_reducible repeat (first | refine blk_drewN ?_ _ | refine blk_drew ?_ | refine blk_alloc ?_ _)); refine blk_put (cs := #[.int .i64 a0_0, .slice A0_1 l0_1.length c0_1, .slice none 0 0, .slice none 0 0]) ?_ 2 _ rfl; (with_reducible repeat (first | refine blk_drewN ?_ _ | refine blk_drew ?_ | refine blk_alloc ?_ _)); refine blk_put (cs := #[.int .i64 a0_0, .slice none 0 0, .slice none 0 0, .slice none 0 0]) ?_ 1 _ rfl; (with_reducible repeat (first | refine blk_drewN ?_ _ | refine blk_drew ?_ | refine blk_alloc ?_ _)); refine blk_put (cs := #[.int .i64 0, .slice none 0 0, .slice none 0 0, .slice none 0 0]) ?_ 0 _ rfl; (with_reducible repeat (first | refine blk_drewN ?_ _ | refine blk_drew ?_ | refine blk_alloc ?_ _)); exact BK212.out⟩, ⟨by repeat (first | (with_reducible first | exact HB.out | apply below_alloc | apply pw_below_drewN | apply below_drew1 | refine below_set ?_ GE210.out | refine below_set ?_ GE211.out | refine below_set ?_ GE212.out) | exact HB.out)⟩⟩
 clear H'
 try clear c1
 try clear p2
 try clear c4
 try clear c7
 try clear c8
 try clear hcz10_0
 try clear hcz10_1
 try clear hcz10_2
 try clear hcz10_3
 try clear hcz5_0
 try clear hcz5_1
 try clear hcz5_2
 try clear hcz5_3
 try clear hcz9_0
 try clear hcz9_1
 try clear hcz9_2
 try clear hcz9_3
 try clear hfz10_0
 try clear hfz10_1
 try clear hfz10_2
 try clear hfz10_3
 try clear hfz5_0
 try clear hfz5_1
 try clear hfz5_2
 try clear hfz5_3
 try clear hfz9_0
 try clear hfz9_1
 try clear hfz9_2
 try clear hfz9_3
 obtain ⟨x14_1, x213001_1, u213001, rfl, HA, HK1, HO_213001, BK210, BK211, BK212, HB⟩ := hrel
 cases gk with
 | zero => exact absurd HA.out (by simp [topo_Copy.l0])
 | succ k1 => ?_
 have H := HA.out
 clear HA
 simp only [topo_Copy.l0] at H
 by_cases c11 : x14_1 < (l0_1.length : Int)
 rotate_left
 ·rw [if_neg c11] at H
  have c11b0 : decide (x14_1 < (l0_1.length : Int)) = false := decide_eq_false c11
  clear c11
  have H' := Aside0.mk H
  clear H
  have hnb28 := NB210_211.out
  have hnc28 := NB211_210.out
  have hnb29 := NB210_212.out
  have hnc29 := NB212_210.out
  have hcz30_0 : wr.cell? ⟨gb210, 0, none⟩ = some (.int .i64 a0_0) := (blk_cell BK210.out 0).trans rfl
  have hcz30_1 : wr.cell? ⟨gb210, 1, none⟩ = some (.slice A0_1 l0_1.length c0_1) := (blk_cell BK210.out 1).trans rfl
  have hcz30_2 : wr.cell? ⟨gb210, 2, none⟩ = some (.slice A0_2 l0_2.length c0_2) := (blk_cell BK210.out 2).trans rfl
  have hcz30_3 : wr.cell? ⟨gb210, 3, none⟩ = some (.slice A0_3 l0_3.length c0_3) := (blk_cell BK210.out 3).trans rfl
  have hfz30_0 := blk_frozen BK210.out 0
  have hfz30_1 := blk_frozen BK210.out 1
  have hfz30_2 := blk_frozen BK210.out 2
  have hfz30_3 := blk_frozen BK210.out 3
  go_wp2
  go_loopg [29] k1 (fun kq v29 w' => ∃ (x29_2 : Int) (x213002_2 : List (List Int)) (u213002 : Value), v29 = .int .i64 x29_2 ∧ Aside0 (topo_Copy.l1 kq l0_2 (l0_2.length : Int) x29_2 a0_0 l0_1 l0_2 l0_3 a0_0 x213001_1 x213002_2 l0_3 = some (r1, r2, r3, r4)) ∧ Aside0 (kq ≤ k1) ∧ Aside0 (Kd.S k48 48 w' w.heap.size (fun _ => True) u213001 x213001_1) ∧ Aside0 (Kd.S (Kd.slice 3 (Kd.int .i64)) 33 w' w.heap.size (fun _ => True) u213002 x213002_2) ∧ Aside0 (w'.heap[gb210]? = some (.cells #[.int .i64 a0_0, (.slice A0_1 l0_1.length c0_1), (.slice A0_2 l0_2.length c0_2), (.slice A0_3 l0_3.length c0_3)] 26 (0, 0))) ∧ Aside0 (w'.heap[gb211]? = some (.cells #[.int .i64 0, (.slice none 0 0), (.slice none 0 0), (.slice none 0 0)] 26 (0, 0))) ∧ Aside0 (w'.heap[gb212]? = some (.cells #[.int .i64 a0_0, u213001, u213002, (.slice A0_3 l0_3.length c0_3)] 26 (0, 0))) ∧ Aside0 (Below w.heap.size w w'))
  case atStart => exact ⟨(0), (([] : List (List Int))), (.slice none 0 0), (by first | rfl | (simp; done) | (simp [*]; done)), H', ⟨Nat.le_refl _⟩, ⟨by (with_reducible repeat (first | apply Kd.S_alloc | apply Kd.S_drewN | apply Kd.S_drew)); exact HO_213001.out⟩, ⟨by first | exact Kd.S_nil _ _ _ _ _ | exact Kd.N_nil _ _ _ _ _ | exact Kd.V_nil _ _ _ _ _ | exact Kd.Q_nil _ _ _ _ _ | exact Kd.R_nil _ _ _ _ _⟩, ⟨by (with_reducible repeat (first | refine blk_drewN ?_ _ | refine blk_drew ?_ | refine blk_alloc ?_ _)); exact BK210.out⟩, ⟨by (with_reducible repeat (first | refine blk_drewN ?_ _ | refine blk_drew ?_ | refine blk_alloc ?_ _)); exact BK211.out⟩, ⟨by (with_reducible repeat (first | refine blk_drewN ?_ _ | refine blk_drew ?_ | refine blk_alloc ?_ _)); exact BK212.out⟩, ⟨by repeat (first | (with_reducible first | exact HB.out | apply below_alloc | apply pw_below_drewN | apply below_drew1 | refine below_set ?_ GE210.out | refine below_set ?_ GE211.out | refine below_set ?_ GE212.out) | exact HB.out)⟩⟩
  clear H'
  try clear c1
  try clear c2
  try clear p2
  try clear q2
  try clear hx2
  try clear c4
  try clear p6
  try clear c7
  try clear c8
  try clear c11
  try clear c11b0
  try clear c12
  try clear c12b0
  try clear c13
  try clear c13b0
  try clear c15
  try clear c17
  try clear c18
  try clear c19
  try clear c21
  try clear p21
  try clear q21
  try clear hx21
  try clear c25
  try clear c28
  try clear c29
  try clear hcz10_0
  try clear hcz10_1
  try clear hcz10_2
  try clear hcz10_3
  try clear hcz20_0
  try clear hcz20_1
  try clear hcz20_2
  try clear hcz20_3
  try clear hcz20_4
  try clear hcz20_5
  try clear hcz20_6
  try clear hcz20_7
  try clear hcz30_0
  try clear hcz30_1
  try clear hcz30_2
  try clear hcz30_3
  try clear hcz5_0
  try clear hcz5_1
  try clear hcz5_2
  try clear hcz5_3
  try clear hcz9_0
  try clear hcz9_1
  try clear hcz9_2
  try clear hcz9_3
  try clear hfz10_0
  try clear hfz10_1
  try clear hfz10_2
  try clear hfz10_3
  try clear hfz20_0
  try clear hfz20_1
  try clear hfz20_2
  try clear hfz20_3
  try clear hfz20_4
  try clear hfz20_5
  try clear hfz20_6
  try clear hfz20_7
  try clear hfz30_0
  try clear hfz30_1
  try clear hfz30_2
  try clear hfz30_3
  try clear hfz5_0
  try clear hfz5_1
  try clear hfz5_2
  try clear hfz5_3
  try clear hfz9_0
  try clear hfz9_1
  try clear hfz9_2
  try clear hfz9_3
  try clear hx213_0
  try clear hx213_1
  try clear hx213_2
  try clear hx213_3
  try clear hx213_4
  try clear hx213_5
  try clear hx213_6
  try clear hx213_7
  try clear p2
  try clear p213
  try clear q213
  obtain ⟨x29_2, x213002_2, u213002, rfl, HA, HK2, HO_213001, HO_213002, BK210, BK211, BK212, HB⟩ := hrel
  cases gk with
  | zero => exact absurd HA.out (by simp [topo_Copy.l1])
  | succ k2 => ?_
  have H := HA.out
  clear HA
  simp only [topo_Copy.l1] at H
  by_cases c31 : x29_2 < (l0_2.length : Int)
  rotate_left
  ·rw [if_neg c31] at H
   have c31b0 : decide (x29_2 < (l0_2.length : Int)) = false := decide_eq_false c31
   clear c31
   obtain ⟨y238, hy238⟩ : ∃ y_ : List (S59), y_ = (([] : List (S59))) := ⟨_, rfl⟩
   replace H : (if y238.length + l0_3.length < 8796093022208 then (some (a0_0, x213001_1, x213002_2, (y238 ++ l0_3))) else (none)) = some (r1, r2, r3, r4) := by first | (rw [hy238]; with_reducible exact H) | (have H2_ := (Option.bind_some _ _).symm.trans H; rw [hy238]; with_reducible exact H2_) | (have H2_ := (Option.bind_some _ _).symm.trans H; with_reducible exact H2_) | with_reducible exact H | (rw [hy238]; exact H) | exact H
   have Ny238 := Aside0.mk hy238
   clear hy238
   by_cases c44 : y238.length + l0_3.length < 8796093022208
   rotate_left
   ·rw [if_neg c44] at H
    exact absurd H (by simp)
   rw [if_pos c44] at H
   have LMc44 := Aside0.mk c44
   clear c44
   obtain ⟨y241, hy241⟩ : ∃ y_ : List (S59), y_ = (y238 ++ l0_3) := ⟨_, rfl⟩
   replace H : (some (a0_0, x213001_1, x213002_2, y241)) = some (r1, r2, r3, r4) := by first | (rw [hy241]; with_reducible exact H) | (have H2_ := (Option.bind_some _ _).symm.trans H; rw [hy241]; with_reducible exact H2_) | (have H2_ := (Option.bind_some _ _).symm.trans H; with_reducible exact H2_) | with_reducible exact H | (rw [hy241]; exact H) | exact H
   have Ny241 := Aside0.mk hy241
   clear hy241
   simp only [Option.some.injEq, Prod.mk.injEq] at H
   obtain ⟨rfl, rfl, rfl, rfl⟩ := H
   go_wp2_with (first | ((with_reducible refine gate_dst (N := 42) rfl ?_); refine Kd.R_lit k59 _ 59 ?hg (N := 42) ?hd (xs := ([] : List (S59))) (inner := []) (ok := fun _ => True) (okp := fun _ => True) ?hr ?hp (fun _ hk => hk) trivial (Below.refl _ _) (Nat.le_refl _) (by simp) ?_; (case hd => rfl); (case hg => rfl); (case hr => first | (go_simp; done) | (go_simp; rfl)); (case hp => exact (Reps.none _ _)); intro v239 w45 ho46 hb hg_ hnew_; clear hg_ hnew_; (first | rw [← Ny238.out] at ho46 | (simp only [Int.reduceToNat] at ho46; rw [← Ny238.out] at ho46)); have n0_ := Aside0.mk (Kd.S_below (by (with_reducible repeat (first | apply Kd.S_alloc | apply Kd.S_drewN | apply Kd.S_drew)); exact HO_213001.out) hb); have n1_ := Aside0.mk (Kd.S_below (by (with_reducible repeat (first | apply Kd.S_alloc | apply Kd.S_drewN | apply Kd.S_drew)); exact HO_213002.out) hb); have n2_ := Aside0.mk (Kd.R_lower ho46 (below_size (by repeat (first | (with_reducible first | exact HB.out | apply below_alloc | apply pw_below_drewN | apply below_drew1 | refine below_set ?_ GE210.out | refine below_set ?_ GE211.out | refine below_set ?_ GE212.out) | exact HB.out)))); have n3_ := Aside0.mk (blk_below (g := gb210) (o := .cells #[.int .i64 a0_0, .slice A0_1 l0_1.length c0_1, .slice A0_2 l0_2.length c0_2, .slice A0_3 l0_3.length c0_3] 26 (0, 0)) (by (with_reducible repeat (first | refine blk_drewN ?_ _ | refine blk_drew ?_ | refine blk_alloc ?_ _)); exact BK210.out) hb); have n4_ := Aside0.mk (blk_below (g := gb211) (o := .cells #[.int .i64 0, .slice none 0 0, .slice none 0 0, .slice none 0 0] 26 (0, 0)) (by (with_reducible repeat (first | refine blk_drewN ?_ _ | refine blk_drew ?_ | refine blk_alloc ?_ _)); exact BK211.out) hb); have n5_ := Aside0.mk (blk_below (g := gb212) (o := .cells #[.int .i64 a0_0, u213001, u213002, .slice A0_3 l0_3.length c0_3] 26 (0, 0)) (by (with_reducible repeat (first | refine blk_drewN ?_ _ | refine blk_drew ?_ | refine blk_alloc ?_ _)); exact BK212.out) hb); have n6_ := Aside0.mk (below_step (by repeat (first | (with_reducible first | exact HB.out | apply below_alloc | apply pw_below_drewN | apply below_drew1 | refine below_set ?_ GE210.out | refine below_set ?_ GE211.out | refine below_set ?_ GE212.out) | exact HB.out)) hb); clear HO_213001; clear HO_213002; clear BK210; clear BK211; clear BK212; clear HB; have HO_213001 := n0_; have HO_213002 := n1_; have HO240 := n2_; have BK210 := n3_; have BK211 := n4_; have BK212 := n5_; have HB := n6_; clear n0_ n1_ n2_ n3_ n4_ n5_ n6_; clear hb ho46; have hnb47 := NB210_211.out; have hnc47 := NB211_210.out; have hnb48 := NB210_212.out; have hnc48 := NB212_210.out; have hcz49_0 : w45.cell? ⟨gb210, 0, none⟩ = some (.int .i64 a0_0) := (blk_cell BK210.out 0).trans rfl; have hcz49_1 : w45.cell? ⟨gb210, 1, none⟩ = some (.slice A0_1 l0_1.length c0_1) := (blk_cell BK210.out 1).trans rfl; have hcz49_2 : w45.cell? ⟨gb210, 2, none⟩ = some (.slice A0_2 l0_2.length c0_2) := (blk_cell BK210.out 2).trans rfl; have hcz49_3 : w45.cell? ⟨gb210, 3, none⟩ = some (.slice A0_3 l0_3.length c0_3) := (blk_cell BK210.out 3).trans rfl; have hfz49_0 := blk_frozen BK210.out 0; have hfz49_1 := blk_frozen BK210.out 1; have hfz49_2 := blk_frozen BK210.out 2; have hfz49_3 := blk_frozen BK210.out 3) | ((with_reducible refine gate_builtin (b := .append) (xs := #[.tmp 42, .tmp 44]) rfl ?_); at_builtin; refine Kd.R_append_rows k59 (w0 := w) w.heap.size rfl (.tmp 42) (.tmp 44) 24 59 (.agg #[(.int .u64 0), (.int .i64 0)]) 16 rfl Try.underlying24 info59 rfl (by decide) (by omega) v239 y238 l0_3 _ _ _ (fun _ => True) (fun _ => False) rfl rfl ?aO ?aR (fun _ _ h => h) (fun _ h => h.elim) ?aF ?aB ?aS ?aL ?_; (case aR => repeat (first | exact (Kd.C_below HR0_3.out HB.out) | (with_reducible refine Kd.C_alloc ?_ _) | (with_reducible refine Kd.C_drewN ?_ _) | (with_reducible refine Kd.C_drew ?_))); (case aB => exact (by repeat (first | (with_reducible first | exact HB.out | apply below_alloc | apply pw_below_drewN | apply below_drew1 | refine below_set ?_ GE210.out | refine below_set ?_ GE211.out | refine below_set ?_ GE212.out) | exact HB.out))); (case aF => exact (fun _ _ => trivial)); (case aO => exact (by (with_reducible repeat (first | apply Kd.R_alloc | apply Kd.R_drewN | apply Kd.R_drew)); exact HO240.out)); (case aS => exact (below_size (by repeat (first | (with_reducible first | exact HB.out | apply below_alloc | apply pw_below_drewN | apply below_drew1 | refine below_set ?_ GE210.out | refine below_set ?_ GE211.out | refine below_set ?_ GE212.out) | exact HB.out)))); (case aL => have := LMc44.out; omega); intro v242 w50 ho hb hg hat; rw [← Ny241.out] at ho; have n0_ := Aside0.mk (Kd.S_over' (by (with_reducible repeat (first | apply Kd.S_alloc | apply Kd.S_drewN | apply Kd.S_drew)); exact HO_213001.out) (Kd.R_typed (by (with_reducible repeat (first | apply Kd.R_alloc | apply Kd.R_drewN | apply Kd.R_drew)); exact HO240.out)) (by decide) hg); have n1_ := Aside0.mk (Kd.S_over' (by (with_reducible repeat (first | apply Kd.S_alloc | apply Kd.S_drewN | apply Kd.S_drew)); exact HO_213002.out) (Kd.R_typed (by (with_reducible repeat (first | apply Kd.R_alloc | apply Kd.R_drewN | apply Kd.R_drew)); exact HO240.out)) (by decide) hg); have n2_ := Aside0.mk (blk_grown (g := gb210) (o := .cells #[.int .i64 a0_0, .slice A0_1 l0_1.length c0_1, .slice A0_2 l0_2.length c0_2, .slice A0_3 l0_3.length c0_3] 26 (0, 0)) (by (with_reducible repeat (first | refine blk_drewN ?_ _ | refine blk_drew ?_ | refine blk_alloc ?_ _)); exact BK210.out) hg (Kd.R_ne HO240.out BK210.out (by decide))); have n3_ := Aside0.mk (blk_grown (g := gb211) (o := .cells #[.int .i64 0, .slice none 0 0, .slice none 0 0, .slice none 0 0] 26 (0, 0)) (by (with_reducible repeat (first | refine blk_drewN ?_ _ | refine blk_drew ?_ | refine blk_alloc ?_ _)); exact BK211.out) hg (Kd.R_ne HO240.out BK211.out (by decide))); have n4_ := Aside0.mk (blk_grown (g := gb212) (o := .cells #[.int .i64 a0_0, u213001, u213002, .slice A0_3 l0_3.length c0_3] 26 (0, 0)) (by (with_reducible repeat (first | refine blk_drewN ?_ _ | refine blk_drew ?_ | refine blk_alloc ?_ _)); exact BK212.out) hg (Kd.R_ne HO240.out BK212.out (by decide))); have n5_ := Aside0.mk (hb); have n6_ := Aside0.mk (ho); clear HO_213001; clear HO_213002; clear BK210; clear BK211; clear BK212; clear HB; clear HO240; have HO_213001 := n0_; have HO_213002 := n1_; have BK210 := n2_; have BK211 := n3_; have BK212 := n4_; have HB := n5_; have HO243 := n6_; clear n0_ n1_ n2_ n3_ n4_ n5_ n6_; clear ho hb hg hat; obtain ⟨Ao51, co51, eo51⟩ := Kd.R_slice HO243.out; subst eo51; have hnb52 := NB212_211.out; have hnc52 := NB211_212.out; have hcz53_0 : w50.cell? ⟨gb212, 0, none⟩ = some (.int .i64 a0_0) := (blk_cell BK212.out 0).trans rfl; have hcz53_1 : w50.cell? ⟨gb212, 1, none⟩ = some (u213001) := (blk_cell BK212.out 1).trans rfl; have hcz53_2 : w50.cell? ⟨gb212, 2, none⟩ = some (u213002) := (blk_cell BK212.out 2).trans rfl; have hcz53_3 : w50.cell? ⟨gb212, 3, none⟩ = some (.slice A0_3 l0_3.length c0_3) := (blk_cell BK212.out 3).trans rfl; have hfz53_0 := blk_frozen BK212.out 0; have hfz53_1 := blk_frozen BK212.out 1; have hfz53_2 := blk_frozen BK212.out 2; have hfz53_3 := blk_frozen BK212.out 3; have hcz54_0 : w50.cell? ⟨gb211, 0, none⟩ = some (.int .i64 0) := (blk_cell BK211.out 0).trans rfl; have hcz54_1 : w50.cell? ⟨gb211, 1, none⟩ = some (.slice none 0 0) := (blk_cell BK211.out 1).trans rfl; have hcz54_2 : w50.cell? ⟨gb211, 2, none⟩ = some (.slice none 0 0) := (blk_cell BK211.out 2).trans rfl; have hcz54_3 : w50.cell? ⟨gb211, 3, none⟩ = some (.slice none 0 0) := (blk_cell BK211.out 3).trans rfl; have hfz54_0 := blk_frozen BK211.out 0; have hfz54_1 := blk_frozen BK211.out 1; have hfz54_2 := blk_frozen BK211.out 2; have hfz54_3 := blk_frozen BK211.out 3; obtain ⟨Ao55, co55, eo55⟩ := Kd.S_slice HO_213001.out; subst eo55; obtain ⟨Ao56, co56, eo56⟩ := Kd.S_slice HO_213002.out; subst eo56))
   refine bodyPost_ret (results_cell_row rfl _ _ gb211 26 #[.int .i64 a0_0, .slice Ao55 x213001_1.length co55, .slice Ao56 x213002_2.length co56, .slice Ao51 y241.length co51] (0, 0) _ rfl (by (with_reducible repeat (first | refine blk_drewN ?_ _ | refine blk_drew ?_ | refine blk_alloc ?_ _)); refine blk_put (cs := #[.int .i64 a0_0, .slice Ao55 x213001_1.length co55, .slice Ao56 x213002_2.length co56, .slice none 0 0]) ?_ 3 _ rfl; (with_reducible repeat (first | refine blk_drewN ?_ _ | refine blk_drew ?_ | refine blk_alloc ?_ _)); refine blk_put (cs := #[.int .i64 a0_0, .slice Ao55 x213001_1.length co55, .slice none 0 0, .slice none 0 0]) ?_ 2 _ rfl; (with_reducible repeat (first | refine blk_drewN ?_ _ | refine blk_drew ?_ | refine blk_alloc ?_ _)); refine blk_put (cs := #[.int .i64 a0_0, .slice none 0 0, .slice none 0 0, .slice none 0 0]) ?_ 1 _ rfl; (with_reducible repeat (first | refine blk_drewN ?_ _ | refine blk_drew ?_ | refine blk_alloc ?_ _)); refine blk_put (cs := #[.int .i64 0, .slice none 0 0, .slice none 0 0, .slice none 0 0]) ?_ 0 _ rfl; (with_reducible repeat (first | refine blk_drewN ?_ _ | refine blk_drew ?_ | refine blk_alloc ?_ _)); refine blk_far ?_ NB211_212.out _; (with_reducible repeat (first | refine blk_drewN ?_ _ | refine blk_drew ?_ | refine blk_alloc ?_ _)); exact BK211.out) Try.underlying26 rfl (by kernel_rfl)) rfl ?_
   exact ⟨_, _, _, by first | rfl | (simp [errW_none, errW_some] <;> rfl) | (simp [*, errW_none, errW_some] <;> rfl), by (with_reducible repeat (first | apply Kd.S_alloc | apply Kd.S_drewN | apply Kd.S_drew)); exact Kd.S_mono (Kd.S_far (p := ⟨gb211, 3, none⟩) (Kd.S_far (p := ⟨gb211, 2, none⟩) (Kd.S_far (p := ⟨gb211, 1, none⟩) (Kd.S_far (p := ⟨gb211, 0, none⟩) (Kd.S_far (p := ⟨gb212, 3, none⟩) (Kd.S_types (Kd.S_types HO_213001.out BK212.out (by decide)) BK211.out (by decide)) (fun _ hk => hk.1.2) (.slice Ao51 y241.length co51)) (fun _ hk => hk.2) (.int .i64 a0_0)) (fun _ hk => hk.2) (.slice Ao55 x213001_1.length co55)) (fun _ hk => hk.2) (.slice Ao56 x213002_2.length co56)) (fun _ hk => hk.2) (.slice Ao51 y241.length co51)) (fun _ hk => trivial), by (with_reducible repeat (first | apply Kd.S_alloc | apply Kd.S_drewN | apply Kd.S_drew)); exact Kd.S_mono (Kd.S_far (p := ⟨gb211, 3, none⟩) (Kd.S_far (p := ⟨gb211, 2, none⟩) (Kd.S_far (p := ⟨gb211, 1, none⟩) (Kd.S_far (p := ⟨gb211, 0, none⟩) (Kd.S_far (p := ⟨gb212, 3, none⟩) (Kd.S_types (Kd.S_types HO_213002.out BK212.out (by decide)) BK211.out (by decide)) (fun _ hk => hk.1.2) (.slice Ao51 y241.length co51)) (fun _ hk => hk.2) (.int .i64 a0_0)) (fun _ hk => hk.2) (.slice Ao55 x213001_1.length co55)) (fun _ hk => hk.2) (.slice Ao56 x213002_2.length co56)) (fun _ hk => hk.2) (.slice Ao51 y241.length co51)) (fun _ hk => trivial), by (with_reducible repeat (first | apply Kd.R_alloc | apply Kd.R_drewN | apply Kd.R_drew)); exact Kd.R_mono (Kd.R_far (p := ⟨gb211, 3, none⟩) (Kd.R_far (p := ⟨gb211, 2, none⟩) (Kd.R_far (p := ⟨gb211, 1, none⟩) (Kd.R_far (p := ⟨gb211, 0, none⟩) (Kd.R_far (p := ⟨gb212, 3, none⟩) (Kd.R_types (Kd.R_types HO243.out BK212.out (by decide)) BK211.out (by decide)) (fun _ hk => hk.1.2) (.slice Ao51 y241.length co51)) (fun _ hk => hk.2) (.int .i64 a0_0)) (fun _ hk => hk.2) (.slice Ao55 x213001_1.length co55)) (fun _ hk => hk.2) (.slice Ao56 x213002_2.length co56)) (fun _ hk => hk.2) (.slice Ao51 y241.length co51)) (fun _ hk => trivial), by repeat (first | (with_reducible first | exact HB.out | apply below_alloc | apply pw_below_drewN | apply below_drew1 | refine below_set ?_ GE210.out | refine below_set ?_ GE211.out | refine below_set ?_ GE212.out) | exact HB.out)⟩
  rw [if_pos c31] at H
  have c31b0 : decide (x29_2 < (l0_2.length : Int)) = true := decide_eq_true c31
  clear c31
  by_cases c32 : 0 ≤ x29_2
  rotate_left
  ·rw [if_neg c32] at H
   exact absurd H (by simp)
  rw [if_pos c32] at H
  have c32b0 : decide (0 ≤ x29_2) = true := decide_eq_true c32
  clear c32
  by_cases c33 : x29_2 < (l0_2.length : Int)
  rotate_left
  ·rw [if_neg c33] at H
   exact absurd H (by simp)
  rw [if_pos c33] at H
  have c33b0 : decide (x29_2 < (l0_2.length : Int)) = true := decide_eq_true c33
  clear c33
  obtain ⟨y229, hy229⟩ : ∃ y_ : List Int, y_ = (([] : List Int)) := ⟨_, rfl⟩
  replace H : (if y229.length + (rd_L9 l0_2 x29_2).length < 17592186044416 then (if x213002_2.length < 5864062014805 then (topo_Copy.l1 k2 l0_2 (l0_2.length : Int) (wrap64 (x29_2 + 1)) a0_0 l0_1 l0_2 l0_3 a0_0 x213001_1 (x213002_2 ++ [(y229 ++ (rd_L9 l0_2 x29_2))]) l0_3) else (none)) else (none)) = some (r1, r2, r3, r4) := by first | (rw [hy229]; with_reducible exact H) | (have H2_ := (Option.bind_some _ _).symm.trans H; rw [hy229]; with_reducible exact H2_) | (have H2_ := (Option.bind_some _ _).symm.trans H; with_reducible exact H2_) | with_reducible exact H | (rw [hy229]; exact H) | exact H
  have Ny229 := Aside0.mk hy229
  clear hy229
  by_cases c34 : y229.length + (rd_L9 l0_2 x29_2).length < 17592186044416
  rotate_left
  ·rw [if_neg c34] at H
   exact absurd H (by simp)
  rw [if_pos c34] at H
  have LMc34 := Aside0.mk c34
  clear c34
  obtain ⟨y232, hy232⟩ : ∃ y_ : List Int, y_ = (y229 ++ (rd_L9 l0_2 x29_2)) := ⟨_, rfl⟩
  replace H : (if x213002_2.length < 5864062014805 then (topo_Copy.l1 k2 l0_2 (l0_2.length : Int) (wrap64 (x29_2 + 1)) a0_0 l0_1 l0_2 l0_3 a0_0 x213001_1 (x213002_2 ++ [y232]) l0_3) else (none)) = some (r1, r2, r3, r4) := by first | (rw [hy232]; with_reducible exact H) | (have H2_ := (Option.bind_some _ _).symm.trans H; rw [hy232]; with_reducible exact H2_) | (have H2_ := (Option.bind_some _ _).symm.trans H; with_reducible exact H2_) | with_reducible exact H | (rw [hy232]; exact H) | exact H
  have Ny232 := Aside0.mk hy232
  clear hy232
  by_cases c35 : x213002_2.length < 5864062014805
  rotate_left
  ·rw [if_neg c35] at H
   exact absurd H (by simp)
  rw [if_pos c35] at H
  have LMc35 := Aside0.mk c35
  clear c35
  obtain ⟨y235, hy235⟩ : ∃ y_ : List (List Int), y_ = (x213002_2 ++ [y232]) := ⟨_, rfl⟩
  replace H : (topo_Copy.l1 k2 l0_2 (l0_2.length : Int) (wrap64 (x29_2 + 1)) a0_0 l0_1 l0_2 l0_3 a0_0 x213001_1 y235 l0_3) = some (r1, r2, r3, r4) := by first | (rw [hy235]; with_reducible exact H) | (have H2_ := (Option.bind_some _ _).symm.trans H; rw [hy235]; with_reducible exact H2_) | (have H2_ := (Option.bind_some _ _).symm.trans H; with_reducible exact H2_) | with_reducible exact H | (rw [hy235]; exact H) | exact H
  have Ny235 := Aside0.mk hy235
  clear hy235
  have H' := Aside0.mk H
  clear H
  have p228 : 0 ≤ (x29_2 : Int) := of_decide_eq_true (by first | (with_reducible assumption) | assumption)
  have q228 : x29_2 < (l0_2.length : Int) := of_decide_eq_true (by first | (with_reducible assumption) | assumption)
  obtain ⟨ad228, A228_0, c228_0, e228, hx228_0, hl228_0, hi228_0⟩ := at_L9 HR0_2.out x29_2 p228 q228
  cases e228
  replace hx228_0 := (HB.out.cell (World.block_lt_of_cell? w _ hx228_0)).trans hx228_0
  have HR228_0 := Aside0.mk hi228_0
  have HC228_0 := Aside0.mk hl228_0
  clear hi228_0 hl228_0
  replace p228 := eq_true p228
  replace q228 := eq_true q228
  try go_wp2
  have n0_ := Aside0.mk (Kd.S_drew HO_213001.out)
  have n1_ := Aside0.mk (Kd.S_drew HO_213002.out)
  have n2_ := Aside0.mk (blk_drew BK210.out)
  have n3_ := Aside0.mk (blk_drew BK211.out)
  have n4_ := Aside0.mk (blk_drew BK212.out)
  have n5_ := Aside0.mk (below_drew1 HB.out)
  clear HO_213001
  clear HO_213002
  clear BK210
  clear BK211
  clear BK212
  clear HB
  have HO_213001 := n0_
  have HO_213002 := n1_
  have BK210 := n2_
  have BK211 := n3_
  have BK212 := n4_
  have HB := n5_
  clear n0_ n1_ n2_ n3_ n4_ n5_
  refine start_ (n := 9) (S := fun w' => w'.cell? ⟨gb212, 0, none⟩ = some (.int .i64 a0_0) ∧ w'.cell? ⟨gb212, 1, none⟩ = some (u213001) ∧ w'.cell? ⟨gb212, 2, none⟩ = some (u213002) ∧ w'.cell? ⟨gb212, 3, none⟩ = some (.slice A0_3 l0_3.length c0_3)) (ds := [8]) #[false, false, false, false, false, false, false, false, false] (by kernel_rfl) rfl rfl ⟨(blk_cell BK212.out 0).trans rfl, (blk_cell BK212.out 1).trans rfl, (blk_cell BK212.out 2).trans rfl, (blk_cell BK212.out 3).trans rfl⟩ (fun hHeld => ?_); refine with_tabW topo_Copy.tab11 topo_Copy.bits11 (fun HT_ HW_ => ?_)
  generalize wr.drew = w36 at HO_213001 HO_213002 BK210 BK211 BK212 HB hHeld ⊢
  refine pure_ (i := 0) (N := some 33) (v := ?_) (a' := ?_) #[true, false, false, false, false, false, false, false, false] rfl rfl (any_of HT_.out (by kernel_rfl)) (fun _ _ _ h => h) (Or.inl ⟨by rfl, ?_⟩) ?_ ?_
  rotate_left
  ·intro w'
   go_simp
   with_reducible rfl
  rotate_left
  ·simp only [Act.put, List.setIfInBounds_toArray, List.set_cons_zero, List.set_cons_succ, i64_w, i32_w]
   rfl
  refine pure_ (i := 3) (N := some 36) (v := ?_) (a' := ?_) #[true, false, false, true, false, false, false, false, false] rfl rfl (any_of HT_.out (by kernel_rfl)) (fun _ _ _ h => h) (Or.inl ⟨by rfl, ?_⟩) ?_ ?_
  rotate_left
  ·intro w'
   go_simp
   with_reducible rfl
  rotate_left
  ·simp only [Act.put, List.setIfInBounds_toArray, List.set_cons_zero, List.set_cons_succ, i64_w, i32_w]
   rfl
  refine take_ (i := 1) (N := some 34) (v := ?_) (a' := ?_) #[true, true, false, true, false, false, false, false, false] rfl rfl (take_ofW HT_.out HW_.out (by kernel_rfl)) (fun _ _ _ h => h) (Or.inl ⟨by rfl, ?_⟩) hHeld ?_ ?_
  rotate_left
  ·rintro w' ⟨s0, s1, s2, s3⟩
   go_simp
   with_reducible rfl
  rotate_left
  ·simp only [Act.put, List.setIfInBounds_toArray, List.set_cons_zero, List.set_cons_succ, i64_w, i32_w]
   rfl
  refine one_ (i := 2) (N := some 35) #[true, true, true, true, false, false, false, false, false] rfl rfl (one_of HT_.out (by kernel_rfl)) (by decide) (fun K hK => ?_)
  refine Kd.R_lit_step (Kd.int .i64) _ 3 ?hg (N := 35) ?hd (xs := ([] : List Int)) (inner := []) (ok := fun _ => True) (okp := fun _ => True) ?hr ?hp (fun _ hk => hk) trivial (Below.refl _ _) (Nat.le_refl _) (by simp) ?_; (case hd => rfl); (case hg => rfl); (case hr => first | (go_simp; done) | (go_simp; rfl)); (case hp => exact (Reps.none _ _))
  intro v230 w37 ho38 hb hg_ hnew_
  clear hg_ hnew_
  (first | rw [← Ny229.out] at ho38 | (simp only [Int.reduceToNat] at ho38; rw [← Ny229.out] at ho38))
  have n0_ := Aside0.mk (Kd.S_below (by (with_reducible repeat (first | apply Kd.S_alloc | apply Kd.S_drewN | apply Kd.S_drew)); exact HO_213001.out) hb)
  have n1_ := Aside0.mk (Kd.S_elder' (by (with_reducible repeat (first | apply Kd.S_alloc | apply Kd.S_drewN | apply Kd.S_drew)); exact HO_213002.out) (Kd.R_base ho38) hb)
  have n2_ := Aside0.mk (Kd.R_lower ho38 (below_size (by repeat (first | (with_reducible first | exact HB.out | apply below_alloc | apply pw_below_drewN | apply below_drew1 | refine below_set ?_ GE210.out | refine below_set ?_ GE211.out | refine below_set ?_ GE212.out) | exact HB.out))))
  have n3_ := Aside0.mk (blk_below (g := gb210) (o := .cells #[.int .i64 a0_0, .slice A0_1 l0_1.length c0_1, .slice (some ad228) l0_2.length c0_2, .slice A0_3 l0_3.length c0_3] 26 (0, 0)) (by (with_reducible repeat (first | refine blk_drewN ?_ _ | refine blk_drew ?_ | refine blk_alloc ?_ _)); exact BK210.out) hb)
  have n4_ := Aside0.mk (blk_below (g := gb211) (o := .cells #[.int .i64 0, .slice none 0 0, .slice none 0 0, .slice none 0 0] 26 (0, 0)) (by (with_reducible repeat (first | refine blk_drewN ?_ _ | refine blk_drew ?_ | refine blk_alloc ?_ _)); exact BK211.out) hb)
  have n5_ := Aside0.mk (blk_below (g := gb212) (o := .cells #[.int .i64 a0_0, u213001, u213002, .slice A0_3 l0_3.length c0_3] 26 (0, 0)) (by (with_reducible repeat (first | refine blk_drewN ?_ _ | refine blk_drew ?_ | refine blk_alloc ?_ _)); exact BK212.out) hb)
  have n6_ := Aside0.mk (below_step (by repeat (first | (with_reducible first | exact HB.out | apply below_alloc | apply pw_below_drewN | apply below_drew1 | refine below_set ?_ GE210.out | refine below_set ?_ GE211.out | refine below_set ?_ GE212.out) | exact HB.out)) hb)
  clear HO_213001
  clear HO_213002
  clear BK210
  clear BK211
  clear BK212
  clear HB
  have HO_213001 := n0_
  have HO_213002 := n1_
  have HO231 := n2_
  have BK210 := n3_
  have BK211 := n4_
  have BK212 := n5_
  have HB := n6_
  clear n0_ n1_ n2_ n3_ n4_ n5_ n6_
  clear hb ho38
  refine hK.out _ _ ⟨(blk_cell BK212.out 0).trans rfl, (blk_cell BK212.out 1).trans rfl, (blk_cell BK212.out 2).trans rfl, (blk_cell BK212.out 3).trans rfl⟩ (fun hHeld => ?_)
  clear hK K
  refine norm_ (a' := ?_) ?_ ?_
  rotate_left
  ·show Act.put _ (some 35) _ = _
   simp only [Act.put, List.setIfInBounds_toArray, List.set_cons_zero, List.set_cons_succ, i64_w, i32_w]
   rfl
  refine one_ (i := 4) (N := some 37) #[true, true, true, true, true, false, false, false, false] rfl rfl (one_of HT_.out (by kernel_rfl)) (by decide) (fun K hK => ?_)
  refine Kd.R_append_rows_step (Kd.int .i64) (w0 := w) w.heap.size (by rfl) (.tmp 35) (.tmp 36) 33 3 (.int .i64 0) 8 rfl Try.underlying33 info3 rfl (by decide) (by omega) v230 y229 (rd_L9 l0_2 x29_2) _ _ _ (fun _ => True) (fun _ => False) rfl rfl ?aO ?aR (fun _ _ h => h) (fun _ h => h.elim) ?aF ?aB ?aS ?aL ?_
  (case aR => repeat (first | exact (Kd.C_below HR228_0.out HB.out) | (with_reducible refine Kd.C_alloc ?_ _) | (with_reducible refine Kd.C_drewN ?_ _) | (with_reducible refine Kd.C_drew ?_)))
  (case aB => exact (by repeat (first | (with_reducible first | exact HB.out | apply below_alloc | apply pw_below_drewN | apply below_drew1 | refine below_set ?_ GE210.out | refine below_set ?_ GE211.out | refine below_set ?_ GE212.out) | exact HB.out)))
  (case aF => exact (fun _ _ => trivial))
  (case aO => exact (by (with_reducible repeat (first | apply Kd.R_alloc | apply Kd.R_drewN | apply Kd.R_drew)); exact HO231.out))
  (case aS => exact (below_size (by repeat (first | (with_reducible first | exact HB.out | apply below_alloc | apply pw_below_drewN | apply below_drew1 | refine below_set ?_ GE210.out | refine below_set ?_ GE211.out | refine below_set ?_ GE212.out) | exact HB.out))))
  (case aL => have := LMc34.out; omega)
  intro v233 w39 ho hb hg hat
  rw [← Ny232.out] at ho
  have n0_ := Aside0.mk (Kd.S_over' (by (with_reducible repeat (first | apply Kd.S_alloc | apply Kd.S_drewN | apply Kd.S_drew)); exact HO_213001.out) (Kd.R_typed (by (with_reducible repeat (first | apply Kd.R_alloc | apply Kd.R_drewN | apply Kd.R_drew)); exact HO231.out)) (by decide) hg)
  have n1_ := Aside0.mk (Kd.S_after (ok := (fun _ => True)) (by (with_reducible repeat (first | apply Kd.S_alloc | apply Kd.S_drewN | apply Kd.S_drew)); exact HO_213002.out) hg hat)
  have n2_ := Aside0.mk (blk_grown (g := gb210) (o := .cells #[.int .i64 a0_0, .slice A0_1 l0_1.length c0_1, .slice (some ad228) l0_2.length c0_2, .slice A0_3 l0_3.length c0_3] 26 (0, 0)) (by (with_reducible repeat (first | refine blk_drewN ?_ _ | refine blk_drew ?_ | refine blk_alloc ?_ _)); exact BK210.out) hg (Kd.R_ne HO231.out BK210.out (by decide)))
  have n3_ := Aside0.mk (blk_grown (g := gb211) (o := .cells #[.int .i64 0, .slice none 0 0, .slice none 0 0, .slice none 0 0] 26 (0, 0)) (by (with_reducible repeat (first | refine blk_drewN ?_ _ | refine blk_drew ?_ | refine blk_alloc ?_ _)); exact BK211.out) hg (Kd.R_ne HO231.out BK211.out (by decide)))
  have n4_ := Aside0.mk (blk_grown (g := gb212) (o := .cells #[.int .i64 a0_0, u213001, u213002, .slice A0_3 l0_3.length c0_3] 26 (0, 0)) (by (with_reducible repeat (first | refine blk_drewN ?_ _ | refine blk_drew ?_ | refine blk_alloc ?_ _)); exact BK212.out) hg (Kd.R_ne HO231.out BK212.out (by decide)))
  have n5_ := Aside0.mk (hb)
  have n6_ := Aside0.mk (ho)
  clear HO_213001
  clear HO_213002
  clear BK210
  clear BK211
  clear BK212
  clear HB
  clear HO231
  have HO_213001 := n0_
  have HO_213002 := n1_
  have BK210 := n2_
  have BK211 := n3_
  have BK212 := n4_
  have HB := n5_
  have HO234 := n6_
  clear n0_ n1_ n2_ n3_ n4_ n5_ n6_
  clear ho hb hg hat
  obtain ⟨Ao41, co41, eo41⟩ := Kd.R_slice HO234.out
  (first | subst eo41 | (injection eo41 with f1_ f2_ f3_; have f4_ := f1_.symm; have f5_ := f3_.symm; clear f1_ f2_ f3_; subst f4_; subst f5_))
  refine hK.out _ _ ⟨(blk_cell BK212.out 0).trans rfl, (blk_cell BK212.out 1).trans rfl, (blk_cell BK212.out 2).trans rfl, (blk_cell BK212.out 3).trans rfl⟩ (fun hHeld => ?_)
  clear hK K
  refine norm_ (a' := ?_) ?_ ?_
  rotate_left
  ·show Act.put _ (some 37) _ = _
   simp only [Act.put, List.setIfInBounds_toArray, List.set_cons_zero, List.set_cons_succ, i64_w, i32_w]
   rfl
  refine one_ (i := 5) (N := some 38) #[true, true, true, true, true, true, false, false, false] rfl rfl (one_of HT_.out (by kernel_rfl)) (by decide) (fun K hK => ?_)
  refine value_ (w1 := ?_) (v := ?_) (by rfl) rfl ?_ ?_
  rotate_left 2
  ·go_simp
   constructor
   ·rfl
   rfl
  refine hK.out _ _ ⟨(blk_cell (blk_alloc BK212.out _) 0).trans rfl, (blk_cell (blk_alloc BK212.out _) 1).trans rfl, (blk_cell (blk_alloc BK212.out _) 2).trans rfl, (blk_cell (blk_alloc BK212.out _) 3).trans rfl⟩ (fun hHeld => ?_)
  clear hK K
  refine norm_ (a' := ?_) ?_ ?_
  rotate_left
  ·show Act.put _ (some 38) _ = _
   simp only [Act.put, List.setIfInBounds_toArray, List.set_cons_zero, List.set_cons_succ, i64_w, i32_w]
   rfl
  refine one_ (i := 6) (N := some 39) #[true, true, true, true, true, true, true, false, false] rfl rfl (one_of HT_.out (by kernel_rfl)) (by decide) (fun K hK => ?_)
  refine Kd.S_append_step (Kd.slice 3 (Kd.int .i64)) (w0 := w) w.heap.size (by rfl) (.tmp 34) (.tmp 38) 23 33 (.slice none 0 0) 24 rfl Try.underlying23 info33 rfl (by decide) (by omega) u213002 x213002_2 y232 [.slice Ao41 y232.length co41] (fun _ => True) (fun k_ => some k_ = (.slice Ao41 y232.length co41 : Value).ownBlock) rfl rfl ?aP (fun k_ hk_ => ((Kd.R_mono (ok' := fun k_ => ((fun _ => True)) k_ ∧ some k_ ≠ (u213002 : Value).ownBlock) (Kd.R_apart' (HO234.out) (Kd.S_typed HO_213002.out) (by decide)) (fun k_ hk => ⟨trivial, hk.2⟩))).1 k_ hk_.symm) ?aF ?aO ?aB ?aS ?aL ?_
  (case aP => exact Kd.M_row (Kd.R_mono (Kd.R_tight rfl (Kd.R_mono (ok' := fun k_ => ((fun _ => True)) k_ ∧ some k_ ≠ (u213002 : Value).ownBlock) (Kd.R_apart' (HO234.out) (Kd.S_typed HO_213002.out) (by decide)) (fun k_ hk => ⟨trivial, hk.2⟩))) (fun _ h_ => h_)))
  (case aB => exact (by repeat (first | (with_reducible first | exact HB.out | apply below_alloc | apply pw_below_drewN | apply below_drew1 | refine below_set ?_ GE210.out | refine below_set ?_ GE211.out | refine below_set ?_ GE212.out) | exact HB.out)))
  (case aF => exact (fun _ _ => trivial))
  (case aO => exact (by (with_reducible repeat (first | apply Kd.S_alloc | apply Kd.S_drewN | apply Kd.S_drew)); exact Kd.S_mono HO_213002.out (fun k_ hk => ⟨trivial, fun e_ => hk.2 e_⟩)))
  (case aS => exact (below_size (by repeat (first | (with_reducible first | exact HB.out | apply below_alloc | apply pw_below_drewN | apply below_drew1 | refine below_set ?_ GE210.out | refine below_set ?_ GE211.out | refine below_set ?_ GE212.out) | exact HB.out))))
  (case aL => have := LMc35.out; omega)
  intro v236 w40 ho hb hg hat
  rw [← Ny235.out] at ho
  have n0_ := Aside0.mk (Kd.S_over' (by (with_reducible repeat (first | apply Kd.S_alloc | apply Kd.S_drewN | apply Kd.S_drew)); exact HO_213001.out) (Kd.S_typed (by (with_reducible repeat (first | apply Kd.S_alloc | apply Kd.S_drewN | apply Kd.S_drew)); exact HO_213002.out)) (by decide) hg)
  have n1_ := Aside0.mk (blk_grown (g := gb210) (o := .cells #[.int .i64 a0_0, .slice A0_1 l0_1.length c0_1, .slice (some ad228) l0_2.length c0_2, .slice A0_3 l0_3.length c0_3] 26 (0, 0)) (by (with_reducible repeat (first | refine blk_drewN ?_ _ | refine blk_drew ?_ | refine blk_alloc ?_ _)); exact BK210.out) hg (Kd.S_ne HO_213002.out BK210.out (by decide)))
  have n2_ := Aside0.mk (blk_grown (g := gb211) (o := .cells #[.int .i64 0, .slice none 0 0, .slice none 0 0, .slice none 0 0] 26 (0, 0)) (by (with_reducible repeat (first | refine blk_drewN ?_ _ | refine blk_drew ?_ | refine blk_alloc ?_ _)); exact BK211.out) hg (Kd.S_ne HO_213002.out BK211.out (by decide)))
  have n3_ := Aside0.mk (blk_grown (g := gb212) (o := .cells #[.int .i64 a0_0, u213001, u213002, .slice A0_3 l0_3.length c0_3] 26 (0, 0)) (by (with_reducible repeat (first | refine blk_drewN ?_ _ | refine blk_drew ?_ | refine blk_alloc ?_ _)); exact BK212.out) hg (Kd.S_ne HO_213002.out BK212.out (by decide)))
  have n4_ := Aside0.mk (hb)
  have n5_ := Aside0.mk (ho)
  clear HO_213001
  clear BK210
  clear BK211
  clear BK212
  clear HB
  clear HO_213002
  clear HO234
  have HO_213001 := n0_
  have BK210 := n1_
  have BK211 := n2_
  have BK212 := n3_
  have HB := n4_
  have HO237 := n5_
  clear n0_ n1_ n2_ n3_ n4_ n5_
  clear ho hb hg hat
  obtain ⟨Ao42, co42, eo42⟩ := Kd.S_slice HO237.out
  (first | subst eo42 | (injection eo42 with f1_ f2_ f3_; have f4_ := f1_.symm; have f5_ := f3_.symm; clear f1_ f2_ f3_; subst f4_; subst f5_))
  refine hK.out _ _ ⟨(blk_cell BK212.out 0).trans rfl, (blk_cell BK212.out 1).trans rfl, (blk_cell BK212.out 2).trans rfl, (blk_cell BK212.out 3).trans rfl⟩ (fun hHeld => ?_)
  clear hK K
  refine norm_ (a' := ?_) ?_ ?_
  rotate_left
  ·show Act.put _ (some 39) _ = _
   simp only [Act.put, List.setIfInBounds_toArray, List.set_cons_zero, List.set_cons_succ, i64_w, i32_w]
   rfl
  refine pure_ (i := 7) (N := some 40) (v := ?_) (a' := ?_) #[true, true, true, true, true, true, true, true, false] rfl rfl (any_of HT_.out (by kernel_rfl)) (fun _ _ _ h => h) (Or.inl ⟨by rfl, ?_⟩) ?_ ?_
  rotate_left
  ·intro w'
   go_simp
   with_reducible rfl
  rotate_left
  ·simp only [Act.put, List.setIfInBounds_toArray, List.set_cons_zero, List.set_cons_succ, i64_w, i32_w]
   rfl
  refine last_ (i := 8) (N := none) #[true, true, true, true, true, true, true, true, true] rfl rfl (one_of HT_.out (by kernel_rfl)) (by decide) (fun K hK => ?_)
  have hs43 : w40.cell? ⟨gb212, 2, none⟩ = some (u213002) := (blk_cell BK212.out 2).trans rfl
  have hfs43 := blk_frozen BK212.out 2
  have hns43_0 := NB210_212.out
  have hns43_1 := NB211_212.out
  have hms43_0 := NB212_210.out
  have hms43_1 := NB212_211.out
  refine skip_ (w1 := ?_) (by rfl) rfl ?_ ?_
  rotate_left
  ·go_simp
   rfl
  refine hK.out _ _ ?_
  clear hK K
  refine done_ (done_of HT_.out (by kernel_rfl)) ?_
  try go_wp2
  go_roundg k2
  case measure => have := HK1.out; have := HK2.out; omega
  case rel => exact ⟨(wrap64 (x29_2 + 1)), (y235), (.slice Ao42 y235.length co42), (by first | rfl | (simp; done) | (simp [*]; done)), H', ⟨by have := HK1.out; have := HK2.out; omega⟩, ⟨by (with_reducible repeat (first | apply Kd.S_alloc | apply Kd.S_drewN | apply Kd.S_drew)); exact Kd.S_mono (Kd.S_far (p := ⟨gb212, 2, none⟩) (Kd.S_types HO_213001.out BK212.out (by decide)) (fun _ hk => hk.2) (.slice Ao42 y235.length co42)) (fun _ hk => trivial)⟩, ⟨by (with_reducible repeat (first | apply Kd.S_alloc | apply Kd.S_drewN | apply Kd.S_drew)); exact Kd.S_mono (Kd.S_far (p := ⟨gb212, 2, none⟩) (Kd.S_types HO237.out BK212.out (by decide)) (fun _ hk => hk.2) (.slice Ao42 y235.length co42)) (fun _ hk => trivial)⟩, ⟨by (with_reducible repeat (first | refine blk_drewN ?_ _ | refine blk_drew ?_ | refine blk_alloc ?_ _)); refine blk_far ?_ NB210_212.out _; (with_reducible repeat (first | refine blk_drewN ?_ _ | refine blk_drew ?_ | refine blk_alloc ?_ _)); exact BK210.out⟩, ⟨by (with_reducible repeat (first | refine blk_drewN ?_ _ | refine blk_drew ?_ | refine blk_alloc ?_ _)); refine blk_far ?_ NB211_212.out _; (with_reducible repeat (first | refine blk_drewN ?_ _ | refine blk_drew ?_ | refine blk_alloc ?_ _)); exact BK211.out⟩, ⟨by (with_reducible repeat (first | refine blk_drewN ?_ _ | refine blk_drew ?_ | refine blk_alloc ?_ _)); refine blk_put (cs := #[.int .i64 a0_0, u213001, u213002, .slice A0_3 l0_3.length c0_3]) ?_ 2 _ rfl; (with_reducible repeat (first | refine blk_drewN ?_ _ | refine blk_drew ?_ | refine blk_alloc ?_ _)); exact BK212.out⟩, ⟨by repeat (first | (with_reducible first | exact HB.out | apply below_alloc | apply pw_below_drewN | apply below_drew1 | refine below_set ?_ GE210.out | refine below_set ?_ GE211.out | refine below_set ?_ GE212.out) | exact HB.out)⟩⟩
 rw [if_pos c11] at H
 have c11b0 : decide (x14_1 < (l0_1.length : Int)) = true := decide_eq_true c11
 clear c11
 by_cases c12 : 0 ≤ x14_1
 rotate_left
 ·rw [if_neg c12] at H
  exact absurd H (by simp)
 rw [if_pos c12] at H
 have c12b0 : decide (0 ≤ x14_1) = true := decide_eq_true c12
 clear c12
 by_cases c13 : x14_1 < (l0_1.length : Int)
 rotate_left
 ·rw [if_neg c13] at H
  exact absurd H (by simp)
 rw [if_pos c13] at H
 have c13b0 : decide (x14_1 < (l0_1.length : Int)) = true := decide_eq_true c13
 clear c13
 replace H := Option.bind_eq_some_iff.mp H
 obtain ⟨⟨t215, t216, t217, t218, t219, t220, t221, t222⟩, A140, H⟩ := H
 replace H : (if x213001_1.length < 1759218604441 then (topo_Copy.l0 k1 l0_1 (l0_1.length : Int) (wrap64 (x14_1 + 1)) a0_0 l0_1 l0_2 l0_3 a0_0 (x213001_1 ++ [(⟨t215, t216, t217, t218, t219, t220, t221, t222⟩ : S48)]) l0_3) else (none)) = some (r1, r2, r3, r4) := H
 have A14 := Aside0.mk A140
 clear A140
 by_cases c15 : x213001_1.length < 1759218604441
 rotate_left
 ·rw [if_neg c15] at H
  exact absurd H (by simp)
 rw [if_pos c15] at H
 have LMc15 := Aside0.mk c15
 clear c15
 obtain ⟨y225, hy225⟩ : ∃ y_ : List (S48), y_ = (x213001_1 ++ [(⟨t215, t216, t217, t218, t219, t220, t221, t222⟩ : S48)]) := ⟨_, rfl⟩
 replace H : (topo_Copy.l0 k1 l0_1 (l0_1.length : Int) (wrap64 (x14_1 + 1)) a0_0 l0_1 l0_2 l0_3 a0_0 y225 l0_3) = some (r1, r2, r3, r4) := by first | (rw [hy225]; with_reducible exact H) | (have H2_ := (Option.bind_some _ _).symm.trans H; rw [hy225]; with_reducible exact H2_) | (have H2_ := (Option.bind_some _ _).symm.trans H; with_reducible exact H2_) | with_reducible exact H | (rw [hy225]; exact H) | exact H
 have Ny225 := Aside0.mk hy225
 clear hy225
 have H' := Aside0.mk H
 clear H
 have p213 : 0 ≤ (x14_1 : Int) := of_decide_eq_true (by first | (with_reducible assumption) | assumption)
 have q213 : x14_1 < (l0_1.length : Int) := of_decide_eq_true (by first | (with_reducible assumption) | assumption)
 obtain ⟨ad213, A213_7, c213_7, e213, hx213_0, hx213_1, hx213_2, hx213_3, hx213_4, hx213_5, hx213_6, hx213_7, hl213_7, hi213_7⟩ := at_T48 HR0_1.out x14_1 p213 q213
 cases e213
 replace hx213_0 := (HB.out.cell (World.block_lt_of_cell? w _ hx213_0)).trans hx213_0
 replace hx213_1 := (HB.out.cell (World.block_lt_of_cell? w _ hx213_1)).trans hx213_1
 replace hx213_2 := (HB.out.cell (World.block_lt_of_cell? w _ hx213_2)).trans hx213_2
 replace hx213_3 := (HB.out.cell (World.block_lt_of_cell? w _ hx213_3)).trans hx213_3
 replace hx213_4 := (HB.out.cell (World.block_lt_of_cell? w _ hx213_4)).trans hx213_4
 replace hx213_5 := (HB.out.cell (World.block_lt_of_cell? w _ hx213_5)).trans hx213_5
 replace hx213_6 := (HB.out.cell (World.block_lt_of_cell? w _ hx213_6)).trans hx213_6
 replace hx213_7 := (HB.out.cell (World.block_lt_of_cell? w _ hx213_7)).trans hx213_7
 have HR213_7 := Aside0.mk hi213_7
 have HC213_7 := Aside0.mk hl213_7
 clear hi213_7 hl213_7
 replace p213 := eq_true p213
 replace q213 := eq_true q213
 try go_wp2_with (first | ((with_reducible refine gate_dst (N := 5) rfl ?_); refine box_event ?hg (N := 5) ?hd (cs := #[.int .u64 0, .int .u16 0, .int .i64 0, .int .i64 0, .int .i64 0, .int .i64 0, .int .i64 0, .slice none 0 0]) (t := 48) ?hr ?_; (case hd => rfl); (case hg => rfl); (case hr => first | (go_simp; done) | (go_simp; rfl)); intro gb214 hg w16 hbox hb; have n0_ := Aside0.mk (Kd.S_below (Kd.S_elderB (by (with_reducible repeat (first | apply Kd.S_alloc | apply Kd.S_drewN | apply Kd.S_drew)); exact HO_213001.out) gb214 (Nat.le_of_eq hg.symm)) hb); have n1_ := Aside0.mk (blk_below (g := gb210) (o := .cells #[.int .i64 a0_0, .slice (some ad213) l0_1.length c0_1, .slice A0_2 l0_2.length c0_2, .slice A0_3 l0_3.length c0_3] 26 (0, 0)) (by (with_reducible repeat (first | refine blk_drewN ?_ _ | refine blk_drew ?_ | refine blk_alloc ?_ _)); exact BK210.out) hb); have n2_ := Aside0.mk (blk_below (g := gb211) (o := .cells #[.int .i64 0, .slice none 0 0, .slice none 0 0, .slice none 0 0] 26 (0, 0)) (by (with_reducible repeat (first | refine blk_drewN ?_ _ | refine blk_drew ?_ | refine blk_alloc ?_ _)); exact BK211.out) hb); have n3_ := Aside0.mk (blk_below (g := gb212) (o := .cells #[.int .i64 a0_0, u213001, .slice none 0 0, .slice A0_3 l0_3.length c0_3] 26 (0, 0)) (by (with_reducible repeat (first | refine blk_drewN ?_ _ | refine blk_drew ?_ | refine blk_alloc ?_ _)); exact BK212.out) hb); have n4_ := Aside0.mk (below_step (by repeat (first | (with_reducible first | exact HB.out | apply below_alloc | apply pw_below_drewN | apply below_drew1 | refine below_set ?_ GE210.out | refine below_set ?_ GE211.out | refine below_set ?_ GE212.out) | exact HB.out)) hb); have n5_ := Aside0.mk (hbox); have n6_ := Aside0.mk ((by rw [hg]; exact (below_size (by repeat (first | (with_reducible first | exact HB.out | apply below_alloc | apply pw_below_drewN | apply below_drew1 | refine below_set ?_ GE210.out | refine below_set ?_ GE211.out | refine below_set ?_ GE212.out) | exact HB.out))) : w.heap.size ≤ gb214)); have n7_ := Aside0.mk ((by rw [hg]; exact (below_size (by repeat (first | (with_reducible first | exact HB.out | apply below_alloc | apply pw_below_drewN | apply below_drew1 | refine below_set ?_ GE210.out | refine below_set ?_ GE211.out | refine below_set ?_ GE212.out) | exact HB.out))) : w.heap.size ≤ gb214)); have n8_ := Aside0.mk ((by rw [hg]; exact Nat.ne_of_lt (blk_lt (g := gb210) (o := .cells #[.int .i64 a0_0, .slice (some ad213) l0_1.length c0_1, .slice A0_2 l0_2.length c0_2, .slice A0_3 l0_3.length c0_3] 26 (0, 0)) (by (with_reducible repeat (first | refine blk_drewN ?_ _ | refine blk_drew ?_ | refine blk_alloc ?_ _)); exact BK210.out)) : gb210 ≠ gb214)); have n9_ := Aside0.mk ((by rw [hg]; exact Nat.ne_of_gt (blk_lt (g := gb210) (o := .cells #[.int .i64 a0_0, .slice (some ad213) l0_1.length c0_1, .slice A0_2 l0_2.length c0_2, .slice A0_3 l0_3.length c0_3] 26 (0, 0)) (by (with_reducible repeat (first | refine blk_drewN ?_ _ | refine blk_drew ?_ | refine blk_alloc ?_ _)); exact BK210.out)) : gb214 ≠ gb210)); have n10_ := Aside0.mk ((by rw [hg]; exact Nat.ne_of_lt (blk_lt (g := gb211) (o := .cells #[.int .i64 0, .slice none 0 0, .slice none 0 0, .slice none 0 0] 26 (0, 0)) (by (with_reducible repeat (first | refine blk_drewN ?_ _ | refine blk_drew ?_ | refine blk_alloc ?_ _)); exact BK211.out)) : gb211 ≠ gb214)); have n11_ := Aside0.mk ((by rw [hg]; exact Nat.ne_of_gt (blk_lt (g := gb211) (o := .cells #[.int .i64 0, .slice none 0 0, .slice none 0 0, .slice none 0 0] 26 (0, 0)) (by (with_reducible repeat (first | refine blk_drewN ?_ _ | refine blk_drew ?_ | refine blk_alloc ?_ _)); exact BK211.out)) : gb214 ≠ gb211)); have n12_ := Aside0.mk ((by rw [hg]; exact Nat.ne_of_lt (blk_lt (g := gb212) (o := .cells #[.int .i64 a0_0, u213001, .slice none 0 0, .slice A0_3 l0_3.length c0_3] 26 (0, 0)) (by (with_reducible repeat (first | refine blk_drewN ?_ _ | refine blk_drew ?_ | refine blk_alloc ?_ _)); exact BK212.out)) : gb212 ≠ gb214)); have n13_ := Aside0.mk ((by rw [hg]; exact Nat.ne_of_gt (blk_lt (g := gb212) (o := .cells #[.int .i64 a0_0, u213001, .slice none 0 0, .slice A0_3 l0_3.length c0_3] 26 (0, 0)) (by (with_reducible repeat (first | refine blk_drewN ?_ _ | refine blk_drew ?_ | refine blk_alloc ?_ _)); exact BK212.out)) : gb214 ≠ gb212)); clear HO_213001; clear BK210; clear BK211; clear BK212; clear HB; have HO_213001 := n0_; have BK210 := n1_; have BK211 := n2_; have BK212 := n3_; have HB := n4_; have BK214 := n5_; have GW214 := n6_; have GE214 := n7_; have NB210_214 := n8_; have NB214_210 := n9_; have NB211_214 := n10_; have NB214_211 := n11_; have NB212_214 := n12_; have NB214_212 := n13_; clear n0_ n1_ n2_ n3_ n4_ n5_ n6_ n7_ n8_ n9_ n10_ n11_ n12_ n13_; clear hb hbox hg; have hnb17 := NB214_210.out; have hnc17 := NB210_214.out; have hnb18 := NB214_211.out; have hnc18 := NB211_214.out; have hnb19 := NB214_212.out; have hnc19 := NB212_214.out; have hcz20_0 : w16.cell? ⟨gb214, 0, none⟩ = some (.int .u64 0) := (blk_cell BK214.out 0).trans rfl; have hcz20_1 : w16.cell? ⟨gb214, 1, none⟩ = some (.int .u16 0) := (blk_cell BK214.out 1).trans rfl; have hcz20_2 : w16.cell? ⟨gb214, 2, none⟩ = some (.int .i64 0) := (blk_cell BK214.out 2).trans rfl; have hcz20_3 : w16.cell? ⟨gb214, 3, none⟩ = some (.int .i64 0) := (blk_cell BK214.out 3).trans rfl; have hcz20_4 : w16.cell? ⟨gb214, 4, none⟩ = some (.int .i64 0) := (blk_cell BK214.out 4).trans rfl; have hcz20_5 : w16.cell? ⟨gb214, 5, none⟩ = some (.int .i64 0) := (blk_cell BK214.out 5).trans rfl; have hcz20_6 : w16.cell? ⟨gb214, 6, none⟩ = some (.int .i64 0) := (blk_cell BK214.out 6).trans rfl; have hcz20_7 : w16.cell? ⟨gb214, 7, none⟩ = some (.slice none 0 0) := (blk_cell BK214.out 7).trans rfl; have hfz20_0 := blk_frozen BK214.out 0; have hfz20_1 := blk_frozen BK214.out 1; have hfz20_2 := blk_frozen BK214.out 2; have hfz20_3 := blk_frozen BK214.out 3; have hfz20_4 := blk_frozen BK214.out 4; have hfz20_5 := blk_frozen BK214.out 5; have hfz20_6 := blk_frozen BK214.out 6; have hfz20_7 := blk_frozen BK214.out 7))
 have n0_ : Aside0 (Kd.S k48 48 ((((((((w16.setCell ⟨gb214, 0, none⟩ (.int .u64 ((rd_T48 l0_1 x14_1).f0))).setCell ⟨gb214, 1, none⟩ (.int .u16 ((rd_T48 l0_1 x14_1).f1))).setCell ⟨gb214, 2, none⟩ (.int .i64 ((rd_T48 l0_1 x14_1).f2))).setCell ⟨gb214, 3, none⟩ (.int .i64 ((rd_T48 l0_1 x14_1).f3))).setCell ⟨gb214, 4, none⟩ (.int .i64 ((rd_T48 l0_1 x14_1).f4))).setCell ⟨gb214, 5, none⟩ (.int .i64 ((rd_T48 l0_1 x14_1).f5))).setCell ⟨gb214, 6, none⟩ (.int .i64 ((rd_T48 l0_1 x14_1).f6))).setCell ⟨gb214, 7, none⟩ (.slice A213_7 ((rd_T48 l0_1 x14_1).f7).length c213_7)) w.heap.size (fun k_ => k_ ≠ gb214) u213001 x213001_1) := ⟨by (with_reducible repeat (first | apply Kd.S_alloc | apply Kd.S_drewN | apply Kd.S_drew)); exact Kd.S_mono (Kd.S_far (p := ⟨gb214, 7, none⟩) (Kd.S_far (p := ⟨gb214, 6, none⟩) (Kd.S_far (p := ⟨gb214, 5, none⟩) (Kd.S_far (p := ⟨gb214, 4, none⟩) (Kd.S_far (p := ⟨gb214, 3, none⟩) (Kd.S_far (p := ⟨gb214, 2, none⟩) (Kd.S_far (p := ⟨gb214, 1, none⟩) (Kd.S_far (p := ⟨gb214, 0, none⟩) (Kd.S_mono HO_213001.out (fun k_ hk => (⟨hk, hk.2⟩ : _ ∧ k_ ≠ gb214))) (fun _ hk => hk.2) (.int .u64 ((rd_T48 l0_1 x14_1).f0))) (fun _ hk => hk.2) (.int .u16 ((rd_T48 l0_1 x14_1).f1))) (fun _ hk => hk.2) (.int .i64 ((rd_T48 l0_1 x14_1).f2))) (fun _ hk => hk.2) (.int .i64 ((rd_T48 l0_1 x14_1).f3))) (fun _ hk => hk.2) (.int .i64 ((rd_T48 l0_1 x14_1).f4))) (fun _ hk => hk.2) (.int .i64 ((rd_T48 l0_1 x14_1).f5))) (fun _ hk => hk.2) (.int .i64 ((rd_T48 l0_1 x14_1).f6))) (fun _ hk => hk.2) (.slice A213_7 ((rd_T48 l0_1 x14_1).f7).length c213_7)) (fun _ hk => hk.1.2)⟩
 have n1_ : Aside0 (((((((((w16.setCell ⟨gb214, 0, none⟩ (.int .u64 ((rd_T48 l0_1 x14_1).f0))).setCell ⟨gb214, 1, none⟩ (.int .u16 ((rd_T48 l0_1 x14_1).f1))).setCell ⟨gb214, 2, none⟩ (.int .i64 ((rd_T48 l0_1 x14_1).f2))).setCell ⟨gb214, 3, none⟩ (.int .i64 ((rd_T48 l0_1 x14_1).f3))).setCell ⟨gb214, 4, none⟩ (.int .i64 ((rd_T48 l0_1 x14_1).f4))).setCell ⟨gb214, 5, none⟩ (.int .i64 ((rd_T48 l0_1 x14_1).f5))).setCell ⟨gb214, 6, none⟩ (.int .i64 ((rd_T48 l0_1 x14_1).f6))).setCell ⟨gb214, 7, none⟩ (.slice A213_7 ((rd_T48 l0_1 x14_1).f7).length c213_7)).heap[gb210]? = some (.cells #[.int .i64 a0_0, .slice (some ad213) l0_1.length c0_1, .slice A0_2 l0_2.length c0_2, .slice A0_3 l0_3.length c0_3] 26 (0, 0))) := ⟨by (with_reducible repeat (first | refine blk_drewN ?_ _ | refine blk_drew ?_ | refine blk_alloc ?_ _)); refine blk_far ?_ NB210_214.out _; (with_reducible repeat (first | refine blk_drewN ?_ _ | refine blk_drew ?_ | refine blk_alloc ?_ _)); refine blk_far ?_ NB210_214.out _; (with_reducible repeat (first | refine blk_drewN ?_ _ | refine blk_drew ?_ | refine blk_alloc ?_ _)); refine blk_far ?_ NB210_214.out _; (with_reducible repeat (first | refine blk_drewN ?_ _ | refine blk_drew ?_ | refine blk_alloc ?_ _)); refine blk_far ?_ NB210_214.out _; (with_reducible repeat (first | refine blk_drewN ?_ _ | refine blk_drew ?_ | refine blk_alloc ?_ _)); refine blk_far ?_ NB210_214.out _; (with_reducible repeat (first | refine blk_drewN ?_ _ | refine blk_drew ?_ | refine blk_alloc ?_ _)); refine blk_far ?_ NB210_214.out _; (with_reducible repeat (first | refine blk_drewN ?_ _ | refine blk_drew ?_ | refine blk_alloc ?_ _)); refine blk_far ?_ NB210_214.out _; (with_reducible repeat (first | refine blk_drewN ?_ _ | refine blk_drew ?_ | refine blk_alloc ?_ _)); refine blk_far ?_ NB210_214.out _; (with_reducible repeat (first | refine blk_drewN ?_ _ | refine blk_drew ?_ | refine blk_alloc ?_ _)); exact BK210.out⟩
 have n2_ : Aside0 (((((((((w16.setCell ⟨gb214, 0, none⟩ (.int .u64 ((rd_T48 l0_1 x14_1).f0))).setCell ⟨gb214, 1, none⟩ (.int .u16 ((rd_T48 l0_1 x14_1).f1))).setCell ⟨gb214, 2, none⟩ (.int .i64 ((rd_T48 l0_1 x14_1).f2))).setCell ⟨gb214, 3, none⟩ (.int .i64 ((rd_T48 l0_1 x14_1).f3))).setCell ⟨gb214, 4, none⟩ (.int .i64 ((rd_T48 l0_1 x14_1).f4))).setCell ⟨gb214, 5, none⟩ (.int .i64 ((rd_T48 l0_1 x14_1).f5))).setCell ⟨gb214, 6, none⟩ (.int .i64 ((rd_T48 l0_1 x14_1).f6))).setCell ⟨gb214, 7, none⟩ (.slice A213_7 ((rd_T48 l0_1 x14_1).f7).length c213_7)).heap[gb211]? = some (.cells #[.int .i64 0, .slice none 0 0, .slice none 0 0, .slice none 0 0] 26 (0, 0))) := ⟨by (with_reducible repeat (first | refine blk_drewN ?_ _ | refine blk_drew ?_ | refine blk_alloc ?_ _)); refine blk_far ?_ NB211_214.out _; (with_reducible repeat (first | refine blk_drewN ?_ _ | refine blk_drew ?_ | refine blk_alloc ?_ _)); refine blk_far ?_ NB211_214.out _; (with_reducible repeat (first | refine blk_drewN ?_ _ | refine blk_drew ?_ | refine blk_alloc ?_ _)); refine blk_far ?_ NB211_214.out _; (with_reducible repeat (first | refine blk_drewN ?_ _ | refine blk_drew ?_ | refine blk_alloc ?_ _)); refine blk_far ?_ NB211_214.out _; (with_reducible repeat (first | refine blk_drewN ?_ _ | refine blk_drew ?_ | refine blk_alloc ?_ _)); refine blk_far ?_ NB211_214.out _; (with_reducible repeat (first | refine blk_drewN ?_ _ | refine blk_drew ?_ | refine blk_alloc ?_ _)); refine blk_far ?_ NB211_214.out _; (with_reducible repeat (first | refine blk_drewN ?_ _ | refine blk_drew ?_ | refine blk_alloc ?_ _)); refine blk_far ?_ NB211_214.out _; (with_reducible repeat (first | refine blk_drewN ?_ _ | refine blk_drew ?_ | refine blk_alloc ?_ _)); refine blk_far ?_ NB211_214.out _; (with_reducible repeat (first | refine blk_drewN ?_ _ | refine blk_drew ?_ | refine blk_alloc ?_ _)); exact BK211.out⟩
 have n3_ : Aside0 (((((((((w16.setCell ⟨gb214, 0, none⟩ (.int .u64 ((rd_T48 l0_1 x14_1).f0))).setCell ⟨gb214, 1, none⟩ (.int .u16 ((rd_T48 l0_1 x14_1).f1))).setCell ⟨gb214, 2, none⟩ (.int .i64 ((rd_T48 l0_1 x14_1).f2))).setCell ⟨gb214, 3, none⟩ (.int .i64 ((rd_T48 l0_1 x14_1).f3))).setCell ⟨gb214, 4, none⟩ (.int .i64 ((rd_T48 l0_1 x14_1).f4))).setCell ⟨gb214, 5, none⟩ (.int .i64 ((rd_T48 l0_1 x14_1).f5))).setCell ⟨gb214, 6, none⟩ (.int .i64 ((rd_T48 l0_1 x14_1).f6))).setCell ⟨gb214, 7, none⟩ (.slice A213_7 ((rd_T48 l0_1 x14_1).f7).length c213_7)).heap[gb212]? = some (.cells #[.int .i64 a0_0, u213001, .slice none 0 0, .slice A0_3 l0_3.length c0_3] 26 (0, 0))) := ⟨by (with_reducible repeat (first | refine blk_drewN ?_ _ | refine blk_drew ?_ | refine blk_alloc ?_ _)); refine blk_far ?_ NB212_214.out _; (with_reducible repeat (first | refine blk_drewN ?_ _ | refine blk_drew ?_ | refine blk_alloc ?_ _)); refine blk_far ?_ NB212_214.out _; (with_reducible repeat (first | refine blk_drewN ?_ _ | refine blk_drew ?_ | refine blk_alloc ?_ _)); refine blk_far ?_ NB212_214.out _; (with_reducible repeat (first | refine blk_drewN ?_ _ | refine blk_drew ?_ | refine blk_alloc ?_ _)); refine blk_far ?_ NB212_214.out _; (with_reducible repeat (first | refine blk_drewN ?_ _ | refine blk_drew ?_ | refine blk_alloc ?_ _)); refine blk_far ?_ NB212_214.out _; (with_reducible repeat (first | refine blk_drewN ?_ _ | refine blk_drew ?_ | refine blk_alloc ?_ _)); refine blk_far ?_ NB212_214.out _; (with_reducible repeat (first | refine blk_drewN ?_ _ | refine blk_drew ?_ | refine blk_alloc ?_ _)); refine blk_far ?_ NB212_214.out _; (with_reducible repeat (first | refine blk_drewN ?_ _ | refine blk_drew ?_ | refine blk_alloc ?_ _)); refine blk_far ?_ NB212_214.out _; (with_reducible repeat (first | refine blk_drewN ?_ _ | refine blk_drew ?_ | refine blk_alloc ?_ _)); exact BK212.out⟩
 have n4_ : Aside0 (((((((((w16.setCell ⟨gb214, 0, none⟩ (.int .u64 ((rd_T48 l0_1 x14_1).f0))).setCell ⟨gb214, 1, none⟩ (.int .u16 ((rd_T48 l0_1 x14_1).f1))).setCell ⟨gb214, 2, none⟩ (.int .i64 ((rd_T48 l0_1 x14_1).f2))).setCell ⟨gb214, 3, none⟩ (.int .i64 ((rd_T48 l0_1 x14_1).f3))).setCell ⟨gb214, 4, none⟩ (.int .i64 ((rd_T48 l0_1 x14_1).f4))).setCell ⟨gb214, 5, none⟩ (.int .i64 ((rd_T48 l0_1 x14_1).f5))).setCell ⟨gb214, 6, none⟩ (.int .i64 ((rd_T48 l0_1 x14_1).f6))).setCell ⟨gb214, 7, none⟩ (.slice A213_7 ((rd_T48 l0_1 x14_1).f7).length c213_7)).heap[gb214]? = some (.cells #[.int .u64 ((rd_T48 l0_1 x14_1).f0), .int .u16 ((rd_T48 l0_1 x14_1).f1), .int .i64 ((rd_T48 l0_1 x14_1).f2), .int .i64 ((rd_T48 l0_1 x14_1).f3), .int .i64 ((rd_T48 l0_1 x14_1).f4), .int .i64 ((rd_T48 l0_1 x14_1).f5), .int .i64 ((rd_T48 l0_1 x14_1).f6), .slice A213_7 ((rd_T48 l0_1 x14_1).f7).length c213_7] 48 (0, 0))) := ⟨by (with_reducible repeat (first | refine blk_drewN ?_ _ | refine blk_drew ?_ | refine blk_alloc ?_ _)); refine blk_put (cs := #[.int .u64 ((rd_T48 l0_1 x14_1).f0), .int .u16 ((rd_T48 l0_1 x14_1).f1), .int .i64 ((rd_T48 l0_1 x14_1).f2), .int .i64 ((rd_T48 l0_1 x14_1).f3), .int .i64 ((rd_T48 l0_1 x14_1).f4), .int .i64 ((rd_T48 l0_1 x14_1).f5), .int .i64 ((rd_T48 l0_1 x14_1).f6), .slice none 0 0]) ?_ 7 _ rfl; (with_reducible repeat (first | refine blk_drewN ?_ _ | refine blk_drew ?_ | refine blk_alloc ?_ _)); refine blk_put (cs := #[.int .u64 ((rd_T48 l0_1 x14_1).f0), .int .u16 ((rd_T48 l0_1 x14_1).f1), .int .i64 ((rd_T48 l0_1 x14_1).f2), .int .i64 ((rd_T48 l0_1 x14_1).f3), .int .i64 ((rd_T48 l0_1 x14_1).f4), .int .i64 ((rd_T48 l0_1 x14_1).f5), .int .i64 0, .slice none 0 0]) ?_ 6 _ rfl; (with_reducible repeat (first | refine blk_drewN ?_ _ | refine blk_drew ?_ | refine blk_alloc ?_ _)); refine blk_put (cs := #[.int .u64 ((rd_T48 l0_1 x14_1).f0), .int .u16 ((rd_T48 l0_1 x14_1).f1), .int .i64 ((rd_T48 l0_1 x14_1).f2), .int .i64 ((rd_T48 l0_1 x14_1).f3), .int .i64 ((rd_T48 l0_1 x14_1).f4), .int .i64 0, .int .i64 0, .slice none 0 0]) ?_ 5 _ rfl; (with_reducible repeat (first | refine blk_drewN ?_ _ | refine blk_drew ?_ | refine blk_alloc ?_ _)); refine blk_put (cs := #[.int .u64 ((rd_T48 l0_1 x14_1).f0), .int .u16 ((rd_T48 l0_1 x14_1).f1), .int .i64 ((rd_T48 l0_1 x14_1).f2), .int .i64 ((rd_T48 l0_1 x14_1).f3), .int .i64 0, .int .i64 0, .int .i64 0, .slice none 0 0]) ?_ 4 _ rfl; (with_reducible repeat (first | refine blk_drewN ?_ _ | refine blk_drew ?_ | refine blk_alloc ?_ _)); refine blk_put (cs := #[.int .u64 ((rd_T48 l0_1 x14_1).f0), .int .u16 ((rd_T48 l0_1 x14_1).f1), .int .i64 ((rd_T48 l0_1 x14_1).f2), .int .i64 0, .int .i64 0, .int .i64 0, .int .i64 0, .slice none 0 0]) ?_ 3 _ rfl; (with_reducible repeat (first | refine blk_drewN ?_ _ | refine blk_drew ?_ | refine blk_alloc ?_ _)); refine blk_put (cs := #[.int .u64 ((rd_T48 l0_1 x14_1).f0), .int .u16 ((rd_T48 l0_1 x14_1).f1), .int .i64 0, .int .i64 0, .int .i64 0, .int .i64 0, .int .i64 0, .slice none 0 0]) ?_ 2 _ rfl; (with_reducible repeat (first | refine blk_drewN ?_ _ | refine blk_drew ?_ | refine blk_alloc ?_ _)); refine blk_put (cs := #[.int .u64 ((rd_T48 l0_1 x14_1).f0), .int .u16 0, .int .i64 0, .int .i64 0, .int .i64 0, .int .i64 0, .int .i64 0, .slice none 0 0]) ?_ 1 _ rfl; (with_reducible repeat (first | refine blk_drewN ?_ _ | refine blk_drew ?_ | refine blk_alloc ?_ _)); refine blk_put (cs := #[.int .u64 0, .int .u16 0, .int .i64 0, .int .i64 0, .int .i64 0, .int .i64 0, .int .i64 0, .slice none 0 0]) ?_ 0 _ rfl; (with_reducible repeat (first | refine blk_drewN ?_ _ | refine blk_drew ?_ | refine blk_alloc ?_ _)); exact BK214.out⟩
 have n5_ : Aside0 (Below w.heap.size w ((((((((w16.setCell ⟨gb214, 0, none⟩ (.int .u64 ((rd_T48 l0_1 x14_1).f0))).setCell ⟨gb214, 1, none⟩ (.int .u16 ((rd_T48 l0_1 x14_1).f1))).setCell ⟨gb214, 2, none⟩ (.int .i64 ((rd_T48 l0_1 x14_1).f2))).setCell ⟨gb214, 3, none⟩ (.int .i64 ((rd_T48 l0_1 x14_1).f3))).setCell ⟨gb214, 4, none⟩ (.int .i64 ((rd_T48 l0_1 x14_1).f4))).setCell ⟨gb214, 5, none⟩ (.int .i64 ((rd_T48 l0_1 x14_1).f5))).setCell ⟨gb214, 6, none⟩ (.int .i64 ((rd_T48 l0_1 x14_1).f6))).setCell ⟨gb214, 7, none⟩ (.slice A213_7 ((rd_T48 l0_1 x14_1).f7).length c213_7))) := ⟨by repeat (first | (with_reducible first | exact HB.out | apply below_alloc | apply pw_below_drewN | apply below_drew1 | refine below_set ?_ GE210.out | refine below_set ?_ GE211.out | refine below_set ?_ GE212.out | refine below_set ?_ GE214.out) | exact HB.out)⟩
 (try clear HO_213001)
 (try clear BK210)
 (try clear BK211)
 (try clear BK212)
 (try clear BK214)
 (try clear HB)
 (try simp only [setCell_drewN_])
 generalize ((((((((w16.setCell ⟨gb214, 0, none⟩ (.int .u64 ((rd_T48 l0_1 x14_1).f0))).setCell ⟨gb214, 1, none⟩ (.int .u16 ((rd_T48 l0_1 x14_1).f1))).setCell ⟨gb214, 2, none⟩ (.int .i64 ((rd_T48 l0_1 x14_1).f2))).setCell ⟨gb214, 3, none⟩ (.int .i64 ((rd_T48 l0_1 x14_1).f3))).setCell ⟨gb214, 4, none⟩ (.int .i64 ((rd_T48 l0_1 x14_1).f4))).setCell ⟨gb214, 5, none⟩ (.int .i64 ((rd_T48 l0_1 x14_1).f5))).setCell ⟨gb214, 6, none⟩ (.int .i64 ((rd_T48 l0_1 x14_1).f6))).setCell ⟨gb214, 7, none⟩ (.slice A213_7 ((rd_T48 l0_1 x14_1).f7).length c213_7)) = w21 at n0_ n1_ n2_ n3_ n4_ n5_ ⊢
 have HO_213001 := n0_
 have BK210 := n1_
 have BK211 := n2_
 have BK212 := n3_
 have BK214 := n4_
 have HB := n5_
 clear n0_ n1_ n2_ n3_ n4_ n5_
 have n0_ := Aside0.mk (Kd.S_drew HO_213001.out)
 have n1_ := Aside0.mk (blk_drew BK210.out)
 have n2_ := Aside0.mk (blk_drew BK211.out)
 have n3_ := Aside0.mk (blk_drew BK212.out)
 have n4_ := Aside0.mk (blk_drew BK214.out)
 have n5_ := Aside0.mk (below_drew1 HB.out)
 clear HO_213001
 clear BK210
 clear BK211
 clear BK212
 clear BK214
 clear HB
 have HO_213001 := n0_
 have BK210 := n1_
 have BK211 := n2_
 have BK212 := n3_
 have BK214 := n4_
 have HB := n5_
 clear n0_ n1_ n2_ n3_ n4_ n5_
 refine start_ (n := 8) (S := fun w' => w'.cell? ⟨gb212, 0, none⟩ = some (.int .i64 a0_0) ∧ w'.cell? ⟨gb212, 1, none⟩ = some (u213001) ∧ w'.cell? ⟨gb212, 2, none⟩ = some (.slice none 0 0) ∧ w'.cell? ⟨gb212, 3, none⟩ = some (.slice A0_3 l0_3.length c0_3) ∧ w'.cell? ⟨gb214, 0, none⟩ = some (.int .u64 ((rd_T48 l0_1 x14_1).f0)) ∧ w'.cell? ⟨gb214, 1, none⟩ = some (.int .u16 ((rd_T48 l0_1 x14_1).f1)) ∧ w'.cell? ⟨gb214, 2, none⟩ = some (.int .i64 ((rd_T48 l0_1 x14_1).f2)) ∧ w'.cell? ⟨gb214, 3, none⟩ = some (.int .i64 ((rd_T48 l0_1 x14_1).f3)) ∧ w'.cell? ⟨gb214, 4, none⟩ = some (.int .i64 ((rd_T48 l0_1 x14_1).f4)) ∧ w'.cell? ⟨gb214, 5, none⟩ = some (.int .i64 ((rd_T48 l0_1 x14_1).f5)) ∧ w'.cell? ⟨gb214, 6, none⟩ = some (.int .i64 ((rd_T48 l0_1 x14_1).f6)) ∧ w'.cell? ⟨gb214, 7, none⟩ = some (.slice A213_7 ((rd_T48 l0_1 x14_1).f7).length c213_7)) (ds := [7]) #[false, false, false, false, false, false, false, false] (by kernel_rfl) rfl rfl ⟨(blk_cell BK212.out 0).trans rfl, (blk_cell BK212.out 1).trans rfl, (blk_cell BK212.out 2).trans rfl, (blk_cell BK212.out 3).trans rfl, (blk_cell BK214.out 0).trans rfl, (blk_cell BK214.out 1).trans rfl, (blk_cell BK214.out 2).trans rfl, (blk_cell BK214.out 3).trans rfl, (blk_cell BK214.out 4).trans rfl, (blk_cell BK214.out 5).trans rfl, (blk_cell BK214.out 6).trans rfl, (blk_cell BK214.out 7).trans rfl⟩ (fun hHeld => ?_); refine with_tabW topo_Copy.tab6 topo_Copy.bits6 (fun HT_ HW_ => ?_)
 generalize w21.drew = w22 at HO_213001 BK210 BK211 BK212 BK214 HB hHeld ⊢
 refine pure_ (i := 0) (N := some 18) (v := ?_) (a' := ?_) #[true, false, false, false, false, false, false, false] rfl rfl (any_of HT_.out (by kernel_rfl)) (fun _ _ _ h => h) (Or.inl ⟨by rfl, ?_⟩) ?_ ?_
 rotate_left
 ·intro w'
  go_simp
  with_reducible rfl
 rotate_left
 ·simp only [Act.put, List.setIfInBounds_toArray, List.set_cons_zero, List.set_cons_succ, i64_w, i32_w]
  rfl
 refine take_ (i := 1) (N := some 19) (v := ?_) (a' := ?_) #[true, true, false, false, false, false, false, false] rfl rfl (take_ofW HT_.out HW_.out (by kernel_rfl)) (fun _ _ _ h => h) (Or.inl ⟨by rfl, ?_⟩) hHeld ?_ ?_
 rotate_left
 ·rintro w' ⟨s0, s1, s2, s3, s4, s5, s6, s7, s8, s9, s10, s11⟩
  go_simp
  with_reducible rfl
 rotate_left
 ·simp only [Act.put, List.setIfInBounds_toArray, List.set_cons_zero, List.set_cons_succ, i64_w, i32_w]
  rfl
 refine take_ (i := 2) (N := some 20) (v := ?_) (a' := ?_) #[true, true, true, false, false, false, false, false] rfl rfl (take_ofW HT_.out HW_.out (by kernel_rfl)) (fun _ _ _ h => h) (Or.inl ⟨by rfl, ?_⟩) hHeld ?_ ?_
 rotate_left
 ·rintro w' ⟨s0, s1, s2, s3, s4, s5, s6, s7, s8, s9, s10, s11⟩
  go_simp
  with_reducible rfl
 rotate_left
 ·simp only [Act.put, List.setIfInBounds_toArray, List.set_cons_zero, List.set_cons_succ, i64_w, i32_w]
  rfl
 refine one_ (i := 3) (N := some 21) #[true, true, true, true, false, false, false, false] rfl rfl (one_of HT_.out (by kernel_rfl)) (by decide) (fun K hK => ?_)
 refine goes_ Try.func25 (by kernel_rfl) rfl #[.agg #[.int .u64 ((rd_T48 l0_1 x14_1).f0), .int .u16 ((rd_T48 l0_1 x14_1).f1), .int .i64 ((rd_T48 l0_1 x14_1).f2), .int .i64 ((rd_T48 l0_1 x14_1).f3), .int .i64 ((rd_T48 l0_1 x14_1).f4), .int .i64 ((rd_T48 l0_1 x14_1).f5), .int .i64 ((rd_T48 l0_1 x14_1).f6), .slice A213_7 ((rd_T48 l0_1 x14_1).f7).length c213_7]] (by rfl) rfl rfl (by (try simp only [List.map_toArray, List.map_cons, List.map_nil]); first | done | rfl | (simp only [List.length_drop, List.length_take]; rfl)) ?_
 with_reducible refine (conf_Copy.calls ((rd_T48 l0_1 x14_1).f0) ((rd_T48 l0_1 x14_1).f1) ((rd_T48 l0_1 x14_1).f2) ((rd_T48 l0_1 x14_1).f3) ((rd_T48 l0_1 x14_1).f4) ((rd_T48 l0_1 x14_1).f5) ((rd_T48 l0_1 x14_1).f6) _ _ ((rd_T48 l0_1 x14_1).f7) t215 t216 t217 t218 t219 t220 t221 t222 _ ?side1 ?side2 A14.out).mono ?_
 (case side1 => repeat (first | exact (Kd.C_below HR213_7.out HB.out) | (with_reducible refine Kd.C_alloc ?_ _) | (with_reducible refine Kd.C_drewN ?_ _) | (with_reducible refine Kd.C_drew ?_)))
 (case side2 => exact HC213_7.out)
 rintro e w23 ⟨v223, rfl, ho0, hb⟩
 refine ⟨_, rfl, ?_⟩
 have n0_ := Aside0.mk (Kd.S_elder' (by (with_reducible repeat (first | apply Kd.S_alloc | apply Kd.S_drewN | apply Kd.S_drew)); exact HO_213001.out) (Kd.R_base ho0) hb)
 have n1_ := Aside0.mk (Kd.R_lower ho0 (below_size (by repeat (first | (with_reducible first | exact HB.out | apply below_alloc | apply pw_below_drewN | apply below_drew1 | refine below_set ?_ GE210.out | refine below_set ?_ GE211.out | refine below_set ?_ GE212.out | refine below_set ?_ GE214.out) | exact HB.out))))
 have n2_ := Aside0.mk (blk_below (g := gb210) (o := .cells #[.int .i64 a0_0, .slice (some ad213) l0_1.length c0_1, .slice A0_2 l0_2.length c0_2, .slice A0_3 l0_3.length c0_3] 26 (0, 0)) (by (with_reducible repeat (first | refine blk_drewN ?_ _ | refine blk_drew ?_ | refine blk_alloc ?_ _)); exact BK210.out) hb)
 have n3_ := Aside0.mk (blk_below (g := gb211) (o := .cells #[.int .i64 0, .slice none 0 0, .slice none 0 0, .slice none 0 0] 26 (0, 0)) (by (with_reducible repeat (first | refine blk_drewN ?_ _ | refine blk_drew ?_ | refine blk_alloc ?_ _)); exact BK211.out) hb)
 have n4_ := Aside0.mk (blk_below (g := gb212) (o := .cells #[.int .i64 a0_0, u213001, .slice none 0 0, .slice A0_3 l0_3.length c0_3] 26 (0, 0)) (by (with_reducible repeat (first | refine blk_drewN ?_ _ | refine blk_drew ?_ | refine blk_alloc ?_ _)); exact BK212.out) hb)
 have n5_ := Aside0.mk (blk_below (g := gb214) (o := .cells #[.int .u64 ((rd_T48 l0_1 x14_1).f0), .int .u16 ((rd_T48 l0_1 x14_1).f1), .int .i64 ((rd_T48 l0_1 x14_1).f2), .int .i64 ((rd_T48 l0_1 x14_1).f3), .int .i64 ((rd_T48 l0_1 x14_1).f4), .int .i64 ((rd_T48 l0_1 x14_1).f5), .int .i64 ((rd_T48 l0_1 x14_1).f6), .slice A213_7 ((rd_T48 l0_1 x14_1).f7).length c213_7] 48 (0, 0)) (by (with_reducible repeat (first | refine blk_drewN ?_ _ | refine blk_drew ?_ | refine blk_alloc ?_ _)); exact BK214.out) hb)
 have n6_ := Aside0.mk (below_step (by repeat (first | (with_reducible first | exact HB.out | apply below_alloc | apply pw_below_drewN | apply below_drew1 | refine below_set ?_ GE210.out | refine below_set ?_ GE211.out | refine below_set ?_ GE212.out | refine below_set ?_ GE214.out) | exact HB.out)) hb)
 clear HO_213001
 clear BK210
 clear BK211
 clear BK212
 clear BK214
 clear HB
 have HO_213001 := n0_
 have HO224 := n1_
 have BK210 := n2_
 have BK211 := n3_
 have BK212 := n4_
 have BK214 := n5_
 have HB := n6_
 clear n0_ n1_ n2_ n3_ n4_ n5_ n6_
 (try clear hb)
 (try clear hb2)
 (try clear hk)
 (try clear hi)
 (try clear ho0)
 obtain ⟨Ao25, co25, eo25⟩ := Kd.R_slice HO224.out
 (first | subst eo25 | (injection eo25 with f1_ f2_ f3_; have f4_ := f1_.symm; have f5_ := f3_.symm; clear f1_ f2_ f3_; subst f4_; subst f5_))
 refine hK.out _ _ ⟨(blk_cell BK212.out 0).trans rfl, (blk_cell BK212.out 1).trans rfl, (blk_cell BK212.out 2).trans rfl, (blk_cell BK212.out 3).trans rfl, (blk_cell BK214.out 0).trans rfl, (blk_cell BK214.out 1).trans rfl, (blk_cell BK214.out 2).trans rfl, (blk_cell BK214.out 3).trans rfl, (blk_cell BK214.out 4).trans rfl, (blk_cell BK214.out 5).trans rfl, (blk_cell BK214.out 6).trans rfl, (blk_cell BK214.out 7).trans rfl⟩ (fun hHeld => ?_)
 clear hK K
 refine norm_ (a' := ?_) ?_ ?_
 rotate_left
 ·show Act.put _ (some 21) _ = _
  simp only [Act.put, List.setIfInBounds_toArray, List.set_cons_zero, List.set_cons_succ, i64_w, i32_w]
  rfl
 refine one_ (i := 4) (N := some 22) #[true, true, true, true, true, false, false, false] rfl rfl (one_of HT_.out (by kernel_rfl)) (by decide) (fun K hK => ?_)
 refine value_ (w1 := ?_) (v := ?_) (by rfl) rfl ?_ ?_
 rotate_left 2
 ·go_simp
  constructor
  ·rfl
  rfl
 refine hK.out _ _ ⟨(blk_cell (blk_alloc BK212.out _) 0).trans rfl, (blk_cell (blk_alloc BK212.out _) 1).trans rfl, (blk_cell (blk_alloc BK212.out _) 2).trans rfl, (blk_cell (blk_alloc BK212.out _) 3).trans rfl, (blk_cell (blk_alloc BK214.out _) 0).trans rfl, (blk_cell (blk_alloc BK214.out _) 1).trans rfl, (blk_cell (blk_alloc BK214.out _) 2).trans rfl, (blk_cell (blk_alloc BK214.out _) 3).trans rfl, (blk_cell (blk_alloc BK214.out _) 4).trans rfl, (blk_cell (blk_alloc BK214.out _) 5).trans rfl, (blk_cell (blk_alloc BK214.out _) 6).trans rfl, (blk_cell (blk_alloc BK214.out _) 7).trans rfl⟩ (fun hHeld => ?_)
 clear hK K
 refine norm_ (a' := ?_) ?_ ?_
 rotate_left
 ·show Act.put _ (some 22) _ = _
  simp only [Act.put, List.setIfInBounds_toArray, List.set_cons_zero, List.set_cons_succ, i64_w, i32_w]
  rfl
 refine one_ (i := 5) (N := some 23) #[true, true, true, true, true, true, false, false] rfl rfl (one_of HT_.out (by kernel_rfl)) (by decide) (fun K hK => ?_)
 refine Kd.S_append_step k48 (w0 := w) w.heap.size (by rfl) (.tmp 19) (.tmp 22) 22 48 (.agg #[(.int .u64 0), (.int .u16 0), (.int .i64 0), (.int .i64 0), (.int .i64 0), (.int .i64 0), (.int .i64 0), (.slice none 0 0)]) 80 rfl Try.underlying22 info48 rfl (by decide) (by omega) u213001 x213001_1 (⟨t215, t216, t217, t218, t219, t220, t221, t222⟩ : S48) [.int .u64 t215, .int .u16 t216, .int .i64 t217, .int .i64 t218, .int .i64 t219, .int .i64 t220, .int .i64 t221, .slice Ao25 t222.length co25] (fun k_ => k_ ≠ gb214) (fun k_ => some k_ = (.slice Ao25 t222.length co25 : Value).ownBlock) rfl rfl ?aP (fun k_ hk_ => ((Kd.R_mono (ok' := fun k_ => ((fun k_ => k_ ≠ gb214)) k_ ∧ some k_ ≠ (u213001 : Value).ownBlock) (Kd.R_types (Kd.R_apart' (HO224.out) (Kd.S_typed HO_213001.out) (by decide)) BK214.out (by decide)) (fun k_ hk => ⟨hk.2, hk.1.2⟩))).1 k_ hk_.symm) ?aF ?aO ?aB ?aS ?aL ?_
 (case aP => exact k48_mkM _ _ _ (⟨t215, t216, t217, t218, t219, t220, t221, t222⟩ : S48) (Kd.R_mono (Kd.R_tight rfl (Kd.R_mono (ok' := fun k_ => ((fun k_ => k_ ≠ gb214)) k_ ∧ some k_ ≠ (u213001 : Value).ownBlock) (Kd.R_types (Kd.R_apart' (HO224.out) (Kd.S_typed HO_213001.out) (by decide)) BK214.out (by decide)) (fun k_ hk => ⟨hk.2, hk.1.2⟩))) (fun _ h_ => h_)))
 (case aB => exact (by repeat (first | (with_reducible first | exact HB.out | apply below_alloc | apply pw_below_drewN | apply below_drew1 | refine below_set ?_ GE210.out | refine below_set ?_ GE211.out | refine below_set ?_ GE212.out | refine below_set ?_ GE214.out) | exact HB.out)))
 (case aF => exact (fun k_ hk => Kd.freshB (g := gb214) (o := .cells #[.int .u64 ((rd_T48 l0_1 x14_1).f0), .int .u16 ((rd_T48 l0_1 x14_1).f1), .int .i64 ((rd_T48 l0_1 x14_1).f2), .int .i64 ((rd_T48 l0_1 x14_1).f3), .int .i64 ((rd_T48 l0_1 x14_1).f4), .int .i64 ((rd_T48 l0_1 x14_1).f5), .int .i64 ((rd_T48 l0_1 x14_1).f6), .slice A213_7 ((rd_T48 l0_1 x14_1).f7).length c213_7] 48 (0, 0)) (by (with_reducible repeat (first | refine blk_drewN ?_ _ | refine blk_drew ?_ | refine blk_alloc ?_ _)); exact BK214.out) k_ hk))
 (case aO => exact (by (with_reducible repeat (first | apply Kd.S_alloc | apply Kd.S_drewN | apply Kd.S_drew)); exact Kd.S_mono HO_213001.out (fun k_ hk => ⟨hk.1, fun e_ => hk.2 e_⟩)))
 (case aS => exact (below_size (by repeat (first | (with_reducible first | exact HB.out | apply below_alloc | apply pw_below_drewN | apply below_drew1 | refine below_set ?_ GE210.out | refine below_set ?_ GE211.out | refine below_set ?_ GE212.out | refine below_set ?_ GE214.out) | exact HB.out))))
 (case aL => have := LMc15.out; omega)
 intro v226 w24 ho hb hg hat
 rw [← Ny225.out] at ho
 have n0_ := Aside0.mk (blk_grown (g := gb210) (o := .cells #[.int .i64 a0_0, .slice (some ad213) l0_1.length c0_1, .slice A0_2 l0_2.length c0_2, .slice A0_3 l0_3.length c0_3] 26 (0, 0)) (by (with_reducible repeat (first | refine blk_drewN ?_ _ | refine blk_drew ?_ | refine blk_alloc ?_ _)); exact BK210.out) hg (Kd.S_ne HO_213001.out BK210.out (by decide)))
 have n1_ := Aside0.mk (blk_grown (g := gb211) (o := .cells #[.int .i64 0, .slice none 0 0, .slice none 0 0, .slice none 0 0] 26 (0, 0)) (by (with_reducible repeat (first | refine blk_drewN ?_ _ | refine blk_drew ?_ | refine blk_alloc ?_ _)); exact BK211.out) hg (Kd.S_ne HO_213001.out BK211.out (by decide)))
 have n2_ := Aside0.mk (blk_grown (g := gb212) (o := .cells #[.int .i64 a0_0, u213001, .slice none 0 0, .slice A0_3 l0_3.length c0_3] 26 (0, 0)) (by (with_reducible repeat (first | refine blk_drewN ?_ _ | refine blk_drew ?_ | refine blk_alloc ?_ _)); exact BK212.out) hg (Kd.S_ne HO_213001.out BK212.out (by decide)))
 have n3_ := Aside0.mk (blk_grown (g := gb214) (o := .cells #[.int .u64 ((rd_T48 l0_1 x14_1).f0), .int .u16 ((rd_T48 l0_1 x14_1).f1), .int .i64 ((rd_T48 l0_1 x14_1).f2), .int .i64 ((rd_T48 l0_1 x14_1).f3), .int .i64 ((rd_T48 l0_1 x14_1).f4), .int .i64 ((rd_T48 l0_1 x14_1).f5), .int .i64 ((rd_T48 l0_1 x14_1).f6), .slice A213_7 ((rd_T48 l0_1 x14_1).f7).length c213_7] 48 (0, 0)) (by (with_reducible repeat (first | refine blk_drewN ?_ _ | refine blk_drew ?_ | refine blk_alloc ?_ _)); exact BK214.out) hg (Kd.S_away HO_213001.out (fun _ hk => hk.1)))
 have n4_ := Aside0.mk (hb)
 have n5_ := Aside0.mk (ho)
 clear BK210
 clear BK211
 clear BK212
 clear BK214
 clear HB
 clear HO_213001
 clear HO224
 have BK210 := n0_
 have BK211 := n1_
 have BK212 := n2_
 have BK214 := n3_
 have HB := n4_
 have HO227 := n5_
 clear n0_ n1_ n2_ n3_ n4_ n5_
 clear ho hb hg hat
 obtain ⟨Ao26, co26, eo26⟩ := Kd.S_slice HO227.out
 (first | subst eo26 | (injection eo26 with f1_ f2_ f3_; have f4_ := f1_.symm; have f5_ := f3_.symm; clear f1_ f2_ f3_; subst f4_; subst f5_))
 refine hK.out _ _ ⟨(blk_cell BK212.out 0).trans rfl, (blk_cell BK212.out 1).trans rfl, (blk_cell BK212.out 2).trans rfl, (blk_cell BK212.out 3).trans rfl, (blk_cell BK214.out 0).trans rfl, (blk_cell BK214.out 1).trans rfl, (blk_cell BK214.out 2).trans rfl, (blk_cell BK214.out 3).trans rfl, (blk_cell BK214.out 4).trans rfl, (blk_cell BK214.out 5).trans rfl, (blk_cell BK214.out 6).trans rfl, (blk_cell BK214.out 7).trans rfl⟩ (fun hHeld => ?_)
 clear hK K
 refine norm_ (a' := ?_) ?_ ?_
 rotate_left
 ·show Act.put _ (some 23) _ = _
  simp only [Act.put, List.setIfInBounds_toArray, List.set_cons_zero, List.set_cons_succ, i64_w, i32_w]
  rfl
 refine pure_ (i := 6) (N := some 24) (v := ?_) (a' := ?_) #[true, true, true, true, true, true, true, false] rfl rfl (any_of HT_.out (by kernel_rfl)) (fun _ _ _ h => h) (Or.inl ⟨by rfl, ?_⟩) ?_ ?_
 rotate_left
 ·intro w'
  go_simp
  with_reducible rfl
 rotate_left
 ·simp only [Act.put, List.setIfInBounds_toArray, List.set_cons_zero, List.set_cons_succ, i64_w, i32_w]
  rfl
 refine last_ (i := 7) (N := none) #[true, true, true, true, true, true, true, true] rfl rfl (one_of HT_.out (by kernel_rfl)) (by decide) (fun K hK => ?_)
 have hs27 : w24.cell? ⟨gb212, 1, none⟩ = some (u213001) := (blk_cell BK212.out 1).trans rfl
 have hfs27 := blk_frozen BK212.out 1
 have hns27_0 := NB210_212.out
 have hns27_1 := NB211_212.out
 have hns27_3 := NB214_212.out
 have hms27_0 := NB212_210.out
 have hms27_1 := NB212_211.out
 have hms27_3 := NB212_214.out
 refine skip_ (w1 := ?_) (by rfl) rfl ?_ ?_
 rotate_left
 ·go_simp
  rfl
 refine hK.out _ _ ?_
 clear hK K
 refine done_ (done_of HT_.out (by kernel_rfl)) ?_
 try go_wp2
 go_roundg k1
 case measure => have := HK1.out; omega
 case rel => exact ⟨(wrap64 (x14_1 + 1)), (y225), (.slice Ao26 y225.length co26), (by first | rfl | (simp; done) | (simp [*]; done)), H', ⟨by have := HK1.out; omega⟩, ⟨by (with_reducible repeat (first | apply Kd.S_alloc | apply Kd.S_drewN | apply Kd.S_drew)); exact Kd.S_mono (Kd.S_far (p := ⟨gb212, 1, none⟩) (Kd.S_types HO227.out BK212.out (by decide)) (fun _ hk => hk.2) (.slice Ao26 y225.length co26)) (fun _ hk => trivial)⟩, ⟨by (with_reducible repeat (first | refine blk_drewN ?_ _ | refine blk_drew ?_ | refine blk_alloc ?_ _)); refine blk_far ?_ NB210_212.out _; (with_reducible repeat (first | refine blk_drewN ?_ _ | refine blk_drew ?_ | refine blk_alloc ?_ _)); exact BK210.out⟩, ⟨by (with_reducible repeat (first | refine blk_drewN ?_ _ | refine blk_drew ?_ | refine blk_alloc ?_ _)); refine blk_far ?_ NB211_212.out _; (with_reducible repeat (first | refine blk_drewN ?_ _ | refine blk_drew ?_ | refine blk_alloc ?_ _)); exact BK211.out⟩, ⟨by (with_reducible repeat (first | refine blk_drewN ?_ _ | refine blk_drew ?_ | refine blk_alloc ?_ _)); refine blk_put (cs := #[.int .i64 a0_0, u213001, .slice none 0 0, .slice A0_3 l0_3.length c0_3]) ?_ 1 _ rfl; (with_reducible repeat (first | refine blk_drewN ?_ _ | refine blk_drew ?_ | refine blk_alloc ?_ _)); exact BK212.out⟩, ⟨by repeat (first | (with_reducible first | exact HB.out | apply below_alloc | apply pw_below_drewN | apply below_drew1 | refine below_set ?_ GE210.out | refine below_set ?_ GE211.out | refine below_set ?_ GE212.out | refine below_set ?_ GE214.out) | exact HB.out)⟩⟩
end Go.Proofs.Ytkgfpagfmdefgaa.OTopoRight
