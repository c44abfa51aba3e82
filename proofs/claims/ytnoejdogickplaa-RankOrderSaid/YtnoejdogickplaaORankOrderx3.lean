/- What Go functions that the law RankOrder uses come to, and why: part 3. Made out of the kit's print by a program of this session (wip/tools/mend.py), with more rows. -/
import Derived.Test.YtnoejdogickplaaPRankOrderx0
import Derived.Test.YtnoejdogickplaaORankOrderx1
import Derived.Test.YtnoejdogickplaaORankOrderx2
namespace Go.Proofs.Ytnoejdogickplaa.PRankOrder
open Go.RowKit Go.Proofs.YtnoejdogickplaaW.PrintWords Go.Proofs.YtnoejdogickplaaW.PrintLast Go.Proofs.YtnoejdogickplaaW.PrintMore
attribute [local go_sem] max2_int min2_int max_two min_two max_three min_three max_four min_four   -- for this text's walks alone
set_option linter.unusedVariables false
set_option linter.unusedSimpArgs false

attribute [local go_sem high] eqA31
/-! ### treelinelaw10_RankOrder: function 5 -/
mutual
def treelinelaw10_RankOrder.j0 : Nat → Int → Bool → Int → Int → Int → Int → Int → Int → Int → Int → Int → Int → Int → Int → Option (Bool)
  | 0, _, _, _, _, _, _, _, _, _, _, _, _, _, _ => none
  | k + 1, x3, x28, x127000, x127001, x127002, x127003, x128000, x128001, x128002, x128003, x129000, x129001, x129002, x129003 => if x28 = true then (some false) else ((rank_Compare.f k x127000 x127001 x127002 x127003 x128000 x128001 x128002 x128003).bind fun t133 => (if t133 ≤ 0 then ((rank_Compare.f k x128000 x128001 x128002 x128003 x129000 x129001 x129002 x129003).bind fun t134 => (if t134 ≤ 0 then ((rank_Compare.f k x127000 x127001 x127002 x127003 x129000 x129001 x129002 x129003).bind fun t135 => (treelinelaw10_RankOrder.j1 k x3 (decide (t135 > 0)) x127000 x127001 x127002 x127003)) else (treelinelaw10_RankOrder.j1 k x3 false x127000 x127001 x127002 x127003))) else (treelinelaw10_RankOrder.j1 k x3 false x127000 x127001 x127002 x127003)))
def treelinelaw10_RankOrder.j1 : Nat → Int → Bool → Int → Int → Int → Int → Option (Bool)
  | 0, _, _, _, _, _, _ => none
  | k + 1, x3, x44, x127000, x127001, x127002, x127003 => if x44 = true then (some false) else ((rank_Via.f x127000 x127001 x127002 x127003 x3).bind fun bt136 => ((rank_Compare.f k bt136.1 bt136.2.1 bt136.2.2.1 bt136.2.2.2 x127000 x127001 x127002 x127003).bind fun t140 => (if t140 ≥ 0 then ((rank_Via.f x127000 x127001 x127002 x127003 x3).bind fun bt141 => ((rank_Keeps.f k x127000 x127001 x127002 x127003 bt141.1 bt141.2.1 bt141.2.2.1 bt141.2.2.2).bind fun t145 => (some t145))) else (some false))))
end
def treelinelaw10_RankOrder.f (k : Nat) (a0_0 : Int) (a0_1 : Int) (a0_2 : Int) (a0_3 : Int) (a1_0 : Int) (a1_1 : Int) (a1_2 : Int) (a1_3 : Int) (a2_0 : Int) (a2_1 : Int) (a2_2 : Int) (a2_3 : Int) (a3 : Int) : Option (Bool) := (treelinelaw10_awake.f k).bind fun t129 => (if t129 = true then ((rank_Compare.f k a0_0 a0_1 a0_2 a0_3 a1_0 a1_1 a1_2 a1_3).bind fun t130 => ((rank_Compare.f k a1_0 a1_1 a1_2 a1_3 a0_0 a0_1 a0_2 a0_3).bind fun t131 => (if t130 = (wrap64 (-t131)) then ((rank_Compare.f k a0_0 a0_1 a0_2 a0_3 a1_0 a1_1 a1_2 a1_3).bind fun t132 => (treelinelaw10_RankOrder.j0 k a3 ((t132 == 0) != (a0_0 == a1_0 && (a0_1 == a1_1 && (a0_2 == a1_2 && (a0_3 == a1_3))))) a0_0 a0_1 a0_2 a0_3 a1_0 a1_1 a1_2 a1_3 a2_0 a2_1 a2_2 a2_3)) else (treelinelaw10_RankOrder.j0 k a3 true a0_0 a0_1 a0_2 a0_3 a1_0 a1_1 a1_2 a1_3 a2_0 a2_1 a2_2 a2_3)))) else (some false))
theorem treelinelaw10_RankOrder.mono_l : ∀ k, (∀ y0 y1 y2 y3 y4 y5 y6 y7 y8 y9 y10 y11 y12 y13, LeO (treelinelaw10_RankOrder.j0 k y0 y1 y2 y3 y4 y5 y6 y7 y8 y9 y10 y11 y12 y13) (treelinelaw10_RankOrder.j0 (k + 1) y0 y1 y2 y3 y4 y5 y6 y7 y8 y9 y10 y11 y12 y13)) ∧ (∀ y0 y1 y2 y3 y4 y5, LeO (treelinelaw10_RankOrder.j1 k y0 y1 y2 y3 y4 y5) (treelinelaw10_RankOrder.j1 (k + 1) y0 y1 y2 y3 y4 y5))
  | 0 => ⟨fun _ _ _ _ _ _ _ _ _ _ _ _ _ _ r h => by simp [treelinelaw10_RankOrder.j0] at h, fun _ _ _ _ _ _ r h => by simp [treelinelaw10_RankOrder.j1] at h⟩
  | k + 1 => by
    obtain ⟨ih0, ih1⟩ := treelinelaw10_RankOrder.mono_l k
    refine ⟨?_, ?_⟩
    · intro y0 y1 y2 y3 y4 y5 y6 y7 y8 y9 y10 y11 y12 y13
      unfold treelinelaw10_RankOrder.j0
      repeat' first
      | (with_reducible exact ih0 _ _ _ _ _ _ _ _ _ _ _ _ _ _)
      | (with_reducible exact ih1 _ _ _ _ _ _)
      | (with_reducible exact rank_Compare.mono _ _ _ _ _ _ _ _ _)
      | (with_reducible exact rank_Keeps.mono _ _ _ _ _ _ _ _ _)
      | (with_reducible exact treelinelaw10_awake.mono _)
      | (with_reducible exact LeO.refl _)
      | (with_reducible exact LeO.none _)
      | (with_reducible refine LeO.ite ?_ ?_)
      | (with_reducible refine LeO.bind ?_ (fun _ => ?_))
      | exact ih0 _ _ _ _ _ _ _ _ _ _ _ _ _ _
      | exact ih1 _ _ _ _ _ _
      | exact rank_Compare.mono _ _ _ _ _ _ _ _ _
      | exact rank_Keeps.mono _ _ _ _ _ _ _ _ _
      | exact treelinelaw10_awake.mono _
      | exact LeO.none _
      | refine LeO.ite ?_ ?_
      | refine LeO.bind ?_ (fun _ => ?_)
    · intro y0 y1 y2 y3 y4 y5
      unfold treelinelaw10_RankOrder.j1
      repeat' first
      | (with_reducible exact ih0 _ _ _ _ _ _ _ _ _ _ _ _ _ _)
      | (with_reducible exact ih1 _ _ _ _ _ _)
      | (with_reducible exact rank_Compare.mono _ _ _ _ _ _ _ _ _)
      | (with_reducible exact rank_Keeps.mono _ _ _ _ _ _ _ _ _)
      | (with_reducible exact treelinelaw10_awake.mono _)
      | (with_reducible exact LeO.refl _)
      | (with_reducible exact LeO.none _)
      | (with_reducible refine LeO.ite ?_ ?_)
      | (with_reducible refine LeO.bind ?_ (fun _ => ?_))
      | exact ih0 _ _ _ _ _ _ _ _ _ _ _ _ _ _
      | exact ih1 _ _ _ _ _ _
      | exact rank_Compare.mono _ _ _ _ _ _ _ _ _
      | exact rank_Keeps.mono _ _ _ _ _ _ _ _ _
      | exact treelinelaw10_awake.mono _
      | exact LeO.none _
      | refine LeO.ite ?_ ?_
      | refine LeO.bind ?_ (fun _ => ?_)
theorem treelinelaw10_RankOrder.mono : ∀ a0 a1 a2 a3 a4 a5 a6 a7 a8 a9 a10 a11 a12 k, LeO (treelinelaw10_RankOrder.f k a0 a1 a2 a3 a4 a5 a6 a7 a8 a9 a10 a11 a12) (treelinelaw10_RankOrder.f (k + 1) a0 a1 a2 a3 a4 a5 a6 a7 a8 a9 a10 a11 a12) := by
  intro a0 a1 a2 a3 a4 a5 a6 a7 a8 a9 a10 a11 a12 k
  obtain ⟨ih0, ih1⟩ := treelinelaw10_RankOrder.mono_l k
  unfold treelinelaw10_RankOrder.f
  repeat' first
      | (with_reducible exact ih0 _ _ _ _ _ _ _ _ _ _ _ _ _ _)
      | (with_reducible exact ih1 _ _ _ _ _ _)
      | (with_reducible exact rank_Compare.mono _ _ _ _ _ _ _ _ _)
      | (with_reducible exact rank_Keeps.mono _ _ _ _ _ _ _ _ _)
      | (with_reducible exact treelinelaw10_awake.mono _)
      | (with_reducible exact LeO.refl _)
      | (with_reducible exact LeO.none _)
      | (with_reducible refine LeO.ite ?_ ?_)
      | (with_reducible refine LeO.bind ?_ (fun _ => ?_))
      | exact ih0 _ _ _ _ _ _ _ _ _ _ _ _ _ _
      | exact ih1 _ _ _ _ _ _
      | exact rank_Compare.mono _ _ _ _ _ _ _ _ _
      | exact rank_Keeps.mono _ _ _ _ _ _ _ _ _
      | exact treelinelaw10_awake.mono _
      | exact LeO.none _
      | refine LeO.ite ?_ ?_
      | refine LeO.bind ?_ (fun _ => ?_)
def treelinelaw10_RankOrder.T3 : Bool × List (List Nat × List Nat) := (true, [([], []), ([], []), ([0, 1], [0, 1]), ([], []), ([], []), ([3, 4, 2], [3, 4]), ([5], [5]), ([2, 6], [2, 6]), ([7, 5], [7]), ([8], [8]), ([8], [8]), ([9, 10, 8, 8], [8, 9, 10]), ([11, 8], [8, 11]), ([8], [8]), ([8], [8]), ([13, 14, 8], [8, 13, 14]), ([12, 15, 8], [8, 12, 15]), ([8, 16], [8, 16])])
def treelinelaw10_RankOrder.B3 : List Nat := [0, 0, 3, 0, 0, 31, 63, 127, 255, 511, 511, 2047, 4095, 511, 511, 25087, 65535, 131071]
theorem treelinelaw10_RankOrder.tab3 : rtab .any (opsOf Try.f5 3) = treelinelaw10_RankOrder.T3 := by kernel_rfl
theorem treelinelaw10_RankOrder.bits3 : waitsOk treelinelaw10_RankOrder.T3.2 treelinelaw10_RankOrder.B3 = true := by kernel_rfl
def treelinelaw10_RankOrder.T7 : Bool × List (List Nat × List Nat) := (true, [([], []), ([], []), ([0, 1], [0, 1]), ([], []), ([2, 3, 2], [2, 3]), ([4], [4]), ([5, 4], [5]), ([6], [6]), ([6], [6]), ([6], [6]), ([8, 9, 6, 6], [6, 8, 9]), ([7, 10, 10, 6], [6, 7, 10]), ([6, 11], [6, 11]), ([12, 11, 0, 1, 2, 3, 4, 5, 6, 7, 8, 9, 10, 11, 12], [12])])
def treelinelaw10_RankOrder.B7 : List Nat := [0, 0, 3, 0, 15, 31, 63, 127, 127, 127, 895, 2047, 4095, 8191]
theorem treelinelaw10_RankOrder.tab7 : rtab .any (opsOf Try.f5 7) = treelinelaw10_RankOrder.T7 := by kernel_rfl
theorem treelinelaw10_RankOrder.bits7 : waitsOk treelinelaw10_RankOrder.T7.2 treelinelaw10_RankOrder.B7 = true := by kernel_rfl
set_option maxHeartbeats 8000000 in
set_option maxRecDepth 100000 in
theorem treelinelaw10_RankOrder.calls (k : Nat) (a0_0 : Int) (a0_1 : Int) (a0_2 : Int) (a0_3 : Int) (a1_0 : Int) (a1_1 : Int) (a1_2 : Int) (a1_3 : Int) (a2_0 : Int) (a2_1 : Int) (a2_2 : Int) (a2_3 : Int) (a3 : Int) (r : Bool) (w : World) (h : treelinelaw10_RankOrder.f k a0_0 a0_1 a0_2 a0_3 a1_0 a1_1 a1_2 a1_3 a2_0 a2_1 a2_2 a2_3 a3 = some r) (LRT : Aside0 (r = true)) :
    Calls Try.prog 5 #[.agg #[.int .u64 a0_0, .int .u32 a0_1, .int .u64 a0_2, .int .u16 a0_3], .agg #[.int .u64 a1_0, .int .u32 a1_1, .int .u64 a1_2, .int .u16 a1_3], .agg #[.int .u64 a2_0, .int .u32 a2_1, .int .u64 a2_2, .int .u16 a2_3], .int .u32 a3] w fun e w' => e = .returned (.bool r) ∧ Below w.heap.size w w' := by
  have hu31 := Try.underlying31
  have HB := Aside0.mk (Below.refl w.heap.size w)
  have H : ((treelinelaw10_awake.f k).bind fun t129 => (if t129 = true then ((rank_Compare.f k a0_0 a0_1 a0_2 a0_3 a1_0 a1_1 a1_2 a1_3).bind fun t130 => ((rank_Compare.f k a1_0 a1_1 a1_2 a1_3 a0_0 a0_1 a0_2 a0_3).bind fun t131 => (if t130 = (wrap64 (-t131)) then ((rank_Compare.f k a0_0 a0_1 a0_2 a0_3 a1_0 a1_1 a1_2 a1_3).bind fun t132 => (treelinelaw10_RankOrder.j0 k a3 ((t132 == 0) != (a0_0 == a1_0 && (a0_1 == a1_1 && (a0_2 == a1_2 && (a0_3 == a1_3))))) a0_0 a0_1 a0_2 a0_3 a1_0 a1_1 a1_2 a1_3 a2_0 a2_1 a2_2 a2_3)) else (treelinelaw10_RankOrder.j0 k a3 true a0_0 a0_1 a0_2 a0_3 a1_0 a1_1 a1_2 a1_3 a2_0 a2_1 a2_2 a2_3)))) else (some false))) = some r := h
  clear h
  replace H := Option.bind_eq_some_iff.mp H
  obtain ⟨t129, A50, H⟩ := H
  replace H : (if t129 = true then ((rank_Compare.f k a0_0 a0_1 a0_2 a0_3 a1_0 a1_1 a1_2 a1_3).bind fun t130 => ((rank_Compare.f k a1_0 a1_1 a1_2 a1_3 a0_0 a0_1 a0_2 a0_3).bind fun t131 => (if t130 = (wrap64 (-t131)) then ((rank_Compare.f k a0_0 a0_1 a0_2 a0_3 a1_0 a1_1 a1_2 a1_3).bind fun t132 => (treelinelaw10_RankOrder.j0 k a3 ((t132 == 0) != (a0_0 == a1_0 && (a0_1 == a1_1 && (a0_2 == a1_2 && (a0_3 == a1_3))))) a0_0 a0_1 a0_2 a0_3 a1_0 a1_1 a1_2 a1_3 a2_0 a2_1 a2_2 a2_3)) else (treelinelaw10_RankOrder.j0 k a3 true a0_0 a0_1 a0_2 a0_3 a1_0 a1_1 a1_2 a1_3 a2_0 a2_1 a2_2 a2_3)))) else (some false)) = some r := H
  have A5 := Aside0.mk A50
  clear A50
  by_cases c6 : t129 = true
  · subst c6
    have H1 : ((rank_Compare.f k a0_0 a0_1 a0_2 a0_3 a1_0 a1_1 a1_2 a1_3).bind fun t130 => ((rank_Compare.f k a1_0 a1_1 a1_2 a1_3 a0_0 a0_1 a0_2 a0_3).bind fun t131 => (if t130 = (wrap64 (-t131)) then ((rank_Compare.f k a0_0 a0_1 a0_2 a0_3 a1_0 a1_1 a1_2 a1_3).bind fun t132 => (treelinelaw10_RankOrder.j0 k a3 ((t132 == 0) != (a0_0 == a1_0 && (a0_1 == a1_1 && (a0_2 == a1_2 && (a0_3 == a1_3))))) a0_0 a0_1 a0_2 a0_3 a1_0 a1_1 a1_2 a1_3 a2_0 a2_1 a2_2 a2_3)) else (treelinelaw10_RankOrder.j0 k a3 true a0_0 a0_1 a0_2 a0_3 a1_0 a1_1 a1_2 a1_3 a2_0 a2_1 a2_2 a2_3)))) = some r := by rw [if_pos rfl] at H; exact H
    clear H
    have H := H1
    clear H1
    have HC7 := Aside0.mk H
    clear H
    go_enter Try.func5, Try.ntmps5
    go_upto_region 3 with (first | ((with_reducible refine gate_dst (N := 4) rfl ?_); refine box_event ?hg (N := 4) ?hd (cs := #[.int .u64 a0_0, .int .u32 a0_1, .int .u64 a0_2, .int .u16 a0_3]) (t := 31) ?hr ?_; (case hd => rfl); (case hg => rfl); (case hr => first | (go_simp; done) | (go_simp; rfl)); intro gb126 hg w8 hbox hb; have n0_ := Aside0.mk (below_step (by repeat (first | (with_reducible first | exact HB.out | apply below_alloc | apply pw_below_drewN | apply below_drew1) | exact HB.out)) hb); have n1_ := Aside0.mk (hbox); have n2_ := Aside0.mk ((by rw [hg]; exact (below_size (by repeat (first | (with_reducible first | exact HB.out | apply below_alloc | apply pw_below_drewN | apply below_drew1) | exact HB.out))) : w.heap.size ≤ gb126)); have n3_ := Aside0.mk ((by rw [hg]; exact (below_size (by repeat (first | (with_reducible first | exact HB.out | apply below_alloc | apply pw_below_drewN | apply below_drew1) | exact HB.out))) : w.heap.size ≤ gb126)); clear HB; have HB := n0_; have BK126 := n1_; have GW126 := n2_; have GE126 := n3_; clear n0_ n1_ n2_ n3_; clear hb hbox hg) | ((with_reducible refine gate_dst (N := 5) rfl ?_); refine box_event ?hg (N := 5) ?hd (cs := #[.int .u64 a1_0, .int .u32 a1_1, .int .u64 a1_2, .int .u16 a1_3]) (t := 31) ?hr ?_; (case hd => rfl); (case hg => rfl); (case hr => first | (go_simp; done) | (go_simp; rfl)); intro gb127 hg w9 hbox hb; have n0_ := Aside0.mk (blk_below (g := gb126) (o := .cells #[.int .u64 a0_0, .int .u32 a0_1, .int .u64 a0_2, .int .u16 a0_3] 31 (0, 0)) (by (with_reducible repeat (first | refine blk_drewN ?_ _ | refine blk_drew ?_ | refine blk_alloc ?_ _)); exact BK126.out) hb); have n1_ := Aside0.mk (below_step (by repeat (first | (with_reducible first | exact HB.out | apply below_alloc | apply pw_below_drewN | apply below_drew1 | refine below_set ?_ GE126.out) | exact HB.out)) hb); have n2_ := Aside0.mk (hbox); have n3_ := Aside0.mk ((by rw [hg]; exact (below_size (by repeat (first | (with_reducible first | exact HB.out | apply below_alloc | apply pw_below_drewN | apply below_drew1 | refine below_set ?_ GE126.out) | exact HB.out))) : w.heap.size ≤ gb127)); have n4_ := Aside0.mk ((by rw [hg]; exact (below_size (by repeat (first | (with_reducible first | exact HB.out | apply below_alloc | apply pw_below_drewN | apply below_drew1 | refine below_set ?_ GE126.out) | exact HB.out))) : w.heap.size ≤ gb127)); have n5_ := Aside0.mk ((by rw [hg]; exact Nat.ne_of_lt (blk_lt (g := gb126) (o := .cells #[.int .u64 a0_0, .int .u32 a0_1, .int .u64 a0_2, .int .u16 a0_3] 31 (0, 0)) (by (with_reducible repeat (first | refine blk_drewN ?_ _ | refine blk_drew ?_ | refine blk_alloc ?_ _)); exact BK126.out)) : gb126 ≠ gb127)); have n6_ := Aside0.mk ((by rw [hg]; exact Nat.ne_of_gt (blk_lt (g := gb126) (o := .cells #[.int .u64 a0_0, .int .u32 a0_1, .int .u64 a0_2, .int .u16 a0_3] 31 (0, 0)) (by (with_reducible repeat (first | refine blk_drewN ?_ _ | refine blk_drew ?_ | refine blk_alloc ?_ _)); exact BK126.out)) : gb127 ≠ gb126)); clear BK126; clear HB; have BK126 := n0_; have HB := n1_; have BK127 := n2_; have GW127 := n3_; have GE127 := n4_; have NB126_127 := n5_; have NB127_126 := n6_; clear n0_ n1_ n2_ n3_ n4_ n5_ n6_; clear hb hbox hg) | ((with_reducible refine gate_dst (N := 6) rfl ?_); refine box_event ?hg (N := 6) ?hd (cs := #[.int .u64 a2_0, .int .u32 a2_1, .int .u64 a2_2, .int .u16 a2_3]) (t := 31) ?hr ?_; (case hd => rfl); (case hg => rfl); (case hr => first | (go_simp; done) | (go_simp; rfl)); intro gb128 hg w10 hbox hb; have n0_ := Aside0.mk (blk_below (g := gb126) (o := .cells #[.int .u64 a0_0, .int .u32 a0_1, .int .u64 a0_2, .int .u16 a0_3] 31 (0, 0)) (by (with_reducible repeat (first | refine blk_drewN ?_ _ | refine blk_drew ?_ | refine blk_alloc ?_ _)); exact BK126.out) hb); have n1_ := Aside0.mk (blk_below (g := gb127) (o := .cells #[.int .u64 a1_0, .int .u32 a1_1, .int .u64 a1_2, .int .u16 a1_3] 31 (0, 0)) (by (with_reducible repeat (first | refine blk_drewN ?_ _ | refine blk_drew ?_ | refine blk_alloc ?_ _)); exact BK127.out) hb); have n2_ := Aside0.mk (below_step (by repeat (first | (with_reducible first | exact HB.out | apply below_alloc | apply pw_below_drewN | apply below_drew1 | refine below_set ?_ GE126.out | refine below_set ?_ GE127.out) | exact HB.out)) hb); have n3_ := Aside0.mk (hbox); have n4_ := Aside0.mk ((by rw [hg]; exact (below_size (by repeat (first | (with_reducible first | exact HB.out | apply below_alloc | apply pw_below_drewN | apply below_drew1 | refine below_set ?_ GE126.out | refine below_set ?_ GE127.out) | exact HB.out))) : w.heap.size ≤ gb128)); have n5_ := Aside0.mk ((by rw [hg]; exact (below_size (by repeat (first | (with_reducible first | exact HB.out | apply below_alloc | apply pw_below_drewN | apply below_drew1 | refine below_set ?_ GE126.out | refine below_set ?_ GE127.out) | exact HB.out))) : w.heap.size ≤ gb128)); have n6_ := Aside0.mk ((by rw [hg]; exact Nat.ne_of_lt (blk_lt (g := gb126) (o := .cells #[.int .u64 a0_0, .int .u32 a0_1, .int .u64 a0_2, .int .u16 a0_3] 31 (0, 0)) (by (with_reducible repeat (first | refine blk_drewN ?_ _ | refine blk_drew ?_ | refine blk_alloc ?_ _)); exact BK126.out)) : gb126 ≠ gb128)); have n7_ := Aside0.mk ((by rw [hg]; exact Nat.ne_of_gt (blk_lt (g := gb126) (o := .cells #[.int .u64 a0_0, .int .u32 a0_1, .int .u64 a0_2, .int .u16 a0_3] 31 (0, 0)) (by (with_reducible repeat (first | refine blk_drewN ?_ _ | refine blk_drew ?_ | refine blk_alloc ?_ _)); exact BK126.out)) : gb128 ≠ gb126)); have n8_ := Aside0.mk ((by rw [hg]; exact Nat.ne_of_lt (blk_lt (g := gb127) (o := .cells #[.int .u64 a1_0, .int .u32 a1_1, .int .u64 a1_2, .int .u16 a1_3] 31 (0, 0)) (by (with_reducible repeat (first | refine blk_drewN ?_ _ | refine blk_drew ?_ | refine blk_alloc ?_ _)); exact BK127.out)) : gb127 ≠ gb128)); have n9_ := Aside0.mk ((by rw [hg]; exact Nat.ne_of_gt (blk_lt (g := gb127) (o := .cells #[.int .u64 a1_0, .int .u32 a1_1, .int .u64 a1_2, .int .u16 a1_3] 31 (0, 0)) (by (with_reducible repeat (first | refine blk_drewN ?_ _ | refine blk_drew ?_ | refine blk_alloc ?_ _)); exact BK127.out)) : gb128 ≠ gb127)); clear BK126; clear BK127; clear HB; have BK126 := n0_; have BK127 := n1_; have HB := n2_; have BK128 := n3_; have GW128 := n4_; have GE128 := n5_; have NB126_128 := n6_; have NB128_126 := n7_; have NB127_128 := n8_; have NB128_127 := n9_; clear n0_ n1_ n2_ n3_ n4_ n5_ n6_ n7_ n8_ n9_; clear hb hbox hg) | ((with_reducible refine gate_callee (f := 12) rfl ?_); refine goesL_ (some 9) rfl rfl Try.func12 (by kernel_rfl) rfl #[] rfl (by (try simp only [List.map_toArray, List.map_cons, List.map_nil]); first | done | rfl | (simp only [List.length_drop, List.length_take]; rfl)) ?_; (with_reducible refine (treelinelaw10_awake.calls k  true _ A5.out).mono ?_); rintro e w11 ⟨rfl, hb⟩; refine ⟨_, rfl, ?_⟩; have n0_ := Aside0.mk (blk_below (g := gb126) (o := .cells #[.int .u64 a0_0, .int .u32 a0_1, .int .u64 a0_2, .int .u16 a0_3] 31 (0, 0)) (by (with_reducible repeat (first | refine blk_drewN ?_ _ | refine blk_drew ?_ | refine blk_alloc ?_ _)); exact BK126.out) hb); have n1_ := Aside0.mk (blk_below (g := gb127) (o := .cells #[.int .u64 a1_0, .int .u32 a1_1, .int .u64 a1_2, .int .u16 a1_3] 31 (0, 0)) (by (with_reducible repeat (first | refine blk_drewN ?_ _ | refine blk_drew ?_ | refine blk_alloc ?_ _)); exact BK127.out) hb); have n2_ := Aside0.mk (blk_below (g := gb128) (o := .cells #[.int .u64 a2_0, .int .u32 a2_1, .int .u64 a2_2, .int .u16 a2_3] 31 (0, 0)) (by (with_reducible repeat (first | refine blk_drewN ?_ _ | refine blk_drew ?_ | refine blk_alloc ?_ _)); exact BK128.out) hb); have n3_ := Aside0.mk (below_step (by repeat (first | (with_reducible first | exact HB.out | apply below_alloc | apply pw_below_drewN | apply below_drew1 | refine below_set ?_ GE126.out | refine below_set ?_ GE127.out | refine below_set ?_ GE128.out) | exact HB.out)) hb); clear BK126; clear BK127; clear BK128; clear HB; have BK126 := n0_; have BK127 := n1_; have BK128 := n2_; have HB := n3_; clear n0_ n1_ n2_ n3_; (try clear hb); (try clear hb2); (try clear hk); (try clear hi)))
    (try simp only [Act.put, List.setIfInBounds_toArray, List.set_cons_zero, List.set_cons_succ])
    go_cut [28] (fun v28 wc => ∃ (kq : Nat) (x28_6 : Bool), v28 = .bool x28_6 ∧ Aside0 (treelinelaw10_RankOrder.j0 kq a3 x28_6 a0_0 a0_1 a0_2 a0_3 a1_0 a1_1 a1_2 a1_3 a2_0 a2_1 a2_2 a2_3 = some r) ∧ Aside0 (kq ≤ k) ∧ Aside0 (wc.heap[gb126]? = some (.cells #[.int .u64 a0_0, .int .u32 a0_1, .int .u64 a0_2, .int .u16 a0_3] 31 (0, 0))) ∧ Aside0 (wc.heap[gb127]? = some (.cells #[.int .u64 a1_0, .int .u32 a1_1, .int .u64 a1_2, .int .u16 a1_3] 31 (0, 0))) ∧ Aside0 (wc.heap[gb128]? = some (.cells #[.int .u64 a2_0, .int .u32 a2_1, .int .u64 a2_2, .int .u16 a2_3] 31 (0, 0))) ∧ Aside0 (Below w.heap.size w wc))
    case first =>
      have H := HC7.out
      clear HC7
      replace H := Option.bind_eq_some_iff.mp H
      obtain ⟨t130, A120, H⟩ := H
      replace H : ((rank_Compare.f k a1_0 a1_1 a1_2 a1_3 a0_0 a0_1 a0_2 a0_3).bind fun t131 => (if t130 = (wrap64 (-t131)) then ((rank_Compare.f k a0_0 a0_1 a0_2 a0_3 a1_0 a1_1 a1_2 a1_3).bind fun t132 => (treelinelaw10_RankOrder.j0 k a3 ((t132 == 0) != (a0_0 == a1_0 && (a0_1 == a1_1 && (a0_2 == a1_2 && (a0_3 == a1_3))))) a0_0 a0_1 a0_2 a0_3 a1_0 a1_1 a1_2 a1_3 a2_0 a2_1 a2_2 a2_3)) else (treelinelaw10_RankOrder.j0 k a3 true a0_0 a0_1 a0_2 a0_3 a1_0 a1_1 a1_2 a1_3 a2_0 a2_1 a2_2 a2_3))) = some r := H
      have A12 := Aside0.mk A120
      clear A120
      replace H := Option.bind_eq_some_iff.mp H
      obtain ⟨t131, A130, H⟩ := H
      replace H : (if t130 = (wrap64 (-t131)) then ((rank_Compare.f k a0_0 a0_1 a0_2 a0_3 a1_0 a1_1 a1_2 a1_3).bind fun t132 => (treelinelaw10_RankOrder.j0 k a3 ((t132 == 0) != (a0_0 == a1_0 && (a0_1 == a1_1 && (a0_2 == a1_2 && (a0_3 == a1_3))))) a0_0 a0_1 a0_2 a0_3 a1_0 a1_1 a1_2 a1_3 a2_0 a2_1 a2_2 a2_3)) else (treelinelaw10_RankOrder.j0 k a3 true a0_0 a0_1 a0_2 a0_3 a1_0 a1_1 a1_2 a1_3 a2_0 a2_1 a2_2 a2_3)) = some r := H
      have A13 := Aside0.mk A130
      clear A130
      by_cases c14 : t130 = (wrap64 (-t131))
      · rw [if_pos c14] at H
        have c14b0 : (t130 == (wrap64 (-t131))) = true := beq_iff_eq.mpr c14
        have c14b1 : (t130 != (wrap64 (-t131))) = false := bne_eq_false_iff_eq.mpr c14
        clear c14
        (first | rw [c14b0] | (simp only [i64_w, i32_w]; rw [c14b0]) | skip)
        replace H := Option.bind_eq_some_iff.mp H
        obtain ⟨t132, A150, H⟩ := H
        replace H : (treelinelaw10_RankOrder.j0 k a3 ((t132 == 0) != (a0_0 == a1_0 && (a0_1 == a1_1 && (a0_2 == a1_2 && (a0_3 == a1_3))))) a0_0 a0_1 a0_2 a0_3 a1_0 a1_1 a1_2 a1_3 a2_0 a2_1 a2_2 a2_3) = some r := H
        have A15 := Aside0.mk A150
        clear A150
        have H' := Aside0.mk H
        clear H
        try go_wp2
        have n0_ := Aside0.mk (blk_drew BK126.out)
        have n1_ := Aside0.mk (blk_drew BK127.out)
        have n2_ := Aside0.mk (blk_drew BK128.out)
        have n3_ := Aside0.mk (below_drew1 HB.out)
        clear BK126
        clear BK127
        clear BK128
        clear HB
        have BK126 := n0_
        have BK127 := n1_
        have BK128 := n2_
        have HB := n3_
        clear n0_ n1_ n2_ n3_
        refine start_ (n := 18) (S := fun w' => w'.cell? ⟨gb126, 0, none⟩ = some (.int .u64 a0_0) ∧ w'.cell? ⟨gb126, 1, none⟩ = some (.int .u32 a0_1) ∧ w'.cell? ⟨gb126, 2, none⟩ = some (.int .u64 a0_2) ∧ w'.cell? ⟨gb126, 3, none⟩ = some (.int .u16 a0_3) ∧ w'.cell? ⟨gb127, 0, none⟩ = some (.int .u64 a1_0) ∧ w'.cell? ⟨gb127, 1, none⟩ = some (.int .u32 a1_1) ∧ w'.cell? ⟨gb127, 2, none⟩ = some (.int .u64 a1_2) ∧ w'.cell? ⟨gb127, 3, none⟩ = some (.int .u16 a1_3)) (ds := []) #[false, false, false, false, false, false, false, false, false, false, false, false, false, false, false, false, false, false] (by kernel_rfl) rfl rfl ⟨(blk_cell BK126.out 0).trans rfl, (blk_cell BK126.out 1).trans rfl, (blk_cell BK126.out 2).trans rfl, (blk_cell BK126.out 3).trans rfl, (blk_cell BK127.out 0).trans rfl, (blk_cell BK127.out 1).trans rfl, (blk_cell BK127.out 2).trans rfl, (blk_cell BK127.out 3).trans rfl⟩ (fun hHeld => ?_); refine with_tabW treelinelaw10_RankOrder.tab3 treelinelaw10_RankOrder.bits3 (fun HT_ HW_ => ?_)
        generalize w11.drew = w16 at BK126 BK127 BK128 HB hHeld ⊢
        refine take_ (i := 0) (N := some 11) (v := ?_) (a' := ?_) #[true, false, false, false, false, false, false, false, false, false, false, false, false, false, false, false, false, false] rfl rfl (take_ofW HT_.out HW_.out (by kernel_rfl)) (fun _ _ _ h => h) (Or.inl ⟨by rfl, ?_⟩) hHeld ?_ ?_
        rotate_left
        · rintro w' ⟨s0, s1, s2, s3, s4, s5, s6, s7⟩
          go_simp
          with_reducible rfl
        rotate_left
        · simp only [Act.put, List.setIfInBounds_toArray, List.set_cons_zero, List.set_cons_succ, i64_w, i32_w]
          rfl
        refine take_ (i := 1) (N := some 12) (v := ?_) (a' := ?_) #[true, true, false, false, false, false, false, false, false, false, false, false, false, false, false, false, false, false] rfl rfl (take_ofW HT_.out HW_.out (by kernel_rfl)) (fun _ _ _ h => h) (Or.inl ⟨by rfl, ?_⟩) hHeld ?_ ?_
        rotate_left
        · rintro w' ⟨s0, s1, s2, s3, s4, s5, s6, s7⟩
          go_simp
          with_reducible rfl
        rotate_left
        · simp only [Act.put, List.setIfInBounds_toArray, List.set_cons_zero, List.set_cons_succ, i64_w, i32_w]
          rfl
        refine take_ (i := 3) (N := some 14) (v := ?_) (a' := ?_) #[true, true, false, true, false, false, false, false, false, false, false, false, false, false, false, false, false, false] rfl rfl (take_ofW HT_.out HW_.out (by kernel_rfl)) (fun _ _ _ h => h) (Or.inl ⟨by rfl, ?_⟩) hHeld ?_ ?_
        rotate_left
        · rintro w' ⟨s0, s1, s2, s3, s4, s5, s6, s7⟩
          go_simp
          with_reducible rfl
        rotate_left
        · simp only [Act.put, List.setIfInBounds_toArray, List.set_cons_zero, List.set_cons_succ, i64_w, i32_w]
          rfl
        refine take_ (i := 4) (N := some 15) (v := ?_) (a' := ?_) #[true, true, false, true, true, false, false, false, false, false, false, false, false, false, false, false, false, false] rfl rfl (take_ofW HT_.out HW_.out (by kernel_rfl)) (fun _ _ _ h => h) (Or.inl ⟨by rfl, ?_⟩) hHeld ?_ ?_
        rotate_left
        · rintro w' ⟨s0, s1, s2, s3, s4, s5, s6, s7⟩
          go_simp
          with_reducible rfl
        rotate_left
        · simp only [Act.put, List.setIfInBounds_toArray, List.set_cons_zero, List.set_cons_succ, i64_w, i32_w]
          rfl
        refine one_ (i := 2) (N := some 13) #[true, true, true, true, true, false, false, false, false, false, false, false, false, false, false, false, false, false] rfl rfl (one_of HT_.out (by kernel_rfl)) (by decide) (fun K hK => ?_)
        refine goes_ Try.func16 (by kernel_rfl) rfl #[.agg #[.int .u64 a0_0, .int .u32 a0_1, .int .u64 a0_2, .int .u16 a0_3], .agg #[.int .u64 a1_0, .int .u32 a1_1, .int .u64 a1_2, .int .u16 a1_3]] (by rfl) rfl rfl (by (try simp only [List.map_toArray, List.map_cons, List.map_nil]); first | done | rfl | (simp only [List.length_drop, List.length_take]; rfl)) ?_
        with_reducible refine (rank_Compare.calls k a0_0 a0_1 a0_2 a0_3 a1_0 a1_1 a1_2 a1_3 t130 _ A12.out).mono ?_
        rintro e w17 ⟨rfl, hb⟩
        refine ⟨_, rfl, ?_⟩
        have n0_ := Aside0.mk (blk_below (g := gb126) (o := .cells #[.int .u64 a0_0, .int .u32 a0_1, .int .u64 a0_2, .int .u16 a0_3] 31 (0, 0)) (by (with_reducible repeat (first | refine blk_drewN ?_ _ | refine blk_drew ?_ | refine blk_alloc ?_ _)); exact BK126.out) hb)
        have n1_ := Aside0.mk (blk_below (g := gb127) (o := .cells #[.int .u64 a1_0, .int .u32 a1_1, .int .u64 a1_2, .int .u16 a1_3] 31 (0, 0)) (by (with_reducible repeat (first | refine blk_drewN ?_ _ | refine blk_drew ?_ | refine blk_alloc ?_ _)); exact BK127.out) hb)
        have n2_ := Aside0.mk (blk_below (g := gb128) (o := .cells #[.int .u64 a2_0, .int .u32 a2_1, .int .u64 a2_2, .int .u16 a2_3] 31 (0, 0)) (by (with_reducible repeat (first | refine blk_drewN ?_ _ | refine blk_drew ?_ | refine blk_alloc ?_ _)); exact BK128.out) hb)
        have n3_ := Aside0.mk (below_step (by repeat (first | (with_reducible first | exact HB.out | apply below_alloc | apply pw_below_drewN | apply below_drew1 | refine below_set ?_ GE126.out | refine below_set ?_ GE127.out | refine below_set ?_ GE128.out) | exact HB.out)) hb)
        clear BK126
        clear BK127
        clear BK128
        clear HB
        have BK126 := n0_
        have BK127 := n1_
        have BK128 := n2_
        have HB := n3_
        clear n0_ n1_ n2_ n3_
        (try clear hb)
        (try clear hb2)
        (try clear hk)
        (try clear hi)
        refine hK.out _ _ ⟨(blk_cell BK126.out 0).trans rfl, (blk_cell BK126.out 1).trans rfl, (blk_cell BK126.out 2).trans rfl, (blk_cell BK126.out 3).trans rfl, (blk_cell BK127.out 0).trans rfl, (blk_cell BK127.out 1).trans rfl, (blk_cell BK127.out 2).trans rfl, (blk_cell BK127.out 3).trans rfl⟩ (fun hHeld => ?_)
        clear hK K
        refine norm_ (a' := ?_) ?_ ?_
        rotate_left
        · show Act.put _ (some 13) _ = _
          simp only [Act.put, List.setIfInBounds_toArray, List.set_cons_zero, List.set_cons_succ, i64_w, i32_w]
          rfl
        refine one_ (i := 5) (N := some 16) #[true, true, true, true, true, true, false, false, false, false, false, false, false, false, false, false, false, false] rfl rfl (one_of HT_.out (by kernel_rfl)) (by decide) (fun K hK => ?_)
        refine goes_ Try.func16 (by kernel_rfl) rfl #[.agg #[.int .u64 a1_0, .int .u32 a1_1, .int .u64 a1_2, .int .u16 a1_3], .agg #[.int .u64 a0_0, .int .u32 a0_1, .int .u64 a0_2, .int .u16 a0_3]] (by rfl) rfl rfl (by (try simp only [List.map_toArray, List.map_cons, List.map_nil]); first | done | rfl | (simp only [List.length_drop, List.length_take]; rfl)) ?_
        with_reducible refine (rank_Compare.calls k a1_0 a1_1 a1_2 a1_3 a0_0 a0_1 a0_2 a0_3 t131 _ A13.out).mono ?_
        rintro e w18 ⟨rfl, hb⟩
        refine ⟨_, rfl, ?_⟩
        have n0_ := Aside0.mk (blk_below (g := gb126) (o := .cells #[.int .u64 a0_0, .int .u32 a0_1, .int .u64 a0_2, .int .u16 a0_3] 31 (0, 0)) (by (with_reducible repeat (first | refine blk_drewN ?_ _ | refine blk_drew ?_ | refine blk_alloc ?_ _)); exact BK126.out) hb)
        have n1_ := Aside0.mk (blk_below (g := gb127) (o := .cells #[.int .u64 a1_0, .int .u32 a1_1, .int .u64 a1_2, .int .u16 a1_3] 31 (0, 0)) (by (with_reducible repeat (first | refine blk_drewN ?_ _ | refine blk_drew ?_ | refine blk_alloc ?_ _)); exact BK127.out) hb)
        have n2_ := Aside0.mk (blk_below (g := gb128) (o := .cells #[.int .u64 a2_0, .int .u32 a2_1, .int .u64 a2_2, .int .u16 a2_3] 31 (0, 0)) (by (with_reducible repeat (first | refine blk_drewN ?_ _ | refine blk_drew ?_ | refine blk_alloc ?_ _)); exact BK128.out) hb)
        have n3_ := Aside0.mk (below_step (by repeat (first | (with_reducible first | exact HB.out | apply below_alloc | apply pw_below_drewN | apply below_drew1 | refine below_set ?_ GE126.out | refine below_set ?_ GE127.out | refine below_set ?_ GE128.out) | exact HB.out)) hb)
        clear BK126
        clear BK127
        clear BK128
        clear HB
        have BK126 := n0_
        have BK127 := n1_
        have BK128 := n2_
        have HB := n3_
        clear n0_ n1_ n2_ n3_
        (try clear hb)
        (try clear hb2)
        (try clear hk)
        (try clear hi)
        refine hK.out _ _ ⟨(blk_cell BK126.out 0).trans rfl, (blk_cell BK126.out 1).trans rfl, (blk_cell BK126.out 2).trans rfl, (blk_cell BK126.out 3).trans rfl, (blk_cell BK127.out 0).trans rfl, (blk_cell BK127.out 1).trans rfl, (blk_cell BK127.out 2).trans rfl, (blk_cell BK127.out 3).trans rfl⟩ (fun hHeld => ?_)
        clear hK K
        refine norm_ (a' := ?_) ?_ ?_
        rotate_left
        · show Act.put _ (some 16) _ = _
          simp only [Act.put, List.setIfInBounds_toArray, List.set_cons_zero, List.set_cons_succ, i64_w, i32_w]
          rfl
        refine pure_ (i := 6) (N := some 17) (v := ?_) (a' := ?_) #[true, true, true, true, true, true, true, false, false, false, false, false, false, false, false, false, false, false] rfl rfl (any_of HT_.out (by kernel_rfl)) (fun _ _ _ h => h) (Or.inl ⟨by rfl, ?_⟩) ?_ ?_
        rotate_left
        · intro w'
          go_simp
          with_reducible rfl
        rotate_left
        · simp only [Act.put, List.setIfInBounds_toArray, List.set_cons_zero, List.set_cons_succ, i64_w, i32_w]
          rfl
        refine pure_ (i := 7) (N := some 18) (v := ?_) (a' := ?_) #[true, true, true, true, true, true, true, true, false, false, false, false, false, false, false, false, false, false] rfl rfl (any_of HT_.out (by kernel_rfl)) (fun _ _ _ h => h) (Or.inl ⟨by rfl, ?_⟩) ?_ ?_
        rotate_left
        · intro w'
          go_simp
          with_reducible rfl
        rotate_left
        · simp only [Act.put, List.setIfInBounds_toArray, List.set_cons_zero, List.set_cons_succ, i64_w, i32_w]
          rfl
        refine pure_ (i := 8) (N := some 19) (v := ?_) (a' := ?_) #[true, true, true, true, true, true, true, true, true, false, false, false, false, false, false, false, false, false] rfl rfl (any_of HT_.out (by kernel_rfl)) (fun _ _ _ h => h) (Or.inl ⟨by rfl, ?_⟩) ?_ ?_
        rotate_left
        · intro w'
          go_simp
          with_reducible rfl
        rotate_left
        · simp only [Act.put, List.setIfInBounds_toArray, List.set_cons_zero, List.set_cons_succ, i64_w, i32_w]
          rfl
        refine take_ (i := 9) (N := some 20) (v := ?_) (a' := ?_) #[true, true, true, true, true, true, true, true, true, true, false, false, false, false, false, false, false, false] rfl rfl (take_ofW HT_.out HW_.out (by kernel_rfl)) (fun _ _ _ h => h) (Or.inl ⟨by rfl, ?_⟩) hHeld ?_ ?_
        rotate_left
        · rintro w' ⟨s0, s1, s2, s3, s4, s5, s6, s7⟩
          go_simp
          with_reducible rfl
        rotate_left
        · simp only [Act.put, List.setIfInBounds_toArray, List.set_cons_zero, List.set_cons_succ, i64_w, i32_w]
          rfl
        refine take_ (i := 10) (N := some 21) (v := ?_) (a' := ?_) #[true, true, true, true, true, true, true, true, true, true, true, false, false, false, false, false, false, false] rfl rfl (take_ofW HT_.out HW_.out (by kernel_rfl)) (fun _ _ _ h => h) (Or.inl ⟨by rfl, ?_⟩) hHeld ?_ ?_
        rotate_left
        · rintro w' ⟨s0, s1, s2, s3, s4, s5, s6, s7⟩
          go_simp
          with_reducible rfl
        rotate_left
        · simp only [Act.put, List.setIfInBounds_toArray, List.set_cons_zero, List.set_cons_succ, i64_w, i32_w]
          rfl
        refine take_ (i := 13) (N := some 24) (v := ?_) (a' := ?_) #[true, true, true, true, true, true, true, true, true, true, true, false, false, true, false, false, false, false] rfl rfl (take_ofW HT_.out HW_.out (by kernel_rfl)) (fun _ _ _ h => h) (Or.inl ⟨by rfl, ?_⟩) hHeld ?_ ?_
        rotate_left
        · rintro w' ⟨s0, s1, s2, s3, s4, s5, s6, s7⟩
          go_simp
          with_reducible rfl
        rotate_left
        · simp only [Act.put, List.setIfInBounds_toArray, List.set_cons_zero, List.set_cons_succ, i64_w, i32_w]
          rfl
        refine take_ (i := 14) (N := some 25) (v := ?_) (a' := ?_) #[true, true, true, true, true, true, true, true, true, true, true, false, false, true, true, false, false, false] rfl rfl (take_ofW HT_.out HW_.out (by kernel_rfl)) (fun _ _ _ h => h) (Or.inl ⟨by rfl, ?_⟩) hHeld ?_ ?_
        rotate_left
        · rintro w' ⟨s0, s1, s2, s3, s4, s5, s6, s7⟩
          go_simp
          with_reducible rfl
        rotate_left
        · simp only [Act.put, List.setIfInBounds_toArray, List.set_cons_zero, List.set_cons_succ, i64_w, i32_w]
          rfl
        refine pure_ (i := 15) (N := some 26) (v := ?_) (a' := ?_) #[true, true, true, true, true, true, true, true, true, true, true, false, false, true, true, true, false, false] rfl rfl (any_of HT_.out (by kernel_rfl)) (fun _ _ _ h => h) (Or.inl ⟨by rfl, ?_⟩) ?_ ?_
        rotate_left
        · intro w'
          go_simp
          with_reducible rfl
        rotate_left
        · simp only [Act.put, List.setIfInBounds_toArray, List.set_cons_zero, List.set_cons_succ, i64_w, i32_w]
          rfl
        refine one_ (i := 11) (N := some 22) #[true, true, true, true, true, true, true, true, true, true, true, true, false, true, true, true, false, false] rfl rfl (one_of HT_.out (by kernel_rfl)) (by decide) (fun K hK => ?_)
        refine goes_ Try.func16 (by kernel_rfl) rfl #[.agg #[.int .u64 a0_0, .int .u32 a0_1, .int .u64 a0_2, .int .u16 a0_3], .agg #[.int .u64 a1_0, .int .u32 a1_1, .int .u64 a1_2, .int .u16 a1_3]] (by rfl) rfl rfl (by (try simp only [List.map_toArray, List.map_cons, List.map_nil]); first | done | rfl | (simp only [List.length_drop, List.length_take]; rfl)) ?_
        with_reducible refine (rank_Compare.calls k a0_0 a0_1 a0_2 a0_3 a1_0 a1_1 a1_2 a1_3 t132 _ A15.out).mono ?_
        rintro e w19 ⟨rfl, hb⟩
        refine ⟨_, rfl, ?_⟩
        have n0_ := Aside0.mk (blk_below (g := gb126) (o := .cells #[.int .u64 a0_0, .int .u32 a0_1, .int .u64 a0_2, .int .u16 a0_3] 31 (0, 0)) (by (with_reducible repeat (first | refine blk_drewN ?_ _ | refine blk_drew ?_ | refine blk_alloc ?_ _)); exact BK126.out) hb)
        have n1_ := Aside0.mk (blk_below (g := gb127) (o := .cells #[.int .u64 a1_0, .int .u32 a1_1, .int .u64 a1_2, .int .u16 a1_3] 31 (0, 0)) (by (with_reducible repeat (first | refine blk_drewN ?_ _ | refine blk_drew ?_ | refine blk_alloc ?_ _)); exact BK127.out) hb)
        have n2_ := Aside0.mk (blk_below (g := gb128) (o := .cells #[.int .u64 a2_0, .int .u32 a2_1, .int .u64 a2_2, .int .u16 a2_3] 31 (0, 0)) (by (with_reducible repeat (first | refine blk_drewN ?_ _ | refine blk_drew ?_ | refine blk_alloc ?_ _)); exact BK128.out) hb)
        have n3_ := Aside0.mk (below_step (by repeat (first | (with_reducible first | exact HB.out | apply below_alloc | apply pw_below_drewN | apply below_drew1 | refine below_set ?_ GE126.out | refine below_set ?_ GE127.out | refine below_set ?_ GE128.out) | exact HB.out)) hb)
        clear BK126
        clear BK127
        clear BK128
        clear HB
        have BK126 := n0_
        have BK127 := n1_
        have BK128 := n2_
        have HB := n3_
        clear n0_ n1_ n2_ n3_
        (try clear hb)
        (try clear hb2)
        (try clear hk)
        (try clear hi)
        refine hK.out _ _ ⟨(blk_cell BK126.out 0).trans rfl, (blk_cell BK126.out 1).trans rfl, (blk_cell BK126.out 2).trans rfl, (blk_cell BK126.out 3).trans rfl, (blk_cell BK127.out 0).trans rfl, (blk_cell BK127.out 1).trans rfl, (blk_cell BK127.out 2).trans rfl, (blk_cell BK127.out 3).trans rfl⟩ (fun hHeld => ?_)
        clear hK K
        refine norm_ (a' := ?_) ?_ ?_
        rotate_left
        · show Act.put _ (some 22) _ = _
          simp only [Act.put, List.setIfInBounds_toArray, List.set_cons_zero, List.set_cons_succ, i64_w, i32_w]
          rfl
        refine pure_ (i := 12) (N := some 23) (v := ?_) (a' := ?_) #[true, true, true, true, true, true, true, true, true, true, true, true, true, true, true, true, false, false] rfl rfl (any_of HT_.out (by kernel_rfl)) (fun _ _ _ h => h) (Or.inl ⟨by rfl, ?_⟩) ?_ ?_
        rotate_left
        · intro w'
          go_simp
          with_reducible rfl
        rotate_left
        · simp only [Act.put, List.setIfInBounds_toArray, List.set_cons_zero, List.set_cons_succ, i64_w, i32_w]
          rfl
        refine pure_ (i := 16) (N := some 27) (v := ?_) (a' := ?_) #[true, true, true, true, true, true, true, true, true, true, true, true, true, true, true, true, true, false] rfl rfl (any_of HT_.out (by kernel_rfl)) (fun _ _ _ h => h) (Or.inl ⟨by rfl, ?_⟩) ?_ ?_
        rotate_left
        · intro w'
          go_simp
          with_reducible rfl
        rotate_left
        · simp only [Act.put, List.setIfInBounds_toArray, List.set_cons_zero, List.set_cons_succ, i64_w, i32_w]
          rfl
        refine pure_ (i := 17) (N := some 28) (v := ?_) (a' := ?_) #[true, true, true, true, true, true, true, true, true, true, true, true, true, true, true, true, true, true] rfl rfl (any_of HT_.out (by kernel_rfl)) (fun _ _ _ h => h) (Or.inl ⟨by rfl, ?_⟩) ?_ ?_
        rotate_left
        · intro w'
          go_simp
          with_reducible rfl
        rotate_left
        · simp only [Act.put, List.setIfInBounds_toArray, List.set_cons_zero, List.set_cons_succ, i64_w, i32_w]
          rfl
        refine done_ (done_of HT_.out (by kernel_rfl)) ?_
        try go_wp2
        go_meet
        case rel => exact ⟨_, (((t132 == 0) != (a0_0 == a1_0 && (a0_1 == a1_1 && (a0_2 == a1_2 && (a0_3 == a1_3)))))), (by first | rfl | (simp; done) | (simp [*]; done)), H', ⟨by first | omega | exact Nat.le_refl _⟩, ⟨by (with_reducible repeat (first | refine blk_drewN ?_ _ | refine blk_drew ?_ | refine blk_alloc ?_ _)); exact BK126.out⟩, ⟨by (with_reducible repeat (first | refine blk_drewN ?_ _ | refine blk_drew ?_ | refine blk_alloc ?_ _)); exact BK127.out⟩, ⟨by (with_reducible repeat (first | refine blk_drewN ?_ _ | refine blk_drew ?_ | refine blk_alloc ?_ _)); exact BK128.out⟩, ⟨by repeat (first | (with_reducible first | exact HB.out | apply below_alloc | apply pw_below_drewN | apply below_drew1 | refine below_set ?_ GE126.out | refine below_set ?_ GE127.out | refine below_set ?_ GE128.out) | exact HB.out)⟩⟩
      · rw [if_neg c14] at H
        have c14b0 : (t130 == (wrap64 (-t131))) = false := beq_eq_false_iff_ne.mpr c14
        have c14b1 : (t130 != (wrap64 (-t131))) = true := bne_iff_ne.mpr c14
        (first | rw [c14b0] | (simp only [i64_w, i32_w]; rw [c14b0]) | skip)
        have H' := Aside0.mk H
        clear H
        try go_wp2
        have n0_ := Aside0.mk (blk_drew BK126.out)
        have n1_ := Aside0.mk (blk_drew BK127.out)
        have n2_ := Aside0.mk (blk_drew BK128.out)
        have n3_ := Aside0.mk (below_drew1 HB.out)
        clear BK126
        clear BK127
        clear BK128
        clear HB
        have BK126 := n0_
        have BK127 := n1_
        have BK128 := n2_
        have HB := n3_
        clear n0_ n1_ n2_ n3_
        refine start_ (n := 18) (S := fun w' => w'.cell? ⟨gb126, 0, none⟩ = some (.int .u64 a0_0) ∧ w'.cell? ⟨gb126, 1, none⟩ = some (.int .u32 a0_1) ∧ w'.cell? ⟨gb126, 2, none⟩ = some (.int .u64 a0_2) ∧ w'.cell? ⟨gb126, 3, none⟩ = some (.int .u16 a0_3) ∧ w'.cell? ⟨gb127, 0, none⟩ = some (.int .u64 a1_0) ∧ w'.cell? ⟨gb127, 1, none⟩ = some (.int .u32 a1_1) ∧ w'.cell? ⟨gb127, 2, none⟩ = some (.int .u64 a1_2) ∧ w'.cell? ⟨gb127, 3, none⟩ = some (.int .u16 a1_3)) (ds := []) #[false, false, false, false, false, false, false, false, false, false, false, false, false, false, false, false, false, false] (by kernel_rfl) rfl rfl ⟨(blk_cell BK126.out 0).trans rfl, (blk_cell BK126.out 1).trans rfl, (blk_cell BK126.out 2).trans rfl, (blk_cell BK126.out 3).trans rfl, (blk_cell BK127.out 0).trans rfl, (blk_cell BK127.out 1).trans rfl, (blk_cell BK127.out 2).trans rfl, (blk_cell BK127.out 3).trans rfl⟩ (fun hHeld => ?_); refine with_tabW treelinelaw10_RankOrder.tab3 treelinelaw10_RankOrder.bits3 (fun HT_ HW_ => ?_)
        generalize w11.drew = w20 at BK126 BK127 BK128 HB hHeld ⊢
        refine take_ (i := 0) (N := some 11) (v := ?_) (a' := ?_) #[true, false, false, false, false, false, false, false, false, false, false, false, false, false, false, false, false, false] rfl rfl (take_ofW HT_.out HW_.out (by kernel_rfl)) (fun _ _ _ h => h) (Or.inl ⟨by rfl, ?_⟩) hHeld ?_ ?_
        rotate_left
        · rintro w' ⟨s0, s1, s2, s3, s4, s5, s6, s7⟩
          go_simp
          with_reducible rfl
        rotate_left
        · simp only [Act.put, List.setIfInBounds_toArray, List.set_cons_zero, List.set_cons_succ, i64_w, i32_w]
          rfl
        refine take_ (i := 1) (N := some 12) (v := ?_) (a' := ?_) #[true, true, false, false, false, false, false, false, false, false, false, false, false, false, false, false, false, false] rfl rfl (take_ofW HT_.out HW_.out (by kernel_rfl)) (fun _ _ _ h => h) (Or.inl ⟨by rfl, ?_⟩) hHeld ?_ ?_
        rotate_left
        · rintro w' ⟨s0, s1, s2, s3, s4, s5, s6, s7⟩
          go_simp
          with_reducible rfl
        rotate_left
        · simp only [Act.put, List.setIfInBounds_toArray, List.set_cons_zero, List.set_cons_succ, i64_w, i32_w]
          rfl
        refine take_ (i := 3) (N := some 14) (v := ?_) (a' := ?_) #[true, true, false, true, false, false, false, false, false, false, false, false, false, false, false, false, false, false] rfl rfl (take_ofW HT_.out HW_.out (by kernel_rfl)) (fun _ _ _ h => h) (Or.inl ⟨by rfl, ?_⟩) hHeld ?_ ?_
        rotate_left
        · rintro w' ⟨s0, s1, s2, s3, s4, s5, s6, s7⟩
          go_simp
          with_reducible rfl
        rotate_left
        · simp only [Act.put, List.setIfInBounds_toArray, List.set_cons_zero, List.set_cons_succ, i64_w, i32_w]
          rfl
        refine take_ (i := 4) (N := some 15) (v := ?_) (a' := ?_) #[true, true, false, true, true, false, false, false, false, false, false, false, false, false, false, false, false, false] rfl rfl (take_ofW HT_.out HW_.out (by kernel_rfl)) (fun _ _ _ h => h) (Or.inl ⟨by rfl, ?_⟩) hHeld ?_ ?_
        rotate_left
        · rintro w' ⟨s0, s1, s2, s3, s4, s5, s6, s7⟩
          go_simp
          with_reducible rfl
        rotate_left
        · simp only [Act.put, List.setIfInBounds_toArray, List.set_cons_zero, List.set_cons_succ, i64_w, i32_w]
          rfl
        refine one_ (i := 2) (N := some 13) #[true, true, true, true, true, false, false, false, false, false, false, false, false, false, false, false, false, false] rfl rfl (one_of HT_.out (by kernel_rfl)) (by decide) (fun K hK => ?_)
        refine goes_ Try.func16 (by kernel_rfl) rfl #[.agg #[.int .u64 a0_0, .int .u32 a0_1, .int .u64 a0_2, .int .u16 a0_3], .agg #[.int .u64 a1_0, .int .u32 a1_1, .int .u64 a1_2, .int .u16 a1_3]] (by rfl) rfl rfl (by (try simp only [List.map_toArray, List.map_cons, List.map_nil]); first | done | rfl | (simp only [List.length_drop, List.length_take]; rfl)) ?_
        with_reducible refine (rank_Compare.calls k a0_0 a0_1 a0_2 a0_3 a1_0 a1_1 a1_2 a1_3 t130 _ A12.out).mono ?_
        rintro e w21 ⟨rfl, hb⟩
        refine ⟨_, rfl, ?_⟩
        have n0_ := Aside0.mk (blk_below (g := gb126) (o := .cells #[.int .u64 a0_0, .int .u32 a0_1, .int .u64 a0_2, .int .u16 a0_3] 31 (0, 0)) (by (with_reducible repeat (first | refine blk_drewN ?_ _ | refine blk_drew ?_ | refine blk_alloc ?_ _)); exact BK126.out) hb)
        have n1_ := Aside0.mk (blk_below (g := gb127) (o := .cells #[.int .u64 a1_0, .int .u32 a1_1, .int .u64 a1_2, .int .u16 a1_3] 31 (0, 0)) (by (with_reducible repeat (first | refine blk_drewN ?_ _ | refine blk_drew ?_ | refine blk_alloc ?_ _)); exact BK127.out) hb)
        have n2_ := Aside0.mk (blk_below (g := gb128) (o := .cells #[.int .u64 a2_0, .int .u32 a2_1, .int .u64 a2_2, .int .u16 a2_3] 31 (0, 0)) (by (with_reducible repeat (first | refine blk_drewN ?_ _ | refine blk_drew ?_ | refine blk_alloc ?_ _)); exact BK128.out) hb)
        have n3_ := Aside0.mk (below_step (by repeat (first | (with_reducible first | exact HB.out | apply below_alloc | apply pw_below_drewN | apply below_drew1 | refine below_set ?_ GE126.out | refine below_set ?_ GE127.out | refine below_set ?_ GE128.out) | exact HB.out)) hb)
        clear BK126
        clear BK127
        clear BK128
        clear HB
        have BK126 := n0_
        have BK127 := n1_
        have BK128 := n2_
        have HB := n3_
        clear n0_ n1_ n2_ n3_
        (try clear hb)
        (try clear hb2)
        (try clear hk)
        (try clear hi)
        refine hK.out _ _ ⟨(blk_cell BK126.out 0).trans rfl, (blk_cell BK126.out 1).trans rfl, (blk_cell BK126.out 2).trans rfl, (blk_cell BK126.out 3).trans rfl, (blk_cell BK127.out 0).trans rfl, (blk_cell BK127.out 1).trans rfl, (blk_cell BK127.out 2).trans rfl, (blk_cell BK127.out 3).trans rfl⟩ (fun hHeld => ?_)
        clear hK K
        refine norm_ (a' := ?_) ?_ ?_
        rotate_left
        · show Act.put _ (some 13) _ = _
          simp only [Act.put, List.setIfInBounds_toArray, List.set_cons_zero, List.set_cons_succ, i64_w, i32_w]
          rfl
        refine one_ (i := 5) (N := some 16) #[true, true, true, true, true, true, false, false, false, false, false, false, false, false, false, false, false, false] rfl rfl (one_of HT_.out (by kernel_rfl)) (by decide) (fun K hK => ?_)
        refine goes_ Try.func16 (by kernel_rfl) rfl #[.agg #[.int .u64 a1_0, .int .u32 a1_1, .int .u64 a1_2, .int .u16 a1_3], .agg #[.int .u64 a0_0, .int .u32 a0_1, .int .u64 a0_2, .int .u16 a0_3]] (by rfl) rfl rfl (by (try simp only [List.map_toArray, List.map_cons, List.map_nil]); first | done | rfl | (simp only [List.length_drop, List.length_take]; rfl)) ?_
        with_reducible refine (rank_Compare.calls k a1_0 a1_1 a1_2 a1_3 a0_0 a0_1 a0_2 a0_3 t131 _ A13.out).mono ?_
        rintro e w22 ⟨rfl, hb⟩
        refine ⟨_, rfl, ?_⟩
        have n0_ := Aside0.mk (blk_below (g := gb126) (o := .cells #[.int .u64 a0_0, .int .u32 a0_1, .int .u64 a0_2, .int .u16 a0_3] 31 (0, 0)) (by (with_reducible repeat (first | refine blk_drewN ?_ _ | refine blk_drew ?_ | refine blk_alloc ?_ _)); exact BK126.out) hb)
        have n1_ := Aside0.mk (blk_below (g := gb127) (o := .cells #[.int .u64 a1_0, .int .u32 a1_1, .int .u64 a1_2, .int .u16 a1_3] 31 (0, 0)) (by (with_reducible repeat (first | refine blk_drewN ?_ _ | refine blk_drew ?_ | refine blk_alloc ?_ _)); exact BK127.out) hb)
        have n2_ := Aside0.mk (blk_below (g := gb128) (o := .cells #[.int .u64 a2_0, .int .u32 a2_1, .int .u64 a2_2, .int .u16 a2_3] 31 (0, 0)) (by (with_reducible repeat (first | refine blk_drewN ?_ _ | refine blk_drew ?_ | refine blk_alloc ?_ _)); exact BK128.out) hb)
        have n3_ := Aside0.mk (below_step (by repeat (first | (with_reducible first | exact HB.out | apply below_alloc | apply pw_below_drewN | apply below_drew1 | refine below_set ?_ GE126.out | refine below_set ?_ GE127.out | refine below_set ?_ GE128.out) | exact HB.out)) hb)
        clear BK126
        clear BK127
        clear BK128
        clear HB
        have BK126 := n0_
        have BK127 := n1_
        have BK128 := n2_
        have HB := n3_
        clear n0_ n1_ n2_ n3_
        (try clear hb)
        (try clear hb2)
        (try clear hk)
        (try clear hi)
        refine hK.out _ _ ⟨(blk_cell BK126.out 0).trans rfl, (blk_cell BK126.out 1).trans rfl, (blk_cell BK126.out 2).trans rfl, (blk_cell BK126.out 3).trans rfl, (blk_cell BK127.out 0).trans rfl, (blk_cell BK127.out 1).trans rfl, (blk_cell BK127.out 2).trans rfl, (blk_cell BK127.out 3).trans rfl⟩ (fun hHeld => ?_)
        clear hK K
        refine norm_ (a' := ?_) ?_ ?_
        rotate_left
        · show Act.put _ (some 16) _ = _
          simp only [Act.put, List.setIfInBounds_toArray, List.set_cons_zero, List.set_cons_succ, i64_w, i32_w]
          rfl
        refine pure_ (i := 6) (N := some 17) (v := ?_) (a' := ?_) #[true, true, true, true, true, true, true, false, false, false, false, false, false, false, false, false, false, false] rfl rfl (any_of HT_.out (by kernel_rfl)) (fun _ _ _ h => h) (Or.inl ⟨by rfl, ?_⟩) ?_ ?_
        rotate_left
        · intro w'
          go_simp
          with_reducible rfl
        rotate_left
        · simp only [Act.put, List.setIfInBounds_toArray, List.set_cons_zero, List.set_cons_succ, i64_w, i32_w]
          rfl
        refine pure_ (i := 7) (N := some 18) (v := ?_) (a' := ?_) #[true, true, true, true, true, true, true, true, false, false, false, false, false, false, false, false, false, false] rfl rfl (any_of HT_.out (by kernel_rfl)) (fun _ _ _ h => h) (Or.inl ⟨by rfl, ?_⟩) ?_ ?_
        rotate_left
        · intro w'
          go_simp
          with_reducible rfl
        rotate_left
        · simp only [Act.put, List.setIfInBounds_toArray, List.set_cons_zero, List.set_cons_succ, i64_w, i32_w]
          rfl
        refine pure_ (i := 8) (N := some 19) (v := ?_) (a' := ?_) #[true, true, true, true, true, true, true, true, true, false, false, false, false, false, false, false, false, false] rfl rfl (any_of HT_.out (by kernel_rfl)) (fun _ _ _ h => h) (Or.inl ⟨by rfl, ?_⟩) ?_ ?_
        rotate_left
        · intro w'
          go_simp
          with_reducible rfl
        rotate_left
        · simp only [Act.put, List.setIfInBounds_toArray, List.set_cons_zero, List.set_cons_succ, i64_w, i32_w]
          rfl
        refine pure_ (i := 9) (N := some 20) (v := undef) (a' := ?_) #[true, true, true, true, true, true, true, true, true, true, false, false, false, false, false, false, false, false] rfl rfl (any_of HT_.out (by kernel_rfl)) (fun _ _ _ h => h) (Or.inr ⟨by rfl, rfl⟩) ?_ ?_
        rotate_left
        · simp only [Act.put, List.setIfInBounds_toArray, List.set_cons_zero, List.set_cons_succ, i64_w, i32_w]
          rfl
        refine pure_ (i := 10) (N := some 21) (v := undef) (a' := ?_) #[true, true, true, true, true, true, true, true, true, true, true, false, false, false, false, false, false, false] rfl rfl (any_of HT_.out (by kernel_rfl)) (fun _ _ _ h => h) (Or.inr ⟨by rfl, rfl⟩) ?_ ?_
        rotate_left
        · simp only [Act.put, List.setIfInBounds_toArray, List.set_cons_zero, List.set_cons_succ, i64_w, i32_w]
          rfl
        refine pure_ (i := 11) (N := some 22) (v := undef) (a' := ?_) #[true, true, true, true, true, true, true, true, true, true, true, true, false, false, false, false, false, false] rfl rfl (any_of HT_.out (by kernel_rfl)) (fun _ _ _ h => h) (Or.inr ⟨by rfl, rfl⟩) ?_ ?_
        rotate_left
        · simp only [Act.put, List.setIfInBounds_toArray, List.set_cons_zero, List.set_cons_succ, i64_w, i32_w]
          rfl
        refine pure_ (i := 12) (N := some 23) (v := undef) (a' := ?_) #[true, true, true, true, true, true, true, true, true, true, true, true, true, false, false, false, false, false] rfl rfl (any_of HT_.out (by kernel_rfl)) (fun _ _ _ h => h) (Or.inr ⟨by rfl, rfl⟩) ?_ ?_
        rotate_left
        · simp only [Act.put, List.setIfInBounds_toArray, List.set_cons_zero, List.set_cons_succ, i64_w, i32_w]
          rfl
        refine pure_ (i := 13) (N := some 24) (v := undef) (a' := ?_) #[true, true, true, true, true, true, true, true, true, true, true, true, true, true, false, false, false, false] rfl rfl (any_of HT_.out (by kernel_rfl)) (fun _ _ _ h => h) (Or.inr ⟨by rfl, rfl⟩) ?_ ?_
        rotate_left
        · simp only [Act.put, List.setIfInBounds_toArray, List.set_cons_zero, List.set_cons_succ, i64_w, i32_w]
          rfl
        refine pure_ (i := 14) (N := some 25) (v := undef) (a' := ?_) #[true, true, true, true, true, true, true, true, true, true, true, true, true, true, true, false, false, false] rfl rfl (any_of HT_.out (by kernel_rfl)) (fun _ _ _ h => h) (Or.inr ⟨by rfl, rfl⟩) ?_ ?_
        rotate_left
        · simp only [Act.put, List.setIfInBounds_toArray, List.set_cons_zero, List.set_cons_succ, i64_w, i32_w]
          rfl
        refine pure_ (i := 15) (N := some 26) (v := undef) (a' := ?_) #[true, true, true, true, true, true, true, true, true, true, true, true, true, true, true, true, false, false] rfl rfl (any_of HT_.out (by kernel_rfl)) (fun _ _ _ h => h) (Or.inr ⟨by rfl, rfl⟩) ?_ ?_
        rotate_left
        · simp only [Act.put, List.setIfInBounds_toArray, List.set_cons_zero, List.set_cons_succ, i64_w, i32_w]
          rfl
        refine pure_ (i := 16) (N := some 27) (v := undef) (a' := ?_) #[true, true, true, true, true, true, true, true, true, true, true, true, true, true, true, true, true, false] rfl rfl (any_of HT_.out (by kernel_rfl)) (fun _ _ _ h => h) (Or.inr ⟨by rfl, rfl⟩) ?_ ?_
        rotate_left
        · simp only [Act.put, List.setIfInBounds_toArray, List.set_cons_zero, List.set_cons_succ, i64_w, i32_w]
          rfl
        refine pure_ (i := 17) (N := some 28) (v := ?_) (a' := ?_) #[true, true, true, true, true, true, true, true, true, true, true, true, true, true, true, true, true, true] rfl rfl (any_of HT_.out (by kernel_rfl)) (fun _ _ _ h => h) (Or.inl ⟨by rfl, ?_⟩) ?_ ?_
        rotate_left
        · intro w'
          go_simp
          with_reducible rfl
        rotate_left
        · simp only [Act.put, List.setIfInBounds_toArray, List.set_cons_zero, List.set_cons_succ, i64_w, i32_w]
          rfl
        refine done_ (done_of HT_.out (by kernel_rfl)) ?_
        try go_wp2
        go_meet
        case rel => exact ⟨_, (true), (by first | rfl | (simp; done) | (simp [*]; done)), H', ⟨by first | omega | exact Nat.le_refl _⟩, ⟨by (with_reducible repeat (first | refine blk_drewN ?_ _ | refine blk_drew ?_ | refine blk_alloc ?_ _)); exact BK126.out⟩, ⟨by (with_reducible repeat (first | refine blk_drewN ?_ _ | refine blk_drew ?_ | refine blk_alloc ?_ _)); exact BK127.out⟩, ⟨by (with_reducible repeat (first | refine blk_drewN ?_ _ | refine blk_drew ?_ | refine blk_alloc ?_ _)); exact BK128.out⟩, ⟨by repeat (first | (with_reducible first | exact HB.out | apply below_alloc | apply pw_below_drewN | apply below_drew1 | refine below_set ?_ GE126.out | refine below_set ?_ GE127.out | refine below_set ?_ GE128.out) | exact HB.out)⟩⟩
    case rest =>
      clear HC7
      try clear c1
      try clear p2
      try clear c5
      try clear c6
      try clear p6
      try clear c12
      try clear c14
      try clear c14b0
      try clear c14b1
      try clear c16
      obtain ⟨kq, x28_6, rfl, HA, HJ6, BK126, BK127, BK128, HB⟩ := hcut
      cases kq with
      | zero => exact absurd HA.out (by simp [treelinelaw10_RankOrder.j0])
      | succ kj6 =>
        have H := HA.out
        clear HA
        simp only [treelinelaw10_RankOrder.j0] at H
        by_cases c23 : x28_6 = true
        · subst c23
          have H1 : (some false) = some r := by rw [if_pos rfl] at H; exact H
          clear H
          have H := H1
          clear H1
          exact absurd ((Option.some.inj H).trans LRT.out) (by decide)
        · replace c23 := Bool.eq_false_iff.mpr c23
          subst c23
          have H1 : ((rank_Compare.f kj6 a0_0 a0_1 a0_2 a0_3 a1_0 a1_1 a1_2 a1_3).bind fun t133 => (if t133 ≤ 0 then ((rank_Compare.f kj6 a1_0 a1_1 a1_2 a1_3 a2_0 a2_1 a2_2 a2_3).bind fun t134 => (if t134 ≤ 0 then ((rank_Compare.f kj6 a0_0 a0_1 a0_2 a0_3 a2_0 a2_1 a2_2 a2_3).bind fun t135 => (treelinelaw10_RankOrder.j1 kj6 a3 (decide (t135 > 0)) a0_0 a0_1 a0_2 a0_3)) else (treelinelaw10_RankOrder.j1 kj6 a3 false a0_0 a0_1 a0_2 a0_3))) else (treelinelaw10_RankOrder.j1 kj6 a3 false a0_0 a0_1 a0_2 a0_3))) = some r := by rw [if_neg (show ¬ (false = true) by decide)] at H; exact H
          clear H
          have H := H1
          clear H1
          have HC24 := Aside0.mk H
          clear H
          go_upto_region 5 with (fail)
          go_cut [44] (fun v44 wc => ∃ (kq : Nat) (x44_23 : Bool), v44 = .bool x44_23 ∧ Aside0 (treelinelaw10_RankOrder.j1 kq a3 x44_23 a0_0 a0_1 a0_2 a0_3 = some r) ∧ Aside0 (kq ≤ kj6) ∧ Aside0 (wc.heap[gb126]? = some (.cells #[.int .u64 a0_0, .int .u32 a0_1, .int .u64 a0_2, .int .u16 a0_3] 31 (0, 0))) ∧ Aside0 (wc.heap[gb127]? = some (.cells #[.int .u64 a1_0, .int .u32 a1_1, .int .u64 a1_2, .int .u16 a1_3] 31 (0, 0))) ∧ Aside0 (wc.heap[gb128]? = some (.cells #[.int .u64 a2_0, .int .u32 a2_1, .int .u64 a2_2, .int .u16 a2_3] 31 (0, 0))) ∧ Aside0 (Below w.heap.size w wc))
          case first =>
            have H := HC24.out
            clear HC24
            replace H := Option.bind_eq_some_iff.mp H
            obtain ⟨t133, A250, H⟩ := H
            replace H : (if t133 ≤ 0 then ((rank_Compare.f kj6 a1_0 a1_1 a1_2 a1_3 a2_0 a2_1 a2_2 a2_3).bind fun t134 => (if t134 ≤ 0 then ((rank_Compare.f kj6 a0_0 a0_1 a0_2 a0_3 a2_0 a2_1 a2_2 a2_3).bind fun t135 => (treelinelaw10_RankOrder.j1 kj6 a3 (decide (t135 > 0)) a0_0 a0_1 a0_2 a0_3)) else (treelinelaw10_RankOrder.j1 kj6 a3 false a0_0 a0_1 a0_2 a0_3))) else (treelinelaw10_RankOrder.j1 kj6 a3 false a0_0 a0_1 a0_2 a0_3)) = some r := H
            have A25 := Aside0.mk A250
            clear A250
            by_cases c26 : t133 ≤ 0
            · rw [if_pos c26] at H
              have c26b0 : decide (t133 ≤ 0) = true := decide_eq_true c26
              clear c26
              (first | rw [c26b0] | (simp only [i64_w, i32_w]; rw [c26b0]) | skip)
              replace H := Option.bind_eq_some_iff.mp H
              obtain ⟨t134, A270, H⟩ := H
              replace H : (if t134 ≤ 0 then ((rank_Compare.f kj6 a0_0 a0_1 a0_2 a0_3 a2_0 a2_1 a2_2 a2_3).bind fun t135 => (treelinelaw10_RankOrder.j1 kj6 a3 (decide (t135 > 0)) a0_0 a0_1 a0_2 a0_3)) else (treelinelaw10_RankOrder.j1 kj6 a3 false a0_0 a0_1 a0_2 a0_3)) = some r := H
              have A27 := Aside0.mk A270
              clear A270
              by_cases c28 : t134 ≤ 0
              · rw [if_pos c28] at H
                have c28b0 : decide (t134 ≤ 0) = true := decide_eq_true c28
                clear c28
                replace H := Option.bind_eq_some_iff.mp H
                obtain ⟨t135, A290, H⟩ := H
                replace H : (treelinelaw10_RankOrder.j1 kj6 a3 (decide (t135 > 0)) a0_0 a0_1 a0_2 a0_3) = some r := H
                have A29 := Aside0.mk A290
                clear A290
                have H' := Aside0.mk H
                clear H
                have hnb30 := NB126_127.out
                have hnc30 := NB127_126.out
                have hnb31 := NB126_128.out
                have hnc31 := NB128_126.out
                have hcz32_0 : wc.cell? ⟨gb126, 0, none⟩ = some (.int .u64 a0_0) := (blk_cell BK126.out 0).trans rfl
                have hcz32_1 : wc.cell? ⟨gb126, 1, none⟩ = some (.int .u32 a0_1) := (blk_cell BK126.out 1).trans rfl
                have hcz32_2 : wc.cell? ⟨gb126, 2, none⟩ = some (.int .u64 a0_2) := (blk_cell BK126.out 2).trans rfl
                have hcz32_3 : wc.cell? ⟨gb126, 3, none⟩ = some (.int .u16 a0_3) := (blk_cell BK126.out 3).trans rfl
                have hfz32_0 := blk_frozen BK126.out 0
                have hfz32_1 := blk_frozen BK126.out 1
                have hfz32_2 := blk_frozen BK126.out 2
                have hfz32_3 := blk_frozen BK126.out 3
                have hnb33 := NB127_128.out
                have hnc33 := NB128_127.out
                have hcz34_0 : wc.cell? ⟨gb127, 0, none⟩ = some (.int .u64 a1_0) := (blk_cell BK127.out 0).trans rfl
                have hcz34_1 : wc.cell? ⟨gb127, 1, none⟩ = some (.int .u32 a1_1) := (blk_cell BK127.out 1).trans rfl
                have hcz34_2 : wc.cell? ⟨gb127, 2, none⟩ = some (.int .u64 a1_2) := (blk_cell BK127.out 2).trans rfl
                have hcz34_3 : wc.cell? ⟨gb127, 3, none⟩ = some (.int .u16 a1_3) := (blk_cell BK127.out 3).trans rfl
                have hfz34_0 := blk_frozen BK127.out 0
                have hfz34_1 := blk_frozen BK127.out 1
                have hfz34_2 := blk_frozen BK127.out 2
                have hfz34_3 := blk_frozen BK127.out 3
                go_wp2_with (first | ((with_reducible refine gate_callee (f := 16) rfl ?_); refine goesL_ (some 31) rfl rfl Try.func16 (by kernel_rfl) rfl #[.agg #[.int .u64 a0_0, .int .u32 a0_1, .int .u64 a0_2, .int .u16 a0_3], .agg #[.int .u64 a1_0, .int .u32 a1_1, .int .u64 a1_2, .int .u16 a1_3]] rfl (by (try simp only [List.map_toArray, List.map_cons, List.map_nil]); first | done | rfl | (simp only [List.length_drop, List.length_take]; rfl)) ?_; (with_reducible refine (rank_Compare.calls kj6 a0_0 a0_1 a0_2 a0_3 a1_0 a1_1 a1_2 a1_3 t133 _ A25.out).mono ?_); rintro e w35 ⟨rfl, hb⟩; refine ⟨_, rfl, ?_⟩; have n0_ := Aside0.mk (blk_below (g := gb126) (o := .cells #[.int .u64 a0_0, .int .u32 a0_1, .int .u64 a0_2, .int .u16 a0_3] 31 (0, 0)) (by (with_reducible repeat (first | refine blk_drewN ?_ _ | refine blk_drew ?_ | refine blk_alloc ?_ _)); exact BK126.out) hb); have n1_ := Aside0.mk (blk_below (g := gb127) (o := .cells #[.int .u64 a1_0, .int .u32 a1_1, .int .u64 a1_2, .int .u16 a1_3] 31 (0, 0)) (by (with_reducible repeat (first | refine blk_drewN ?_ _ | refine blk_drew ?_ | refine blk_alloc ?_ _)); exact BK127.out) hb); have n2_ := Aside0.mk (blk_below (g := gb128) (o := .cells #[.int .u64 a2_0, .int .u32 a2_1, .int .u64 a2_2, .int .u16 a2_3] 31 (0, 0)) (by (with_reducible repeat (first | refine blk_drewN ?_ _ | refine blk_drew ?_ | refine blk_alloc ?_ _)); exact BK128.out) hb); have n3_ := Aside0.mk (below_step (by repeat (first | (with_reducible first | exact HB.out | apply below_alloc | apply pw_below_drewN | apply below_drew1 | refine below_set ?_ GE126.out | refine below_set ?_ GE127.out | refine below_set ?_ GE128.out) | exact HB.out)) hb); clear BK126; clear BK127; clear BK128; clear HB; have BK126 := n0_; have BK127 := n1_; have BK128 := n2_; have HB := n3_; clear n0_ n1_ n2_ n3_; (try clear hb); (try clear hb2); (try clear hk); (try clear hi); have hcz36_0 : w35.cell? ⟨gb127, 0, none⟩ = some (.int .u64 a1_0) := (blk_cell BK127.out 0).trans rfl; have hcz36_1 : w35.cell? ⟨gb127, 1, none⟩ = some (.int .u32 a1_1) := (blk_cell BK127.out 1).trans rfl; have hcz36_2 : w35.cell? ⟨gb127, 2, none⟩ = some (.int .u64 a1_2) := (blk_cell BK127.out 2).trans rfl; have hcz36_3 : w35.cell? ⟨gb127, 3, none⟩ = some (.int .u16 a1_3) := (blk_cell BK127.out 3).trans rfl; have hfz36_0 := blk_frozen BK127.out 0; have hfz36_1 := blk_frozen BK127.out 1; have hfz36_2 := blk_frozen BK127.out 2; have hfz36_3 := blk_frozen BK127.out 3; have hcz37_0 : w35.cell? ⟨gb128, 0, none⟩ = some (.int .u64 a2_0) := (blk_cell BK128.out 0).trans rfl; have hcz37_1 : w35.cell? ⟨gb128, 1, none⟩ = some (.int .u32 a2_1) := (blk_cell BK128.out 1).trans rfl; have hcz37_2 : w35.cell? ⟨gb128, 2, none⟩ = some (.int .u64 a2_2) := (blk_cell BK128.out 2).trans rfl; have hcz37_3 : w35.cell? ⟨gb128, 3, none⟩ = some (.int .u16 a2_3) := (blk_cell BK128.out 3).trans rfl; have hfz37_0 := blk_frozen BK128.out 0; have hfz37_1 := blk_frozen BK128.out 1; have hfz37_2 := blk_frozen BK128.out 2; have hfz37_3 := blk_frozen BK128.out 3) | (go_at_call 16; (with_reducible refine (rank_Compare.calls kj6 a1_0 a1_1 a1_2 a1_3 a2_0 a2_1 a2_2 a2_3 t134 _ A27.out).mono ?_); rintro e w38 ⟨rfl, hb⟩; have n0_ := Aside0.mk (blk_below (g := gb126) (o := .cells #[.int .u64 a0_0, .int .u32 a0_1, .int .u64 a0_2, .int .u16 a0_3] 31 (0, 0)) (by (with_reducible repeat (first | refine blk_drewN ?_ _ | refine blk_drew ?_ | refine blk_alloc ?_ _)); exact BK126.out) hb); have n1_ := Aside0.mk (blk_below (g := gb127) (o := .cells #[.int .u64 a1_0, .int .u32 a1_1, .int .u64 a1_2, .int .u16 a1_3] 31 (0, 0)) (by (with_reducible repeat (first | refine blk_drewN ?_ _ | refine blk_drew ?_ | refine blk_alloc ?_ _)); exact BK127.out) hb); have n2_ := Aside0.mk (blk_below (g := gb128) (o := .cells #[.int .u64 a2_0, .int .u32 a2_1, .int .u64 a2_2, .int .u16 a2_3] 31 (0, 0)) (by (with_reducible repeat (first | refine blk_drewN ?_ _ | refine blk_drew ?_ | refine blk_alloc ?_ _)); exact BK128.out) hb); have n3_ := Aside0.mk (below_step (by repeat (first | (with_reducible first | exact HB.out | apply below_alloc | apply pw_below_drewN | apply below_drew1 | refine below_set ?_ GE126.out | refine below_set ?_ GE127.out | refine below_set ?_ GE128.out) | exact HB.out)) hb); clear BK126; clear BK127; clear BK128; clear HB; have BK126 := n0_; have BK127 := n1_; have BK128 := n2_; have HB := n3_; clear n0_ n1_ n2_ n3_; (try clear hb); (try clear hb2); (try clear hk); (try clear hi); have hcz39_0 : w38.cell? ⟨gb126, 0, none⟩ = some (.int .u64 a0_0) := (blk_cell BK126.out 0).trans rfl; have hcz39_1 : w38.cell? ⟨gb126, 1, none⟩ = some (.int .u32 a0_1) := (blk_cell BK126.out 1).trans rfl; have hcz39_2 : w38.cell? ⟨gb126, 2, none⟩ = some (.int .u64 a0_2) := (blk_cell BK126.out 2).trans rfl; have hcz39_3 : w38.cell? ⟨gb126, 3, none⟩ = some (.int .u16 a0_3) := (blk_cell BK126.out 3).trans rfl; have hfz39_0 := blk_frozen BK126.out 0; have hfz39_1 := blk_frozen BK126.out 1; have hfz39_2 := blk_frozen BK126.out 2; have hfz39_3 := blk_frozen BK126.out 3; have hcz40_0 : w38.cell? ⟨gb128, 0, none⟩ = some (.int .u64 a2_0) := (blk_cell BK128.out 0).trans rfl; have hcz40_1 : w38.cell? ⟨gb128, 1, none⟩ = some (.int .u32 a2_1) := (blk_cell BK128.out 1).trans rfl; have hcz40_2 : w38.cell? ⟨gb128, 2, none⟩ = some (.int .u64 a2_2) := (blk_cell BK128.out 2).trans rfl; have hcz40_3 : w38.cell? ⟨gb128, 3, none⟩ = some (.int .u16 a2_3) := (blk_cell BK128.out 3).trans rfl; have hfz40_0 := blk_frozen BK128.out 0; have hfz40_1 := blk_frozen BK128.out 1; have hfz40_2 := blk_frozen BK128.out 2; have hfz40_3 := blk_frozen BK128.out 3) | (go_at_call 16; (with_reducible refine (rank_Compare.calls kj6 a0_0 a0_1 a0_2 a0_3 a2_0 a2_1 a2_2 a2_3 t135 _ A29.out).mono ?_); rintro e w41 ⟨rfl, hb⟩; have n0_ := Aside0.mk (blk_below (g := gb126) (o := .cells #[.int .u64 a0_0, .int .u32 a0_1, .int .u64 a0_2, .int .u16 a0_3] 31 (0, 0)) (by (with_reducible repeat (first | refine blk_drewN ?_ _ | refine blk_drew ?_ | refine blk_alloc ?_ _)); exact BK126.out) hb); have n1_ := Aside0.mk (blk_below (g := gb127) (o := .cells #[.int .u64 a1_0, .int .u32 a1_1, .int .u64 a1_2, .int .u16 a1_3] 31 (0, 0)) (by (with_reducible repeat (first | refine blk_drewN ?_ _ | refine blk_drew ?_ | refine blk_alloc ?_ _)); exact BK127.out) hb); have n2_ := Aside0.mk (blk_below (g := gb128) (o := .cells #[.int .u64 a2_0, .int .u32 a2_1, .int .u64 a2_2, .int .u16 a2_3] 31 (0, 0)) (by (with_reducible repeat (first | refine blk_drewN ?_ _ | refine blk_drew ?_ | refine blk_alloc ?_ _)); exact BK128.out) hb); have n3_ := Aside0.mk (below_step (by repeat (first | (with_reducible first | exact HB.out | apply below_alloc | apply pw_below_drewN | apply below_drew1 | refine below_set ?_ GE126.out | refine below_set ?_ GE127.out | refine below_set ?_ GE128.out) | exact HB.out)) hb); clear BK126; clear BK127; clear BK128; clear HB; have BK126 := n0_; have BK127 := n1_; have BK128 := n2_; have HB := n3_; clear n0_ n1_ n2_ n3_; (try clear hb); (try clear hb2); (try clear hk); (try clear hi)) | (go_at_call 16; (with_reducible refine (rank_Compare.calls kj6 a0_0 a0_1 a0_2 a0_3 a1_0 a1_1 a1_2 a1_3 t133 _ A25.out).mono ?_); rintro e w35 ⟨rfl, hb⟩; have n0_ := Aside0.mk (blk_below (g := gb126) (o := .cells #[.int .u64 a0_0, .int .u32 a0_1, .int .u64 a0_2, .int .u16 a0_3] 31 (0, 0)) (by (with_reducible repeat (first | refine blk_drewN ?_ _ | refine blk_drew ?_ | refine blk_alloc ?_ _)); exact BK126.out) hb); have n1_ := Aside0.mk (blk_below (g := gb127) (o := .cells #[.int .u64 a1_0, .int .u32 a1_1, .int .u64 a1_2, .int .u16 a1_3] 31 (0, 0)) (by (with_reducible repeat (first | refine blk_drewN ?_ _ | refine blk_drew ?_ | refine blk_alloc ?_ _)); exact BK127.out) hb); have n2_ := Aside0.mk (blk_below (g := gb128) (o := .cells #[.int .u64 a2_0, .int .u32 a2_1, .int .u64 a2_2, .int .u16 a2_3] 31 (0, 0)) (by (with_reducible repeat (first | refine blk_drewN ?_ _ | refine blk_drew ?_ | refine blk_alloc ?_ _)); exact BK128.out) hb); have n3_ := Aside0.mk (below_step (by repeat (first | (with_reducible first | exact HB.out | apply below_alloc | apply pw_below_drewN | apply below_drew1 | refine below_set ?_ GE126.out | refine below_set ?_ GE127.out | refine below_set ?_ GE128.out) | exact HB.out)) hb); clear BK126; clear BK127; clear BK128; clear HB; have BK126 := n0_; have BK127 := n1_; have BK128 := n2_; have HB := n3_; clear n0_ n1_ n2_ n3_; (try clear hb); (try clear hb2); (try clear hk); (try clear hi); have hcz36_0 : w35.cell? ⟨gb127, 0, none⟩ = some (.int .u64 a1_0) := (blk_cell BK127.out 0).trans rfl; have hcz36_1 : w35.cell? ⟨gb127, 1, none⟩ = some (.int .u32 a1_1) := (blk_cell BK127.out 1).trans rfl; have hcz36_2 : w35.cell? ⟨gb127, 2, none⟩ = some (.int .u64 a1_2) := (blk_cell BK127.out 2).trans rfl; have hcz36_3 : w35.cell? ⟨gb127, 3, none⟩ = some (.int .u16 a1_3) := (blk_cell BK127.out 3).trans rfl; have hfz36_0 := blk_frozen BK127.out 0; have hfz36_1 := blk_frozen BK127.out 1; have hfz36_2 := blk_frozen BK127.out 2; have hfz36_3 := blk_frozen BK127.out 3; have hcz37_0 : w35.cell? ⟨gb128, 0, none⟩ = some (.int .u64 a2_0) := (blk_cell BK128.out 0).trans rfl; have hcz37_1 : w35.cell? ⟨gb128, 1, none⟩ = some (.int .u32 a2_1) := (blk_cell BK128.out 1).trans rfl; have hcz37_2 : w35.cell? ⟨gb128, 2, none⟩ = some (.int .u64 a2_2) := (blk_cell BK128.out 2).trans rfl; have hcz37_3 : w35.cell? ⟨gb128, 3, none⟩ = some (.int .u16 a2_3) := (blk_cell BK128.out 3).trans rfl; have hfz37_0 := blk_frozen BK128.out 0; have hfz37_1 := blk_frozen BK128.out 1; have hfz37_2 := blk_frozen BK128.out 2; have hfz37_3 := blk_frozen BK128.out 3))
                go_meet
                case rel => exact ⟨_, (decide (t135 > 0)), (by first | rfl | (simp; done) | (simp [*]; done)), H', ⟨by have := HJ6.out; first | omega | exact Nat.le_refl _⟩, ⟨by (with_reducible repeat (first | refine blk_drewN ?_ _ | refine blk_drew ?_ | refine blk_alloc ?_ _)); exact BK126.out⟩, ⟨by (with_reducible repeat (first | refine blk_drewN ?_ _ | refine blk_drew ?_ | refine blk_alloc ?_ _)); exact BK127.out⟩, ⟨by (with_reducible repeat (first | refine blk_drewN ?_ _ | refine blk_drew ?_ | refine blk_alloc ?_ _)); exact BK128.out⟩, ⟨by repeat (first | (with_reducible first | exact HB.out | apply below_alloc | apply pw_below_drewN | apply below_drew1 | refine below_set ?_ GE126.out | refine below_set ?_ GE127.out | refine below_set ?_ GE128.out) | exact HB.out)⟩⟩
              · rw [if_neg c28] at H
                have c28b0 : decide (t134 ≤ 0) = false := decide_eq_false c28
                clear c28
                have H' := Aside0.mk H
                clear H
                have hnb42 := NB126_127.out
                have hnc42 := NB127_126.out
                have hnb43 := NB126_128.out
                have hnc43 := NB128_126.out
                have hcz44_0 : wc.cell? ⟨gb126, 0, none⟩ = some (.int .u64 a0_0) := (blk_cell BK126.out 0).trans rfl
                have hcz44_1 : wc.cell? ⟨gb126, 1, none⟩ = some (.int .u32 a0_1) := (blk_cell BK126.out 1).trans rfl
                have hcz44_2 : wc.cell? ⟨gb126, 2, none⟩ = some (.int .u64 a0_2) := (blk_cell BK126.out 2).trans rfl
                have hcz44_3 : wc.cell? ⟨gb126, 3, none⟩ = some (.int .u16 a0_3) := (blk_cell BK126.out 3).trans rfl
                have hfz44_0 := blk_frozen BK126.out 0
                have hfz44_1 := blk_frozen BK126.out 1
                have hfz44_2 := blk_frozen BK126.out 2
                have hfz44_3 := blk_frozen BK126.out 3
                have hnb45 := NB127_128.out
                have hnc45 := NB128_127.out
                have hcz46_0 : wc.cell? ⟨gb127, 0, none⟩ = some (.int .u64 a1_0) := (blk_cell BK127.out 0).trans rfl
                have hcz46_1 : wc.cell? ⟨gb127, 1, none⟩ = some (.int .u32 a1_1) := (blk_cell BK127.out 1).trans rfl
                have hcz46_2 : wc.cell? ⟨gb127, 2, none⟩ = some (.int .u64 a1_2) := (blk_cell BK127.out 2).trans rfl
                have hcz46_3 : wc.cell? ⟨gb127, 3, none⟩ = some (.int .u16 a1_3) := (blk_cell BK127.out 3).trans rfl
                have hfz46_0 := blk_frozen BK127.out 0
                have hfz46_1 := blk_frozen BK127.out 1
                have hfz46_2 := blk_frozen BK127.out 2
                have hfz46_3 := blk_frozen BK127.out 3
                go_wp2_with (first | ((with_reducible refine gate_callee (f := 16) rfl ?_); refine goesL_ (some 31) rfl rfl Try.func16 (by kernel_rfl) rfl #[.agg #[.int .u64 a0_0, .int .u32 a0_1, .int .u64 a0_2, .int .u16 a0_3], .agg #[.int .u64 a1_0, .int .u32 a1_1, .int .u64 a1_2, .int .u16 a1_3]] rfl (by (try simp only [List.map_toArray, List.map_cons, List.map_nil]); first | done | rfl | (simp only [List.length_drop, List.length_take]; rfl)) ?_; (with_reducible refine (rank_Compare.calls kj6 a0_0 a0_1 a0_2 a0_3 a1_0 a1_1 a1_2 a1_3 t133 _ A25.out).mono ?_); rintro e w47 ⟨rfl, hb⟩; refine ⟨_, rfl, ?_⟩; have n0_ := Aside0.mk (blk_below (g := gb126) (o := .cells #[.int .u64 a0_0, .int .u32 a0_1, .int .u64 a0_2, .int .u16 a0_3] 31 (0, 0)) (by (with_reducible repeat (first | refine blk_drewN ?_ _ | refine blk_drew ?_ | refine blk_alloc ?_ _)); exact BK126.out) hb); have n1_ := Aside0.mk (blk_below (g := gb127) (o := .cells #[.int .u64 a1_0, .int .u32 a1_1, .int .u64 a1_2, .int .u16 a1_3] 31 (0, 0)) (by (with_reducible repeat (first | refine blk_drewN ?_ _ | refine blk_drew ?_ | refine blk_alloc ?_ _)); exact BK127.out) hb); have n2_ := Aside0.mk (blk_below (g := gb128) (o := .cells #[.int .u64 a2_0, .int .u32 a2_1, .int .u64 a2_2, .int .u16 a2_3] 31 (0, 0)) (by (with_reducible repeat (first | refine blk_drewN ?_ _ | refine blk_drew ?_ | refine blk_alloc ?_ _)); exact BK128.out) hb); have n3_ := Aside0.mk (below_step (by repeat (first | (with_reducible first | exact HB.out | apply below_alloc | apply pw_below_drewN | apply below_drew1 | refine below_set ?_ GE126.out | refine below_set ?_ GE127.out | refine below_set ?_ GE128.out) | exact HB.out)) hb); clear BK126; clear BK127; clear BK128; clear HB; have BK126 := n0_; have BK127 := n1_; have BK128 := n2_; have HB := n3_; clear n0_ n1_ n2_ n3_; (try clear hb); (try clear hb2); (try clear hk); (try clear hi); have hcz48_0 : w47.cell? ⟨gb127, 0, none⟩ = some (.int .u64 a1_0) := (blk_cell BK127.out 0).trans rfl; have hcz48_1 : w47.cell? ⟨gb127, 1, none⟩ = some (.int .u32 a1_1) := (blk_cell BK127.out 1).trans rfl; have hcz48_2 : w47.cell? ⟨gb127, 2, none⟩ = some (.int .u64 a1_2) := (blk_cell BK127.out 2).trans rfl; have hcz48_3 : w47.cell? ⟨gb127, 3, none⟩ = some (.int .u16 a1_3) := (blk_cell BK127.out 3).trans rfl; have hfz48_0 := blk_frozen BK127.out 0; have hfz48_1 := blk_frozen BK127.out 1; have hfz48_2 := blk_frozen BK127.out 2; have hfz48_3 := blk_frozen BK127.out 3; have hcz49_0 : w47.cell? ⟨gb128, 0, none⟩ = some (.int .u64 a2_0) := (blk_cell BK128.out 0).trans rfl; have hcz49_1 : w47.cell? ⟨gb128, 1, none⟩ = some (.int .u32 a2_1) := (blk_cell BK128.out 1).trans rfl; have hcz49_2 : w47.cell? ⟨gb128, 2, none⟩ = some (.int .u64 a2_2) := (blk_cell BK128.out 2).trans rfl; have hcz49_3 : w47.cell? ⟨gb128, 3, none⟩ = some (.int .u16 a2_3) := (blk_cell BK128.out 3).trans rfl; have hfz49_0 := blk_frozen BK128.out 0; have hfz49_1 := blk_frozen BK128.out 1; have hfz49_2 := blk_frozen BK128.out 2; have hfz49_3 := blk_frozen BK128.out 3) | (go_at_call 16; (with_reducible refine (rank_Compare.calls kj6 a1_0 a1_1 a1_2 a1_3 a2_0 a2_1 a2_2 a2_3 t134 _ A27.out).mono ?_); rintro e w50 ⟨rfl, hb⟩; have n0_ := Aside0.mk (blk_below (g := gb126) (o := .cells #[.int .u64 a0_0, .int .u32 a0_1, .int .u64 a0_2, .int .u16 a0_3] 31 (0, 0)) (by (with_reducible repeat (first | refine blk_drewN ?_ _ | refine blk_drew ?_ | refine blk_alloc ?_ _)); exact BK126.out) hb); have n1_ := Aside0.mk (blk_below (g := gb127) (o := .cells #[.int .u64 a1_0, .int .u32 a1_1, .int .u64 a1_2, .int .u16 a1_3] 31 (0, 0)) (by (with_reducible repeat (first | refine blk_drewN ?_ _ | refine blk_drew ?_ | refine blk_alloc ?_ _)); exact BK127.out) hb); have n2_ := Aside0.mk (blk_below (g := gb128) (o := .cells #[.int .u64 a2_0, .int .u32 a2_1, .int .u64 a2_2, .int .u16 a2_3] 31 (0, 0)) (by (with_reducible repeat (first | refine blk_drewN ?_ _ | refine blk_drew ?_ | refine blk_alloc ?_ _)); exact BK128.out) hb); have n3_ := Aside0.mk (below_step (by repeat (first | (with_reducible first | exact HB.out | apply below_alloc | apply pw_below_drewN | apply below_drew1 | refine below_set ?_ GE126.out | refine below_set ?_ GE127.out | refine below_set ?_ GE128.out) | exact HB.out)) hb); clear BK126; clear BK127; clear BK128; clear HB; have BK126 := n0_; have BK127 := n1_; have BK128 := n2_; have HB := n3_; clear n0_ n1_ n2_ n3_; (try clear hb); (try clear hb2); (try clear hk); (try clear hi)) | (go_at_call 16; (with_reducible refine (rank_Compare.calls kj6 a0_0 a0_1 a0_2 a0_3 a1_0 a1_1 a1_2 a1_3 t133 _ A25.out).mono ?_); rintro e w47 ⟨rfl, hb⟩; have n0_ := Aside0.mk (blk_below (g := gb126) (o := .cells #[.int .u64 a0_0, .int .u32 a0_1, .int .u64 a0_2, .int .u16 a0_3] 31 (0, 0)) (by (with_reducible repeat (first | refine blk_drewN ?_ _ | refine blk_drew ?_ | refine blk_alloc ?_ _)); exact BK126.out) hb); have n1_ := Aside0.mk (blk_below (g := gb127) (o := .cells #[.int .u64 a1_0, .int .u32 a1_1, .int .u64 a1_2, .int .u16 a1_3] 31 (0, 0)) (by (with_reducible repeat (first | refine blk_drewN ?_ _ | refine blk_drew ?_ | refine blk_alloc ?_ _)); exact BK127.out) hb); have n2_ := Aside0.mk (blk_below (g := gb128) (o := .cells #[.int .u64 a2_0, .int .u32 a2_1, .int .u64 a2_2, .int .u16 a2_3] 31 (0, 0)) (by (with_reducible repeat (first | refine blk_drewN ?_ _ | refine blk_drew ?_ | refine blk_alloc ?_ _)); exact BK128.out) hb); have n3_ := Aside0.mk (below_step (by repeat (first | (with_reducible first | exact HB.out | apply below_alloc | apply pw_below_drewN | apply below_drew1 | refine below_set ?_ GE126.out | refine below_set ?_ GE127.out | refine below_set ?_ GE128.out) | exact HB.out)) hb); clear BK126; clear BK127; clear BK128; clear HB; have BK126 := n0_; have BK127 := n1_; have BK128 := n2_; have HB := n3_; clear n0_ n1_ n2_ n3_; (try clear hb); (try clear hb2); (try clear hk); (try clear hi); have hcz48_0 : w47.cell? ⟨gb127, 0, none⟩ = some (.int .u64 a1_0) := (blk_cell BK127.out 0).trans rfl; have hcz48_1 : w47.cell? ⟨gb127, 1, none⟩ = some (.int .u32 a1_1) := (blk_cell BK127.out 1).trans rfl; have hcz48_2 : w47.cell? ⟨gb127, 2, none⟩ = some (.int .u64 a1_2) := (blk_cell BK127.out 2).trans rfl; have hcz48_3 : w47.cell? ⟨gb127, 3, none⟩ = some (.int .u16 a1_3) := (blk_cell BK127.out 3).trans rfl; have hfz48_0 := blk_frozen BK127.out 0; have hfz48_1 := blk_frozen BK127.out 1; have hfz48_2 := blk_frozen BK127.out 2; have hfz48_3 := blk_frozen BK127.out 3; have hcz49_0 : w47.cell? ⟨gb128, 0, none⟩ = some (.int .u64 a2_0) := (blk_cell BK128.out 0).trans rfl; have hcz49_1 : w47.cell? ⟨gb128, 1, none⟩ = some (.int .u32 a2_1) := (blk_cell BK128.out 1).trans rfl; have hcz49_2 : w47.cell? ⟨gb128, 2, none⟩ = some (.int .u64 a2_2) := (blk_cell BK128.out 2).trans rfl; have hcz49_3 : w47.cell? ⟨gb128, 3, none⟩ = some (.int .u16 a2_3) := (blk_cell BK128.out 3).trans rfl; have hfz49_0 := blk_frozen BK128.out 0; have hfz49_1 := blk_frozen BK128.out 1; have hfz49_2 := blk_frozen BK128.out 2; have hfz49_3 := blk_frozen BK128.out 3))
                go_meet
                case rel => exact ⟨_, (false), (by first | rfl | (simp; done) | (simp [*]; done)), H', ⟨by have := HJ6.out; first | omega | exact Nat.le_refl _⟩, ⟨by (with_reducible repeat (first | refine blk_drewN ?_ _ | refine blk_drew ?_ | refine blk_alloc ?_ _)); exact BK126.out⟩, ⟨by (with_reducible repeat (first | refine blk_drewN ?_ _ | refine blk_drew ?_ | refine blk_alloc ?_ _)); exact BK127.out⟩, ⟨by (with_reducible repeat (first | refine blk_drewN ?_ _ | refine blk_drew ?_ | refine blk_alloc ?_ _)); exact BK128.out⟩, ⟨by repeat (first | (with_reducible first | exact HB.out | apply below_alloc | apply pw_below_drewN | apply below_drew1 | refine below_set ?_ GE126.out | refine below_set ?_ GE127.out | refine below_set ?_ GE128.out) | exact HB.out)⟩⟩
            · rw [if_neg c26] at H
              have c26b0 : decide (t133 ≤ 0) = false := decide_eq_false c26
              clear c26
              (first | rw [c26b0] | (simp only [i64_w, i32_w]; rw [c26b0]) | skip)
              have H' := Aside0.mk H
              clear H
              have hnb51 := NB126_127.out
              have hnc51 := NB127_126.out
              have hnb52 := NB126_128.out
              have hnc52 := NB128_126.out
              have hcz53_0 : wc.cell? ⟨gb126, 0, none⟩ = some (.int .u64 a0_0) := (blk_cell BK126.out 0).trans rfl
              have hcz53_1 : wc.cell? ⟨gb126, 1, none⟩ = some (.int .u32 a0_1) := (blk_cell BK126.out 1).trans rfl
              have hcz53_2 : wc.cell? ⟨gb126, 2, none⟩ = some (.int .u64 a0_2) := (blk_cell BK126.out 2).trans rfl
              have hcz53_3 : wc.cell? ⟨gb126, 3, none⟩ = some (.int .u16 a0_3) := (blk_cell BK126.out 3).trans rfl
              have hfz53_0 := blk_frozen BK126.out 0
              have hfz53_1 := blk_frozen BK126.out 1
              have hfz53_2 := blk_frozen BK126.out 2
              have hfz53_3 := blk_frozen BK126.out 3
              have hnb54 := NB127_128.out
              have hnc54 := NB128_127.out
              have hcz55_0 : wc.cell? ⟨gb127, 0, none⟩ = some (.int .u64 a1_0) := (blk_cell BK127.out 0).trans rfl
              have hcz55_1 : wc.cell? ⟨gb127, 1, none⟩ = some (.int .u32 a1_1) := (blk_cell BK127.out 1).trans rfl
              have hcz55_2 : wc.cell? ⟨gb127, 2, none⟩ = some (.int .u64 a1_2) := (blk_cell BK127.out 2).trans rfl
              have hcz55_3 : wc.cell? ⟨gb127, 3, none⟩ = some (.int .u16 a1_3) := (blk_cell BK127.out 3).trans rfl
              have hfz55_0 := blk_frozen BK127.out 0
              have hfz55_1 := blk_frozen BK127.out 1
              have hfz55_2 := blk_frozen BK127.out 2
              have hfz55_3 := blk_frozen BK127.out 3
              go_wp2_with (first | ((with_reducible refine gate_callee (f := 16) rfl ?_); refine goesL_ (some 31) rfl rfl Try.func16 (by kernel_rfl) rfl #[.agg #[.int .u64 a0_0, .int .u32 a0_1, .int .u64 a0_2, .int .u16 a0_3], .agg #[.int .u64 a1_0, .int .u32 a1_1, .int .u64 a1_2, .int .u16 a1_3]] rfl (by (try simp only [List.map_toArray, List.map_cons, List.map_nil]); first | done | rfl | (simp only [List.length_drop, List.length_take]; rfl)) ?_; (with_reducible refine (rank_Compare.calls kj6 a0_0 a0_1 a0_2 a0_3 a1_0 a1_1 a1_2 a1_3 t133 _ A25.out).mono ?_); rintro e w56 ⟨rfl, hb⟩; refine ⟨_, rfl, ?_⟩; have n0_ := Aside0.mk (blk_below (g := gb126) (o := .cells #[.int .u64 a0_0, .int .u32 a0_1, .int .u64 a0_2, .int .u16 a0_3] 31 (0, 0)) (by (with_reducible repeat (first | refine blk_drewN ?_ _ | refine blk_drew ?_ | refine blk_alloc ?_ _)); exact BK126.out) hb); have n1_ := Aside0.mk (blk_below (g := gb127) (o := .cells #[.int .u64 a1_0, .int .u32 a1_1, .int .u64 a1_2, .int .u16 a1_3] 31 (0, 0)) (by (with_reducible repeat (first | refine blk_drewN ?_ _ | refine blk_drew ?_ | refine blk_alloc ?_ _)); exact BK127.out) hb); have n2_ := Aside0.mk (blk_below (g := gb128) (o := .cells #[.int .u64 a2_0, .int .u32 a2_1, .int .u64 a2_2, .int .u16 a2_3] 31 (0, 0)) (by (with_reducible repeat (first | refine blk_drewN ?_ _ | refine blk_drew ?_ | refine blk_alloc ?_ _)); exact BK128.out) hb); have n3_ := Aside0.mk (below_step (by repeat (first | (with_reducible first | exact HB.out | apply below_alloc | apply pw_below_drewN | apply below_drew1 | refine below_set ?_ GE126.out | refine below_set ?_ GE127.out | refine below_set ?_ GE128.out) | exact HB.out)) hb); clear BK126; clear BK127; clear BK128; clear HB; have BK126 := n0_; have BK127 := n1_; have BK128 := n2_; have HB := n3_; clear n0_ n1_ n2_ n3_; (try clear hb); (try clear hb2); (try clear hk); (try clear hi)) | (go_at_call 16; (with_reducible refine (rank_Compare.calls kj6 a0_0 a0_1 a0_2 a0_3 a1_0 a1_1 a1_2 a1_3 t133 _ A25.out).mono ?_); rintro e w56 ⟨rfl, hb⟩; have n0_ := Aside0.mk (blk_below (g := gb126) (o := .cells #[.int .u64 a0_0, .int .u32 a0_1, .int .u64 a0_2, .int .u16 a0_3] 31 (0, 0)) (by (with_reducible repeat (first | refine blk_drewN ?_ _ | refine blk_drew ?_ | refine blk_alloc ?_ _)); exact BK126.out) hb); have n1_ := Aside0.mk (blk_below (g := gb127) (o := .cells #[.int .u64 a1_0, .int .u32 a1_1, .int .u64 a1_2, .int .u16 a1_3] 31 (0, 0)) (by (with_reducible repeat (first | refine blk_drewN ?_ _ | refine blk_drew ?_ | refine blk_alloc ?_ _)); exact BK127.out) hb); have n2_ := Aside0.mk (blk_below (g := gb128) (o := .cells #[.int .u64 a2_0, .int .u32 a2_1, .int .u64 a2_2, .int .u16 a2_3] 31 (0, 0)) (by (with_reducible repeat (first | refine blk_drewN ?_ _ | refine blk_drew ?_ | refine blk_alloc ?_ _)); exact BK128.out) hb); have n3_ := Aside0.mk (below_step (by repeat (first | (with_reducible first | exact HB.out | apply below_alloc | apply pw_below_drewN | apply below_drew1 | refine below_set ?_ GE126.out | refine below_set ?_ GE127.out | refine below_set ?_ GE128.out) | exact HB.out)) hb); clear BK126; clear BK127; clear BK128; clear HB; have BK126 := n0_; have BK127 := n1_; have BK128 := n2_; have HB := n3_; clear n0_ n1_ n2_ n3_; (try clear hb); (try clear hb2); (try clear hk); (try clear hi)))
              go_meet
              case rel => exact ⟨_, (false), (by first | rfl | (simp; done) | (simp [*]; done)), H', ⟨by have := HJ6.out; first | omega | exact Nat.le_refl _⟩, ⟨by (with_reducible repeat (first | refine blk_drewN ?_ _ | refine blk_drew ?_ | refine blk_alloc ?_ _)); exact BK126.out⟩, ⟨by (with_reducible repeat (first | refine blk_drewN ?_ _ | refine blk_drew ?_ | refine blk_alloc ?_ _)); exact BK127.out⟩, ⟨by (with_reducible repeat (first | refine blk_drewN ?_ _ | refine blk_drew ?_ | refine blk_alloc ?_ _)); exact BK128.out⟩, ⟨by repeat (first | (with_reducible first | exact HB.out | apply below_alloc | apply pw_below_drewN | apply below_drew1 | refine below_set ?_ GE126.out | refine below_set ?_ GE127.out | refine below_set ?_ GE128.out) | exact HB.out)⟩⟩
          case rest =>
            clear HC24
            try clear c1
            try clear c2
            try clear p2
            try clear c3
            try clear c4
            try clear c5
            try clear c6
            try clear p6
            try clear c12
            try clear c14
            try clear c14b0
            try clear c14b1
            try clear c16
            try clear c23
            try clear c26
            try clear c26b0
            try clear c28
            try clear c28b0
            try clear c30
            try clear c31
            try clear c33
            try clear c42
            try clear c43
            try clear c45
            try clear c51
            try clear c52
            try clear c54
            try clear hcz32_0
            try clear hcz32_1
            try clear hcz32_2
            try clear hcz32_3
            try clear hcz34_0
            try clear hcz34_1
            try clear hcz34_2
            try clear hcz34_3
            try clear hcz36_0
            try clear hcz36_1
            try clear hcz36_2
            try clear hcz36_3
            try clear hcz37_0
            try clear hcz37_1
            try clear hcz37_2
            try clear hcz37_3
            try clear hcz39_0
            try clear hcz39_1
            try clear hcz39_2
            try clear hcz39_3
            try clear hcz40_0
            try clear hcz40_1
            try clear hcz40_2
            try clear hcz40_3
            try clear hcz44_0
            try clear hcz44_1
            try clear hcz44_2
            try clear hcz44_3
            try clear hcz46_0
            try clear hcz46_1
            try clear hcz46_2
            try clear hcz46_3
            try clear hcz48_0
            try clear hcz48_1
            try clear hcz48_2
            try clear hcz48_3
            try clear hcz49_0
            try clear hcz49_1
            try clear hcz49_2
            try clear hcz49_3
            try clear hcz53_0
            try clear hcz53_1
            try clear hcz53_2
            try clear hcz53_3
            try clear hcz55_0
            try clear hcz55_1
            try clear hcz55_2
            try clear hcz55_3
            try clear hfz32_0
            try clear hfz32_1
            try clear hfz32_2
            try clear hfz32_3
            try clear hfz34_0
            try clear hfz34_1
            try clear hfz34_2
            try clear hfz34_3
            try clear hfz36_0
            try clear hfz36_1
            try clear hfz36_2
            try clear hfz36_3
            try clear hfz37_0
            try clear hfz37_1
            try clear hfz37_2
            try clear hfz37_3
            try clear hfz39_0
            try clear hfz39_1
            try clear hfz39_2
            try clear hfz39_3
            try clear hfz40_0
            try clear hfz40_1
            try clear hfz40_2
            try clear hfz40_3
            try clear hfz44_0
            try clear hfz44_1
            try clear hfz44_2
            try clear hfz44_3
            try clear hfz46_0
            try clear hfz46_1
            try clear hfz46_2
            try clear hfz46_3
            try clear hfz48_0
            try clear hfz48_1
            try clear hfz48_2
            try clear hfz48_3
            try clear hfz49_0
            try clear hfz49_1
            try clear hfz49_2
            try clear hfz49_3
            try clear hfz53_0
            try clear hfz53_1
            try clear hfz53_2
            try clear hfz53_3
            try clear hfz55_0
            try clear hfz55_1
            try clear hfz55_2
            try clear hfz55_3
            try clear p2
            try clear p6
            obtain ⟨kq, x44_23, rfl, HA, HJ23, BK126, BK127, BK128, HB⟩ := hcut
            cases kq with
            | zero => exact absurd HA.out (by simp [treelinelaw10_RankOrder.j1])
            | succ kj23 =>
              have H := HA.out
              clear HA
              simp only [treelinelaw10_RankOrder.j1] at H
              by_cases c57 : x44_23 = true
              · subst c57
                have H1 : (some false) = some r := by rw [if_pos rfl] at H; exact H
                clear H
                have H := H1
                clear H1
                exact absurd ((Option.some.inj H).trans LRT.out) (by decide)
              · replace c57 := Bool.eq_false_iff.mpr c57
                subst c57
                have H1 : ((rank_Via.f a0_0 a0_1 a0_2 a0_3 a3).bind fun bt136 => ((rank_Compare.f kj23 bt136.1 bt136.2.1 bt136.2.2.1 bt136.2.2.2 a0_0 a0_1 a0_2 a0_3).bind fun t140 => (if t140 ≥ 0 then ((rank_Via.f a0_0 a0_1 a0_2 a0_3 a3).bind fun bt141 => ((rank_Keeps.f kj23 a0_0 a0_1 a0_2 a0_3 bt141.1 bt141.2.1 bt141.2.2.1 bt141.2.2.2).bind fun t145 => (some t145))) else (some false)))) = some r := by rw [if_neg (show ¬ (false = true) by decide)] at H; exact H
                clear H
                have H := H1
                clear H1
                replace H := Option.bind_eq_some_iff.mp H
                obtain ⟨⟨t136, t137, t138, t139⟩, A580, H⟩ := H
                replace H : ((rank_Compare.f kj23 t136 t137 t138 t139 a0_0 a0_1 a0_2 a0_3).bind fun t140 => (if t140 ≥ 0 then ((rank_Via.f a0_0 a0_1 a0_2 a0_3 a3).bind fun bt141 => ((rank_Keeps.f kj23 a0_0 a0_1 a0_2 a0_3 bt141.1 bt141.2.1 bt141.2.2.1 bt141.2.2.2).bind fun t145 => (some t145))) else (some false))) = some r := H
                have A58 := Aside0.mk A580
                clear A580
                replace H := Option.bind_eq_some_iff.mp H
                obtain ⟨t140, A590, H⟩ := H
                replace H : (if t140 ≥ 0 then ((rank_Via.f a0_0 a0_1 a0_2 a0_3 a3).bind fun bt141 => ((rank_Keeps.f kj23 a0_0 a0_1 a0_2 a0_3 bt141.1 bt141.2.1 bt141.2.2.1 bt141.2.2.2).bind fun t145 => (some t145))) else (some false)) = some r := H
                have A59 := Aside0.mk A590
                clear A590
                by_cases c60 : t140 ≥ 0
                · rw [if_pos c60] at H
                  have c60b0 : decide (0 ≤ t140) = true := decide_eq_true c60
                  clear c60
                  replace H := Option.bind_eq_some_iff.mp H
                  obtain ⟨⟨t141, t142, t143, t144⟩, A610, H⟩ := H
                  replace H : ((rank_Keeps.f kj23 a0_0 a0_1 a0_2 a0_3 t141 t142 t143 t144).bind fun t145 => (some t145)) = some r := H
                  have A61 := Aside0.mk A610
                  clear A610
                  replace H := Option.bind_eq_some_iff.mp H
                  obtain ⟨t145, A620, H⟩ := H
                  replace H : (some t145) = some r := H
                  have A62 := Aside0.mk A620
                  clear A620
                  obtain rfl := Option.some.inj H
                  (try exact absurd LRT.out (by decide))
                  all_goals
                    try go_wp2
                    have n0_ := Aside0.mk (blk_drew BK126.out)
                    have n1_ := Aside0.mk (blk_drew BK127.out)
                    have n2_ := Aside0.mk (blk_drew BK128.out)
                    have n3_ := Aside0.mk (below_drew1 HB.out)
                    clear BK126
                    clear BK127
                    clear BK128
                    clear HB
                    have BK126 := n0_
                    have BK127 := n1_
                    have BK128 := n2_
                    have HB := n3_
                    clear n0_ n1_ n2_ n3_
                    refine start_ (n := 14) (S := fun w' => w'.cell? ⟨gb126, 0, none⟩ = some (.int .u64 a0_0) ∧ w'.cell? ⟨gb126, 1, none⟩ = some (.int .u32 a0_1) ∧ w'.cell? ⟨gb126, 2, none⟩ = some (.int .u64 a0_2) ∧ w'.cell? ⟨gb126, 3, none⟩ = some (.int .u16 a0_3)) (ds := []) #[false, false, false, false, false, false, false, false, false, false, false, false, false, false] (by kernel_rfl) rfl rfl ⟨(blk_cell BK126.out 0).trans rfl, (blk_cell BK126.out 1).trans rfl, (blk_cell BK126.out 2).trans rfl, (blk_cell BK126.out 3).trans rfl⟩ (fun hHeld => ?_); refine with_tabW treelinelaw10_RankOrder.tab7 treelinelaw10_RankOrder.bits7 (fun HT_ HW_ => ?_)
                    generalize wc.drew = w63 at BK126 BK127 BK128 HB hHeld ⊢
                    refine pure_ (i := 1) (N := some 46) (v := ?_) (a' := ?_) #[false, true, false, false, false, false, false, false, false, false, false, false, false, false] rfl rfl (any_of HT_.out (by kernel_rfl)) (fun _ _ _ h => h) (Or.inl ⟨by rfl, ?_⟩) ?_ ?_
                    rotate_left
                    · intro w'
                      go_simp
                      with_reducible rfl
                    rotate_left
                    · simp only [Act.put, List.setIfInBounds_toArray, List.set_cons_zero, List.set_cons_succ, i64_w, i32_w]
                      rfl
                    refine take_ (i := 0) (N := some 45) (v := ?_) (a' := ?_) #[true, true, false, false, false, false, false, false, false, false, false, false, false, false] rfl rfl (take_ofW HT_.out HW_.out (by kernel_rfl)) (fun _ _ _ h => h) (Or.inl ⟨by rfl, ?_⟩) hHeld ?_ ?_
                    rotate_left
                    · rintro w' ⟨s0, s1, s2, s3⟩
                      go_simp
                      with_reducible rfl
                    rotate_left
                    · simp only [Act.put, List.setIfInBounds_toArray, List.set_cons_zero, List.set_cons_succ, i64_w, i32_w]
                      rfl
                    refine take_ (i := 3) (N := some 48) (v := ?_) (a' := ?_) #[true, true, false, true, false, false, false, false, false, false, false, false, false, false] rfl rfl (take_ofW HT_.out HW_.out (by kernel_rfl)) (fun _ _ _ h => h) (Or.inl ⟨by rfl, ?_⟩) hHeld ?_ ?_
                    rotate_left
                    · rintro w' ⟨s0, s1, s2, s3⟩
                      go_simp
                      with_reducible rfl
                    rotate_left
                    · simp only [Act.put, List.setIfInBounds_toArray, List.set_cons_zero, List.set_cons_succ, i64_w, i32_w]
                      rfl
                    refine one_ (i := 2) (N := some 47) #[true, true, true, true, false, false, false, false, false, false, false, false, false, false] rfl rfl (one_of HT_.out (by kernel_rfl)) (by decide) (fun K hK => ?_)
                    refine goes_ Try.func14 (by kernel_rfl) rfl #[.agg #[.int .u64 a0_0, .int .u32 a0_1, .int .u64 a0_2, .int .u16 a0_3], .int .u32 a3] (by rfl) rfl rfl (by (try simp only [List.map_toArray, List.map_cons, List.map_nil]); first | done | rfl | (simp only [List.length_drop, List.length_take]; rfl)) ?_
                    with_reducible refine (rank_Via.calls a0_0 a0_1 a0_2 a0_3 a3 t136 t137 t138 t139 _ A58.out).mono ?_
                    rintro e w64 ⟨rfl, hb⟩
                    refine ⟨_, rfl, ?_⟩
                    have n0_ := Aside0.mk (blk_below (g := gb126) (o := .cells #[.int .u64 a0_0, .int .u32 a0_1, .int .u64 a0_2, .int .u16 a0_3] 31 (0, 0)) (by (with_reducible repeat (first | refine blk_drewN ?_ _ | refine blk_drew ?_ | refine blk_alloc ?_ _)); exact BK126.out) hb)
                    have n1_ := Aside0.mk (blk_below (g := gb127) (o := .cells #[.int .u64 a1_0, .int .u32 a1_1, .int .u64 a1_2, .int .u16 a1_3] 31 (0, 0)) (by (with_reducible repeat (first | refine blk_drewN ?_ _ | refine blk_drew ?_ | refine blk_alloc ?_ _)); exact BK127.out) hb)
                    have n2_ := Aside0.mk (blk_below (g := gb128) (o := .cells #[.int .u64 a2_0, .int .u32 a2_1, .int .u64 a2_2, .int .u16 a2_3] 31 (0, 0)) (by (with_reducible repeat (first | refine blk_drewN ?_ _ | refine blk_drew ?_ | refine blk_alloc ?_ _)); exact BK128.out) hb)
                    have n3_ := Aside0.mk (below_step (by repeat (first | (with_reducible first | exact HB.out | apply below_alloc | apply pw_below_drewN | apply below_drew1 | refine below_set ?_ GE126.out | refine below_set ?_ GE127.out | refine below_set ?_ GE128.out) | exact HB.out)) hb)
                    clear BK126
                    clear BK127
                    clear BK128
                    clear HB
                    have BK126 := n0_
                    have BK127 := n1_
                    have BK128 := n2_
                    have HB := n3_
                    clear n0_ n1_ n2_ n3_
                    (try clear hb)
                    (try clear hb2)
                    (try clear hk)
                    (try clear hi)
                    refine hK.out _ _ ⟨(blk_cell BK126.out 0).trans rfl, (blk_cell BK126.out 1).trans rfl, (blk_cell BK126.out 2).trans rfl, (blk_cell BK126.out 3).trans rfl⟩ (fun hHeld => ?_)
                    clear hK K
                    refine norm_ (a' := ?_) ?_ ?_
                    rotate_left
                    · show Act.put _ (some 47) _ = _
                      simp only [Act.put, List.setIfInBounds_toArray, List.set_cons_zero, List.set_cons_succ, i64_w, i32_w]
                      rfl
                    refine one_ (i := 4) (N := some 49) #[true, true, true, true, true, false, false, false, false, false, false, false, false, false] rfl rfl (one_of HT_.out (by kernel_rfl)) (by decide) (fun K hK => ?_)
                    refine goes_ Try.func16 (by kernel_rfl) rfl #[.agg #[.int .u64 t136, .int .u32 t137, .int .u64 t138, .int .u16 t139], .agg #[.int .u64 a0_0, .int .u32 a0_1, .int .u64 a0_2, .int .u16 a0_3]] (by rfl) rfl rfl (by (try simp only [List.map_toArray, List.map_cons, List.map_nil]); first | done | rfl | (simp only [List.length_drop, List.length_take]; rfl)) ?_
                    with_reducible refine (rank_Compare.calls kj23 t136 t137 t138 t139 a0_0 a0_1 a0_2 a0_3 t140 _ A59.out).mono ?_
                    rintro e w65 ⟨rfl, hb⟩
                    refine ⟨_, rfl, ?_⟩
                    have n0_ := Aside0.mk (blk_below (g := gb126) (o := .cells #[.int .u64 a0_0, .int .u32 a0_1, .int .u64 a0_2, .int .u16 a0_3] 31 (0, 0)) (by (with_reducible repeat (first | refine blk_drewN ?_ _ | refine blk_drew ?_ | refine blk_alloc ?_ _)); exact BK126.out) hb)
                    have n1_ := Aside0.mk (blk_below (g := gb127) (o := .cells #[.int .u64 a1_0, .int .u32 a1_1, .int .u64 a1_2, .int .u16 a1_3] 31 (0, 0)) (by (with_reducible repeat (first | refine blk_drewN ?_ _ | refine blk_drew ?_ | refine blk_alloc ?_ _)); exact BK127.out) hb)
                    have n2_ := Aside0.mk (blk_below (g := gb128) (o := .cells #[.int .u64 a2_0, .int .u32 a2_1, .int .u64 a2_2, .int .u16 a2_3] 31 (0, 0)) (by (with_reducible repeat (first | refine blk_drewN ?_ _ | refine blk_drew ?_ | refine blk_alloc ?_ _)); exact BK128.out) hb)
                    have n3_ := Aside0.mk (below_step (by repeat (first | (with_reducible first | exact HB.out | apply below_alloc | apply pw_below_drewN | apply below_drew1 | refine below_set ?_ GE126.out | refine below_set ?_ GE127.out | refine below_set ?_ GE128.out) | exact HB.out)) hb)
                    clear BK126
                    clear BK127
                    clear BK128
                    clear HB
                    have BK126 := n0_
                    have BK127 := n1_
                    have BK128 := n2_
                    have HB := n3_
                    clear n0_ n1_ n2_ n3_
                    (try clear hb)
                    (try clear hb2)
                    (try clear hk)
                    (try clear hi)
                    refine hK.out _ _ ⟨(blk_cell BK126.out 0).trans rfl, (blk_cell BK126.out 1).trans rfl, (blk_cell BK126.out 2).trans rfl, (blk_cell BK126.out 3).trans rfl⟩ (fun hHeld => ?_)
                    clear hK K
                    refine norm_ (a' := ?_) ?_ ?_
                    rotate_left
                    · show Act.put _ (some 49) _ = _
                      simp only [Act.put, List.setIfInBounds_toArray, List.set_cons_zero, List.set_cons_succ, i64_w, i32_w]
                      rfl
                    refine pure_ (i := 5) (N := some 50) (v := ?_) (a' := ?_) #[true, true, true, true, true, true, false, false, false, false, false, false, false, false] rfl rfl (any_of HT_.out (by kernel_rfl)) (fun _ _ _ h => h) (Or.inl ⟨by rfl, ?_⟩) ?_ ?_
                    rotate_left
                    · intro w'
                      go_simp
                      with_reducible rfl
                    rotate_left
                    · simp only [Act.put, List.setIfInBounds_toArray, List.set_cons_zero, List.set_cons_succ, i64_w, i32_w]
                      rfl
                    refine pure_ (i := 6) (N := some 51) (v := ?_) (a' := ?_) #[true, true, true, true, true, true, true, false, false, false, false, false, false, false] rfl rfl (any_of HT_.out (by kernel_rfl)) (fun _ _ _ h => h) (Or.inl ⟨by rfl, ?_⟩) ?_ ?_
                    rotate_left
                    · intro w'
                      go_simp
                      with_reducible rfl
                    rotate_left
                    · simp only [Act.put, List.setIfInBounds_toArray, List.set_cons_zero, List.set_cons_succ, i64_w, i32_w]
                      rfl
                    refine pure_ (i := 9) (N := some 54) (v := ?_) (a' := ?_) #[true, true, true, true, true, true, true, false, false, true, false, false, false, false] rfl rfl (any_of HT_.out (by kernel_rfl)) (fun _ _ _ h => h) (Or.inl ⟨by rfl, ?_⟩) ?_ ?_
                    rotate_left
                    · intro w'
                      go_simp
                      with_reducible rfl
                    rotate_left
                    · simp only [Act.put, List.setIfInBounds_toArray, List.set_cons_zero, List.set_cons_succ, i64_w, i32_w]
                      rfl
                    refine take_ (i := 7) (N := some 52) (v := ?_) (a' := ?_) #[true, true, true, true, true, true, true, true, false, true, false, false, false, false] rfl rfl (take_ofW HT_.out HW_.out (by kernel_rfl)) (fun _ _ _ h => h) (Or.inl ⟨by rfl, ?_⟩) hHeld ?_ ?_
                    rotate_left
                    · rintro w' ⟨s0, s1, s2, s3⟩
                      go_simp
                      with_reducible rfl
                    rotate_left
                    · simp only [Act.put, List.setIfInBounds_toArray, List.set_cons_zero, List.set_cons_succ, i64_w, i32_w]
                      rfl
                    refine take_ (i := 8) (N := some 53) (v := ?_) (a' := ?_) #[true, true, true, true, true, true, true, true, true, true, false, false, false, false] rfl rfl (take_ofW HT_.out HW_.out (by kernel_rfl)) (fun _ _ _ h => h) (Or.inl ⟨by rfl, ?_⟩) hHeld ?_ ?_
                    rotate_left
                    · rintro w' ⟨s0, s1, s2, s3⟩
                      go_simp
                      with_reducible rfl
                    rotate_left
                    · simp only [Act.put, List.setIfInBounds_toArray, List.set_cons_zero, List.set_cons_succ, i64_w, i32_w]
                      rfl
                    refine one_ (i := 10) (N := some 55) #[true, true, true, true, true, true, true, true, true, true, true, false, false, false] rfl rfl (one_of HT_.out (by kernel_rfl)) (by decide) (fun K hK => ?_)
                    refine goes_ Try.func14 (by kernel_rfl) rfl #[.agg #[.int .u64 a0_0, .int .u32 a0_1, .int .u64 a0_2, .int .u16 a0_3], .int .u32 a3] (by rfl) rfl rfl (by (try simp only [List.map_toArray, List.map_cons, List.map_nil]); first | done | rfl | (simp only [List.length_drop, List.length_take]; rfl)) ?_
                    with_reducible refine (rank_Via.calls a0_0 a0_1 a0_2 a0_3 a3 t141 t142 t143 t144 _ A61.out).mono ?_
                    rintro e w66 ⟨rfl, hb⟩
                    refine ⟨_, rfl, ?_⟩
                    have n0_ := Aside0.mk (blk_below (g := gb126) (o := .cells #[.int .u64 a0_0, .int .u32 a0_1, .int .u64 a0_2, .int .u16 a0_3] 31 (0, 0)) (by (with_reducible repeat (first | refine blk_drewN ?_ _ | refine blk_drew ?_ | refine blk_alloc ?_ _)); exact BK126.out) hb)
                    have n1_ := Aside0.mk (blk_below (g := gb127) (o := .cells #[.int .u64 a1_0, .int .u32 a1_1, .int .u64 a1_2, .int .u16 a1_3] 31 (0, 0)) (by (with_reducible repeat (first | refine blk_drewN ?_ _ | refine blk_drew ?_ | refine blk_alloc ?_ _)); exact BK127.out) hb)
                    have n2_ := Aside0.mk (blk_below (g := gb128) (o := .cells #[.int .u64 a2_0, .int .u32 a2_1, .int .u64 a2_2, .int .u16 a2_3] 31 (0, 0)) (by (with_reducible repeat (first | refine blk_drewN ?_ _ | refine blk_drew ?_ | refine blk_alloc ?_ _)); exact BK128.out) hb)
                    have n3_ := Aside0.mk (below_step (by repeat (first | (with_reducible first | exact HB.out | apply below_alloc | apply pw_below_drewN | apply below_drew1 | refine below_set ?_ GE126.out | refine below_set ?_ GE127.out | refine below_set ?_ GE128.out) | exact HB.out)) hb)
                    clear BK126
                    clear BK127
                    clear BK128
                    clear HB
                    have BK126 := n0_
                    have BK127 := n1_
                    have BK128 := n2_
                    have HB := n3_
                    clear n0_ n1_ n2_ n3_
                    (try clear hb)
                    (try clear hb2)
                    (try clear hk)
                    (try clear hi)
                    refine hK.out _ _ ⟨(blk_cell BK126.out 0).trans rfl, (blk_cell BK126.out 1).trans rfl, (blk_cell BK126.out 2).trans rfl, (blk_cell BK126.out 3).trans rfl⟩ (fun hHeld => ?_)
                    clear hK K
                    refine norm_ (a' := ?_) ?_ ?_
                    rotate_left
                    · show Act.put _ (some 55) _ = _
                      simp only [Act.put, List.setIfInBounds_toArray, List.set_cons_zero, List.set_cons_succ, i64_w, i32_w]
                      rfl
                    refine one_ (i := 11) (N := some 56) #[true, true, true, true, true, true, true, true, true, true, true, true, false, false] rfl rfl (one_of HT_.out (by kernel_rfl)) (by decide) (fun K hK => ?_)
                    refine goes_ Try.func17 (by kernel_rfl) rfl #[.agg #[.int .u64 a0_0, .int .u32 a0_1, .int .u64 a0_2, .int .u16 a0_3], .agg #[.int .u64 t141, .int .u32 t142, .int .u64 t143, .int .u16 t144]] (by rfl) rfl rfl (by (try simp only [List.map_toArray, List.map_cons, List.map_nil]); first | done | rfl | (simp only [List.length_drop, List.length_take]; rfl)) ?_
                    with_reducible refine (rank_Keeps.calls kj23 a0_0 a0_1 a0_2 a0_3 t141 t142 t143 t144 t145 _ A62.out).mono ?_
                    rintro e w67 ⟨rfl, hb⟩
                    refine ⟨_, rfl, ?_⟩
                    have n0_ := Aside0.mk (blk_below (g := gb126) (o := .cells #[.int .u64 a0_0, .int .u32 a0_1, .int .u64 a0_2, .int .u16 a0_3] 31 (0, 0)) (by (with_reducible repeat (first | refine blk_drewN ?_ _ | refine blk_drew ?_ | refine blk_alloc ?_ _)); exact BK126.out) hb)
                    have n1_ := Aside0.mk (blk_below (g := gb127) (o := .cells #[.int .u64 a1_0, .int .u32 a1_1, .int .u64 a1_2, .int .u16 a1_3] 31 (0, 0)) (by (with_reducible repeat (first | refine blk_drewN ?_ _ | refine blk_drew ?_ | refine blk_alloc ?_ _)); exact BK127.out) hb)
                    have n2_ := Aside0.mk (blk_below (g := gb128) (o := .cells #[.int .u64 a2_0, .int .u32 a2_1, .int .u64 a2_2, .int .u16 a2_3] 31 (0, 0)) (by (with_reducible repeat (first | refine blk_drewN ?_ _ | refine blk_drew ?_ | refine blk_alloc ?_ _)); exact BK128.out) hb)
                    have n3_ := Aside0.mk (below_step (by repeat (first | (with_reducible first | exact HB.out | apply below_alloc | apply pw_below_drewN | apply below_drew1 | refine below_set ?_ GE126.out | refine below_set ?_ GE127.out | refine below_set ?_ GE128.out) | exact HB.out)) hb)
                    clear BK126
                    clear BK127
                    clear BK128
                    clear HB
                    have BK126 := n0_
                    have BK127 := n1_
                    have BK128 := n2_
                    have HB := n3_
                    clear n0_ n1_ n2_ n3_
                    (try clear hb)
                    (try clear hb2)
                    (try clear hk)
                    (try clear hi)
                    refine hK.out _ _ ⟨(blk_cell BK126.out 0).trans rfl, (blk_cell BK126.out 1).trans rfl, (blk_cell BK126.out 2).trans rfl, (blk_cell BK126.out 3).trans rfl⟩ (fun hHeld => ?_)
                    clear hK K
                    refine norm_ (a' := ?_) ?_ ?_
                    rotate_left
                    · show Act.put _ (some 56) _ = _
                      simp only [Act.put, List.setIfInBounds_toArray, List.set_cons_zero, List.set_cons_succ, i64_w, i32_w]
                      rfl
                    refine pure_ (i := 12) (N := some 57) (v := ?_) (a' := ?_) #[true, true, true, true, true, true, true, true, true, true, true, true, true, false] rfl rfl (any_of HT_.out (by kernel_rfl)) (fun _ _ _ h => h) (Or.inl ⟨by rfl, ?_⟩) ?_ ?_
                    rotate_left
                    · intro w'
                      go_simp
                      with_reducible rfl
                    rotate_left
                    · simp only [Act.put, List.setIfInBounds_toArray, List.set_cons_zero, List.set_cons_succ, i64_w, i32_w]
                      rfl
                    refine pure_ (i := 13) (N := some 8) (v := ?_) (a' := ?_) #[true, true, true, true, true, true, true, true, true, true, true, true, true, true] rfl rfl (any_of HT_.out (by kernel_rfl)) (fun _ _ _ h => h) (Or.inl ⟨by rfl, ?_⟩) ?_ ?_
                    rotate_left
                    · intro w'
                      go_simp
                      with_reducible rfl
                    rotate_left
                    · simp only [Act.put, List.setIfInBounds_toArray, List.set_cons_zero, List.set_cons_succ, i64_w, i32_w]
                      rfl
                    refine done_ (done_of HT_.out (by kernel_rfl)) ?_
                    try go_wp2
                    go_ret
                    exact ⟨by first | rfl | (simp [errW_none, errW_some] <;> rfl) | (simp [*, errW_none, errW_some] <;> rfl), by repeat (first | (with_reducible first | exact HB.out | apply below_alloc | apply pw_below_drewN | apply below_drew1 | refine below_set ?_ GE126.out | refine below_set ?_ GE127.out | refine below_set ?_ GE128.out) | exact HB.out)⟩
                · rw [if_neg c60] at H
                  have c60b0 : decide (0 ≤ t140) = false := decide_eq_false c60
                  clear c60
                  exact absurd ((Option.some.inj H).trans LRT.out) (by decide)
  · replace c6 := Bool.eq_false_iff.mpr c6
    subst c6
    have H1 : (some false) = some r := by rw [if_neg (show ¬ (false = true) by decide)] at H; exact H
    clear H
    have H := H1
    clear H1
    exact absurd ((Option.some.inj H).trans LRT.out) (by decide)
end Go.Proofs.Ytnoejdogickplaa.PRankOrder
