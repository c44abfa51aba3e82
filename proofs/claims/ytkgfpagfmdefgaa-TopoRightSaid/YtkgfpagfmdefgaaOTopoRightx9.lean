/- What Go functions that the law TopoRight uses come to, and why: part 9. Made out of the kit's print by a program of this session (wip/tools/stub.py, splice.py), functions that it does not take told by hand. -/
import Derived.Test.YtkgfpagfmdefgaaOTopoRightx8
namespace Go.Proofs.Ytkgfpagfmdefgaa.OTopoRight
open Go.RowKit Go.Proofs.YtkgfpagfmdefgaaW.PrintWords Go.Proofs.YtkgfpagfmdefgaaW.PrintLast Go.Proofs.YtkgfpagfmdefgaaW.PrintMore
attribute [local go_sem] max2_int min2_int max_two min_two max_three min_three max_four min_four   -- for this text's walks alone
set_option linter.unusedVariables false
set_option linter.unusedSimpArgs false

/-! ### treelinelaw19_Small: function 18 -/
def treelinelaw19_Small.l0 : Nat → Int → Int → Int → Int → Int → Int → Int → Int → Int → List (S51) → Option (Int × Int × Int × Int × Int × Int × Int × (List (S51)))
  | 0, _, _, _, _, _, _, _, _, _, _ => none
  | k + 1, x1, x6, x159000, x159001, x159002, x159003, x159004, x159005, x159006, x159007 => if x6 < x1 then (if x159007.length < 11728124029610 then (treelinelaw19_Small.l0 k x1 (wrap64 (x6 + 1)) x159000 x159001 x159002 x159003 x159004 x159005 x159006 (x159007 ++ [(⟨128, 19, true⟩ : S51)])) else (none)) else (some (x159000, x159001, x159002, x159003, x159004, x159005, x159006, x159007))
def treelinelaw19_Small.f (k : Nat) (a0 : Int) (a1 : Int) : Option (Int × Int × Int × Int × Int × Int × Int × (List (S51))) := treelinelaw19_Small.l0 k a1 0 a0 32768 6 1 4 20 4 ([] : List (S51))
theorem treelinelaw19_Small.mono_l : ∀ k, (∀ y0 y1 y2 y3 y4 y5 y6 y7 y8 y9, LeO (treelinelaw19_Small.l0 k y0 y1 y2 y3 y4 y5 y6 y7 y8 y9) (treelinelaw19_Small.l0 (k + 1) y0 y1 y2 y3 y4 y5 y6 y7 y8 y9))
  | 0 => fun _ _ _ _ _ _ _ _ _ _ r h => by simp [treelinelaw19_Small.l0] at h
  | k + 1 => by
    have ih0 := treelinelaw19_Small.mono_l k
    · intro y0 y1 y2 y3 y4 y5 y6 y7 y8 y9
      unfold treelinelaw19_Small.l0
      repeat' first
      | (with_reducible exact ih0 _ _ _ _ _ _ _ _ _ _)
      | (with_reducible exact LeO.refl _)
      | (with_reducible exact LeO.none _)
      | (with_reducible refine LeO.ite ?_ ?_)
      | (with_reducible refine LeO.bind ?_ (fun _ => ?_))
      | exact ih0 _ _ _ _ _ _ _ _ _ _
      | exact LeO.none _
      | refine LeO.ite ?_ ?_
      | refine LeO.bind ?_ (fun _ => ?_)
theorem treelinelaw19_Small.mono : ∀ a0 a1 k, LeO (treelinelaw19_Small.f k a0 a1) (treelinelaw19_Small.f (k + 1) a0 a1) := by
  intro a0 a1 k
  have ih0 := treelinelaw19_Small.mono_l k
  unfold treelinelaw19_Small.f
  repeat' first
      | (with_reducible exact ih0 _ _ _ _ _ _ _ _ _ _)
      | (with_reducible exact LeO.refl _)
      | (with_reducible exact LeO.none _)
      | (with_reducible refine LeO.ite ?_ ?_)
      | (with_reducible refine LeO.bind ?_ (fun _ => ?_))
      | exact ih0 _ _ _ _ _ _ _ _ _ _
      | exact LeO.none _
      | refine LeO.ite ?_ ?_
      | refine LeO.bind ?_ (fun _ => ?_)
set_option maxHeartbeats 8000000 in
set_option maxRecDepth 100000 in
theorem treelinelaw19_Small.calls (k : Nat) (a0 : Int) (a1 : Int) (r1 : Int) (r2 : Int) (r3 : Int) (r4 : Int) (r5 : Int) (r6 : Int) (r7 : Int) (r8 : List (S51)) (w : World) (h : treelinelaw19_Small.f k a0 a1 = some (r1, r2, r3, r4, r5, r6, r7, r8)) :
  Calls Try.prog 18 #[.int .u64 a0, .int .i64 a1] w fun e w' => ∃ v7_ : Value, e = .returned (.agg #[.int .u64 r1, .int .u16 r2, .int .i64 r3, .int .i64 r4, .int .i64 r5, .int .i64 r6, .int .i64 r7, v7_]) ∧ Kd.R k51 51 w' w.heap.size (fun _ => True) v7_ r8 ∧ Below w.heap.size w w' := by
 have hu48 := Try.underlying48
 have hu51 := Try.underlying51
 have HB := Aside0.mk (Below.refl w.heap.size w)
 have H : (treelinelaw19_Small.l0 k a1 0 a0 32768 6 1 4 20 4 ([] : List (S51))) = some (r1, r2, r3, r4, r5, r6, r7, r8) := h
 clear h
 have H' := Aside0.mk H
 clear H
 go_enter Try.func18, Try.ntmps18
 go_wp2_with (first | ((with_reducible refine gate_dst (N := 4) rfl ?_); refine box_event ?hg (N := 4) ?hd (cs := #[.int .u64 0, .int .u16 0, .int .i64 0, .int .i64 0, .int .i64 0, .int .i64 0, .int .i64 0, .slice none 0 0]) (t := 48) ?hr ?_; (case hd => rfl); (case hg => rfl); (case hr => first | (go_simp; done) | (go_simp; rfl)); intro gb157 hg w3 hbox hb; have n0_ := Aside0.mk (below_step (by repeat (first | (with_reducible first | exact HB.out | apply below_alloc | apply pw_below_drewN | apply below_drew1) | exact HB.out)) hb); have n1_ := Aside0.mk (hbox); have n2_ := Aside0.mk ((by rw [hg]; exact (below_size (by repeat (first | (with_reducible first | exact HB.out | apply below_alloc | apply pw_below_drewN | apply below_drew1) | exact HB.out))) : w.heap.size ≤ gb157)); have n3_ := Aside0.mk ((by rw [hg]; exact (below_size (by repeat (first | (with_reducible first | exact HB.out | apply below_alloc | apply pw_below_drewN | apply below_drew1) | exact HB.out))) : w.heap.size ≤ gb157)); clear HB; have HB := n0_; have BK157 := n1_; have GW157 := n2_; have GE157 := n3_; clear n0_ n1_ n2_ n3_; clear hb hbox hg) | ((with_reducible refine gate_dst (N := 5) rfl ?_); refine box_event ?hg (N := 5) ?hd (cs := #[.int .u64 0, .int .u16 0, .int .i64 0, .int .i64 0, .int .i64 0, .int .i64 0, .int .i64 0, .slice none 0 0]) (t := 48) ?hr ?_; (case hd => rfl); (case hg => rfl); (case hr => first | (go_simp; done) | (go_simp; rfl)); intro gb158 hg w4 hbox hb; have n0_ := Aside0.mk (blk_below (g := gb157) (o := .cells #[.int .u64 0, .int .u16 0, .int .i64 0, .int .i64 0, .int .i64 0, .int .i64 0, .int .i64 0, .slice none 0 0] 48 (0, 0)) (by (with_reducible repeat (first | refine blk_drewN ?_ _ | refine blk_drew ?_ | refine blk_alloc ?_ _)); exact BK157.out) hb); have n1_ := Aside0.mk (below_step (by repeat (first | (with_reducible first | exact HB.out | apply below_alloc | apply pw_below_drewN | apply below_drew1 | refine below_set ?_ GE157.out) | exact HB.out)) hb); have n2_ := Aside0.mk (hbox); have n3_ := Aside0.mk ((by rw [hg]; exact (below_size (by repeat (first | (with_reducible first | exact HB.out | apply below_alloc | apply pw_below_drewN | apply below_drew1 | refine below_set ?_ GE157.out) | exact HB.out))) : w.heap.size ≤ gb158)); have n4_ := Aside0.mk ((by rw [hg]; exact (below_size (by repeat (first | (with_reducible first | exact HB.out | apply below_alloc | apply pw_below_drewN | apply below_drew1 | refine below_set ?_ GE157.out) | exact HB.out))) : w.heap.size ≤ gb158)); have n5_ := Aside0.mk ((by rw [hg]; exact Nat.ne_of_lt (blk_lt (g := gb157) (o := .cells #[.int .u64 0, .int .u16 0, .int .i64 0, .int .i64 0, .int .i64 0, .int .i64 0, .int .i64 0, .slice none 0 0] 48 (0, 0)) (by (with_reducible repeat (first | refine blk_drewN ?_ _ | refine blk_drew ?_ | refine blk_alloc ?_ _)); exact BK157.out)) : gb157 ≠ gb158)); have n6_ := Aside0.mk ((by rw [hg]; exact Nat.ne_of_gt (blk_lt (g := gb157) (o := .cells #[.int .u64 0, .int .u16 0, .int .i64 0, .int .i64 0, .int .i64 0, .int .i64 0, .int .i64 0, .slice none 0 0] 48 (0, 0)) (by (with_reducible repeat (first | refine blk_drewN ?_ _ | refine blk_drew ?_ | refine blk_alloc ?_ _)); exact BK157.out)) : gb158 ≠ gb157)); clear BK157; clear HB; have BK157 := n0_; have HB := n1_; have BK158 := n2_; have GW158 := n3_; have GE158 := n4_; have NB157_158 := n5_; have NB158_157 := n6_; clear n0_ n1_ n2_ n3_ n4_ n5_ n6_; clear hb hbox hg; have hnb5 := NB158_157.out; have hnc5 := NB157_158.out; have hcz6_0 : w4.cell? ⟨gb158, 0, none⟩ = some (.int .u64 0) := (blk_cell BK158.out 0).trans rfl; have hcz6_1 : w4.cell? ⟨gb158, 1, none⟩ = some (.int .u16 0) := (blk_cell BK158.out 1).trans rfl; have hcz6_2 : w4.cell? ⟨gb158, 2, none⟩ = some (.int .i64 0) := (blk_cell BK158.out 2).trans rfl; have hcz6_3 : w4.cell? ⟨gb158, 3, none⟩ = some (.int .i64 0) := (blk_cell BK158.out 3).trans rfl; have hcz6_4 : w4.cell? ⟨gb158, 4, none⟩ = some (.int .i64 0) := (blk_cell BK158.out 4).trans rfl; have hcz6_5 : w4.cell? ⟨gb158, 5, none⟩ = some (.int .i64 0) := (blk_cell BK158.out 5).trans rfl; have hcz6_6 : w4.cell? ⟨gb158, 6, none⟩ = some (.int .i64 0) := (blk_cell BK158.out 6).trans rfl; have hcz6_7 : w4.cell? ⟨gb158, 7, none⟩ = some (.slice none 0 0) := (blk_cell BK158.out 7).trans rfl; have hfz6_0 := blk_frozen BK158.out 0; have hfz6_1 := blk_frozen BK158.out 1; have hfz6_2 := blk_frozen BK158.out 2; have hfz6_3 := blk_frozen BK158.out 3; have hfz6_4 := blk_frozen BK158.out 4; have hfz6_5 := blk_frozen BK158.out 5; have hfz6_6 := blk_frozen BK158.out 6; have hfz6_7 := blk_frozen BK158.out 7))
 go_loopg [6] k (fun kq v6 w' => ∃ (x6_1 : Int) (x159007_1 : List (S51)) (u159007 : Value), v6 = .int .i64 x6_1 ∧ Aside0 (treelinelaw19_Small.l0 kq a1 x6_1 a0 32768 6 1 4 20 4 x159007_1 = some (r1, r2, r3, r4, r5, r6, r7, r8)) ∧ Aside0 (kq ≤ k) ∧ Aside0 (Kd.R k51 51 w' w.heap.size (fun _ => True) u159007 x159007_1) ∧ Aside0 (w'.heap[gb157]? = some (.cells #[.int .u64 0, .int .u16 0, .int .i64 0, .int .i64 0, .int .i64 0, .int .i64 0, .int .i64 0, (.slice none 0 0)] 48 (0, 0))) ∧ Aside0 (w'.heap[gb158]? = some (.cells #[.int .u64 a0, .int .u16 32768, .int .i64 6, .int .i64 1, .int .i64 4, .int .i64 20, .int .i64 4, u159007] 48 (0, 0))) ∧ Aside0 (Below w.heap.size w w'))
 case atStart => exact ⟨(0), (([] : List (S51))), (.slice none 0 0), (by first | rfl | (simp; done) | (simp [*]; done)), H', ⟨Nat.le_refl _⟩, ⟨by first | exact Kd.R_nil _ _ _ _ _ | exact Kd.N_nil _ _ _ _ _ | exact Kd.V_nil _ _ _ _ _ | exact Kd.Q_nil _ _ _ _ _ | exact Kd.S_nil _ _ _ _ _⟩, ⟨by (with_reducible repeat (first | refine blk_drewN ?_ _ | refine blk_drew ?_ | refine blk_alloc ?_ _)); refine blk_far ?_ NB157_158.out _; (with_reducible repeat (first | refine blk_drewN ?_ _ | refine blk_drew ?_ | refine blk_alloc ?_ _)); refine blk_far ?_ NB157_158.out _; (with_reducible repeat (first | refine blk_drewN ?_ _ | refine blk_drew ?_ | refine blk_alloc ?_ _)); refine blk_far ?_ NB157_158.out _; (with_reducible repeat (first | refine blk_drewN ?_ _ | refine blk_drew ?_ | refine blk_alloc ?_ _)); refine blk_far ?_ NB157_158.out _; (with_reducible repeat (first | refine blk_drewN ?_ _ | refine blk_drew ?_ | refine blk_alloc ?_ _)); refine blk_far ?_ NB157_158.out _; (with_reducible repeat (first | refine blk_drewN ?_ _ | refine blk_drew ?_ | refine blk_alloc ?_ _)); refine blk_far ?_ NB157_158.out _; (with_reducible repeat (first | refine blk_drewN ?_ _ | refine blk_drew ?_ | refine blk_alloc ?_ _)); refine blk_far ?_ NB157_158.out _; (with_reducible repeat (first | refine blk_drewN ?_ _ | refine blk_drew ?_ | refine blk_alloc ?_ _)); refine blk_far ?_ NB157_158.out _; (with_reducible repeat (first | refine blk_drewN ?_ _ | refine blk_drew ?_ | refine blk_alloc ?_ _)); exact BK157.out⟩, ⟨by (with_reducible repeat (first | refine blk_drewN ?_ _ | refine blk_drew ?_ | refine blk_alloc ?_ _)); refine blk_put (cs := #[.int .u64 a0, .int .u16 32768, .int .i64 6, .int .i64 1, .int .i64 4, .int .i64 20, .int .i64 4, .slice none 0 0]) ?_ 7 _ rfl; (with_reducible repeat (first | refine blk_drewN ?_ _ | refine blk_drew ?_ | refine blk_alloc ?_ _)); refine blk_put (cs := #[.int .u64 a0, .int .u16 32768, .int .i64 6, .int .i64 1, .int .i64 4, .int .i64 20, .int .i64 0, .slice none 0 0]) ?_ 6 _ rfl; (with_reducible repeat (first | refine blk_drewN ?_ _ | refine blk_drew ?_ | refine blk_alloc ?_ _)); refine blk_put (cs := #[.int .u64 a0, .int .u16 32768, .int .i64 6, .int .i64 1, .int .i64 4, .int .i64 0, .int .i64 0, .slice none 0 0]) ?_ 5 _ rfl; (with_reducible repeat (first | refine blk_drewN ?_ _ | refine blk_drew ?_ | refine blk_alloc ?_ _)); refine blk_put (cs := #[.int .u64 a0, .int .u16 32768, .int .i64 6, .int .i64 1, .int .i64 0, .int .i64 0, .int .i64 0, .slice none 0 0]) ?_ 4 _ rfl; (with_reducible repeat (first | refine blk_drewN ?_ _ | refine blk_drew ?_ | refine blk_alloc ?_ _)); refine blk_put (cs := #[.int .u64 a0, .int .u16 32768, .int .i64 6, .int .i64 0, .int .i64 0, .int .i64 0, .int .i64 0, .slice none 0 0]) ?_ 3 _ rfl; (with_reducible repeat (first | refine blk_drewN ?_ _ | refine blk_drew ?_ | refine blk_alloc ?_ _)); refine blk_put (cs := #[.int .u64 a0, .int .u16 32768, .int .i64 0, .int .i64 0, .int .i64 0, .int .i64 0, .int .i64 0, .slice none 0 0]) ?_ 2 _ rfl; (with_reducible repeat (first | refine blk_drewN ?_ _ | refine blk_drew ?_ | refine blk_alloc ?_ _)); refine blk_put (cs := #[.int .u64 a0, .int .u16 0, .int .i64 0, .int .i64 0, .int .i64 0, .int .i64 0, .int .i64 0, .slice none 0 0]) ?_ 1 _ rfl; (with_reducible repeat (first | refine blk_drewN ?_ _ | refine blk_drew ?_ | refine blk_alloc ?_ _)); refine blk_put (cs := #[.int .u64 0, .int .u16 0, .int .i64 0, .int .i64 0, .int .i64 0, .int .i64 0, .int .i64 0, .slice none 0 0]) ?_ 0 _ rfl; (with_reducible repeat (first | refine blk_drewN ?_ _ | refine blk_drew ?_ | refine blk_alloc ?_ _)); exact BK158.out⟩, ⟨by repeat (first | (with_reducible first | exact HB.out | apply below_alloc | apply pw_below_drewN | apply below_drew1 | refine below_set ?_ GE157.out | refine below_set ?_ GE158.out) | exact HB.out)⟩⟩
 clear H'
 try clear c1
 try clear p2
 try clear c5
 try clear hcz6_0
 try clear hcz6_1
 try clear hcz6_2
 try clear hcz6_3
 try clear hcz6_4
 try clear hcz6_5
 try clear hcz6_6
 try clear hcz6_7
 try clear hfz6_0
 try clear hfz6_1
 try clear hfz6_2
 try clear hfz6_3
 try clear hfz6_4
 try clear hfz6_5
 try clear hfz6_6
 try clear hfz6_7
 obtain ⟨x6_1, x159007_1, u159007, rfl, HA, HK1, HO_159007, BK157, BK158, HB⟩ := hrel
 cases gk with
 | zero => exact absurd HA.out (by simp [treelinelaw19_Small.l0])
 | succ k1 => ?_
 have H := HA.out
 clear HA
 simp only [treelinelaw19_Small.l0] at H
 by_cases c7 : x6_1 < a1
 rotate_left
 ·rw [if_neg c7] at H
  have c7b0 : decide (x6_1 < a1) = false := decide_eq_false c7
  clear c7
  simp only [Option.some.injEq, Prod.mk.injEq] at H
  obtain ⟨rfl, rfl, rfl, rfl, rfl, rfl, rfl, rfl⟩ := H
  have hnb14 := NB158_157.out
  have hnc14 := NB157_158.out
  have hcz15_0 : wr.cell? ⟨gb158, 0, none⟩ = some (.int .u64 a0) := (blk_cell BK158.out 0).trans rfl
  have hcz15_1 : wr.cell? ⟨gb158, 1, none⟩ = some (.int .u16 32768) := (blk_cell BK158.out 1).trans rfl
  have hcz15_2 : wr.cell? ⟨gb158, 2, none⟩ = some (.int .i64 6) := (blk_cell BK158.out 2).trans rfl
  have hcz15_3 : wr.cell? ⟨gb158, 3, none⟩ = some (.int .i64 1) := (blk_cell BK158.out 3).trans rfl
  have hcz15_4 : wr.cell? ⟨gb158, 4, none⟩ = some (.int .i64 4) := (blk_cell BK158.out 4).trans rfl
  have hcz15_5 : wr.cell? ⟨gb158, 5, none⟩ = some (.int .i64 20) := (blk_cell BK158.out 5).trans rfl
  have hcz15_6 : wr.cell? ⟨gb158, 6, none⟩ = some (.int .i64 4) := (blk_cell BK158.out 6).trans rfl
  have hcz15_7 : wr.cell? ⟨gb158, 7, none⟩ = some (u159007) := (blk_cell BK158.out 7).trans rfl
  have hfz15_0 := blk_frozen BK158.out 0
  have hfz15_1 := blk_frozen BK158.out 1
  have hfz15_2 := blk_frozen BK158.out 2
  have hfz15_3 := blk_frozen BK158.out 3
  have hfz15_4 := blk_frozen BK158.out 4
  have hfz15_5 := blk_frozen BK158.out 5
  have hfz15_6 := blk_frozen BK158.out 6
  have hfz15_7 := blk_frozen BK158.out 7
  have hcz16_0 : wr.cell? ⟨gb157, 0, none⟩ = some (.int .u64 0) := (blk_cell BK157.out 0).trans rfl
  have hcz16_1 : wr.cell? ⟨gb157, 1, none⟩ = some (.int .u16 0) := (blk_cell BK157.out 1).trans rfl
  have hcz16_2 : wr.cell? ⟨gb157, 2, none⟩ = some (.int .i64 0) := (blk_cell BK157.out 2).trans rfl
  have hcz16_3 : wr.cell? ⟨gb157, 3, none⟩ = some (.int .i64 0) := (blk_cell BK157.out 3).trans rfl
  have hcz16_4 : wr.cell? ⟨gb157, 4, none⟩ = some (.int .i64 0) := (blk_cell BK157.out 4).trans rfl
  have hcz16_5 : wr.cell? ⟨gb157, 5, none⟩ = some (.int .i64 0) := (blk_cell BK157.out 5).trans rfl
  have hcz16_6 : wr.cell? ⟨gb157, 6, none⟩ = some (.int .i64 0) := (blk_cell BK157.out 6).trans rfl
  have hcz16_7 : wr.cell? ⟨gb157, 7, none⟩ = some (.slice none 0 0) := (blk_cell BK157.out 7).trans rfl
  have hfz16_0 := blk_frozen BK157.out 0
  have hfz16_1 := blk_frozen BK157.out 1
  have hfz16_2 := blk_frozen BK157.out 2
  have hfz16_3 := blk_frozen BK157.out 3
  have hfz16_4 := blk_frozen BK157.out 4
  have hfz16_5 := blk_frozen BK157.out 5
  have hfz16_6 := blk_frozen BK157.out 6
  have hfz16_7 := blk_frozen BK157.out 7
  obtain ⟨Ao17, co17, eo17⟩ := Kd.R_slice HO_159007.out
  subst eo17
  go_wp2
  refine bodyPost_ret (results_cell_row rfl _ _ gb157 48 #[.int .u64 a0, .int .u16 32768, .int .i64 6, .int .i64 1, .int .i64 4, .int .i64 20, .int .i64 4, .slice Ao17 x159007_1.length co17] (0, 0) _ rfl (by (with_reducible repeat (first | refine blk_drewN ?_ _ | refine blk_drew ?_ | refine blk_alloc ?_ _)); refine blk_put (cs := #[.int .u64 a0, .int .u16 32768, .int .i64 6, .int .i64 1, .int .i64 4, .int .i64 20, .int .i64 4, .slice none 0 0]) ?_ 7 _ rfl; (with_reducible repeat (first | refine blk_drewN ?_ _ | refine blk_drew ?_ | refine blk_alloc ?_ _)); refine blk_put (cs := #[.int .u64 a0, .int .u16 32768, .int .i64 6, .int .i64 1, .int .i64 4, .int .i64 20, .int .i64 0, .slice none 0 0]) ?_ 6 _ rfl; (with_reducible repeat (first | refine blk_drewN ?_ _ | refine blk_drew ?_ | refine blk_alloc ?_ _)); refine blk_put (cs := #[.int .u64 a0, .int .u16 32768, .int .i64 6, .int .i64 1, .int .i64 4, .int .i64 0, .int .i64 0, .slice none 0 0]) ?_ 5 _ rfl; (with_reducible repeat (first | refine blk_drewN ?_ _ | refine blk_drew ?_ | refine blk_alloc ?_ _)); refine blk_put (cs := #[.int .u64 a0, .int .u16 32768, .int .i64 6, .int .i64 1, .int .i64 0, .int .i64 0, .int .i64 0, .slice none 0 0]) ?_ 4 _ rfl; (with_reducible repeat (first | refine blk_drewN ?_ _ | refine blk_drew ?_ | refine blk_alloc ?_ _)); refine blk_put (cs := #[.int .u64 a0, .int .u16 32768, .int .i64 6, .int .i64 0, .int .i64 0, .int .i64 0, .int .i64 0, .slice none 0 0]) ?_ 3 _ rfl; (with_reducible repeat (first | refine blk_drewN ?_ _ | refine blk_drew ?_ | refine blk_alloc ?_ _)); refine blk_put (cs := #[.int .u64 a0, .int .u16 32768, .int .i64 0, .int .i64 0, .int .i64 0, .int .i64 0, .int .i64 0, .slice none 0 0]) ?_ 2 _ rfl; (with_reducible repeat (first | refine blk_drewN ?_ _ | refine blk_drew ?_ | refine blk_alloc ?_ _)); refine blk_put (cs := #[.int .u64 a0, .int .u16 0, .int .i64 0, .int .i64 0, .int .i64 0, .int .i64 0, .int .i64 0, .slice none 0 0]) ?_ 1 _ rfl; (with_reducible repeat (first | refine blk_drewN ?_ _ | refine blk_drew ?_ | refine blk_alloc ?_ _)); refine blk_put (cs := #[.int .u64 0, .int .u16 0, .int .i64 0, .int .i64 0, .int .i64 0, .int .i64 0, .int .i64 0, .slice none 0 0]) ?_ 0 _ rfl; (with_reducible repeat (first | refine blk_drewN ?_ _ | refine blk_drew ?_ | refine blk_alloc ?_ _)); exact BK157.out) Try.underlying48 rfl (by kernel_rfl)) rfl ?_
  exact ⟨_, by first | rfl | (simp [errW_none, errW_some] <;> rfl) | (simp [*, errW_none, errW_some] <;> rfl), by (with_reducible repeat (first | apply Kd.R_alloc | apply Kd.R_drewN | apply Kd.R_drew)); exact Kd.R_mono (Kd.R_far (p := ⟨gb157, 7, none⟩) (Kd.R_far (p := ⟨gb157, 6, none⟩) (Kd.R_far (p := ⟨gb157, 5, none⟩) (Kd.R_far (p := ⟨gb157, 4, none⟩) (Kd.R_far (p := ⟨gb157, 3, none⟩) (Kd.R_far (p := ⟨gb157, 2, none⟩) (Kd.R_far (p := ⟨gb157, 1, none⟩) (Kd.R_far (p := ⟨gb157, 0, none⟩) (Kd.R_types HO_159007.out BK157.out (by decide)) (fun _ hk => hk.2) (.int .u64 a0)) (fun _ hk => hk.2) (.int .u16 32768)) (fun _ hk => hk.2) (.int .i64 6)) (fun _ hk => hk.2) (.int .i64 1)) (fun _ hk => hk.2) (.int .i64 4)) (fun _ hk => hk.2) (.int .i64 20)) (fun _ hk => hk.2) (.int .i64 4)) (fun _ hk => hk.2) (.slice Ao17 x159007_1.length co17)) (fun _ hk => trivial), by repeat (first | (with_reducible first | exact HB.out | apply below_alloc | apply pw_below_drewN | apply below_drew1 | refine below_set ?_ GE157.out | refine below_set ?_ GE158.out) | exact HB.out)⟩
 rw [if_pos c7] at H
 have c7b0 : decide (x6_1 < a1) = true := decide_eq_true c7
 clear c7
 by_cases c8 : x159007_1.length < 11728124029610
 rotate_left
 ·rw [if_neg c8] at H
  exact absurd H (by simp)
 rw [if_pos c8] at H
 have LMc8 := Aside0.mk c8
 clear c8
 obtain ⟨y159, hy159⟩ : ∃ y_ : List (S51), y_ = (x159007_1 ++ [(⟨128, 19, true⟩ : S51)]) := ⟨_, rfl⟩
 replace H : (treelinelaw19_Small.l0 k1 a1 (wrap64 (x6_1 + 1)) a0 32768 6 1 4 20 4 y159) = some (r1, r2, r3, r4, r5, r6, r7, r8) := by first | (rw [hy159]; with_reducible exact H) | (have H2_ := (Option.bind_some _ _).symm.trans H; rw [hy159]; with_reducible exact H2_) | (have H2_ := (Option.bind_some _ _).symm.trans H; with_reducible exact H2_) | with_reducible exact H | (rw [hy159]; exact H) | exact H
 have Ny159 := Aside0.mk hy159
 clear hy159
 have H' := Aside0.mk H
 clear H
 have hnb9 := NB158_157.out
 have hnc9 := NB157_158.out
 have hcz10_0 : wr.cell? ⟨gb158, 0, none⟩ = some (.int .u64 a0) := (blk_cell BK158.out 0).trans rfl
 have hcz10_1 : wr.cell? ⟨gb158, 1, none⟩ = some (.int .u16 32768) := (blk_cell BK158.out 1).trans rfl
 have hcz10_2 : wr.cell? ⟨gb158, 2, none⟩ = some (.int .i64 6) := (blk_cell BK158.out 2).trans rfl
 have hcz10_3 : wr.cell? ⟨gb158, 3, none⟩ = some (.int .i64 1) := (blk_cell BK158.out 3).trans rfl
 have hcz10_4 : wr.cell? ⟨gb158, 4, none⟩ = some (.int .i64 4) := (blk_cell BK158.out 4).trans rfl
 have hcz10_5 : wr.cell? ⟨gb158, 5, none⟩ = some (.int .i64 20) := (blk_cell BK158.out 5).trans rfl
 have hcz10_6 : wr.cell? ⟨gb158, 6, none⟩ = some (.int .i64 4) := (blk_cell BK158.out 6).trans rfl
 have hcz10_7 : wr.cell? ⟨gb158, 7, none⟩ = some (u159007) := (blk_cell BK158.out 7).trans rfl
 have hfz10_0 := blk_frozen BK158.out 0
 have hfz10_1 := blk_frozen BK158.out 1
 have hfz10_2 := blk_frozen BK158.out 2
 have hfz10_3 := blk_frozen BK158.out 3
 have hfz10_4 := blk_frozen BK158.out 4
 have hfz10_5 := blk_frozen BK158.out 5
 have hfz10_6 := blk_frozen BK158.out 6
 have hfz10_7 := blk_frozen BK158.out 7
 go_wp2_with (first | ((with_reducible refine gate_builtin (b := .append) (xs := #[.tmp 15, .tmp 17]) rfl ?_); at_builtin; refine Kd.R_append k51 (w0 := w) w.heap.size rfl (.tmp 15) (.tmp 17) 46 51 (.agg #[(.int .u8 0), (.int .u32 0), (.bool false)]) 12 rfl Try.underlying46 info51 rfl (by decide) (by omega) u159007 x159007_1 (⟨128, 19, true⟩ : S51) [.int .u8 128, .int .u32 19, .bool true] (fun _ => True) (fun _ => False) rfl rfl ?aP (fun _ hk => hk.elim) ?aF ?aO ?aB ?aS ?aL ?_; (case aP => exact k51_mkM _ _ _ (⟨128, 19, true⟩ : S51)); (case aB => exact (by repeat (first | (with_reducible first | exact HB.out | apply below_alloc | apply pw_below_drewN | apply below_drew1 | refine below_set ?_ GE157.out | refine below_set ?_ GE158.out) | exact HB.out))); (case aF => exact (fun _ _ => trivial)); (case aO => exact (by (with_reducible repeat (first | apply Kd.R_alloc | apply Kd.R_drewN | apply Kd.R_drew)); exact HO_159007.out)); (case aS => exact (below_size (by repeat (first | (with_reducible first | exact HB.out | apply below_alloc | apply pw_below_drewN | apply below_drew1 | refine below_set ?_ GE157.out | refine below_set ?_ GE158.out) | exact HB.out)))); (case aL => have := LMc8.out; omega); intro v160 w11 ho hb hg hat; rw [← Ny159.out] at ho; have n0_ := Aside0.mk (blk_grown (g := gb157) (o := .cells #[.int .u64 0, .int .u16 0, .int .i64 0, .int .i64 0, .int .i64 0, .int .i64 0, .int .i64 0, .slice none 0 0] 48 (0, 0)) (by (with_reducible repeat (first | refine blk_drewN ?_ _ | refine blk_drew ?_ | refine blk_alloc ?_ _)); exact BK157.out) hg (Kd.R_ne HO_159007.out BK157.out (by decide))); have n1_ := Aside0.mk (blk_grown (g := gb158) (o := .cells #[.int .u64 a0, .int .u16 32768, .int .i64 6, .int .i64 1, .int .i64 4, .int .i64 20, .int .i64 4, u159007] 48 (0, 0)) (by (with_reducible repeat (first | refine blk_drewN ?_ _ | refine blk_drew ?_ | refine blk_alloc ?_ _)); exact BK158.out) hg (Kd.R_ne HO_159007.out BK158.out (by decide))); have n2_ := Aside0.mk (hb); have n3_ := Aside0.mk (ho); clear BK157; clear BK158; clear HB; clear HO_159007; have BK157 := n0_; have BK158 := n1_; have HB := n2_; have HO161 := n3_; clear n0_ n1_ n2_ n3_; clear ho hb hg hat; obtain ⟨Ao12, co12, eo12⟩ := Kd.R_slice HO161.out; subst eo12; have hcz13_0 : w11.cell? ⟨gb158, 0, none⟩ = some (.int .u64 a0) := (blk_cell BK158.out 0).trans rfl; have hcz13_1 : w11.cell? ⟨gb158, 1, none⟩ = some (.int .u16 32768) := (blk_cell BK158.out 1).trans rfl; have hcz13_2 : w11.cell? ⟨gb158, 2, none⟩ = some (.int .i64 6) := (blk_cell BK158.out 2).trans rfl; have hcz13_3 : w11.cell? ⟨gb158, 3, none⟩ = some (.int .i64 1) := (blk_cell BK158.out 3).trans rfl; have hcz13_4 : w11.cell? ⟨gb158, 4, none⟩ = some (.int .i64 4) := (blk_cell BK158.out 4).trans rfl; have hcz13_5 : w11.cell? ⟨gb158, 5, none⟩ = some (.int .i64 20) := (blk_cell BK158.out 5).trans rfl; have hcz13_6 : w11.cell? ⟨gb158, 6, none⟩ = some (.int .i64 4) := (blk_cell BK158.out 6).trans rfl; have hcz13_7 : w11.cell? ⟨gb158, 7, none⟩ = some (u159007) := (blk_cell BK158.out 7).trans rfl; have hfz13_0 := blk_frozen BK158.out 0; have hfz13_1 := blk_frozen BK158.out 1; have hfz13_2 := blk_frozen BK158.out 2; have hfz13_3 := blk_frozen BK158.out 3; have hfz13_4 := blk_frozen BK158.out 4; have hfz13_5 := blk_frozen BK158.out 5; have hfz13_6 := blk_frozen BK158.out 6; have hfz13_7 := blk_frozen BK158.out 7))
 go_roundg k1
 case measure => have := HK1.out; omega
 case rel => exact ⟨(wrap64 (x6_1 + 1)), (y159), (.slice Ao12 y159.length co12), (by first | rfl | (simp; done) | (simp [*]; done)), H', ⟨by have := HK1.out; omega⟩, ⟨by (with_reducible repeat (first | apply Kd.R_alloc | apply Kd.R_drewN | apply Kd.R_drew)); exact Kd.R_mono (Kd.R_far (p := ⟨gb158, 7, none⟩) (Kd.R_types HO161.out BK158.out (by decide)) (fun _ hk => hk.2) (.slice Ao12 y159.length co12)) (fun _ hk => trivial)⟩, ⟨by (with_reducible repeat (first | refine blk_drewN ?_ _ | refine blk_drew ?_ | refine blk_alloc ?_ _)); refine blk_far ?_ NB157_158.out _; (with_reducible repeat (first | refine blk_drewN ?_ _ | refine blk_drew ?_ | refine blk_alloc ?_ _)); exact BK157.out⟩, ⟨by (with_reducible repeat (first | refine blk_drewN ?_ _ | refine blk_drew ?_ | refine blk_alloc ?_ _)); refine blk_put (cs := #[.int .u64 a0, .int .u16 32768, .int .i64 6, .int .i64 1, .int .i64 4, .int .i64 20, .int .i64 4, u159007]) ?_ 7 _ rfl; (with_reducible repeat (first | refine blk_drewN ?_ _ | refine blk_drew ?_ | refine blk_alloc ?_ _)); exact BK158.out⟩, ⟨by repeat (first | (with_reducible first | exact HB.out | apply below_alloc | apply pw_below_drewN | apply below_drew1 | refine below_set ?_ GE157.out | refine below_set ?_ GE158.out) | exact HB.out)⟩⟩
end Go.Proofs.Ytkgfpagfmdefgaa.OTopoRight
