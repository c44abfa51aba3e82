/- What Go functions that the law TopoRight uses come to, and why: part 10. Made out of the kit's print by a program of this session (wip/tools/stub.py, splice.py), functions that it does not take told by hand. -/
import Derived.Test.YtkgfpagfmdefgaaOTopoRightx9
namespace Go.Proofs.Ytkgfpagfmdefgaa.OTopoRight
open Go.RowKit Go.Proofs.YtkgfpagfmdefgaaW.PrintWords Go.Proofs.YtkgfpagfmdefgaaW.PrintLast Go.Proofs.YtkgfpagfmdefgaaW.PrintMore
attribute [local go_sem] max2_int min2_int max_two min_two max_three min_three max_four min_four   -- for this text's walks alone
set_option linter.unusedVariables false
set_option linter.unusedSimpArgs false

/-! ### topo_On: function 19 -/
mutual
def topo_On.l0 : Nat → List (List Bool) → List (S48) → Int → Int → Option ((List (List Bool)))
  | 0, _, _, _, _ => none
  | k + 1, x3, x10, x11, x12 => if x12 < x11 then (if 0 ≤ x12 then (if x12 < (x10.length : Int) then (topo_On.l1 k x3 ([] : List Bool) x10 x11 x12 ((rd_T48 x10 x12).f7) (((rd_T48 x10 x12).f7).length : Int) 0) else (none)) else (none)) else (some x3)
def topo_On.l1 : Nat → List (List Bool) → List Bool → List (S48) → Int → Int → List (S51) → Int → Int → Option ((List (List Bool)))
  | 0, _, _, _, _, _, _, _, _ => none
  | k + 1, x3, x6, x10, x11, x12, x17, x18, x19 => if x19 < x18 then (if 0 ≤ x19 then (if x19 < (x17.length : Int) then (if x6.length < 140737488355328 then (topo_On.l1 k x3 (x6 ++ [(rd_T51 x17 x19).f2]) x10 x11 x12 x17 x18 (wrap64 (x19 + 1))) else (none)) else (none)) else (none)) else (if x3.length < 5864062014805 then (topo_On.l0 k (x3 ++ [x6]) x10 x11 (wrap64 (x12 + 1))) else (none))
end
def topo_On.f (k : Nat) (a0_0 : Int) (l0_1 : List (S48)) (l0_2 : List (List Int)) (l0_3 : List (S59)) : Option ((List (List Bool))) := topo_On.l0 k ([] : List (List Bool)) l0_1 (l0_1.length : Int) 0
theorem topo_On.mono_l : ∀ k, (∀ y0 y1 y2 y3, LeO (topo_On.l0 k y0 y1 y2 y3) (topo_On.l0 (k + 1) y0 y1 y2 y3)) ∧ (∀ y0 y1 y2 y3 y4 y5 y6 y7, LeO (topo_On.l1 k y0 y1 y2 y3 y4 y5 y6 y7) (topo_On.l1 (k + 1) y0 y1 y2 y3 y4 y5 y6 y7))
  | 0 => ⟨fun _ _ _ _ r h => by simp [topo_On.l0] at h, fun _ _ _ _ _ _ _ _ r h => by simp [topo_On.l1] at h⟩
  | k + 1 => by
    obtain ⟨ih0, ih1⟩ := topo_On.mono_l k
    refine ⟨?_, ?_⟩
    · intro y0 y1 y2 y3
      unfold topo_On.l0
      repeat' first
      | (with_reducible exact ih0 _ _ _ _)
      | (with_reducible exact ih1 _ _ _ _ _ _ _ _)
      | (with_reducible exact LeO.refl _)
      | (with_reducible exact LeO.none _)
      | (with_reducible refine LeO.ite ?_ ?_)
      | (with_reducible refine LeO.bind ?_ (fun _ => ?_))
      | exact ih0 _ _ _ _
      | exact ih1 _ _ _ _ _ _ _ _
      | exact LeO.none _
      | refine LeO.ite ?_ ?_
      | refine LeO.bind ?_ (fun _ => ?_)
    · intro y0 y1 y2 y3 y4 y5 y6 y7
      unfold topo_On.l1
      repeat' first
      | (with_reducible exact ih0 _ _ _ _)
      | (with_reducible exact ih1 _ _ _ _ _ _ _ _)
      | (with_reducible exact LeO.refl _)
      | (with_reducible exact LeO.none _)
      | (with_reducible refine LeO.ite ?_ ?_)
      | (with_reducible refine LeO.bind ?_ (fun _ => ?_))
      | exact ih0 _ _ _ _
      | exact ih1 _ _ _ _ _ _ _ _
      | exact LeO.none _
      | refine LeO.ite ?_ ?_
      | refine LeO.bind ?_ (fun _ => ?_)
theorem topo_On.mono : ∀ a0 a1 a2 a3 k, LeO (topo_On.f k a0 a1 a2 a3) (topo_On.f (k + 1) a0 a1 a2 a3) := by
  intro a0 a1 a2 a3 k
  obtain ⟨ih0, ih1⟩ := topo_On.mono_l k
  unfold topo_On.f
  repeat' first
      | (with_reducible exact ih0 _ _ _ _)
      | (with_reducible exact ih1 _ _ _ _ _ _ _ _)
      | (with_reducible exact LeO.refl _)
      | (with_reducible exact LeO.none _)
      | (with_reducible refine LeO.ite ?_ ?_)
      | (with_reducible refine LeO.bind ?_ (fun _ => ?_))
      | exact ih0 _ _ _ _
      | exact ih1 _ _ _ _ _ _ _ _
      | exact LeO.none _
      | refine LeO.ite ?_ ?_
      | refine LeO.bind ?_ (fun _ => ?_)
set_option maxHeartbeats 8000000 in
set_option maxRecDepth 100000 in
theorem topo_On.calls (k : Nat) (a0_0 : Int) (A0_1 : Option Addr) (c0_1 : Nat) (l0_1 : List (S48)) (A0_2 : Option Addr) (c0_2 : Nat) (l0_2 : List (List Int)) (A0_3 : Option Addr) (c0_3 : Nat) (l0_3 : List (S59)) (r : List (List Bool)) (w : World) (hr0_1 : Kd.C k48 w A0_1 l0_1.length l0_1) (hc0_1 : l0_1.length ≤ c0_1) (hr0_2 : Kd.C (Kd.slice 3 (Kd.int .i64)) w A0_2 l0_2.length l0_2) (hc0_2 : l0_2.length ≤ c0_2) (hr0_3 : Kd.C k59 w A0_3 l0_3.length l0_3) (hc0_3 : l0_3.length ≤ c0_3) (h : topo_On.f k a0_0 l0_1 l0_2 l0_3 = some r) :
  Calls Try.prog 19 #[.agg #[.int .i64 a0_0, .slice A0_1 l0_1.length c0_1, .slice A0_2 l0_2.length c0_2, .slice A0_3 l0_3.length c0_3]] w fun e w' => ∃ v0_ : Value, e = .returned (v0_) ∧ Kd.S (Kd.slice 4 Kd.bool) 36 w' w.heap.size (fun _ => True) v0_ r ∧ Below w.heap.size w w' := by
 have hu26 := Try.underlying26
 have hu48 := Try.underlying48
 have hu51 := Try.underlying51
 have HR0_1 := Aside0.mk hr0_1
 have HC0_1 := Aside0.mk hc0_1
 clear hr0_1 hc0_1
 have HR0_2 := Aside0.mk hr0_2
 have HC0_2 := Aside0.mk hc0_2
 clear hr0_2 hc0_2
 have HR0_3 := Aside0.mk hr0_3
 have HC0_3 := Aside0.mk hc0_3
 clear hr0_3 hc0_3
 have HB := Aside0.mk (Below.refl w.heap.size w)
 have H : (topo_On.l0 k ([] : List (List Bool)) l0_1 (l0_1.length : Int) 0) = some r := h
 clear h
 have H' := Aside0.mk H
 clear H
 go_enter Try.func19, Try.ntmps19
 go_wp2_with (first | ((with_reducible refine gate_dst (N := 1) rfl ?_); refine box_event ?hg (N := 1) ?hd (cs := #[.int .i64 a0_0, .slice A0_1 l0_1.length c0_1, .slice A0_2 l0_2.length c0_2, .slice A0_3 l0_3.length c0_3]) (t := 26) ?hr ?_; (case hd => rfl); (case hg => rfl); (case hr => first | (go_simp; done) | (go_simp; rfl)); intro gb162 hg w2 hbox hb; have n0_ := Aside0.mk (below_step (by repeat (first | (with_reducible first | exact HB.out | apply below_alloc | apply pw_below_drewN | apply below_drew1) | exact HB.out)) hb); have n1_ := Aside0.mk (hbox); have n2_ := Aside0.mk ((by rw [hg]; exact (below_size (by repeat (first | (with_reducible first | exact HB.out | apply below_alloc | apply pw_below_drewN | apply below_drew1) | exact HB.out))) : w.heap.size ≤ gb162)); have n3_ := Aside0.mk ((by rw [hg]; exact (below_size (by repeat (first | (with_reducible first | exact HB.out | apply below_alloc | apply pw_below_drewN | apply below_drew1) | exact HB.out))) : w.heap.size ≤ gb162)); clear HB; have HB := n0_; have BK162 := n1_; have GW162 := n2_; have GE162 := n3_; clear n0_ n1_ n2_ n3_; clear hb hbox hg; have hcz3_0 : w2.cell? ⟨gb162, 0, none⟩ = some (.int .i64 a0_0) := (blk_cell BK162.out 0).trans rfl; have hcz3_1 : w2.cell? ⟨gb162, 1, none⟩ = some (.slice A0_1 l0_1.length c0_1) := (blk_cell BK162.out 1).trans rfl; have hcz3_2 : w2.cell? ⟨gb162, 2, none⟩ = some (.slice A0_2 l0_2.length c0_2) := (blk_cell BK162.out 2).trans rfl; have hcz3_3 : w2.cell? ⟨gb162, 3, none⟩ = some (.slice A0_3 l0_3.length c0_3) := (blk_cell BK162.out 3).trans rfl; have hfz3_0 := blk_frozen BK162.out 0; have hfz3_1 := blk_frozen BK162.out 1; have hfz3_2 := blk_frozen BK162.out 2; have hfz3_3 := blk_frozen BK162.out 3))
 go_loopg [3, 12] k (fun kq v3 v12 w' => ∃ (x3_1 : List (List Bool)) (x12_1 : Int), v12 = .int .i64 x12_1 ∧ Aside0 (topo_On.l0 kq x3_1 l0_1 (l0_1.length : Int) x12_1 = some r) ∧ Aside0 (kq ≤ k) ∧ Aside0 (Kd.S (Kd.slice 4 Kd.bool) 36 w' w.heap.size (fun _ => True) v3 x3_1) ∧ Aside0 (w'.heap[gb162]? = some (.cells #[.int .i64 a0_0, (.slice A0_1 l0_1.length c0_1), (.slice A0_2 l0_2.length c0_2), (.slice A0_3 l0_3.length c0_3)] 26 (0, 0))) ∧ Aside0 (Below w.heap.size w w'))
 case atStart => exact ⟨(([] : List (List Bool))), (0), (by first | rfl | (simp; done) | (simp [*]; done)), H', ⟨Nat.le_refl _⟩, ⟨by first | exact Kd.S_nil _ _ _ _ _ | exact Kd.N_nil _ _ _ _ _ | exact Kd.V_nil _ _ _ _ _ | exact Kd.Q_nil _ _ _ _ _ | exact Kd.R_nil _ _ _ _ _⟩, ⟨by (with_reducible repeat (first | refine blk_drewN ?_ _ | refine blk_drew ?_ | refine blk_alloc ?_ _)); exact BK162.out⟩, ⟨by repeat (first | (with_reducible first | exact HB.out | apply below_alloc | apply pw_below_drewN | apply below_drew1 | refine below_set ?_ GE162.out) | exact HB.out)⟩⟩
 clear H'
 try clear c1
 try clear p2
 try clear hcz3_0
 try clear hcz3_1
 try clear hcz3_2
 try clear hcz3_3
 try clear hfz3_0
 try clear hfz3_1
 try clear hfz3_2
 try clear hfz3_3
 obtain ⟨x3_1, x12_1, rfl, HA, HK1, HO_3, BK162, HB⟩ := hrel
 cases gk with
 | zero => exact absurd HA.out (by simp [topo_On.l0])
 | succ k1 => ?_
 have H := HA.out
 clear HA
 simp only [topo_On.l0] at H
 by_cases c4 : x12_1 < (l0_1.length : Int)
 rotate_left
 ·rw [if_neg c4] at H
  have c4b0 : decide (x12_1 < (l0_1.length : Int)) = false := decide_eq_false c4
  clear c4
  obtain rfl := Option.some.inj H
  go_wp2
  go_ret
  exact ⟨_, by first | rfl | (simp [errW_none, errW_some] <;> rfl) | (simp [*, errW_none, errW_some] <;> rfl), by (with_reducible repeat (first | apply Kd.S_alloc | apply Kd.S_drewN | apply Kd.S_drew)); exact HO_3.out, by repeat (first | (with_reducible first | exact HB.out | apply below_alloc | apply pw_below_drewN | apply below_drew1 | refine below_set ?_ GE162.out) | exact HB.out)⟩
 rw [if_pos c4] at H
 have c4b0 : decide (x12_1 < (l0_1.length : Int)) = true := decide_eq_true c4
 clear c4
 by_cases c5 : 0 ≤ x12_1
 rotate_left
 ·rw [if_neg c5] at H
  exact absurd H (by simp)
 rw [if_pos c5] at H
 have c5b0 : decide (0 ≤ x12_1) = true := decide_eq_true c5
 clear c5
 by_cases c6 : x12_1 < (l0_1.length : Int)
 rotate_left
 ·rw [if_neg c6] at H
  exact absurd H (by simp)
 rw [if_pos c6] at H
 have c6b0 : decide (x12_1 < (l0_1.length : Int)) = true := decide_eq_true c6
 clear c6
 have H' := Aside0.mk H
 clear H
 have p163 : 0 ≤ (x12_1 : Int) := of_decide_eq_true (by first | (with_reducible assumption) | assumption)
 have q163 : x12_1 < (l0_1.length : Int) := of_decide_eq_true (by first | (with_reducible assumption) | assumption)
 obtain ⟨ad163, A163_7, c163_7, e163, hx163_0, hx163_1, hx163_2, hx163_3, hx163_4, hx163_5, hx163_6, hx163_7, hl163_7, hi163_7⟩ := at_T48 HR0_1.out x12_1 p163 q163
 cases e163
 replace hx163_0 := (HB.out.cell (World.block_lt_of_cell? w _ hx163_0)).trans hx163_0
 replace hx163_1 := (HB.out.cell (World.block_lt_of_cell? w _ hx163_1)).trans hx163_1
 replace hx163_2 := (HB.out.cell (World.block_lt_of_cell? w _ hx163_2)).trans hx163_2
 replace hx163_3 := (HB.out.cell (World.block_lt_of_cell? w _ hx163_3)).trans hx163_3
 replace hx163_4 := (HB.out.cell (World.block_lt_of_cell? w _ hx163_4)).trans hx163_4
 replace hx163_5 := (HB.out.cell (World.block_lt_of_cell? w _ hx163_5)).trans hx163_5
 replace hx163_6 := (HB.out.cell (World.block_lt_of_cell? w _ hx163_6)).trans hx163_6
 replace hx163_7 := (HB.out.cell (World.block_lt_of_cell? w _ hx163_7)).trans hx163_7
 have HR163_7 := Aside0.mk hi163_7
 have HC163_7 := Aside0.mk hl163_7
 clear hi163_7 hl163_7
 replace p163 := eq_true p163
 replace q163 := eq_true q163
 go_wp2_with (first | ((with_reducible refine gate_dst (N := 5) rfl ?_); refine box_event ?hg (N := 5) ?hd (cs := #[.int .u64 0, .int .u16 0, .int .i64 0, .int .i64 0, .int .i64 0, .int .i64 0, .int .i64 0, .slice none 0 0]) (t := 48) ?hr ?_; (case hd => rfl); (case hg => rfl); (case hr => first | (go_simp; done) | (go_simp; rfl)); intro gb164 hg w7 hbox hb; have n0_ := Aside0.mk (Kd.S_below (by (with_reducible repeat (first | apply Kd.S_alloc | apply Kd.S_drewN | apply Kd.S_drew)); exact HO_3.out) hb); have n1_ := Aside0.mk (blk_below (g := gb162) (o := .cells #[.int .i64 a0_0, .slice (some ad163) l0_1.length c0_1, .slice A0_2 l0_2.length c0_2, .slice A0_3 l0_3.length c0_3] 26 (0, 0)) (by (with_reducible repeat (first | refine blk_drewN ?_ _ | refine blk_drew ?_ | refine blk_alloc ?_ _)); exact BK162.out) hb); have n2_ := Aside0.mk (below_step (by repeat (first | (with_reducible first | exact HB.out | apply below_alloc | apply pw_below_drewN | apply below_drew1 | refine below_set ?_ GE162.out) | exact HB.out)) hb); have n3_ := Aside0.mk (hbox); have n4_ := Aside0.mk ((by rw [hg]; exact (below_size (by repeat (first | (with_reducible first | exact HB.out | apply below_alloc | apply pw_below_drewN | apply below_drew1 | refine below_set ?_ GE162.out) | exact HB.out))) : w.heap.size ≤ gb164)); have n5_ := Aside0.mk ((by rw [hg]; exact (below_size (by repeat (first | (with_reducible first | exact HB.out | apply below_alloc | apply pw_below_drewN | apply below_drew1 | refine below_set ?_ GE162.out) | exact HB.out))) : w.heap.size ≤ gb164)); have n6_ := Aside0.mk ((by rw [hg]; exact Nat.ne_of_lt (blk_lt (g := gb162) (o := .cells #[.int .i64 a0_0, .slice (some ad163) l0_1.length c0_1, .slice A0_2 l0_2.length c0_2, .slice A0_3 l0_3.length c0_3] 26 (0, 0)) (by (with_reducible repeat (first | refine blk_drewN ?_ _ | refine blk_drew ?_ | refine blk_alloc ?_ _)); exact BK162.out)) : gb162 ≠ gb164)); have n7_ := Aside0.mk ((by rw [hg]; exact Nat.ne_of_gt (blk_lt (g := gb162) (o := .cells #[.int .i64 a0_0, .slice (some ad163) l0_1.length c0_1, .slice A0_2 l0_2.length c0_2, .slice A0_3 l0_3.length c0_3] 26 (0, 0)) (by (with_reducible repeat (first | refine blk_drewN ?_ _ | refine blk_drew ?_ | refine blk_alloc ?_ _)); exact BK162.out)) : gb164 ≠ gb162)); clear HO_3; clear BK162; clear HB; have HO_3 := n0_; have BK162 := n1_; have HB := n2_; have BK164 := n3_; have GW164 := n4_; have GE164 := n5_; have NB162_164 := n6_; have NB164_162 := n7_; clear n0_ n1_ n2_ n3_ n4_ n5_ n6_ n7_; clear hb hbox hg; have hnb8 := NB164_162.out; have hnc8 := NB162_164.out; have hcz9_0 : w7.cell? ⟨gb164, 0, none⟩ = some (.int .u64 0) := (blk_cell BK164.out 0).trans rfl; have hcz9_1 : w7.cell? ⟨gb164, 1, none⟩ = some (.int .u16 0) := (blk_cell BK164.out 1).trans rfl; have hcz9_2 : w7.cell? ⟨gb164, 2, none⟩ = some (.int .i64 0) := (blk_cell BK164.out 2).trans rfl; have hcz9_3 : w7.cell? ⟨gb164, 3, none⟩ = some (.int .i64 0) := (blk_cell BK164.out 3).trans rfl; have hcz9_4 : w7.cell? ⟨gb164, 4, none⟩ = some (.int .i64 0) := (blk_cell BK164.out 4).trans rfl; have hcz9_5 : w7.cell? ⟨gb164, 5, none⟩ = some (.int .i64 0) := (blk_cell BK164.out 5).trans rfl; have hcz9_6 : w7.cell? ⟨gb164, 6, none⟩ = some (.int .i64 0) := (blk_cell BK164.out 6).trans rfl; have hcz9_7 : w7.cell? ⟨gb164, 7, none⟩ = some (.slice none 0 0) := (blk_cell BK164.out 7).trans rfl; have hfz9_0 := blk_frozen BK164.out 0; have hfz9_1 := blk_frozen BK164.out 1; have hfz9_2 := blk_frozen BK164.out 2; have hfz9_3 := blk_frozen BK164.out 3; have hfz9_4 := blk_frozen BK164.out 4; have hfz9_5 := blk_frozen BK164.out 5; have hfz9_6 := blk_frozen BK164.out 6; have hfz9_7 := blk_frozen BK164.out 7))
 go_loopg [6, 19] k1 (fun kq v6 v19 w' => ∃ (x6_2 : List Bool) (x19_2 : Int), v19 = .int .i64 x19_2 ∧ Aside0 (topo_On.l1 kq x3_1 x6_2 l0_1 (l0_1.length : Int) x12_1 ((rd_T48 l0_1 x12_1).f7) (((rd_T48 l0_1 x12_1).f7).length : Int) x19_2 = some r) ∧ Aside0 (kq ≤ k1) ∧ Aside0 (Kd.S (Kd.slice 4 Kd.bool) 36 w' w.heap.size (fun k_ => some k_ ≠ (v6 : Value).ownBlock) u3 x3_1) ∧ Aside0 (Kd.R Kd.bool 4 w' w.heap.size (fun _ => True) v6 x6_2) ∧ Aside0 (w'.heap[gb162]? = some (.cells #[.int .i64 a0_0, (.slice (some ad163) l0_1.length c0_1), (.slice A0_2 l0_2.length c0_2), (.slice A0_3 l0_3.length c0_3)] 26 (0, 0))) ∧ Aside0 (w'.heap[gb164]? = some (.cells #[.int .u64 ((rd_T48 l0_1 x12_1).f0), .int .u16 ((rd_T48 l0_1 x12_1).f1), .int .i64 ((rd_T48 l0_1 x12_1).f2), .int .i64 ((rd_T48 l0_1 x12_1).f3), .int .i64 ((rd_T48 l0_1 x12_1).f4), .int .i64 ((rd_T48 l0_1 x12_1).f5), .int .i64 ((rd_T48 l0_1 x12_1).f6), (.slice A163_7 ((rd_T48 l0_1 x12_1).f7).length c163_7)] 48 (0, 0))) ∧ Aside0 (Below w.heap.size w w'))
 case atStart => exact ⟨(([] : List Bool)), (0), (by first | rfl | (simp; done) | (simp [*]; done)), H', ⟨Nat.le_refl _⟩, ⟨by (with_reducible repeat (first | apply Kd.S_alloc | apply Kd.S_drewN | apply Kd.S_drew)); exact Kd.S_mono (Kd.S_far (p := ⟨gb164, 7, none⟩) (Kd.S_far (p := ⟨gb164, 6, none⟩) (Kd.S_far (p := ⟨gb164, 5, none⟩) (Kd.S_far (p := ⟨gb164, 4, none⟩) (Kd.S_far (p := ⟨gb164, 3, none⟩) (Kd.S_far (p := ⟨gb164, 2, none⟩) (Kd.S_far (p := ⟨gb164, 1, none⟩) (Kd.S_far (p := ⟨gb164, 0, none⟩) (Kd.S_types HO_3.out BK164.out (by decide)) (fun _ hk => hk.2) (.int .u64 ((rd_T48 l0_1 x12_1).f0))) (fun _ hk => hk.2) (.int .u16 ((rd_T48 l0_1 x12_1).f1))) (fun _ hk => hk.2) (.int .i64 ((rd_T48 l0_1 x12_1).f2))) (fun _ hk => hk.2) (.int .i64 ((rd_T48 l0_1 x12_1).f3))) (fun _ hk => hk.2) (.int .i64 ((rd_T48 l0_1 x12_1).f4))) (fun _ hk => hk.2) (.int .i64 ((rd_T48 l0_1 x12_1).f5))) (fun _ hk => hk.2) (.int .i64 ((rd_T48 l0_1 x12_1).f6))) (fun _ hk => hk.2) (.slice A163_7 ((rd_T48 l0_1 x12_1).f7).length c163_7)) (fun _ hk => (by simp [Value.ownBlock]))⟩, ⟨by first | exact Kd.R_nil _ _ _ _ _ | exact Kd.N_nil _ _ _ _ _ | exact Kd.V_nil _ _ _ _ _ | exact Kd.Q_nil _ _ _ _ _ | exact Kd.S_nil _ _ _ _ _⟩, ⟨by (with_reducible repeat (first | refine blk_drewN ?_ _ | refine blk_drew ?_ | refine blk_alloc ?_ _)); refine blk_far ?_ NB162_164.out _; (with_reducible repeat (first | refine blk_drewN ?_ _ | refine blk_drew ?_ | refine blk_alloc ?_ _)); refine blk_far ?_ NB162_164.out _; (with_reducible repeat (first | refine blk_drewN ?_ _ | refine blk_drew ?_ | refine blk_alloc ?_ _)); refine blk_far ?_ NB162_164.out _; (with_reducible repeat (first | refine blk_drewN ?_ _ | refine blk_drew ?_ | refine blk_alloc ?_ _)); refine blk_far ?_ NB162_164.out _; (with_reducible repeat (first | refine blk_drewN ?_ _ | refine blk_drew ?_ | refine blk_alloc ?_ _)); refine blk_far ?_ NB162_164.out _; (with_reducible repeat (first | refine blk_drewN ?_ _ | refine blk_drew ?_ | refine blk_alloc ?_ _)); refine blk_far ?_ NB162_164.out _; (with_reducible repeat (first | refine blk_drewN ?_ _ | refine blk_drew ?_ | refine blk_alloc ?_ _)); refine blk_far ?_ NB162_164.out _; (with_reducible repeat (first | refine blk_drewN ?_ _ | refine blk_drew ?_ | refine blk_alloc ?_ _)); refine blk_far ?_ NB162_164.out _; (with_reducible repeat (first | refine blk_drewN ?_ _ | refine blk_drew ?_ | refine blk_alloc ?_ _)); exact BK162.out⟩, ⟨by (with_reducible repeat (first | refine blk_drewN ?_ _ | refine blk_drew ?_ | refine blk_alloc ?_ _)); refine blk_put (cs := #[.int .u64 ((rd_T48 l0_1 x12_1).f0), .int .u16 ((rd_T48 l0_1 x12_1).f1), .int .i64 ((rd_T48 l0_1 x12_1).f2), .int .i64 ((rd_T48 l0_1 x12_1).f3), .int .i64 ((rd_T48 l0_1 x12_1).f4), .int .i64 ((rd_T48 l0_1 x12_1).f5), .int .i64 ((rd_T48 l0_1 x12_1).f6), .slice none 0 0]) ?_ 7 _ rfl; (with_reducible repeat (first | refine blk_drewN ?_ _ | refine blk_drew ?_ | refine blk_alloc ?_ _)); refine blk_put (cs := #[.int .u64 ((rd_T48 l0_1 x12_1).f0), .int .u16 ((rd_T48 l0_1 x12_1).f1), .int .i64 ((rd_T48 l0_1 x12_1).f2), .int .i64 ((rd_T48 l0_1 x12_1).f3), .int .i64 ((rd_T48 l0_1 x12_1).f4), .int .i64 ((rd_T48 l0_1 x12_1).f5), .int .i64 0, .slice none 0 0]) ?_ 6 _ rfl; (with_reducible repeat (first | refine blk_drewN ?_ _ | refine blk_drew ?_ | refine blk_alloc ?_ _)); refine blk_put (cs := #[.int .u64 ((rd_T48 l0_1 x12_1).f0), .int .u16 ((rd_T48 l0_1 x12_1).f1), .int .i64 ((rd_T48 l0_1 x12_1).f2), .int .i64 ((rd_T48 l0_1 x12_1).f3), .int .i64 ((rd_T48 l0_1 x12_1).f4), .int .i64 0, .int .i64 0, .slice none 0 0]) ?_ 5 _ rfl; (with_reducible repeat (first | refine blk_drewN ?_ _ | refine blk_drew ?_ | refine blk_alloc ?_ _)); refine blk_put (cs := #[.int .u64 ((rd_T48 l0_1 x12_1).f0), .int .u16 ((rd_T48 l0_1 x12_1).f1), .int .i64 ((rd_T48 l0_1 x12_1).f2), .int .i64 ((rd_T48 l0_1 x12_1).f3), .int .i64 0, .int .i64 0, .int .i64 0, .slice none 0 0]) ?_ 4 _ rfl; (with_reducible repeat (first | refine blk_drewN ?_ _ | refine blk_drew ?_ | refine blk_alloc ?_ _)); refine blk_put (cs := #[.int .u64 ((rd_T48 l0_1 x12_1).f0), .int .u16 ((rd_T48 l0_1 x12_1).f1), .int .i64 ((rd_T48 l0_1 x12_1).f2), .int .i64 0, .int .i64 0, .int .i64 0, .int .i64 0, .slice none 0 0]) ?_ 3 _ rfl; (with_reducible repeat (first | refine blk_drewN ?_ _ | refine blk_drew ?_ | refine blk_alloc ?_ _)); refine blk_put (cs := #[.int .u64 ((rd_T48 l0_1 x12_1).f0), .int .u16 ((rd_T48 l0_1 x12_1).f1), .int .i64 0, .int .i64 0, .int .i64 0, .int .i64 0, .int .i64 0, .slice none 0 0]) ?_ 2 _ rfl; (with_reducible repeat (first | refine blk_drewN ?_ _ | refine blk_drew ?_ | refine blk_alloc ?_ _)); refine blk_put (cs := #[.int .u64 ((rd_T48 l0_1 x12_1).f0), .int .u16 0, .int .i64 0, .int .i64 0, .int .i64 0, .int .i64 0, .int .i64 0, .slice none 0 0]) ?_ 1 _ rfl; (with_reducible repeat (first | refine blk_drewN ?_ _ | refine blk_drew ?_ | refine blk_alloc ?_ _)); refine blk_put (cs := #[.int .u64 0, .int .u16 0, .int .i64 0, .int .i64 0, .int .i64 0, .int .i64 0, .int .i64 0, .slice none 0 0]) ?_ 0 _ rfl; (with_reducible repeat (first | refine blk_drewN ?_ _ | refine blk_drew ?_ | refine blk_alloc ?_ _)); exact BK164.out⟩, ⟨by repeat (first | (with_reducible first | exact HB.out | apply below_alloc | apply pw_below_drewN | apply below_drew1 | refine below_set ?_ GE162.out | refine below_set ?_ GE164.out) | exact HB.out)⟩⟩
 clear H'
 try clear c1
 try clear p1
 try clear q1
 try clear hx1
 try clear p2
 try clear c4
 try clear c4b0
 try clear c5
 try clear c5b0
 try clear c6
 try clear c6b0
 try clear c8
 try clear hcz3_0
 try clear hcz3_1
 try clear hcz3_2
 try clear hcz3_3
 try clear hcz9_0
 try clear hcz9_1
 try clear hcz9_2
 try clear hcz9_3
 try clear hcz9_4
 try clear hcz9_5
 try clear hcz9_6
 try clear hcz9_7
 try clear hfz3_0
 try clear hfz3_1
 try clear hfz3_2
 try clear hfz3_3
 try clear hfz9_0
 try clear hfz9_1
 try clear hfz9_2
 try clear hfz9_3
 try clear hfz9_4
 try clear hfz9_5
 try clear hfz9_6
 try clear hfz9_7
 try clear hx163_0
 try clear hx163_1
 try clear hx163_2
 try clear hx163_3
 try clear hx163_4
 try clear hx163_5
 try clear hx163_6
 try clear hx163_7
 try clear p163
 try clear p2
 try clear q163
 obtain ⟨x6_2, x19_2, rfl, HA, HK2, HO_3, HO_6, BK162, BK164, HB⟩ := hrel
 cases gk with
 | zero => exact absurd HA.out (by simp [topo_On.l1])
 | succ k2 => ?_
 have H := HA.out
 clear HA
 simp only [topo_On.l1] at H
 by_cases c10 : x19_2 < (((rd_T48 l0_1 x12_1).f7).length : Int)
 rotate_left
 ·rw [if_neg c10] at H
  have c10b0 : decide (x19_2 < (((rd_T48 l0_1 x12_1).f7).length : Int)) = false := decide_eq_false c10
  clear c10
  by_cases c19 : x3_1.length < 5864062014805
  rotate_left
  ·rw [if_neg c19] at H
   exact absurd H (by simp)
  rw [if_pos c19] at H
  have LMc19 := Aside0.mk c19
  clear c19
  obtain ⟨y170, hy170⟩ : ∃ y_ : List (List Bool), y_ = (x3_1 ++ [x6_2]) := ⟨_, rfl⟩
  replace H : (topo_On.l0 k2 y170 l0_1 (l0_1.length : Int) (wrap64 (x12_1 + 1))) = some r := by first | (rw [hy170]; with_reducible exact H) | (have H2_ := (Option.bind_some _ _).symm.trans H; rw [hy170]; with_reducible exact H2_) | (have H2_ := (Option.bind_some _ _).symm.trans H; with_reducible exact H2_) | with_reducible exact H | (rw [hy170]; exact H) | exact H
  have Ny170 := Aside0.mk hy170
  clear hy170
  have H' := Aside0.mk H
  clear H
  obtain ⟨Ao21, co21, eo21⟩ := Kd.R_slice HO_6.out
  subst eo21
  go_wp2_with (first | ((with_reducible refine gate_builtin (b := .append) (xs := #[.tmp 29, .tmp 31]) rfl ?_); at_builtin; refine Kd.S_append (Kd.slice 4 Kd.bool) (w0 := w) w.heap.size rfl (.tmp 29) (.tmp 31) 32 36 (.slice none 0 0) 24 rfl Try.underlying32 info36 rfl (by decide) (by omega) u3 x3_1 x6_2 [.slice Ao21 x6_2.length co21] (fun _ => True) (fun k_ => some k_ = (.slice Ao21 x6_2.length co21 : Value).ownBlock) rfl rfl ?aP (fun k_ hk_ => ((Kd.R_mono (ok' := fun k_ => ((fun _ => True)) k_ ∧ some k_ ≠ (u3 : Value).ownBlock) (Kd.R_apart' (HO_6.out) (Kd.S_typed HO_3.out) (by decide)) (fun k_ hk => ⟨trivial, hk.2⟩))).1 k_ hk_.symm) ?aF ?aO ?aB ?aS ?aL ?_; (case aP => exact Kd.M_row (Kd.R_mono (Kd.R_tight rfl (Kd.R_mono (ok' := fun k_ => ((fun _ => True)) k_ ∧ some k_ ≠ (u3 : Value).ownBlock) (Kd.R_apart' (HO_6.out) (Kd.S_typed HO_3.out) (by decide)) (fun k_ hk => ⟨trivial, hk.2⟩))) (fun _ h_ => h_))); (case aB => exact (by repeat (first | (with_reducible first | exact HB.out | apply below_alloc | apply pw_below_drewN | apply below_drew1 | refine below_set ?_ GE162.out | refine below_set ?_ GE164.out) | exact HB.out))); (case aF => exact (fun _ _ => trivial)); (case aO => exact (by (with_reducible repeat (first | apply Kd.S_alloc | apply Kd.S_drewN | apply Kd.S_drew)); exact Kd.S_mono HO_3.out (fun k_ hk => ⟨trivial, fun e_ => hk e_⟩))); (case aS => exact (below_size (by repeat (first | (with_reducible first | exact HB.out | apply below_alloc | apply pw_below_drewN | apply below_drew1 | refine below_set ?_ GE162.out | refine below_set ?_ GE164.out) | exact HB.out)))); (case aL => have := LMc19.out; omega); intro v171 w20 ho hb hg hat; rw [← Ny170.out] at ho; have n0_ := Aside0.mk (blk_grown (g := gb162) (o := .cells #[.int .i64 a0_0, .slice (some ad163) l0_1.length c0_1, .slice A0_2 l0_2.length c0_2, .slice A0_3 l0_3.length c0_3] 26 (0, 0)) (by (with_reducible repeat (first | refine blk_drewN ?_ _ | refine blk_drew ?_ | refine blk_alloc ?_ _)); exact BK162.out) hg (Kd.S_ne HO_3.out BK162.out (by decide))); have n1_ := Aside0.mk (blk_grown (g := gb164) (o := .cells #[.int .u64 ((rd_T48 l0_1 x12_1).f0), .int .u16 ((rd_T48 l0_1 x12_1).f1), .int .i64 ((rd_T48 l0_1 x12_1).f2), .int .i64 ((rd_T48 l0_1 x12_1).f3), .int .i64 ((rd_T48 l0_1 x12_1).f4), .int .i64 ((rd_T48 l0_1 x12_1).f5), .int .i64 ((rd_T48 l0_1 x12_1).f6), .slice A163_7 ((rd_T48 l0_1 x12_1).f7).length c163_7] 48 (0, 0)) (by (with_reducible repeat (first | refine blk_drewN ?_ _ | refine blk_drew ?_ | refine blk_alloc ?_ _)); exact BK164.out) hg (Kd.S_ne HO_3.out BK164.out (by decide))); have n2_ := Aside0.mk (hb); have n3_ := Aside0.mk (ho); clear BK162; clear BK164; clear HB; clear HO_3; clear HO_6; have BK162 := n0_; have BK164 := n1_; have HB := n2_; have HO172 := n3_; clear n0_ n1_ n2_ n3_; clear ho hb hg hat))
  go_roundg k2
  case measure => have := HK1.out; have := HK2.out; omega
  case rel => exact ⟨(y170), (wrap64 (x12_1 + 1)), (by first | rfl | (simp; done) | (simp [*]; done)), H', ⟨by have := HK1.out; have := HK2.out; omega⟩, ⟨by (with_reducible repeat (first | apply Kd.S_alloc | apply Kd.S_drewN | apply Kd.S_drew)); exact HO172.out⟩, ⟨by (with_reducible repeat (first | refine blk_drewN ?_ _ | refine blk_drew ?_ | refine blk_alloc ?_ _)); exact BK162.out⟩, ⟨by repeat (first | (with_reducible first | exact HB.out | apply below_alloc | apply pw_below_drewN | apply below_drew1 | refine below_set ?_ GE162.out | refine below_set ?_ GE164.out) | exact HB.out)⟩⟩
 rw [if_pos c10] at H
 have c10b0 : decide (x19_2 < (((rd_T48 l0_1 x12_1).f7).length : Int)) = true := decide_eq_true c10
 clear c10
 by_cases c11 : 0 ≤ x19_2
 rotate_left
 ·rw [if_neg c11] at H
  exact absurd H (by simp)
 rw [if_pos c11] at H
 have c11b0 : decide (0 ≤ x19_2) = true := decide_eq_true c11
 clear c11
 by_cases c12 : x19_2 < (((rd_T48 l0_1 x12_1).f7).length : Int)
 rotate_left
 ·rw [if_neg c12] at H
  exact absurd H (by simp)
 rw [if_pos c12] at H
 have c12b0 : decide (x19_2 < (((rd_T48 l0_1 x12_1).f7).length : Int)) = true := decide_eq_true c12
 clear c12
 by_cases c13 : x6_2.length < 140737488355328
 rotate_left
 ·rw [if_neg c13] at H
  exact absurd H (by simp)
 rw [if_pos c13] at H
 have LMc13 := Aside0.mk c13
 clear c13
 obtain ⟨y167, hy167⟩ : ∃ y_ : List Bool, y_ = (x6_2 ++ [(rd_T51 ((rd_T48 l0_1 x12_1).f7) x19_2).f2]) := ⟨_, rfl⟩
 replace H : (topo_On.l1 k2 x3_1 y167 l0_1 (l0_1.length : Int) x12_1 ((rd_T48 l0_1 x12_1).f7) (((rd_T48 l0_1 x12_1).f7).length : Int) (wrap64 (x19_2 + 1))) = some r := by first | (rw [hy167]; with_reducible exact H) | (have H2_ := (Option.bind_some _ _).symm.trans H; rw [hy167]; with_reducible exact H2_) | (have H2_ := (Option.bind_some _ _).symm.trans H; with_reducible exact H2_) | with_reducible exact H | (rw [hy167]; exact H) | exact H
 have Ny167 := Aside0.mk hy167
 clear hy167
 have H' := Aside0.mk H
 clear H
 have p165 : 0 ≤ (x19_2 : Int) := of_decide_eq_true (by first | (with_reducible assumption) | assumption)
 have q165 : x19_2 < (((rd_T48 l0_1 x12_1).f7).length : Int) := of_decide_eq_true (by first | (with_reducible assumption) | assumption)
 obtain ⟨ad165, e165, hx165_0, hx165_1, hx165_2⟩ := at_T51 HR163_7.out x19_2 p165 q165
 cases e165
 replace hx165_0 := (HB.out.cell (World.block_lt_of_cell? w _ hx165_0)).trans hx165_0
 replace hx165_1 := (HB.out.cell (World.block_lt_of_cell? w _ hx165_1)).trans hx165_1
 replace hx165_2 := (HB.out.cell (World.block_lt_of_cell? w _ hx165_2)).trans hx165_2
 replace p165 := eq_true p165
 replace q165 := eq_true q165
 go_wp2_with (first | ((with_reducible refine gate_dst (N := 8) rfl ?_); refine box_event ?hg (N := 8) ?hd (cs := #[.int .u8 0, .int .u32 0, .bool false]) (t := 51) ?hr ?_; (case hd => rfl); (case hg => rfl); (case hr => first | (go_simp; done) | (go_simp; rfl)); intro gb166 hg w14 hbox hb; have n0_ := Aside0.mk (Kd.S_below (by (with_reducible repeat (first | apply Kd.S_alloc | apply Kd.S_drewN | apply Kd.S_drew)); exact HO_3.out) hb); have n1_ := Aside0.mk (Kd.R_below (by (with_reducible repeat (first | apply Kd.R_alloc | apply Kd.R_drewN | apply Kd.R_drew)); exact HO_6.out) hb); have n2_ := Aside0.mk (blk_below (g := gb162) (o := .cells #[.int .i64 a0_0, .slice (some ad163) l0_1.length c0_1, .slice A0_2 l0_2.length c0_2, .slice A0_3 l0_3.length c0_3] 26 (0, 0)) (by (with_reducible repeat (first | refine blk_drewN ?_ _ | refine blk_drew ?_ | refine blk_alloc ?_ _)); exact BK162.out) hb); have n3_ := Aside0.mk (blk_below (g := gb164) (o := .cells #[.int .u64 ((rd_T48 l0_1 x12_1).f0), .int .u16 ((rd_T48 l0_1 x12_1).f1), .int .i64 ((rd_T48 l0_1 x12_1).f2), .int .i64 ((rd_T48 l0_1 x12_1).f3), .int .i64 ((rd_T48 l0_1 x12_1).f4), .int .i64 ((rd_T48 l0_1 x12_1).f5), .int .i64 ((rd_T48 l0_1 x12_1).f6), .slice (some ad165) ((rd_T48 l0_1 x12_1).f7).length c163_7] 48 (0, 0)) (by (with_reducible repeat (first | refine blk_drewN ?_ _ | refine blk_drew ?_ | refine blk_alloc ?_ _)); exact BK164.out) hb); have n4_ := Aside0.mk (below_step (by repeat (first | (with_reducible first | exact HB.out | apply below_alloc | apply pw_below_drewN | apply below_drew1 | refine below_set ?_ GE162.out | refine below_set ?_ GE164.out) | exact HB.out)) hb); have n5_ := Aside0.mk (hbox); have n6_ := Aside0.mk ((by rw [hg]; exact (below_size (by repeat (first | (with_reducible first | exact HB.out | apply below_alloc | apply pw_below_drewN | apply below_drew1 | refine below_set ?_ GE162.out | refine below_set ?_ GE164.out) | exact HB.out))) : w.heap.size ≤ gb166)); have n7_ := Aside0.mk ((by rw [hg]; exact (below_size (by repeat (first | (with_reducible first | exact HB.out | apply below_alloc | apply pw_below_drewN | apply below_drew1 | refine below_set ?_ GE162.out | refine below_set ?_ GE164.out) | exact HB.out))) : w.heap.size ≤ gb166)); have n8_ := Aside0.mk ((by rw [hg]; exact Nat.ne_of_lt (blk_lt (g := gb162) (o := .cells #[.int .i64 a0_0, .slice (some ad163) l0_1.length c0_1, .slice A0_2 l0_2.length c0_2, .slice A0_3 l0_3.length c0_3] 26 (0, 0)) (by (with_reducible repeat (first | refine blk_drewN ?_ _ | refine blk_drew ?_ | refine blk_alloc ?_ _)); exact BK162.out)) : gb162 ≠ gb166)); have n9_ := Aside0.mk ((by rw [hg]; exact Nat.ne_of_gt (blk_lt (g := gb162) (o := .cells #[.int .i64 a0_0, .slice (some ad163) l0_1.length c0_1, .slice A0_2 l0_2.length c0_2, .slice A0_3 l0_3.length c0_3] 26 (0, 0)) (by (with_reducible repeat (first | refine blk_drewN ?_ _ | refine blk_drew ?_ | refine blk_alloc ?_ _)); exact BK162.out)) : gb166 ≠ gb162)); have n10_ := Aside0.mk ((by rw [hg]; exact Nat.ne_of_lt (blk_lt (g := gb164) (o := .cells #[.int .u64 ((rd_T48 l0_1 x12_1).f0), .int .u16 ((rd_T48 l0_1 x12_1).f1), .int .i64 ((rd_T48 l0_1 x12_1).f2), .int .i64 ((rd_T48 l0_1 x12_1).f3), .int .i64 ((rd_T48 l0_1 x12_1).f4), .int .i64 ((rd_T48 l0_1 x12_1).f5), .int .i64 ((rd_T48 l0_1 x12_1).f6), .slice (some ad165) ((rd_T48 l0_1 x12_1).f7).length c163_7] 48 (0, 0)) (by (with_reducible repeat (first | refine blk_drewN ?_ _ | refine blk_drew ?_ | refine blk_alloc ?_ _)); exact BK164.out)) : gb164 ≠ gb166)); have n11_ := Aside0.mk ((by rw [hg]; exact Nat.ne_of_gt (blk_lt (g := gb164) (o := .cells #[.int .u64 ((rd_T48 l0_1 x12_1).f0), .int .u16 ((rd_T48 l0_1 x12_1).f1), .int .i64 ((rd_T48 l0_1 x12_1).f2), .int .i64 ((rd_T48 l0_1 x12_1).f3), .int .i64 ((rd_T48 l0_1 x12_1).f4), .int .i64 ((rd_T48 l0_1 x12_1).f5), .int .i64 ((rd_T48 l0_1 x12_1).f6), .slice (some ad165) ((rd_T48 l0_1 x12_1).f7).length c163_7] 48 (0, 0)) (by (with_reducible repeat (first | refine blk_drewN ?_ _ | refine blk_drew ?_ | refine blk_alloc ?_ _)); exact BK164.out)) : gb166 ≠ gb164)); clear HO_3; clear HO_6; clear BK162; clear BK164; clear HB; have HO_3 := n0_; have HO_6 := n1_; have BK162 := n2_; have BK164 := n3_; have HB := n4_; have BK166 := n5_; have GW166 := n6_; have GE166 := n7_; have NB162_166 := n8_; have NB166_162 := n9_; have NB164_166 := n10_; have NB166_164 := n11_; clear n0_ n1_ n2_ n3_ n4_ n5_ n6_ n7_ n8_ n9_ n10_ n11_; clear hb hbox hg; have hnb15 := NB166_162.out; have hnc15 := NB162_166.out; have hnb16 := NB166_164.out; have hnc16 := NB164_166.out; have hcz17_0 : w14.cell? ⟨gb166, 0, none⟩ = some (.int .u8 0) := (blk_cell BK166.out 0).trans rfl; have hcz17_1 : w14.cell? ⟨gb166, 1, none⟩ = some (.int .u32 0) := (blk_cell BK166.out 1).trans rfl; have hcz17_2 : w14.cell? ⟨gb166, 2, none⟩ = some (.bool false) := (blk_cell BK166.out 2).trans rfl; have hfz17_0 := blk_frozen BK166.out 0; have hfz17_1 := blk_frozen BK166.out 1; have hfz17_2 := blk_frozen BK166.out 2) | ((with_reducible refine gate_builtin (b := .append) (xs := #[.tmp 23, .tmp 26]) rfl ?_); at_builtin; refine Kd.R_append Kd.bool (w0 := w) w.heap.size rfl (.tmp 23) (.tmp 26) 36 4 (.bool false) 1 rfl Try.underlying36 info4 rfl (by decide) (by omega) u6 x6_2 ((rd_T51 ((rd_T48 l0_1 x12_1).f7) x19_2).f2) [.bool ((rd_T51 ((rd_T48 l0_1 x12_1).f7) x19_2).f2)] (fun _ => True) (fun _ => False) rfl (by first | (go_simp; done) | (go_simp; rfl)) ?aP (fun _ hk => hk.elim) ?aF ?aO ?aB ?aS ?aL ?_; (case aP => exact rfl); (case aB => exact (by repeat (first | (with_reducible first | exact HB.out | apply below_alloc | apply pw_below_drewN | apply below_drew1 | refine below_set ?_ GE162.out | refine below_set ?_ GE164.out | refine below_set ?_ GE166.out) | exact HB.out))); (case aF => exact (fun _ _ => trivial)); (case aO => exact (by (with_reducible repeat (first | apply Kd.R_alloc | apply Kd.R_drewN | apply Kd.R_drew)); exact Kd.R_mono (Kd.R_far (p := ⟨gb166, 2, none⟩) (Kd.R_far (p := ⟨gb166, 1, none⟩) (Kd.R_far (p := ⟨gb166, 0, none⟩) (Kd.R_types HO_6.out BK166.out (by decide)) (fun _ hk => hk.2) (.int .u8 ((rd_T51 ((rd_T48 l0_1 x12_1).f7) x19_2).f0))) (fun _ hk => hk.2) (.int .u32 ((rd_T51 ((rd_T48 l0_1 x12_1).f7) x19_2).f1))) (fun _ hk => hk.2) (.bool ((rd_T51 ((rd_T48 l0_1 x12_1).f7) x19_2).f2))) (fun _ hk => trivial))); (case aS => exact (below_size (by repeat (first | (with_reducible first | exact HB.out | apply below_alloc | apply pw_below_drewN | apply below_drew1 | refine below_set ?_ GE162.out | refine below_set ?_ GE164.out | refine below_set ?_ GE166.out) | exact HB.out)))); (case aL => have := LMc13.out; omega); intro v168 w18 ho hb hg hat; rw [← Ny167.out] at ho; have n0_ := Aside0.mk (Kd.S_after (ok := (fun _ => True)) (by (with_reducible repeat (first | apply Kd.S_alloc | apply Kd.S_drewN | apply Kd.S_drew)); exact Kd.S_mono (Kd.S_far (p := ⟨gb166, 2, none⟩) (Kd.S_far (p := ⟨gb166, 1, none⟩) (Kd.S_far (p := ⟨gb166, 0, none⟩) (Kd.S_types HO_3.out BK166.out (by decide)) (fun _ hk => hk.2) (.int .u8 ((rd_T51 ((rd_T48 l0_1 x12_1).f7) x19_2).f0))) (fun _ hk => hk.2) (.int .u32 ((rd_T51 ((rd_T48 l0_1 x12_1).f7) x19_2).f1))) (fun _ hk => hk.2) (.bool ((rd_T51 ((rd_T48 l0_1 x12_1).f7) x19_2).f2))) (fun _ hk => ⟨trivial, hk.1⟩)) hg hat); have n1_ := Aside0.mk (blk_grown (g := gb162) (o := .cells #[.int .i64 a0_0, .slice (some ad163) l0_1.length c0_1, .slice A0_2 l0_2.length c0_2, .slice A0_3 l0_3.length c0_3] 26 (0, 0)) (by (with_reducible repeat (first | refine blk_drewN ?_ _ | refine blk_drew ?_ | refine blk_alloc ?_ _)); refine blk_far ?_ NB162_166.out _; (with_reducible repeat (first | refine blk_drewN ?_ _ | refine blk_drew ?_ | refine blk_alloc ?_ _)); refine blk_far ?_ NB162_166.out _; (with_reducible repeat (first | refine blk_drewN ?_ _ | refine blk_drew ?_ | refine blk_alloc ?_ _)); refine blk_far ?_ NB162_166.out _; (with_reducible repeat (first | refine blk_drewN ?_ _ | refine blk_drew ?_ | refine blk_alloc ?_ _)); exact BK162.out) hg (Kd.R_ne HO_6.out BK162.out (by decide))); have n2_ := Aside0.mk (blk_grown (g := gb164) (o := .cells #[.int .u64 ((rd_T48 l0_1 x12_1).f0), .int .u16 ((rd_T48 l0_1 x12_1).f1), .int .i64 ((rd_T48 l0_1 x12_1).f2), .int .i64 ((rd_T48 l0_1 x12_1).f3), .int .i64 ((rd_T48 l0_1 x12_1).f4), .int .i64 ((rd_T48 l0_1 x12_1).f5), .int .i64 ((rd_T48 l0_1 x12_1).f6), .slice (some ad165) ((rd_T48 l0_1 x12_1).f7).length c163_7] 48 (0, 0)) (by (with_reducible repeat (first | refine blk_drewN ?_ _ | refine blk_drew ?_ | refine blk_alloc ?_ _)); refine blk_far ?_ NB164_166.out _; (with_reducible repeat (first | refine blk_drewN ?_ _ | refine blk_drew ?_ | refine blk_alloc ?_ _)); refine blk_far ?_ NB164_166.out _; (with_reducible repeat (first | refine blk_drewN ?_ _ | refine blk_drew ?_ | refine blk_alloc ?_ _)); refine blk_far ?_ NB164_166.out _; (with_reducible repeat (first | refine blk_drewN ?_ _ | refine blk_drew ?_ | refine blk_alloc ?_ _)); exact BK164.out) hg (Kd.R_ne HO_6.out BK164.out (by decide))); have n3_ := Aside0.mk (blk_grown (g := gb166) (o := .cells #[.int .u8 ((rd_T51 ((rd_T48 l0_1 x12_1).f7) x19_2).f0), .int .u32 ((rd_T51 ((rd_T48 l0_1 x12_1).f7) x19_2).f1), .bool ((rd_T51 ((rd_T48 l0_1 x12_1).f7) x19_2).f2)] 51 (0, 0)) (by (with_reducible repeat (first | refine blk_drewN ?_ _ | refine blk_drew ?_ | refine blk_alloc ?_ _)); refine blk_put (cs := #[.int .u8 ((rd_T51 ((rd_T48 l0_1 x12_1).f7) x19_2).f0), .int .u32 ((rd_T51 ((rd_T48 l0_1 x12_1).f7) x19_2).f1), .bool false]) ?_ 2 _ rfl; (with_reducible repeat (first | refine blk_drewN ?_ _ | refine blk_drew ?_ | refine blk_alloc ?_ _)); refine blk_put (cs := #[.int .u8 ((rd_T51 ((rd_T48 l0_1 x12_1).f7) x19_2).f0), .int .u32 0, .bool false]) ?_ 1 _ rfl; (with_reducible repeat (first | refine blk_drewN ?_ _ | refine blk_drew ?_ | refine blk_alloc ?_ _)); refine blk_put (cs := #[.int .u8 0, .int .u32 0, .bool false]) ?_ 0 _ rfl; (with_reducible repeat (first | refine blk_drewN ?_ _ | refine blk_drew ?_ | refine blk_alloc ?_ _)); exact BK166.out) hg (Kd.R_ne HO_6.out BK166.out (by decide))); have n4_ := Aside0.mk (hb); have n5_ := Aside0.mk (ho); clear HO_3; clear BK162; clear BK164; clear BK166; clear HB; clear HO_6; have HO_3 := n0_; have BK162 := n1_; have BK164 := n2_; have BK166 := n3_; have HB := n4_; have HO169 := n5_; clear n0_ n1_ n2_ n3_ n4_ n5_; clear ho hb hg hat))
 go_roundg k2
 case measure => have := HK1.out; have := HK2.out; omega
 case rel => exact ⟨(y167), (wrap64 (x19_2 + 1)), (by first | rfl | (simp; done) | (simp [*]; done)), H', ⟨by have := HK1.out; have := HK2.out; omega⟩, ⟨by (with_reducible repeat (first | apply Kd.S_alloc | apply Kd.S_drewN | apply Kd.S_drew)); exact Kd.S_mono HO_3.out (fun _ hk => hk.2)⟩, ⟨by (with_reducible repeat (first | apply Kd.R_alloc | apply Kd.R_drewN | apply Kd.R_drew)); exact HO169.out⟩, ⟨by (with_reducible repeat (first | refine blk_drewN ?_ _ | refine blk_drew ?_ | refine blk_alloc ?_ _)); exact BK162.out⟩, ⟨by (with_reducible repeat (first | refine blk_drewN ?_ _ | refine blk_drew ?_ | refine blk_alloc ?_ _)); exact BK164.out⟩, ⟨by repeat (first | (with_reducible first | exact HB.out | apply below_alloc | apply pw_below_drewN | apply below_drew1 | refine below_set ?_ GE162.out | refine below_set ?_ GE164.out | refine below_set ?_ GE166.out) | exact HB.out)⟩⟩
end Go.Proofs.Ytkgfpagfmdefgaa.OTopoRight
