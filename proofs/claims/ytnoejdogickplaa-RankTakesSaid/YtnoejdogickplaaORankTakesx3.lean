/- What Go functions that the law RankTakes uses come to, and why: part 3. Made out of the kit's print by a program of this session (wip/tools/mend.py), with more rows. -/
import Derived.Test.YtnoejdogickplaaPRankTakesx0
import Derived.Test.YtnoejdogickplaaORankTakesx1
import Derived.Test.YtnoejdogickplaaORankTakesx2
namespace Go.Proofs.Ytnoejdogickplaa.PRankTakes
open Go.RowKit Go.Proofs.YtnoejdogickplaaW.PrintWords Go.Proofs.YtnoejdogickplaaW.PrintLast Go.Proofs.YtnoejdogickplaaW.PrintMore
attribute [local go_sem] max2_int min2_int max_two min_two max_three min_three max_four min_four   -- for this text's walks alone
set_option linter.unusedVariables false
set_option linter.unusedSimpArgs false

/-! ### treelinelaw10_RankTakes: function 6 -/
mutual
def treelinelaw10_RankTakes.j0 : Nat → Int → Bool → Int → Int → Int → Int → Int → Int → Int → Int → Option (Bool)
  | 0, _, _, _, _, _, _, _, _, _, _ => none
  | k + 1, x7, x8, x130000, x130001, x130002, x130003, x131000, x131001, x131002, x131003 => (rank_Supersedes.f k x130000 x130001 x130002 x130003 x131000 x131001 x131002 x131003 x7).bind fun t132 => (if t132 = true then ((rank_Compare.f k x130000 x130001 x130002 x130003 x131000 x131001 x131002 x131003).bind fun t133 => (if t133 > 0 then (if x8 = true then (treelinelaw10_RankTakes.j1 k x7 x8 (!(x130002 != x7)) x130000 x130001 x130002 x130003 x131000 x131001 x131002 x131003) else (treelinelaw10_RankTakes.j1 k x7 x8 (!false) x130000 x130001 x130002 x130003 x131000 x131001 x131002 x131003)) else (treelinelaw10_RankTakes.j1 k x7 x8 false x130000 x130001 x130002 x130003 x131000 x131001 x131002 x131003))) else (treelinelaw10_RankTakes.j1 k x7 x8 false x130000 x130001 x130002 x130003 x131000 x131001 x131002 x131003))
def treelinelaw10_RankTakes.j1 : Nat → Int → Bool → Bool → Int → Int → Int → Int → Int → Int → Int → Int → Option (Bool)
  | 0, _, _, _, _, _, _, _, _, _, _, _ => none
  | k + 1, x7, x8, x50, x130000, x130001, x130002, x130003, x131000, x131001, x131002, x131003 => if x50 = true then (some false) else (if x8 = true then ((rank_Supersedes.f k x131000 x131001 x131002 x131003 x131000 x131001 x131002 x131003 x7).bind fun t134 => (some t134)) else ((rank_Supersedes.f k x130000 x130001 x130002 x130003 x131000 x131001 x131002 x131003 x7).bind fun t135 => ((rank_Compare.f k x130000 x130001 x130002 x130003 x131000 x131001 x131002 x131003).bind fun t136 => (if (t135 != (decide (t136 < 0))) = true then (some false) else ((rank_Supersedes.f k x131000 x131001 x131002 x131003 x131000 x131001 x131002 x131003 x7).bind fun t137 => (some t137))))))
end
def treelinelaw10_RankTakes.f (k : Nat) (a0_0 : Int) (a0_1 : Int) (a0_2 : Int) (a0_3 : Int) (a1_0 : Int) (a1_1 : Int) (a1_2 : Int) (a1_3 : Int) (a2 : Int) : Option (Bool) := (treelinelaw10_awake.f k).bind fun t131 => (if t131 = true then (if a0_0 = a1_0 then (if a0_1 = a1_1 then (treelinelaw10_RankTakes.j0 k a2 (a0_2 == a1_2) a0_0 a0_1 a0_2 a0_3 a1_0 a1_1 a1_2 a1_3) else (treelinelaw10_RankTakes.j0 k a2 false a0_0 a0_1 a0_2 a0_3 a1_0 a1_1 a1_2 a1_3)) else (treelinelaw10_RankTakes.j0 k a2 false a0_0 a0_1 a0_2 a0_3 a1_0 a1_1 a1_2 a1_3)) else (some false))
theorem treelinelaw10_RankTakes.mono_l : ∀ k, (∀ y0 y1 y2 y3 y4 y5 y6 y7 y8 y9, LeO (treelinelaw10_RankTakes.j0 k y0 y1 y2 y3 y4 y5 y6 y7 y8 y9) (treelinelaw10_RankTakes.j0 (k + 1) y0 y1 y2 y3 y4 y5 y6 y7 y8 y9)) ∧ (∀ y0 y1 y2 y3 y4 y5 y6 y7 y8 y9 y10, LeO (treelinelaw10_RankTakes.j1 k y0 y1 y2 y3 y4 y5 y6 y7 y8 y9 y10) (treelinelaw10_RankTakes.j1 (k + 1) y0 y1 y2 y3 y4 y5 y6 y7 y8 y9 y10))
  | 0 => ⟨fun _ _ _ _ _ _ _ _ _ _ r h => by simp [treelinelaw10_RankTakes.j0] at h, fun _ _ _ _ _ _ _ _ _ _ _ r h => by simp [treelinelaw10_RankTakes.j1] at h⟩
  | k + 1 => by
    obtain ⟨ih0, ih1⟩ := treelinelaw10_RankTakes.mono_l k
    refine ⟨?_, ?_⟩
    · intro y0 y1 y2 y3 y4 y5 y6 y7 y8 y9
      unfold treelinelaw10_RankTakes.j0
      repeat' first
      | (with_reducible exact ih0 _ _ _ _ _ _ _ _ _ _)
      | (with_reducible exact ih1 _ _ _ _ _ _ _ _ _ _ _)
      | (with_reducible exact rank_Compare.mono _ _ _ _ _ _ _ _ _)
      | (with_reducible exact rank_Supersedes.mono _ _ _ _ _ _ _ _ _ _)
      | (with_reducible exact treelinelaw10_awake.mono _)
      | (with_reducible exact LeO.refl _)
      | (with_reducible exact LeO.none _)
      | (with_reducible refine LeO.ite ?_ ?_)
      | (with_reducible refine LeO.bind ?_ (fun _ => ?_))
      | exact ih0 _ _ _ _ _ _ _ _ _ _
      | exact ih1 _ _ _ _ _ _ _ _ _ _ _
      | exact rank_Compare.mono _ _ _ _ _ _ _ _ _
      | exact rank_Supersedes.mono _ _ _ _ _ _ _ _ _ _
      | exact treelinelaw10_awake.mono _
      | exact LeO.none _
      | refine LeO.ite ?_ ?_
      | refine LeO.bind ?_ (fun _ => ?_)
    · intro y0 y1 y2 y3 y4 y5 y6 y7 y8 y9 y10
      unfold treelinelaw10_RankTakes.j1
      repeat' first
      | (with_reducible exact ih0 _ _ _ _ _ _ _ _ _ _)
      | (with_reducible exact ih1 _ _ _ _ _ _ _ _ _ _ _)
      | (with_reducible exact rank_Compare.mono _ _ _ _ _ _ _ _ _)
      | (with_reducible exact rank_Supersedes.mono _ _ _ _ _ _ _ _ _ _)
      | (with_reducible exact treelinelaw10_awake.mono _)
      | (with_reducible exact LeO.refl _)
      | (with_reducible exact LeO.none _)
      | (with_reducible refine LeO.ite ?_ ?_)
      | (with_reducible refine LeO.bind ?_ (fun _ => ?_))
      | exact ih0 _ _ _ _ _ _ _ _ _ _
      | exact ih1 _ _ _ _ _ _ _ _ _ _ _
      | exact rank_Compare.mono _ _ _ _ _ _ _ _ _
      | exact rank_Supersedes.mono _ _ _ _ _ _ _ _ _ _
      | exact treelinelaw10_awake.mono _
      | exact LeO.none _
      | refine LeO.ite ?_ ?_
      | refine LeO.bind ?_ (fun _ => ?_)
theorem treelinelaw10_RankTakes.mono : ∀ a0 a1 a2 a3 a4 a5 a6 a7 a8 k, LeO (treelinelaw10_RankTakes.f k a0 a1 a2 a3 a4 a5 a6 a7 a8) (treelinelaw10_RankTakes.f (k + 1) a0 a1 a2 a3 a4 a5 a6 a7 a8) := by
  intro a0 a1 a2 a3 a4 a5 a6 a7 a8 k
  obtain ⟨ih0, ih1⟩ := treelinelaw10_RankTakes.mono_l k
  unfold treelinelaw10_RankTakes.f
  repeat' first
      | (with_reducible exact ih0 _ _ _ _ _ _ _ _ _ _)
      | (with_reducible exact ih1 _ _ _ _ _ _ _ _ _ _ _)
      | (with_reducible exact rank_Compare.mono _ _ _ _ _ _ _ _ _)
      | (with_reducible exact rank_Supersedes.mono _ _ _ _ _ _ _ _ _ _)
      | (with_reducible exact treelinelaw10_awake.mono _)
      | (with_reducible exact LeO.refl _)
      | (with_reducible exact LeO.none _)
      | (with_reducible refine LeO.ite ?_ ?_)
      | (with_reducible refine LeO.bind ?_ (fun _ => ?_))
      | exact ih0 _ _ _ _ _ _ _ _ _ _
      | exact ih1 _ _ _ _ _ _ _ _ _ _ _
      | exact rank_Compare.mono _ _ _ _ _ _ _ _ _
      | exact rank_Supersedes.mono _ _ _ _ _ _ _ _ _ _
      | exact treelinelaw10_awake.mono _
      | exact LeO.none _
      | refine LeO.ite ?_ ?_
      | refine LeO.bind ?_ (fun _ => ?_)
def treelinelaw10_RankTakes.T7 : Bool × List (List Nat × List Nat) := (true, [([], []), ([0], [0]), ([1], [1]), ([2], [2]), ([2], [2]), ([2], [2]), ([3, 4, 5, 2, 2], [2, 3, 4, 5]), ([2], [2]), ([2], [2]), ([7, 8, 6, 2], [2, 7, 8]), ([9, 2], [2, 9]), ([6, 10, 2], [2, 6, 10]), ([2, 11], [2, 11])])
def treelinelaw10_RankTakes.B7 : List Nat := [0, 1, 3, 7, 7, 7, 63, 7, 7, 511, 1023, 2047, 4095]
theorem treelinelaw10_RankTakes.tab7 : rtab .any (opsOf Try.f6 7) = treelinelaw10_RankTakes.T7 := by kernel_rfl
theorem treelinelaw10_RankTakes.bits7 : waitsOk treelinelaw10_RankTakes.T7.2 treelinelaw10_RankTakes.B7 = true := by kernel_rfl
set_option maxHeartbeats 8000000 in
set_option maxRecDepth 100000 in
theorem treelinelaw10_RankTakes.calls (k : Nat) (a0_0 : Int) (a0_1 : Int) (a0_2 : Int) (a0_3 : Int) (a1_0 : Int) (a1_1 : Int) (a1_2 : Int) (a1_3 : Int) (a2 : Int) (r : Bool) (w : World) (h : treelinelaw10_RankTakes.f k a0_0 a0_1 a0_2 a0_3 a1_0 a1_1 a1_2 a1_3 a2 = some r) (LRT : Aside0 (r = true)) :
    Calls Try.prog 6 #[.agg #[.int .u64 a0_0, .int .u32 a0_1, .int .u64 a0_2, .int .u16 a0_3], .agg #[.int .u64 a1_0, .int .u32 a1_1, .int .u64 a1_2, .int .u16 a1_3], .int .u64 a2] w fun e w' => e = .returned (.bool r) ∧ Below w.heap.size w w' := by
  have hu31 := Try.underlying31
  have HB := Aside0.mk (Below.refl w.heap.size w)
  have H : ((treelinelaw10_awake.f k).bind fun t131 => (if t131 = true then (if a0_0 = a1_0 then (if a0_1 = a1_1 then (treelinelaw10_RankTakes.j0 k a2 (a0_2 == a1_2) a0_0 a0_1 a0_2 a0_3 a1_0 a1_1 a1_2 a1_3) else (treelinelaw10_RankTakes.j0 k a2 false a0_0 a0_1 a0_2 a0_3 a1_0 a1_1 a1_2 a1_3)) else (treelinelaw10_RankTakes.j0 k a2 false a0_0 a0_1 a0_2 a0_3 a1_0 a1_1 a1_2 a1_3)) else (some false))) = some r := h
  clear h
  replace H := Option.bind_eq_some_iff.mp H
  obtain ⟨t131, A40, H⟩ := H
  replace H : (if t131 = true then (if a0_0 = a1_0 then (if a0_1 = a1_1 then (treelinelaw10_RankTakes.j0 k a2 (a0_2 == a1_2) a0_0 a0_1 a0_2 a0_3 a1_0 a1_1 a1_2 a1_3) else (treelinelaw10_RankTakes.j0 k a2 false a0_0 a0_1 a0_2 a0_3 a1_0 a1_1 a1_2 a1_3)) else (treelinelaw10_RankTakes.j0 k a2 false a0_0 a0_1 a0_2 a0_3 a1_0 a1_1 a1_2 a1_3)) else (some false)) = some r := H
  have A4 := Aside0.mk A40
  clear A40
  by_cases c5 : t131 = true
  · subst c5
    have H1 : (if a0_0 = a1_0 then (if a0_1 = a1_1 then (treelinelaw10_RankTakes.j0 k a2 (a0_2 == a1_2) a0_0 a0_1 a0_2 a0_3 a1_0 a1_1 a1_2 a1_3) else (treelinelaw10_RankTakes.j0 k a2 false a0_0 a0_1 a0_2 a0_3 a1_0 a1_1 a1_2 a1_3)) else (treelinelaw10_RankTakes.j0 k a2 false a0_0 a0_1 a0_2 a0_3 a1_0 a1_1 a1_2 a1_3)) = some r := by rw [if_pos rfl] at H; exact H
    clear H
    have H := H1
    clear H1
    have HC6 := Aside0.mk H
    clear H
    go_enter Try.func6, Try.ntmps6
    go_upto_region 4 with (first | ((with_reducible refine gate_dst (N := 3) rfl ?_); refine box_event ?hg (N := 3) ?hd (cs := #[.int .u64 a0_0, .int .u32 a0_1, .int .u64 a0_2, .int .u16 a0_3]) (t := 31) ?hr ?_; (case hd => rfl); (case hg => rfl); (case hr => first | (go_simp; done) | (go_simp; rfl)); intro gb129 hg w7 hbox hb; have n0_ := Aside0.mk (below_step (by repeat (first | (with_reducible first | exact HB.out | apply below_alloc | apply pw_below_drewN | apply below_drew1) | exact HB.out)) hb); have n1_ := Aside0.mk (hbox); have n2_ := Aside0.mk ((by rw [hg]; exact (below_size (by repeat (first | (with_reducible first | exact HB.out | apply below_alloc | apply pw_below_drewN | apply below_drew1) | exact HB.out))) : w.heap.size ≤ gb129)); have n3_ := Aside0.mk ((by rw [hg]; exact (below_size (by repeat (first | (with_reducible first | exact HB.out | apply below_alloc | apply pw_below_drewN | apply below_drew1) | exact HB.out))) : w.heap.size ≤ gb129)); clear HB; have HB := n0_; have BK129 := n1_; have GW129 := n2_; have GE129 := n3_; clear n0_ n1_ n2_ n3_; clear hb hbox hg) | ((with_reducible refine gate_dst (N := 4) rfl ?_); refine box_event ?hg (N := 4) ?hd (cs := #[.int .u64 a1_0, .int .u32 a1_1, .int .u64 a1_2, .int .u16 a1_3]) (t := 31) ?hr ?_; (case hd => rfl); (case hg => rfl); (case hr => first | (go_simp; done) | (go_simp; rfl)); intro gb130 hg w8 hbox hb; have n0_ := Aside0.mk (blk_below (g := gb129) (o := .cells #[.int .u64 a0_0, .int .u32 a0_1, .int .u64 a0_2, .int .u16 a0_3] 31 (0, 0)) (by (with_reducible repeat (first | refine blk_drewN ?_ _ | refine blk_drew ?_ | refine blk_alloc ?_ _)); exact BK129.out) hb); have n1_ := Aside0.mk (below_step (by repeat (first | (with_reducible first | exact HB.out | apply below_alloc | apply pw_below_drewN | apply below_drew1 | refine below_set ?_ GE129.out) | exact HB.out)) hb); have n2_ := Aside0.mk (hbox); have n3_ := Aside0.mk ((by rw [hg]; exact (below_size (by repeat (first | (with_reducible first | exact HB.out | apply below_alloc | apply pw_below_drewN | apply below_drew1 | refine below_set ?_ GE129.out) | exact HB.out))) : w.heap.size ≤ gb130)); have n4_ := Aside0.mk ((by rw [hg]; exact (below_size (by repeat (first | (with_reducible first | exact HB.out | apply below_alloc | apply pw_below_drewN | apply below_drew1 | refine below_set ?_ GE129.out) | exact HB.out))) : w.heap.size ≤ gb130)); have n5_ := Aside0.mk ((by rw [hg]; exact Nat.ne_of_lt (blk_lt (g := gb129) (o := .cells #[.int .u64 a0_0, .int .u32 a0_1, .int .u64 a0_2, .int .u16 a0_3] 31 (0, 0)) (by (with_reducible repeat (first | refine blk_drewN ?_ _ | refine blk_drew ?_ | refine blk_alloc ?_ _)); exact BK129.out)) : gb129 ≠ gb130)); have n6_ := Aside0.mk ((by rw [hg]; exact Nat.ne_of_gt (blk_lt (g := gb129) (o := .cells #[.int .u64 a0_0, .int .u32 a0_1, .int .u64 a0_2, .int .u16 a0_3] 31 (0, 0)) (by (with_reducible repeat (first | refine blk_drewN ?_ _ | refine blk_drew ?_ | refine blk_alloc ?_ _)); exact BK129.out)) : gb130 ≠ gb129)); clear BK129; clear HB; have BK129 := n0_; have HB := n1_; have BK130 := n2_; have GW130 := n3_; have GE130 := n4_; have NB129_130 := n5_; have NB130_129 := n6_; clear n0_ n1_ n2_ n3_ n4_ n5_ n6_; clear hb hbox hg) | ((with_reducible refine gate_callee (f := 12) rfl ?_); refine goesL_ (some 9) rfl rfl Try.func12 (by kernel_rfl) rfl #[] rfl (by (try simp only [List.map_toArray, List.map_cons, List.map_nil]); first | done | rfl | (simp only [List.length_drop, List.length_take]; rfl)) ?_; (with_reducible refine (treelinelaw10_awake.calls k  true _ A4.out).mono ?_); rintro e w9 ⟨rfl, hb⟩; refine ⟨_, rfl, ?_⟩; have n0_ := Aside0.mk (blk_below (g := gb129) (o := .cells #[.int .u64 a0_0, .int .u32 a0_1, .int .u64 a0_2, .int .u16 a0_3] 31 (0, 0)) (by (with_reducible repeat (first | refine blk_drewN ?_ _ | refine blk_drew ?_ | refine blk_alloc ?_ _)); exact BK129.out) hb); have n1_ := Aside0.mk (blk_below (g := gb130) (o := .cells #[.int .u64 a1_0, .int .u32 a1_1, .int .u64 a1_2, .int .u16 a1_3] 31 (0, 0)) (by (with_reducible repeat (first | refine blk_drewN ?_ _ | refine blk_drew ?_ | refine blk_alloc ?_ _)); exact BK130.out) hb); have n2_ := Aside0.mk (below_step (by repeat (first | (with_reducible first | exact HB.out | apply below_alloc | apply pw_below_drewN | apply below_drew1 | refine below_set ?_ GE129.out | refine below_set ?_ GE130.out) | exact HB.out)) hb); clear BK129; clear BK130; clear HB; have BK129 := n0_; have BK130 := n1_; have HB := n2_; clear n0_ n1_ n2_; (try clear hb); (try clear hb2); (try clear hk); (try clear hi)))
    (try simp only [Act.put, List.setIfInBounds_toArray, List.set_cons_zero, List.set_cons_succ])
    go_cut [8] (fun v8 wc => ∃ (kq : Nat) (x8_5 : Bool), v8 = .bool x8_5 ∧ Aside0 (treelinelaw10_RankTakes.j0 kq a2 x8_5 a0_0 a0_1 a0_2 a0_3 a1_0 a1_1 a1_2 a1_3 = some r) ∧ Aside0 (kq ≤ k) ∧ Aside0 (wc.heap[gb129]? = some (.cells #[.int .u64 a0_0, .int .u32 a0_1, .int .u64 a0_2, .int .u16 a0_3] 31 (0, 0))) ∧ Aside0 (wc.heap[gb130]? = some (.cells #[.int .u64 a1_0, .int .u32 a1_1, .int .u64 a1_2, .int .u16 a1_3] 31 (0, 0))) ∧ Aside0 (Below w.heap.size w wc))
    case first =>
      have H := HC6.out
      clear HC6
      by_cases c10 : a0_0 = a1_0
      · rw [if_pos c10] at H
        have c10b0 : (a0_0 == a1_0) = true := beq_iff_eq.mpr c10
        have c10b1 : (a0_0 != a1_0) = false := bne_eq_false_iff_eq.mpr c10
        clear c10
        (first | rw [c10b0] | (simp only [i64_w, i32_w]; rw [c10b0]) | skip)
        by_cases c11 : a0_1 = a1_1
        · rw [if_pos c11] at H
          have c11b0 : (a0_1 == a1_1) = true := beq_iff_eq.mpr c11
          have c11b1 : (a0_1 != a1_1) = false := bne_eq_false_iff_eq.mpr c11
          clear c11
          have H' := Aside0.mk H
          clear H
          have hnb12 := NB129_130.out
          have hnc12 := NB130_129.out
          have hcz13_0 : w9.cell? ⟨gb129, 0, none⟩ = some (.int .u64 a0_0) := (blk_cell BK129.out 0).trans rfl
          have hcz13_1 : w9.cell? ⟨gb129, 1, none⟩ = some (.int .u32 a0_1) := (blk_cell BK129.out 1).trans rfl
          have hcz13_2 : w9.cell? ⟨gb129, 2, none⟩ = some (.int .u64 a0_2) := (blk_cell BK129.out 2).trans rfl
          have hcz13_3 : w9.cell? ⟨gb129, 3, none⟩ = some (.int .u16 a0_3) := (blk_cell BK129.out 3).trans rfl
          have hfz13_0 := blk_frozen BK129.out 0
          have hfz13_1 := blk_frozen BK129.out 1
          have hfz13_2 := blk_frozen BK129.out 2
          have hfz13_3 := blk_frozen BK129.out 3
          have hcz14_0 : w9.cell? ⟨gb130, 0, none⟩ = some (.int .u64 a1_0) := (blk_cell BK130.out 0).trans rfl
          have hcz14_1 : w9.cell? ⟨gb130, 1, none⟩ = some (.int .u32 a1_1) := (blk_cell BK130.out 1).trans rfl
          have hcz14_2 : w9.cell? ⟨gb130, 2, none⟩ = some (.int .u64 a1_2) := (blk_cell BK130.out 2).trans rfl
          have hcz14_3 : w9.cell? ⟨gb130, 3, none⟩ = some (.int .u16 a1_3) := (blk_cell BK130.out 3).trans rfl
          have hfz14_0 := blk_frozen BK130.out 0
          have hfz14_1 := blk_frozen BK130.out 1
          have hfz14_2 := blk_frozen BK130.out 2
          have hfz14_3 := blk_frozen BK130.out 3
          go_wp2
          go_meet
          case rel => exact ⟨_, ((a0_2 == a1_2)), (by first | rfl | (simp; done) | (simp [*]; done)), H', ⟨by first | omega | exact Nat.le_refl _⟩, ⟨by (with_reducible repeat (first | refine blk_drewN ?_ _ | refine blk_drew ?_ | refine blk_alloc ?_ _)); exact BK129.out⟩, ⟨by (with_reducible repeat (first | refine blk_drewN ?_ _ | refine blk_drew ?_ | refine blk_alloc ?_ _)); exact BK130.out⟩, ⟨by repeat (first | (with_reducible first | exact HB.out | apply below_alloc | apply pw_below_drewN | apply below_drew1 | refine below_set ?_ GE129.out | refine below_set ?_ GE130.out) | exact HB.out)⟩⟩
        · rw [if_neg c11] at H
          have c11b0 : (a0_1 == a1_1) = false := beq_eq_false_iff_ne.mpr c11
          have c11b1 : (a0_1 != a1_1) = true := bne_iff_ne.mpr c11
          have H' := Aside0.mk H
          clear H
          have hnb15 := NB129_130.out
          have hnc15 := NB130_129.out
          have hcz16_0 : w9.cell? ⟨gb129, 0, none⟩ = some (.int .u64 a0_0) := (blk_cell BK129.out 0).trans rfl
          have hcz16_1 : w9.cell? ⟨gb129, 1, none⟩ = some (.int .u32 a0_1) := (blk_cell BK129.out 1).trans rfl
          have hcz16_2 : w9.cell? ⟨gb129, 2, none⟩ = some (.int .u64 a0_2) := (blk_cell BK129.out 2).trans rfl
          have hcz16_3 : w9.cell? ⟨gb129, 3, none⟩ = some (.int .u16 a0_3) := (blk_cell BK129.out 3).trans rfl
          have hfz16_0 := blk_frozen BK129.out 0
          have hfz16_1 := blk_frozen BK129.out 1
          have hfz16_2 := blk_frozen BK129.out 2
          have hfz16_3 := blk_frozen BK129.out 3
          have hcz17_0 : w9.cell? ⟨gb130, 0, none⟩ = some (.int .u64 a1_0) := (blk_cell BK130.out 0).trans rfl
          have hcz17_1 : w9.cell? ⟨gb130, 1, none⟩ = some (.int .u32 a1_1) := (blk_cell BK130.out 1).trans rfl
          have hcz17_2 : w9.cell? ⟨gb130, 2, none⟩ = some (.int .u64 a1_2) := (blk_cell BK130.out 2).trans rfl
          have hcz17_3 : w9.cell? ⟨gb130, 3, none⟩ = some (.int .u16 a1_3) := (blk_cell BK130.out 3).trans rfl
          have hfz17_0 := blk_frozen BK130.out 0
          have hfz17_1 := blk_frozen BK130.out 1
          have hfz17_2 := blk_frozen BK130.out 2
          have hfz17_3 := blk_frozen BK130.out 3
          go_wp2
          go_meet
          case rel => exact ⟨_, (false), (by first | rfl | (simp; done) | (simp [*]; done)), H', ⟨by first | omega | exact Nat.le_refl _⟩, ⟨by (with_reducible repeat (first | refine blk_drewN ?_ _ | refine blk_drew ?_ | refine blk_alloc ?_ _)); exact BK129.out⟩, ⟨by (with_reducible repeat (first | refine blk_drewN ?_ _ | refine blk_drew ?_ | refine blk_alloc ?_ _)); exact BK130.out⟩, ⟨by repeat (first | (with_reducible first | exact HB.out | apply below_alloc | apply pw_below_drewN | apply below_drew1 | refine below_set ?_ GE129.out | refine below_set ?_ GE130.out) | exact HB.out)⟩⟩
      · rw [if_neg c10] at H
        have c10b0 : (a0_0 == a1_0) = false := beq_eq_false_iff_ne.mpr c10
        have c10b1 : (a0_0 != a1_0) = true := bne_iff_ne.mpr c10
        (first | rw [c10b0] | (simp only [i64_w, i32_w]; rw [c10b0]) | skip)
        have H' := Aside0.mk H
        clear H
        have hnb18 := NB129_130.out
        have hnc18 := NB130_129.out
        have hcz19_0 : w9.cell? ⟨gb129, 0, none⟩ = some (.int .u64 a0_0) := (blk_cell BK129.out 0).trans rfl
        have hcz19_1 : w9.cell? ⟨gb129, 1, none⟩ = some (.int .u32 a0_1) := (blk_cell BK129.out 1).trans rfl
        have hcz19_2 : w9.cell? ⟨gb129, 2, none⟩ = some (.int .u64 a0_2) := (blk_cell BK129.out 2).trans rfl
        have hcz19_3 : w9.cell? ⟨gb129, 3, none⟩ = some (.int .u16 a0_3) := (blk_cell BK129.out 3).trans rfl
        have hfz19_0 := blk_frozen BK129.out 0
        have hfz19_1 := blk_frozen BK129.out 1
        have hfz19_2 := blk_frozen BK129.out 2
        have hfz19_3 := blk_frozen BK129.out 3
        have hcz20_0 : w9.cell? ⟨gb130, 0, none⟩ = some (.int .u64 a1_0) := (blk_cell BK130.out 0).trans rfl
        have hcz20_1 : w9.cell? ⟨gb130, 1, none⟩ = some (.int .u32 a1_1) := (blk_cell BK130.out 1).trans rfl
        have hcz20_2 : w9.cell? ⟨gb130, 2, none⟩ = some (.int .u64 a1_2) := (blk_cell BK130.out 2).trans rfl
        have hcz20_3 : w9.cell? ⟨gb130, 3, none⟩ = some (.int .u16 a1_3) := (blk_cell BK130.out 3).trans rfl
        have hfz20_0 := blk_frozen BK130.out 0
        have hfz20_1 := blk_frozen BK130.out 1
        have hfz20_2 := blk_frozen BK130.out 2
        have hfz20_3 := blk_frozen BK130.out 3
        go_wp2
        go_meet
        case rel => exact ⟨_, (false), (by first | rfl | (simp; done) | (simp [*]; done)), H', ⟨by first | omega | exact Nat.le_refl _⟩, ⟨by (with_reducible repeat (first | refine blk_drewN ?_ _ | refine blk_drew ?_ | refine blk_alloc ?_ _)); exact BK129.out⟩, ⟨by (with_reducible repeat (first | refine blk_drewN ?_ _ | refine blk_drew ?_ | refine blk_alloc ?_ _)); exact BK130.out⟩, ⟨by repeat (first | (with_reducible first | exact HB.out | apply below_alloc | apply pw_below_drewN | apply below_drew1 | refine below_set ?_ GE129.out | refine below_set ?_ GE130.out) | exact HB.out)⟩⟩
    case rest =>
      clear HC6
      try clear c1
      try clear p2
      try clear c5
      try clear c6
      try clear c10
      try clear c10b0
      try clear c10b1
      try clear c11
      try clear c11b0
      try clear c11b1
      try clear c12
      try clear c15
      try clear c18
      try clear hcz13_0
      try clear hcz13_1
      try clear hcz13_2
      try clear hcz13_3
      try clear hcz14_0
      try clear hcz14_1
      try clear hcz14_2
      try clear hcz14_3
      try clear hcz16_0
      try clear hcz16_1
      try clear hcz16_2
      try clear hcz16_3
      try clear hcz17_0
      try clear hcz17_1
      try clear hcz17_2
      try clear hcz17_3
      try clear hcz19_0
      try clear hcz19_1
      try clear hcz19_2
      try clear hcz19_3
      try clear hcz20_0
      try clear hcz20_1
      try clear hcz20_2
      try clear hcz20_3
      try clear hfz13_0
      try clear hfz13_1
      try clear hfz13_2
      try clear hfz13_3
      try clear hfz14_0
      try clear hfz14_1
      try clear hfz14_2
      try clear hfz14_3
      try clear hfz16_0
      try clear hfz16_1
      try clear hfz16_2
      try clear hfz16_3
      try clear hfz17_0
      try clear hfz17_1
      try clear hfz17_2
      try clear hfz17_3
      try clear hfz19_0
      try clear hfz19_1
      try clear hfz19_2
      try clear hfz19_3
      try clear hfz20_0
      try clear hfz20_1
      try clear hfz20_2
      try clear hfz20_3
      obtain ⟨kq, x8_5, rfl, HA, HJ5, BK129, BK130, HB⟩ := hcut
      cases kq with
      | zero => exact absurd HA.out (by simp [treelinelaw10_RankTakes.j0])
      | succ kj5 =>
        have H := HA.out
        clear HA
        simp only [treelinelaw10_RankTakes.j0] at H
        have HC21 := Aside0.mk H
        clear H
        go_upto_region 5 with (fail)
        go_cut [50] (fun v50 wc => ∃ (kq : Nat) (x50_20 : Bool), v50 = .bool x50_20 ∧ Aside0 (treelinelaw10_RankTakes.j1 kq a2 x8_5 x50_20 a0_0 a0_1 a0_2 a0_3 a1_0 a1_1 a1_2 a1_3 = some r) ∧ Aside0 (kq ≤ kj5) ∧ Aside0 (wc.heap[gb129]? = some (.cells #[.int .u64 a0_0, .int .u32 a0_1, .int .u64 a0_2, .int .u16 a0_3] 31 (0, 0))) ∧ Aside0 (wc.heap[gb130]? = some (.cells #[.int .u64 a1_0, .int .u32 a1_1, .int .u64 a1_2, .int .u16 a1_3] 31 (0, 0))) ∧ Aside0 (Below w.heap.size w wc))
        case first =>
          have H := HC21.out
          clear HC21
          replace H := Option.bind_eq_some_iff.mp H
          obtain ⟨t132, A220, H⟩ := H
          replace H : (if t132 = true then ((rank_Compare.f kj5 a0_0 a0_1 a0_2 a0_3 a1_0 a1_1 a1_2 a1_3).bind fun t133 => (if t133 > 0 then (if x8_5 = true then (treelinelaw10_RankTakes.j1 kj5 a2 x8_5 (!(a0_2 != a2)) a0_0 a0_1 a0_2 a0_3 a1_0 a1_1 a1_2 a1_3) else (treelinelaw10_RankTakes.j1 kj5 a2 x8_5 (!false) a0_0 a0_1 a0_2 a0_3 a1_0 a1_1 a1_2 a1_3)) else (treelinelaw10_RankTakes.j1 kj5 a2 x8_5 false a0_0 a0_1 a0_2 a0_3 a1_0 a1_1 a1_2 a1_3))) else (treelinelaw10_RankTakes.j1 kj5 a2 x8_5 false a0_0 a0_1 a0_2 a0_3 a1_0 a1_1 a1_2 a1_3)) = some r := H
          have A22 := Aside0.mk A220
          clear A220
          by_cases c23 : t132 = true
          · subst c23
            have H1 : ((rank_Compare.f kj5 a0_0 a0_1 a0_2 a0_3 a1_0 a1_1 a1_2 a1_3).bind fun t133 => (if t133 > 0 then (if x8_5 = true then (treelinelaw10_RankTakes.j1 kj5 a2 x8_5 (!(a0_2 != a2)) a0_0 a0_1 a0_2 a0_3 a1_0 a1_1 a1_2 a1_3) else (treelinelaw10_RankTakes.j1 kj5 a2 x8_5 (!false) a0_0 a0_1 a0_2 a0_3 a1_0 a1_1 a1_2 a1_3)) else (treelinelaw10_RankTakes.j1 kj5 a2 x8_5 false a0_0 a0_1 a0_2 a0_3 a1_0 a1_1 a1_2 a1_3))) = some r := by rw [if_pos rfl] at H; exact H
            clear H
            have H := H1
            clear H1
            replace H := Option.bind_eq_some_iff.mp H
            obtain ⟨t133, A240, H⟩ := H
            replace H : (if t133 > 0 then (if x8_5 = true then (treelinelaw10_RankTakes.j1 kj5 a2 x8_5 (!(a0_2 != a2)) a0_0 a0_1 a0_2 a0_3 a1_0 a1_1 a1_2 a1_3) else (treelinelaw10_RankTakes.j1 kj5 a2 x8_5 (!false) a0_0 a0_1 a0_2 a0_3 a1_0 a1_1 a1_2 a1_3)) else (treelinelaw10_RankTakes.j1 kj5 a2 x8_5 false a0_0 a0_1 a0_2 a0_3 a1_0 a1_1 a1_2 a1_3)) = some r := H
            have A24 := Aside0.mk A240
            clear A240
            by_cases c25 : t133 > 0
            · rw [if_pos c25] at H
              have c25b0 : decide (0 < t133) = true := decide_eq_true c25
              clear c25
              (first | rw [c25b0] | (simp only [i64_w, i32_w]; rw [c25b0]) | skip)
              by_cases c26 : x8_5 = true
              · subst c26
                have H1 : (treelinelaw10_RankTakes.j1 kj5 a2 true (!(a0_2 != a2)) a0_0 a0_1 a0_2 a0_3 a1_0 a1_1 a1_2 a1_3) = some r := by rw [if_pos rfl] at H; exact H
                clear H
                have H := H1
                clear H1
                have H' := Aside0.mk H
                clear H
                have hnb27 := NB129_130.out
                have hnc27 := NB130_129.out
                have hcz28_0 : wc.cell? ⟨gb129, 0, none⟩ = some (.int .u64 a0_0) := (blk_cell BK129.out 0).trans rfl
                have hcz28_1 : wc.cell? ⟨gb129, 1, none⟩ = some (.int .u32 a0_1) := (blk_cell BK129.out 1).trans rfl
                have hcz28_2 : wc.cell? ⟨gb129, 2, none⟩ = some (.int .u64 a0_2) := (blk_cell BK129.out 2).trans rfl
                have hcz28_3 : wc.cell? ⟨gb129, 3, none⟩ = some (.int .u16 a0_3) := (blk_cell BK129.out 3).trans rfl
                have hfz28_0 := blk_frozen BK129.out 0
                have hfz28_1 := blk_frozen BK129.out 1
                have hfz28_2 := blk_frozen BK129.out 2
                have hfz28_3 := blk_frozen BK129.out 3
                have hcz29_0 : wc.cell? ⟨gb130, 0, none⟩ = some (.int .u64 a1_0) := (blk_cell BK130.out 0).trans rfl
                have hcz29_1 : wc.cell? ⟨gb130, 1, none⟩ = some (.int .u32 a1_1) := (blk_cell BK130.out 1).trans rfl
                have hcz29_2 : wc.cell? ⟨gb130, 2, none⟩ = some (.int .u64 a1_2) := (blk_cell BK130.out 2).trans rfl
                have hcz29_3 : wc.cell? ⟨gb130, 3, none⟩ = some (.int .u16 a1_3) := (blk_cell BK130.out 3).trans rfl
                have hfz29_0 := blk_frozen BK130.out 0
                have hfz29_1 := blk_frozen BK130.out 1
                have hfz29_2 := blk_frozen BK130.out 2
                have hfz29_3 := blk_frozen BK130.out 3
                go_wp2_with (first | ((with_reducible refine gate_callee (f := 18) rfl ?_); refine goesL_ (some 34) rfl rfl Try.func18 (by kernel_rfl) rfl #[.agg #[.int .u64 a0_0, .int .u32 a0_1, .int .u64 a0_2, .int .u16 a0_3], .agg #[.int .u64 a1_0, .int .u32 a1_1, .int .u64 a1_2, .int .u16 a1_3], .int .u64 a2] rfl (by (try simp only [List.map_toArray, List.map_cons, List.map_nil]); first | done | rfl | (simp only [List.length_drop, List.length_take]; rfl)) ?_; (with_reducible refine (rank_Supersedes.calls kj5 a0_0 a0_1 a0_2 a0_3 a1_0 a1_1 a1_2 a1_3 a2 true _ A22.out).mono ?_); rintro e w30 ⟨rfl, hb⟩; refine ⟨_, rfl, ?_⟩; have n0_ := Aside0.mk (blk_below (g := gb129) (o := .cells #[.int .u64 a0_0, .int .u32 a0_1, .int .u64 a0_2, .int .u16 a0_3] 31 (0, 0)) (by (with_reducible repeat (first | refine blk_drewN ?_ _ | refine blk_drew ?_ | refine blk_alloc ?_ _)); exact BK129.out) hb); have n1_ := Aside0.mk (blk_below (g := gb130) (o := .cells #[.int .u64 a1_0, .int .u32 a1_1, .int .u64 a1_2, .int .u16 a1_3] 31 (0, 0)) (by (with_reducible repeat (first | refine blk_drewN ?_ _ | refine blk_drew ?_ | refine blk_alloc ?_ _)); exact BK130.out) hb); have n2_ := Aside0.mk (below_step (by repeat (first | (with_reducible first | exact HB.out | apply below_alloc | apply pw_below_drewN | apply below_drew1 | refine below_set ?_ GE129.out | refine below_set ?_ GE130.out) | exact HB.out)) hb); clear BK129; clear BK130; clear HB; have BK129 := n0_; have BK130 := n1_; have HB := n2_; clear n0_ n1_ n2_; (try clear hb); (try clear hb2); (try clear hk); (try clear hi); have hcz31_0 : w30.cell? ⟨gb129, 0, none⟩ = some (.int .u64 a0_0) := (blk_cell BK129.out 0).trans rfl; have hcz31_1 : w30.cell? ⟨gb129, 1, none⟩ = some (.int .u32 a0_1) := (blk_cell BK129.out 1).trans rfl; have hcz31_2 : w30.cell? ⟨gb129, 2, none⟩ = some (.int .u64 a0_2) := (blk_cell BK129.out 2).trans rfl; have hcz31_3 : w30.cell? ⟨gb129, 3, none⟩ = some (.int .u16 a0_3) := (blk_cell BK129.out 3).trans rfl; have hfz31_0 := blk_frozen BK129.out 0; have hfz31_1 := blk_frozen BK129.out 1; have hfz31_2 := blk_frozen BK129.out 2; have hfz31_3 := blk_frozen BK129.out 3; have hcz32_0 : w30.cell? ⟨gb130, 0, none⟩ = some (.int .u64 a1_0) := (blk_cell BK130.out 0).trans rfl; have hcz32_1 : w30.cell? ⟨gb130, 1, none⟩ = some (.int .u32 a1_1) := (blk_cell BK130.out 1).trans rfl; have hcz32_2 : w30.cell? ⟨gb130, 2, none⟩ = some (.int .u64 a1_2) := (blk_cell BK130.out 2).trans rfl; have hcz32_3 : w30.cell? ⟨gb130, 3, none⟩ = some (.int .u16 a1_3) := (blk_cell BK130.out 3).trans rfl; have hfz32_0 := blk_frozen BK130.out 0; have hfz32_1 := blk_frozen BK130.out 1; have hfz32_2 := blk_frozen BK130.out 2; have hfz32_3 := blk_frozen BK130.out 3) | (go_at_call 16; (with_reducible refine (rank_Compare.calls kj5 a0_0 a0_1 a0_2 a0_3 a1_0 a1_1 a1_2 a1_3 t133 _ A24.out).mono ?_); rintro e w33 ⟨rfl, hb⟩; have n0_ := Aside0.mk (blk_below (g := gb129) (o := .cells #[.int .u64 a0_0, .int .u32 a0_1, .int .u64 a0_2, .int .u16 a0_3] 31 (0, 0)) (by (with_reducible repeat (first | refine blk_drewN ?_ _ | refine blk_drew ?_ | refine blk_alloc ?_ _)); exact BK129.out) hb); have n1_ := Aside0.mk (blk_below (g := gb130) (o := .cells #[.int .u64 a1_0, .int .u32 a1_1, .int .u64 a1_2, .int .u16 a1_3] 31 (0, 0)) (by (with_reducible repeat (first | refine blk_drewN ?_ _ | refine blk_drew ?_ | refine blk_alloc ?_ _)); exact BK130.out) hb); have n2_ := Aside0.mk (below_step (by repeat (first | (with_reducible first | exact HB.out | apply below_alloc | apply pw_below_drewN | apply below_drew1 | refine below_set ?_ GE129.out | refine below_set ?_ GE130.out) | exact HB.out)) hb); clear BK129; clear BK130; clear HB; have BK129 := n0_; have BK130 := n1_; have HB := n2_; clear n0_ n1_ n2_; (try clear hb); (try clear hb2); (try clear hk); (try clear hi); have hcz34_0 : w33.cell? ⟨gb129, 0, none⟩ = some (.int .u64 a0_0) := (blk_cell BK129.out 0).trans rfl; have hcz34_1 : w33.cell? ⟨gb129, 1, none⟩ = some (.int .u32 a0_1) := (blk_cell BK129.out 1).trans rfl; have hcz34_2 : w33.cell? ⟨gb129, 2, none⟩ = some (.int .u64 a0_2) := (blk_cell BK129.out 2).trans rfl; have hcz34_3 : w33.cell? ⟨gb129, 3, none⟩ = some (.int .u16 a0_3) := (blk_cell BK129.out 3).trans rfl; have hfz34_0 := blk_frozen BK129.out 0; have hfz34_1 := blk_frozen BK129.out 1; have hfz34_2 := blk_frozen BK129.out 2; have hfz34_3 := blk_frozen BK129.out 3) | (go_at_call 18; (with_reducible refine (rank_Supersedes.calls kj5 a0_0 a0_1 a0_2 a0_3 a1_0 a1_1 a1_2 a1_3 a2 true _ A22.out).mono ?_); rintro e w30 ⟨rfl, hb⟩; have n0_ := Aside0.mk (blk_below (g := gb129) (o := .cells #[.int .u64 a0_0, .int .u32 a0_1, .int .u64 a0_2, .int .u16 a0_3] 31 (0, 0)) (by (with_reducible repeat (first | refine blk_drewN ?_ _ | refine blk_drew ?_ | refine blk_alloc ?_ _)); exact BK129.out) hb); have n1_ := Aside0.mk (blk_below (g := gb130) (o := .cells #[.int .u64 a1_0, .int .u32 a1_1, .int .u64 a1_2, .int .u16 a1_3] 31 (0, 0)) (by (with_reducible repeat (first | refine blk_drewN ?_ _ | refine blk_drew ?_ | refine blk_alloc ?_ _)); exact BK130.out) hb); have n2_ := Aside0.mk (below_step (by repeat (first | (with_reducible first | exact HB.out | apply below_alloc | apply pw_below_drewN | apply below_drew1 | refine below_set ?_ GE129.out | refine below_set ?_ GE130.out) | exact HB.out)) hb); clear BK129; clear BK130; clear HB; have BK129 := n0_; have BK130 := n1_; have HB := n2_; clear n0_ n1_ n2_; (try clear hb); (try clear hb2); (try clear hk); (try clear hi); have hcz31_0 : w30.cell? ⟨gb129, 0, none⟩ = some (.int .u64 a0_0) := (blk_cell BK129.out 0).trans rfl; have hcz31_1 : w30.cell? ⟨gb129, 1, none⟩ = some (.int .u32 a0_1) := (blk_cell BK129.out 1).trans rfl; have hcz31_2 : w30.cell? ⟨gb129, 2, none⟩ = some (.int .u64 a0_2) := (blk_cell BK129.out 2).trans rfl; have hcz31_3 : w30.cell? ⟨gb129, 3, none⟩ = some (.int .u16 a0_3) := (blk_cell BK129.out 3).trans rfl; have hfz31_0 := blk_frozen BK129.out 0; have hfz31_1 := blk_frozen BK129.out 1; have hfz31_2 := blk_frozen BK129.out 2; have hfz31_3 := blk_frozen BK129.out 3; have hcz32_0 : w30.cell? ⟨gb130, 0, none⟩ = some (.int .u64 a1_0) := (blk_cell BK130.out 0).trans rfl; have hcz32_1 : w30.cell? ⟨gb130, 1, none⟩ = some (.int .u32 a1_1) := (blk_cell BK130.out 1).trans rfl; have hcz32_2 : w30.cell? ⟨gb130, 2, none⟩ = some (.int .u64 a1_2) := (blk_cell BK130.out 2).trans rfl; have hcz32_3 : w30.cell? ⟨gb130, 3, none⟩ = some (.int .u16 a1_3) := (blk_cell BK130.out 3).trans rfl; have hfz32_0 := blk_frozen BK130.out 0; have hfz32_1 := blk_frozen BK130.out 1; have hfz32_2 := blk_frozen BK130.out 2; have hfz32_3 := blk_frozen BK130.out 3))
                go_meet
                case rel => exact ⟨_, (!(a0_2 != a2)), (by first | rfl | (simp; done) | (simp [*]; done)), H', ⟨by have := HJ5.out; first | omega | exact Nat.le_refl _⟩, ⟨by (with_reducible repeat (first | refine blk_drewN ?_ _ | refine blk_drew ?_ | refine blk_alloc ?_ _)); exact BK129.out⟩, ⟨by (with_reducible repeat (first | refine blk_drewN ?_ _ | refine blk_drew ?_ | refine blk_alloc ?_ _)); exact BK130.out⟩, ⟨by repeat (first | (with_reducible first | exact HB.out | apply below_alloc | apply pw_below_drewN | apply below_drew1 | refine below_set ?_ GE129.out | refine below_set ?_ GE130.out) | exact HB.out)⟩⟩
              · replace c26 := Bool.eq_false_iff.mpr c26
                subst c26
                have H1 : (treelinelaw10_RankTakes.j1 kj5 a2 false (!false) a0_0 a0_1 a0_2 a0_3 a1_0 a1_1 a1_2 a1_3) = some r := by rw [if_neg (show ¬ (false = true) by decide)] at H; exact H
                clear H
                have H := H1
                clear H1
                have H' := Aside0.mk H
                clear H
                have hnb35 := NB129_130.out
                have hnc35 := NB130_129.out
                have hcz36_0 : wc.cell? ⟨gb129, 0, none⟩ = some (.int .u64 a0_0) := (blk_cell BK129.out 0).trans rfl
                have hcz36_1 : wc.cell? ⟨gb129, 1, none⟩ = some (.int .u32 a0_1) := (blk_cell BK129.out 1).trans rfl
                have hcz36_2 : wc.cell? ⟨gb129, 2, none⟩ = some (.int .u64 a0_2) := (blk_cell BK129.out 2).trans rfl
                have hcz36_3 : wc.cell? ⟨gb129, 3, none⟩ = some (.int .u16 a0_3) := (blk_cell BK129.out 3).trans rfl
                have hfz36_0 := blk_frozen BK129.out 0
                have hfz36_1 := blk_frozen BK129.out 1
                have hfz36_2 := blk_frozen BK129.out 2
                have hfz36_3 := blk_frozen BK129.out 3
                have hcz37_0 : wc.cell? ⟨gb130, 0, none⟩ = some (.int .u64 a1_0) := (blk_cell BK130.out 0).trans rfl
                have hcz37_1 : wc.cell? ⟨gb130, 1, none⟩ = some (.int .u32 a1_1) := (blk_cell BK130.out 1).trans rfl
                have hcz37_2 : wc.cell? ⟨gb130, 2, none⟩ = some (.int .u64 a1_2) := (blk_cell BK130.out 2).trans rfl
                have hcz37_3 : wc.cell? ⟨gb130, 3, none⟩ = some (.int .u16 a1_3) := (blk_cell BK130.out 3).trans rfl
                have hfz37_0 := blk_frozen BK130.out 0
                have hfz37_1 := blk_frozen BK130.out 1
                have hfz37_2 := blk_frozen BK130.out 2
                have hfz37_3 := blk_frozen BK130.out 3
                go_wp2_with (first | ((with_reducible refine gate_callee (f := 18) rfl ?_); refine goesL_ (some 34) rfl rfl Try.func18 (by kernel_rfl) rfl #[.agg #[.int .u64 a0_0, .int .u32 a0_1, .int .u64 a0_2, .int .u16 a0_3], .agg #[.int .u64 a1_0, .int .u32 a1_1, .int .u64 a1_2, .int .u16 a1_3], .int .u64 a2] rfl (by (try simp only [List.map_toArray, List.map_cons, List.map_nil]); first | done | rfl | (simp only [List.length_drop, List.length_take]; rfl)) ?_; (with_reducible refine (rank_Supersedes.calls kj5 a0_0 a0_1 a0_2 a0_3 a1_0 a1_1 a1_2 a1_3 a2 true _ A22.out).mono ?_); rintro e w38 ⟨rfl, hb⟩; refine ⟨_, rfl, ?_⟩; have n0_ := Aside0.mk (blk_below (g := gb129) (o := .cells #[.int .u64 a0_0, .int .u32 a0_1, .int .u64 a0_2, .int .u16 a0_3] 31 (0, 0)) (by (with_reducible repeat (first | refine blk_drewN ?_ _ | refine blk_drew ?_ | refine blk_alloc ?_ _)); exact BK129.out) hb); have n1_ := Aside0.mk (blk_below (g := gb130) (o := .cells #[.int .u64 a1_0, .int .u32 a1_1, .int .u64 a1_2, .int .u16 a1_3] 31 (0, 0)) (by (with_reducible repeat (first | refine blk_drewN ?_ _ | refine blk_drew ?_ | refine blk_alloc ?_ _)); exact BK130.out) hb); have n2_ := Aside0.mk (below_step (by repeat (first | (with_reducible first | exact HB.out | apply below_alloc | apply pw_below_drewN | apply below_drew1 | refine below_set ?_ GE129.out | refine below_set ?_ GE130.out) | exact HB.out)) hb); clear BK129; clear BK130; clear HB; have BK129 := n0_; have BK130 := n1_; have HB := n2_; clear n0_ n1_ n2_; (try clear hb); (try clear hb2); (try clear hk); (try clear hi); have hcz39_0 : w38.cell? ⟨gb129, 0, none⟩ = some (.int .u64 a0_0) := (blk_cell BK129.out 0).trans rfl; have hcz39_1 : w38.cell? ⟨gb129, 1, none⟩ = some (.int .u32 a0_1) := (blk_cell BK129.out 1).trans rfl; have hcz39_2 : w38.cell? ⟨gb129, 2, none⟩ = some (.int .u64 a0_2) := (blk_cell BK129.out 2).trans rfl; have hcz39_3 : w38.cell? ⟨gb129, 3, none⟩ = some (.int .u16 a0_3) := (blk_cell BK129.out 3).trans rfl; have hfz39_0 := blk_frozen BK129.out 0; have hfz39_1 := blk_frozen BK129.out 1; have hfz39_2 := blk_frozen BK129.out 2; have hfz39_3 := blk_frozen BK129.out 3; have hcz40_0 : w38.cell? ⟨gb130, 0, none⟩ = some (.int .u64 a1_0) := (blk_cell BK130.out 0).trans rfl; have hcz40_1 : w38.cell? ⟨gb130, 1, none⟩ = some (.int .u32 a1_1) := (blk_cell BK130.out 1).trans rfl; have hcz40_2 : w38.cell? ⟨gb130, 2, none⟩ = some (.int .u64 a1_2) := (blk_cell BK130.out 2).trans rfl; have hcz40_3 : w38.cell? ⟨gb130, 3, none⟩ = some (.int .u16 a1_3) := (blk_cell BK130.out 3).trans rfl; have hfz40_0 := blk_frozen BK130.out 0; have hfz40_1 := blk_frozen BK130.out 1; have hfz40_2 := blk_frozen BK130.out 2; have hfz40_3 := blk_frozen BK130.out 3) | (go_at_call 16; (with_reducible refine (rank_Compare.calls kj5 a0_0 a0_1 a0_2 a0_3 a1_0 a1_1 a1_2 a1_3 t133 _ A24.out).mono ?_); rintro e w41 ⟨rfl, hb⟩; have n0_ := Aside0.mk (blk_below (g := gb129) (o := .cells #[.int .u64 a0_0, .int .u32 a0_1, .int .u64 a0_2, .int .u16 a0_3] 31 (0, 0)) (by (with_reducible repeat (first | refine blk_drewN ?_ _ | refine blk_drew ?_ | refine blk_alloc ?_ _)); exact BK129.out) hb); have n1_ := Aside0.mk (blk_below (g := gb130) (o := .cells #[.int .u64 a1_0, .int .u32 a1_1, .int .u64 a1_2, .int .u16 a1_3] 31 (0, 0)) (by (with_reducible repeat (first | refine blk_drewN ?_ _ | refine blk_drew ?_ | refine blk_alloc ?_ _)); exact BK130.out) hb); have n2_ := Aside0.mk (below_step (by repeat (first | (with_reducible first | exact HB.out | apply below_alloc | apply pw_below_drewN | apply below_drew1 | refine below_set ?_ GE129.out | refine below_set ?_ GE130.out) | exact HB.out)) hb); clear BK129; clear BK130; clear HB; have BK129 := n0_; have BK130 := n1_; have HB := n2_; clear n0_ n1_ n2_; (try clear hb); (try clear hb2); (try clear hk); (try clear hi)) | (go_at_call 18; (with_reducible refine (rank_Supersedes.calls kj5 a0_0 a0_1 a0_2 a0_3 a1_0 a1_1 a1_2 a1_3 a2 true _ A22.out).mono ?_); rintro e w38 ⟨rfl, hb⟩; have n0_ := Aside0.mk (blk_below (g := gb129) (o := .cells #[.int .u64 a0_0, .int .u32 a0_1, .int .u64 a0_2, .int .u16 a0_3] 31 (0, 0)) (by (with_reducible repeat (first | refine blk_drewN ?_ _ | refine blk_drew ?_ | refine blk_alloc ?_ _)); exact BK129.out) hb); have n1_ := Aside0.mk (blk_below (g := gb130) (o := .cells #[.int .u64 a1_0, .int .u32 a1_1, .int .u64 a1_2, .int .u16 a1_3] 31 (0, 0)) (by (with_reducible repeat (first | refine blk_drewN ?_ _ | refine blk_drew ?_ | refine blk_alloc ?_ _)); exact BK130.out) hb); have n2_ := Aside0.mk (below_step (by repeat (first | (with_reducible first | exact HB.out | apply below_alloc | apply pw_below_drewN | apply below_drew1 | refine below_set ?_ GE129.out | refine below_set ?_ GE130.out) | exact HB.out)) hb); clear BK129; clear BK130; clear HB; have BK129 := n0_; have BK130 := n1_; have HB := n2_; clear n0_ n1_ n2_; (try clear hb); (try clear hb2); (try clear hk); (try clear hi); have hcz39_0 : w38.cell? ⟨gb129, 0, none⟩ = some (.int .u64 a0_0) := (blk_cell BK129.out 0).trans rfl; have hcz39_1 : w38.cell? ⟨gb129, 1, none⟩ = some (.int .u32 a0_1) := (blk_cell BK129.out 1).trans rfl; have hcz39_2 : w38.cell? ⟨gb129, 2, none⟩ = some (.int .u64 a0_2) := (blk_cell BK129.out 2).trans rfl; have hcz39_3 : w38.cell? ⟨gb129, 3, none⟩ = some (.int .u16 a0_3) := (blk_cell BK129.out 3).trans rfl; have hfz39_0 := blk_frozen BK129.out 0; have hfz39_1 := blk_frozen BK129.out 1; have hfz39_2 := blk_frozen BK129.out 2; have hfz39_3 := blk_frozen BK129.out 3; have hcz40_0 : w38.cell? ⟨gb130, 0, none⟩ = some (.int .u64 a1_0) := (blk_cell BK130.out 0).trans rfl; have hcz40_1 : w38.cell? ⟨gb130, 1, none⟩ = some (.int .u32 a1_1) := (blk_cell BK130.out 1).trans rfl; have hcz40_2 : w38.cell? ⟨gb130, 2, none⟩ = some (.int .u64 a1_2) := (blk_cell BK130.out 2).trans rfl; have hcz40_3 : w38.cell? ⟨gb130, 3, none⟩ = some (.int .u16 a1_3) := (blk_cell BK130.out 3).trans rfl; have hfz40_0 := blk_frozen BK130.out 0; have hfz40_1 := blk_frozen BK130.out 1; have hfz40_2 := blk_frozen BK130.out 2; have hfz40_3 := blk_frozen BK130.out 3))
                go_meet
                case rel => exact ⟨_, (!false), (by first | rfl | (simp; done) | (simp [*]; done)), H', ⟨by have := HJ5.out; first | omega | exact Nat.le_refl _⟩, ⟨by (with_reducible repeat (first | refine blk_drewN ?_ _ | refine blk_drew ?_ | refine blk_alloc ?_ _)); exact BK129.out⟩, ⟨by (with_reducible repeat (first | refine blk_drewN ?_ _ | refine blk_drew ?_ | refine blk_alloc ?_ _)); exact BK130.out⟩, ⟨by repeat (first | (with_reducible first | exact HB.out | apply below_alloc | apply pw_below_drewN | apply below_drew1 | refine below_set ?_ GE129.out | refine below_set ?_ GE130.out) | exact HB.out)⟩⟩
            · rw [if_neg c25] at H
              have c25b0 : decide (0 < t133) = false := decide_eq_false c25
              clear c25
              (first | rw [c25b0] | (simp only [i64_w, i32_w]; rw [c25b0]) | skip)
              have H' := Aside0.mk H
              clear H
              have hnb42 := NB129_130.out
              have hnc42 := NB130_129.out
              have hcz43_0 : wc.cell? ⟨gb129, 0, none⟩ = some (.int .u64 a0_0) := (blk_cell BK129.out 0).trans rfl
              have hcz43_1 : wc.cell? ⟨gb129, 1, none⟩ = some (.int .u32 a0_1) := (blk_cell BK129.out 1).trans rfl
              have hcz43_2 : wc.cell? ⟨gb129, 2, none⟩ = some (.int .u64 a0_2) := (blk_cell BK129.out 2).trans rfl
              have hcz43_3 : wc.cell? ⟨gb129, 3, none⟩ = some (.int .u16 a0_3) := (blk_cell BK129.out 3).trans rfl
              have hfz43_0 := blk_frozen BK129.out 0
              have hfz43_1 := blk_frozen BK129.out 1
              have hfz43_2 := blk_frozen BK129.out 2
              have hfz43_3 := blk_frozen BK129.out 3
              have hcz44_0 : wc.cell? ⟨gb130, 0, none⟩ = some (.int .u64 a1_0) := (blk_cell BK130.out 0).trans rfl
              have hcz44_1 : wc.cell? ⟨gb130, 1, none⟩ = some (.int .u32 a1_1) := (blk_cell BK130.out 1).trans rfl
              have hcz44_2 : wc.cell? ⟨gb130, 2, none⟩ = some (.int .u64 a1_2) := (blk_cell BK130.out 2).trans rfl
              have hcz44_3 : wc.cell? ⟨gb130, 3, none⟩ = some (.int .u16 a1_3) := (blk_cell BK130.out 3).trans rfl
              have hfz44_0 := blk_frozen BK130.out 0
              have hfz44_1 := blk_frozen BK130.out 1
              have hfz44_2 := blk_frozen BK130.out 2
              have hfz44_3 := blk_frozen BK130.out 3
              go_wp2_with (first | ((with_reducible refine gate_callee (f := 18) rfl ?_); refine goesL_ (some 34) rfl rfl Try.func18 (by kernel_rfl) rfl #[.agg #[.int .u64 a0_0, .int .u32 a0_1, .int .u64 a0_2, .int .u16 a0_3], .agg #[.int .u64 a1_0, .int .u32 a1_1, .int .u64 a1_2, .int .u16 a1_3], .int .u64 a2] rfl (by (try simp only [List.map_toArray, List.map_cons, List.map_nil]); first | done | rfl | (simp only [List.length_drop, List.length_take]; rfl)) ?_; (with_reducible refine (rank_Supersedes.calls kj5 a0_0 a0_1 a0_2 a0_3 a1_0 a1_1 a1_2 a1_3 a2 true _ A22.out).mono ?_); rintro e w45 ⟨rfl, hb⟩; refine ⟨_, rfl, ?_⟩; have n0_ := Aside0.mk (blk_below (g := gb129) (o := .cells #[.int .u64 a0_0, .int .u32 a0_1, .int .u64 a0_2, .int .u16 a0_3] 31 (0, 0)) (by (with_reducible repeat (first | refine blk_drewN ?_ _ | refine blk_drew ?_ | refine blk_alloc ?_ _)); exact BK129.out) hb); have n1_ := Aside0.mk (blk_below (g := gb130) (o := .cells #[.int .u64 a1_0, .int .u32 a1_1, .int .u64 a1_2, .int .u16 a1_3] 31 (0, 0)) (by (with_reducible repeat (first | refine blk_drewN ?_ _ | refine blk_drew ?_ | refine blk_alloc ?_ _)); exact BK130.out) hb); have n2_ := Aside0.mk (below_step (by repeat (first | (with_reducible first | exact HB.out | apply below_alloc | apply pw_below_drewN | apply below_drew1 | refine below_set ?_ GE129.out | refine below_set ?_ GE130.out) | exact HB.out)) hb); clear BK129; clear BK130; clear HB; have BK129 := n0_; have BK130 := n1_; have HB := n2_; clear n0_ n1_ n2_; (try clear hb); (try clear hb2); (try clear hk); (try clear hi); have hcz46_0 : w45.cell? ⟨gb129, 0, none⟩ = some (.int .u64 a0_0) := (blk_cell BK129.out 0).trans rfl; have hcz46_1 : w45.cell? ⟨gb129, 1, none⟩ = some (.int .u32 a0_1) := (blk_cell BK129.out 1).trans rfl; have hcz46_2 : w45.cell? ⟨gb129, 2, none⟩ = some (.int .u64 a0_2) := (blk_cell BK129.out 2).trans rfl; have hcz46_3 : w45.cell? ⟨gb129, 3, none⟩ = some (.int .u16 a0_3) := (blk_cell BK129.out 3).trans rfl; have hfz46_0 := blk_frozen BK129.out 0; have hfz46_1 := blk_frozen BK129.out 1; have hfz46_2 := blk_frozen BK129.out 2; have hfz46_3 := blk_frozen BK129.out 3; have hcz47_0 : w45.cell? ⟨gb130, 0, none⟩ = some (.int .u64 a1_0) := (blk_cell BK130.out 0).trans rfl; have hcz47_1 : w45.cell? ⟨gb130, 1, none⟩ = some (.int .u32 a1_1) := (blk_cell BK130.out 1).trans rfl; have hcz47_2 : w45.cell? ⟨gb130, 2, none⟩ = some (.int .u64 a1_2) := (blk_cell BK130.out 2).trans rfl; have hcz47_3 : w45.cell? ⟨gb130, 3, none⟩ = some (.int .u16 a1_3) := (blk_cell BK130.out 3).trans rfl; have hfz47_0 := blk_frozen BK130.out 0; have hfz47_1 := blk_frozen BK130.out 1; have hfz47_2 := blk_frozen BK130.out 2; have hfz47_3 := blk_frozen BK130.out 3) | (go_at_call 16; (with_reducible refine (rank_Compare.calls kj5 a0_0 a0_1 a0_2 a0_3 a1_0 a1_1 a1_2 a1_3 t133 _ A24.out).mono ?_); rintro e w48 ⟨rfl, hb⟩; have n0_ := Aside0.mk (blk_below (g := gb129) (o := .cells #[.int .u64 a0_0, .int .u32 a0_1, .int .u64 a0_2, .int .u16 a0_3] 31 (0, 0)) (by (with_reducible repeat (first | refine blk_drewN ?_ _ | refine blk_drew ?_ | refine blk_alloc ?_ _)); exact BK129.out) hb); have n1_ := Aside0.mk (blk_below (g := gb130) (o := .cells #[.int .u64 a1_0, .int .u32 a1_1, .int .u64 a1_2, .int .u16 a1_3] 31 (0, 0)) (by (with_reducible repeat (first | refine blk_drewN ?_ _ | refine blk_drew ?_ | refine blk_alloc ?_ _)); exact BK130.out) hb); have n2_ := Aside0.mk (below_step (by repeat (first | (with_reducible first | exact HB.out | apply below_alloc | apply pw_below_drewN | apply below_drew1 | refine below_set ?_ GE129.out | refine below_set ?_ GE130.out) | exact HB.out)) hb); clear BK129; clear BK130; clear HB; have BK129 := n0_; have BK130 := n1_; have HB := n2_; clear n0_ n1_ n2_; (try clear hb); (try clear hb2); (try clear hk); (try clear hi)) | (go_at_call 18; (with_reducible refine (rank_Supersedes.calls kj5 a0_0 a0_1 a0_2 a0_3 a1_0 a1_1 a1_2 a1_3 a2 true _ A22.out).mono ?_); rintro e w45 ⟨rfl, hb⟩; have n0_ := Aside0.mk (blk_below (g := gb129) (o := .cells #[.int .u64 a0_0, .int .u32 a0_1, .int .u64 a0_2, .int .u16 a0_3] 31 (0, 0)) (by (with_reducible repeat (first | refine blk_drewN ?_ _ | refine blk_drew ?_ | refine blk_alloc ?_ _)); exact BK129.out) hb); have n1_ := Aside0.mk (blk_below (g := gb130) (o := .cells #[.int .u64 a1_0, .int .u32 a1_1, .int .u64 a1_2, .int .u16 a1_3] 31 (0, 0)) (by (with_reducible repeat (first | refine blk_drewN ?_ _ | refine blk_drew ?_ | refine blk_alloc ?_ _)); exact BK130.out) hb); have n2_ := Aside0.mk (below_step (by repeat (first | (with_reducible first | exact HB.out | apply below_alloc | apply pw_below_drewN | apply below_drew1 | refine below_set ?_ GE129.out | refine below_set ?_ GE130.out) | exact HB.out)) hb); clear BK129; clear BK130; clear HB; have BK129 := n0_; have BK130 := n1_; have HB := n2_; clear n0_ n1_ n2_; (try clear hb); (try clear hb2); (try clear hk); (try clear hi); have hcz46_0 : w45.cell? ⟨gb129, 0, none⟩ = some (.int .u64 a0_0) := (blk_cell BK129.out 0).trans rfl; have hcz46_1 : w45.cell? ⟨gb129, 1, none⟩ = some (.int .u32 a0_1) := (blk_cell BK129.out 1).trans rfl; have hcz46_2 : w45.cell? ⟨gb129, 2, none⟩ = some (.int .u64 a0_2) := (blk_cell BK129.out 2).trans rfl; have hcz46_3 : w45.cell? ⟨gb129, 3, none⟩ = some (.int .u16 a0_3) := (blk_cell BK129.out 3).trans rfl; have hfz46_0 := blk_frozen BK129.out 0; have hfz46_1 := blk_frozen BK129.out 1; have hfz46_2 := blk_frozen BK129.out 2; have hfz46_3 := blk_frozen BK129.out 3; have hcz47_0 : w45.cell? ⟨gb130, 0, none⟩ = some (.int .u64 a1_0) := (blk_cell BK130.out 0).trans rfl; have hcz47_1 : w45.cell? ⟨gb130, 1, none⟩ = some (.int .u32 a1_1) := (blk_cell BK130.out 1).trans rfl; have hcz47_2 : w45.cell? ⟨gb130, 2, none⟩ = some (.int .u64 a1_2) := (blk_cell BK130.out 2).trans rfl; have hcz47_3 : w45.cell? ⟨gb130, 3, none⟩ = some (.int .u16 a1_3) := (blk_cell BK130.out 3).trans rfl; have hfz47_0 := blk_frozen BK130.out 0; have hfz47_1 := blk_frozen BK130.out 1; have hfz47_2 := blk_frozen BK130.out 2; have hfz47_3 := blk_frozen BK130.out 3))
              go_meet
              case rel => exact ⟨_, (false), (by first | rfl | (simp; done) | (simp [*]; done)), H', ⟨by have := HJ5.out; first | omega | exact Nat.le_refl _⟩, ⟨by (with_reducible repeat (first | refine blk_drewN ?_ _ | refine blk_drew ?_ | refine blk_alloc ?_ _)); exact BK129.out⟩, ⟨by (with_reducible repeat (first | refine blk_drewN ?_ _ | refine blk_drew ?_ | refine blk_alloc ?_ _)); exact BK130.out⟩, ⟨by repeat (first | (with_reducible first | exact HB.out | apply below_alloc | apply pw_below_drewN | apply below_drew1 | refine below_set ?_ GE129.out | refine below_set ?_ GE130.out) | exact HB.out)⟩⟩
          · replace c23 := Bool.eq_false_iff.mpr c23
            subst c23
            have H1 : (treelinelaw10_RankTakes.j1 kj5 a2 x8_5 false a0_0 a0_1 a0_2 a0_3 a1_0 a1_1 a1_2 a1_3) = some r := by rw [if_neg (show ¬ (false = true) by decide)] at H; exact H
            clear H
            have H := H1
            clear H1
            have H' := Aside0.mk H
            clear H
            have hnb49 := NB129_130.out
            have hnc49 := NB130_129.out
            have hcz50_0 : wc.cell? ⟨gb129, 0, none⟩ = some (.int .u64 a0_0) := (blk_cell BK129.out 0).trans rfl
            have hcz50_1 : wc.cell? ⟨gb129, 1, none⟩ = some (.int .u32 a0_1) := (blk_cell BK129.out 1).trans rfl
            have hcz50_2 : wc.cell? ⟨gb129, 2, none⟩ = some (.int .u64 a0_2) := (blk_cell BK129.out 2).trans rfl
            have hcz50_3 : wc.cell? ⟨gb129, 3, none⟩ = some (.int .u16 a0_3) := (blk_cell BK129.out 3).trans rfl
            have hfz50_0 := blk_frozen BK129.out 0
            have hfz50_1 := blk_frozen BK129.out 1
            have hfz50_2 := blk_frozen BK129.out 2
            have hfz50_3 := blk_frozen BK129.out 3
            have hcz51_0 : wc.cell? ⟨gb130, 0, none⟩ = some (.int .u64 a1_0) := (blk_cell BK130.out 0).trans rfl
            have hcz51_1 : wc.cell? ⟨gb130, 1, none⟩ = some (.int .u32 a1_1) := (blk_cell BK130.out 1).trans rfl
            have hcz51_2 : wc.cell? ⟨gb130, 2, none⟩ = some (.int .u64 a1_2) := (blk_cell BK130.out 2).trans rfl
            have hcz51_3 : wc.cell? ⟨gb130, 3, none⟩ = some (.int .u16 a1_3) := (blk_cell BK130.out 3).trans rfl
            have hfz51_0 := blk_frozen BK130.out 0
            have hfz51_1 := blk_frozen BK130.out 1
            have hfz51_2 := blk_frozen BK130.out 2
            have hfz51_3 := blk_frozen BK130.out 3
            go_wp2_with (first | ((with_reducible refine gate_callee (f := 18) rfl ?_); refine goesL_ (some 34) rfl rfl Try.func18 (by kernel_rfl) rfl #[.agg #[.int .u64 a0_0, .int .u32 a0_1, .int .u64 a0_2, .int .u16 a0_3], .agg #[.int .u64 a1_0, .int .u32 a1_1, .int .u64 a1_2, .int .u16 a1_3], .int .u64 a2] rfl (by (try simp only [List.map_toArray, List.map_cons, List.map_nil]); first | done | rfl | (simp only [List.length_drop, List.length_take]; rfl)) ?_; (with_reducible refine (rank_Supersedes.calls kj5 a0_0 a0_1 a0_2 a0_3 a1_0 a1_1 a1_2 a1_3 a2 false _ A22.out).mono ?_); rintro e w52 ⟨rfl, hb⟩; refine ⟨_, rfl, ?_⟩; have n0_ := Aside0.mk (blk_below (g := gb129) (o := .cells #[.int .u64 a0_0, .int .u32 a0_1, .int .u64 a0_2, .int .u16 a0_3] 31 (0, 0)) (by (with_reducible repeat (first | refine blk_drewN ?_ _ | refine blk_drew ?_ | refine blk_alloc ?_ _)); exact BK129.out) hb); have n1_ := Aside0.mk (blk_below (g := gb130) (o := .cells #[.int .u64 a1_0, .int .u32 a1_1, .int .u64 a1_2, .int .u16 a1_3] 31 (0, 0)) (by (with_reducible repeat (first | refine blk_drewN ?_ _ | refine blk_drew ?_ | refine blk_alloc ?_ _)); exact BK130.out) hb); have n2_ := Aside0.mk (below_step (by repeat (first | (with_reducible first | exact HB.out | apply below_alloc | apply pw_below_drewN | apply below_drew1 | refine below_set ?_ GE129.out | refine below_set ?_ GE130.out) | exact HB.out)) hb); clear BK129; clear BK130; clear HB; have BK129 := n0_; have BK130 := n1_; have HB := n2_; clear n0_ n1_ n2_; (try clear hb); (try clear hb2); (try clear hk); (try clear hi)) | (go_at_call 18; (with_reducible refine (rank_Supersedes.calls kj5 a0_0 a0_1 a0_2 a0_3 a1_0 a1_1 a1_2 a1_3 a2 false _ A22.out).mono ?_); rintro e w52 ⟨rfl, hb⟩; have n0_ := Aside0.mk (blk_below (g := gb129) (o := .cells #[.int .u64 a0_0, .int .u32 a0_1, .int .u64 a0_2, .int .u16 a0_3] 31 (0, 0)) (by (with_reducible repeat (first | refine blk_drewN ?_ _ | refine blk_drew ?_ | refine blk_alloc ?_ _)); exact BK129.out) hb); have n1_ := Aside0.mk (blk_below (g := gb130) (o := .cells #[.int .u64 a1_0, .int .u32 a1_1, .int .u64 a1_2, .int .u16 a1_3] 31 (0, 0)) (by (with_reducible repeat (first | refine blk_drewN ?_ _ | refine blk_drew ?_ | refine blk_alloc ?_ _)); exact BK130.out) hb); have n2_ := Aside0.mk (below_step (by repeat (first | (with_reducible first | exact HB.out | apply below_alloc | apply pw_below_drewN | apply below_drew1 | refine below_set ?_ GE129.out | refine below_set ?_ GE130.out) | exact HB.out)) hb); clear BK129; clear BK130; clear HB; have BK129 := n0_; have BK130 := n1_; have HB := n2_; clear n0_ n1_ n2_; (try clear hb); (try clear hb2); (try clear hk); (try clear hi)))
            go_meet
            case rel => exact ⟨_, (false), (by first | rfl | (simp; done) | (simp [*]; done)), H', ⟨by have := HJ5.out; first | omega | exact Nat.le_refl _⟩, ⟨by (with_reducible repeat (first | refine blk_drewN ?_ _ | refine blk_drew ?_ | refine blk_alloc ?_ _)); exact BK129.out⟩, ⟨by (with_reducible repeat (first | refine blk_drewN ?_ _ | refine blk_drew ?_ | refine blk_alloc ?_ _)); exact BK130.out⟩, ⟨by repeat (first | (with_reducible first | exact HB.out | apply below_alloc | apply pw_below_drewN | apply below_drew1 | refine below_set ?_ GE129.out | refine below_set ?_ GE130.out) | exact HB.out)⟩⟩
        case rest =>
          clear HC21
          try clear c1
          try clear c2
          try clear p2
          try clear c3
          try clear c4
          try clear c5
          try clear c6
          try clear c10
          try clear c10b0
          try clear c10b1
          try clear c11
          try clear c11b0
          try clear c11b1
          try clear c12
          try clear c15
          try clear c18
          try clear c23
          try clear c25
          try clear c25b0
          try clear c26
          try clear c27
          try clear c35
          try clear c42
          try clear c49
          try clear hcz13_0
          try clear hcz13_1
          try clear hcz13_2
          try clear hcz13_3
          try clear hcz14_0
          try clear hcz14_1
          try clear hcz14_2
          try clear hcz14_3
          try clear hcz16_0
          try clear hcz16_1
          try clear hcz16_2
          try clear hcz16_3
          try clear hcz17_0
          try clear hcz17_1
          try clear hcz17_2
          try clear hcz17_3
          try clear hcz19_0
          try clear hcz19_1
          try clear hcz19_2
          try clear hcz19_3
          try clear hcz20_0
          try clear hcz20_1
          try clear hcz20_2
          try clear hcz20_3
          try clear hcz28_0
          try clear hcz28_1
          try clear hcz28_2
          try clear hcz28_3
          try clear hcz29_0
          try clear hcz29_1
          try clear hcz29_2
          try clear hcz29_3
          try clear hcz31_0
          try clear hcz31_1
          try clear hcz31_2
          try clear hcz31_3
          try clear hcz32_0
          try clear hcz32_1
          try clear hcz32_2
          try clear hcz32_3
          try clear hcz34_0
          try clear hcz34_1
          try clear hcz34_2
          try clear hcz34_3
          try clear hcz36_0
          try clear hcz36_1
          try clear hcz36_2
          try clear hcz36_3
          try clear hcz37_0
          try clear hcz37_1
          try clear hcz37_2
          try clear hcz37_3
          try clear hcz39_0
          try clear hcz39_1
          try clear hcz39_2
          try clear hcz39_3
          try clear hcz40_0
          try clear hcz40_1
          try clear hcz40_2
          try clear hcz40_3
          try clear hcz43_0
          try clear hcz43_1
          try clear hcz43_2
          try clear hcz43_3
          try clear hcz44_0
          try clear hcz44_1
          try clear hcz44_2
          try clear hcz44_3
          try clear hcz46_0
          try clear hcz46_1
          try clear hcz46_2
          try clear hcz46_3
          try clear hcz47_0
          try clear hcz47_1
          try clear hcz47_2
          try clear hcz47_3
          try clear hcz50_0
          try clear hcz50_1
          try clear hcz50_2
          try clear hcz50_3
          try clear hcz51_0
          try clear hcz51_1
          try clear hcz51_2
          try clear hcz51_3
          try clear hfz13_0
          try clear hfz13_1
          try clear hfz13_2
          try clear hfz13_3
          try clear hfz14_0
          try clear hfz14_1
          try clear hfz14_2
          try clear hfz14_3
          try clear hfz16_0
          try clear hfz16_1
          try clear hfz16_2
          try clear hfz16_3
          try clear hfz17_0
          try clear hfz17_1
          try clear hfz17_2
          try clear hfz17_3
          try clear hfz19_0
          try clear hfz19_1
          try clear hfz19_2
          try clear hfz19_3
          try clear hfz20_0
          try clear hfz20_1
          try clear hfz20_2
          try clear hfz20_3
          try clear hfz28_0
          try clear hfz28_1
          try clear hfz28_2
          try clear hfz28_3
          try clear hfz29_0
          try clear hfz29_1
          try clear hfz29_2
          try clear hfz29_3
          try clear hfz31_0
          try clear hfz31_1
          try clear hfz31_2
          try clear hfz31_3
          try clear hfz32_0
          try clear hfz32_1
          try clear hfz32_2
          try clear hfz32_3
          try clear hfz34_0
          try clear hfz34_1
          try clear hfz34_2
          try clear hfz34_3
          try clear hfz36_0
          try clear hfz36_1
          try clear hfz36_2
          try clear hfz36_3
          try clear hfz37_0
          try clear hfz37_1
          try clear hfz37_2
          try clear hfz37_3
          try clear hfz39_0
          try clear hfz39_1
          try clear hfz39_2
          try clear hfz39_3
          try clear hfz40_0
          try clear hfz40_1
          try clear hfz40_2
          try clear hfz40_3
          try clear hfz43_0
          try clear hfz43_1
          try clear hfz43_2
          try clear hfz43_3
          try clear hfz44_0
          try clear hfz44_1
          try clear hfz44_2
          try clear hfz44_3
          try clear hfz46_0
          try clear hfz46_1
          try clear hfz46_2
          try clear hfz46_3
          try clear hfz47_0
          try clear hfz47_1
          try clear hfz47_2
          try clear hfz47_3
          try clear hfz50_0
          try clear hfz50_1
          try clear hfz50_2
          try clear hfz50_3
          try clear hfz51_0
          try clear hfz51_1
          try clear hfz51_2
          try clear hfz51_3
          try clear p2
          obtain ⟨kq, x50_20, rfl, HA, HJ20, BK129, BK130, HB⟩ := hcut
          cases kq with
          | zero => exact absurd HA.out (by simp [treelinelaw10_RankTakes.j1])
          | succ kj20 =>
            have H := HA.out
            clear HA
            simp only [treelinelaw10_RankTakes.j1] at H
            by_cases c53 : x50_20 = true
            · subst c53
              have H1 : (some false) = some r := by rw [if_pos rfl] at H; exact H
              clear H
              have H := H1
              clear H1
              exact absurd ((Option.some.inj H).trans LRT.out) (by decide)
            · replace c53 := Bool.eq_false_iff.mpr c53
              subst c53
              have H1 : (if x8_5 = true then ((rank_Supersedes.f kj20 a1_0 a1_1 a1_2 a1_3 a1_0 a1_1 a1_2 a1_3 a2).bind fun t134 => (some t134)) else ((rank_Supersedes.f kj20 a0_0 a0_1 a0_2 a0_3 a1_0 a1_1 a1_2 a1_3 a2).bind fun t135 => ((rank_Compare.f kj20 a0_0 a0_1 a0_2 a0_3 a1_0 a1_1 a1_2 a1_3).bind fun t136 => (if (t135 != (decide (t136 < 0))) = true then (some false) else ((rank_Supersedes.f kj20 a1_0 a1_1 a1_2 a1_3 a1_0 a1_1 a1_2 a1_3 a2).bind fun t137 => (some t137)))))) = some r := by rw [if_neg (show ¬ (false = true) by decide)] at H; exact H
              clear H
              have H := H1
              clear H1
              by_cases c54 : x8_5 = true
              · subst c54
                have H1 : ((rank_Supersedes.f kj20 a1_0 a1_1 a1_2 a1_3 a1_0 a1_1 a1_2 a1_3 a2).bind fun t134 => (some t134)) = some r := by rw [if_pos rfl] at H; exact H
                clear H
                have H := H1
                clear H1
                replace H := Option.bind_eq_some_iff.mp H
                obtain ⟨t134, A550, H⟩ := H
                replace H : (some t134) = some r := H
                have A55 := Aside0.mk A550
                clear A550
                obtain rfl := Option.some.inj H
                (try exact absurd LRT.out (by decide))
                all_goals
                  try go_wp2
                  have n0_ := Aside0.mk (blk_drew BK129.out)
                  have n1_ := Aside0.mk (blk_drew BK130.out)
                  have n2_ := Aside0.mk (below_drew1 HB.out)
                  clear BK129
                  clear BK130
                  clear HB
                  have BK129 := n0_
                  have BK130 := n1_
                  have HB := n2_
                  clear n0_ n1_ n2_
                  refine start_ (n := 13) (S := fun w' => True) (ds := []) #[false, false, false, false, false, false, false, false, false, false, false, false, false] (by kernel_rfl) rfl rfl trivial (fun hHeld => ?_); refine with_tabW treelinelaw10_RankTakes.tab7 treelinelaw10_RankTakes.bits7 (fun HT_ HW_ => ?_)
                  generalize wc.drew = w56 at BK129 BK130 HB hHeld ⊢
                  refine pure_ (i := 0) (N := some 51) (v := ?_) (a' := ?_) #[true, false, false, false, false, false, false, false, false, false, false, false, false] rfl rfl (any_of HT_.out (by kernel_rfl)) (fun _ _ _ h => h) (Or.inl ⟨by rfl, ?_⟩) ?_ ?_
                  rotate_left
                  · intro w'
                    go_simp
                    with_reducible rfl
                  rotate_left
                  · simp only [Act.put, List.setIfInBounds_toArray, List.set_cons_zero, List.set_cons_succ, i64_w, i32_w]
                    rfl
                  refine pure_ (i := 1) (N := some 52) (v := ?_) (a' := ?_) #[true, true, false, false, false, false, false, false, false, false, false, false, false] rfl rfl (any_of HT_.out (by kernel_rfl)) (fun _ _ _ h => h) (Or.inl ⟨by rfl, ?_⟩) ?_ ?_
                  rotate_left
                  · intro w'
                    go_simp
                    with_reducible rfl
                  rotate_left
                  · simp only [Act.put, List.setIfInBounds_toArray, List.set_cons_zero, List.set_cons_succ, i64_w, i32_w]
                    rfl
                  refine pure_ (i := 2) (N := some 53) (v := ?_) (a' := ?_) #[true, true, true, false, false, false, false, false, false, false, false, false, false] rfl rfl (any_of HT_.out (by kernel_rfl)) (fun _ _ _ h => h) (Or.inl ⟨by rfl, ?_⟩) ?_ ?_
                  rotate_left
                  · intro w'
                    go_simp
                    with_reducible rfl
                  rotate_left
                  · simp only [Act.put, List.setIfInBounds_toArray, List.set_cons_zero, List.set_cons_succ, i64_w, i32_w]
                    rfl
                  refine pure_ (i := 3) (N := some 54) (v := undef) (a' := ?_) #[true, true, true, true, false, false, false, false, false, false, false, false, false] rfl rfl (any_of HT_.out (by kernel_rfl)) (fun _ _ _ h => h) (Or.inr ⟨by rfl, rfl⟩) ?_ ?_
                  rotate_left
                  · simp only [Act.put, List.setIfInBounds_toArray, List.set_cons_zero, List.set_cons_succ, i64_w, i32_w]
                    rfl
                  refine pure_ (i := 4) (N := some 55) (v := undef) (a' := ?_) #[true, true, true, true, true, false, false, false, false, false, false, false, false] rfl rfl (any_of HT_.out (by kernel_rfl)) (fun _ _ _ h => h) (Or.inr ⟨by rfl, rfl⟩) ?_ ?_
                  rotate_left
                  · simp only [Act.put, List.setIfInBounds_toArray, List.set_cons_zero, List.set_cons_succ, i64_w, i32_w]
                    rfl
                  refine pure_ (i := 5) (N := some 56) (v := undef) (a' := ?_) #[true, true, true, true, true, true, false, false, false, false, false, false, false] rfl rfl (any_of HT_.out (by kernel_rfl)) (fun _ _ _ h => h) (Or.inr ⟨by rfl, rfl⟩) ?_ ?_
                  rotate_left
                  · simp only [Act.put, List.setIfInBounds_toArray, List.set_cons_zero, List.set_cons_succ, i64_w, i32_w]
                    rfl
                  refine pure_ (i := 6) (N := some 57) (v := undef) (a' := ?_) #[true, true, true, true, true, true, true, false, false, false, false, false, false] rfl rfl (any_of HT_.out (by kernel_rfl)) (fun _ _ _ h => h) (Or.inr ⟨by rfl, rfl⟩) ?_ ?_
                  rotate_left
                  · simp only [Act.put, List.setIfInBounds_toArray, List.set_cons_zero, List.set_cons_succ, i64_w, i32_w]
                    rfl
                  refine pure_ (i := 7) (N := some 58) (v := undef) (a' := ?_) #[true, true, true, true, true, true, true, true, false, false, false, false, false] rfl rfl (any_of HT_.out (by kernel_rfl)) (fun _ _ _ h => h) (Or.inr ⟨by rfl, rfl⟩) ?_ ?_
                  rotate_left
                  · simp only [Act.put, List.setIfInBounds_toArray, List.set_cons_zero, List.set_cons_succ, i64_w, i32_w]
                    rfl
                  refine pure_ (i := 8) (N := some 59) (v := undef) (a' := ?_) #[true, true, true, true, true, true, true, true, true, false, false, false, false] rfl rfl (any_of HT_.out (by kernel_rfl)) (fun _ _ _ h => h) (Or.inr ⟨by rfl, rfl⟩) ?_ ?_
                  rotate_left
                  · simp only [Act.put, List.setIfInBounds_toArray, List.set_cons_zero, List.set_cons_succ, i64_w, i32_w]
                    rfl
                  refine pure_ (i := 9) (N := some 60) (v := undef) (a' := ?_) #[true, true, true, true, true, true, true, true, true, true, false, false, false] rfl rfl (any_of HT_.out (by kernel_rfl)) (fun _ _ _ h => h) (Or.inr ⟨by rfl, rfl⟩) ?_ ?_
                  rotate_left
                  · simp only [Act.put, List.setIfInBounds_toArray, List.set_cons_zero, List.set_cons_succ, i64_w, i32_w]
                    rfl
                  refine pure_ (i := 10) (N := some 61) (v := undef) (a' := ?_) #[true, true, true, true, true, true, true, true, true, true, true, false, false] rfl rfl (any_of HT_.out (by kernel_rfl)) (fun _ _ _ h => h) (Or.inr ⟨by rfl, rfl⟩) ?_ ?_
                  rotate_left
                  · simp only [Act.put, List.setIfInBounds_toArray, List.set_cons_zero, List.set_cons_succ, i64_w, i32_w]
                    rfl
                  refine pure_ (i := 11) (N := some 62) (v := undef) (a' := ?_) #[true, true, true, true, true, true, true, true, true, true, true, true, false] rfl rfl (any_of HT_.out (by kernel_rfl)) (fun _ _ _ h => h) (Or.inr ⟨by rfl, rfl⟩) ?_ ?_
                  rotate_left
                  · simp only [Act.put, List.setIfInBounds_toArray, List.set_cons_zero, List.set_cons_succ, i64_w, i32_w]
                    rfl
                  refine pure_ (i := 12) (N := some 63) (v := ?_) (a' := ?_) #[true, true, true, true, true, true, true, true, true, true, true, true, true] rfl rfl (any_of HT_.out (by kernel_rfl)) (fun _ _ _ h => h) (Or.inl ⟨by rfl, ?_⟩) ?_ ?_
                  rotate_left
                  · intro w'
                    go_simp
                    with_reducible rfl
                  rotate_left
                  · simp only [Act.put, List.setIfInBounds_toArray, List.set_cons_zero, List.set_cons_succ, i64_w, i32_w]
                    rfl
                  refine done_ (done_of HT_.out (by kernel_rfl)) ?_
                  have hnb57 := NB130_129.out
                  have hnc57 := NB129_130.out
                  have hcz58_0 : w56.cell? ⟨gb130, 0, none⟩ = some (.int .u64 a1_0) := (blk_cell BK130.out 0).trans rfl
                  have hcz58_1 : w56.cell? ⟨gb130, 1, none⟩ = some (.int .u32 a1_1) := (blk_cell BK130.out 1).trans rfl
                  have hcz58_2 : w56.cell? ⟨gb130, 2, none⟩ = some (.int .u64 a1_2) := (blk_cell BK130.out 2).trans rfl
                  have hcz58_3 : w56.cell? ⟨gb130, 3, none⟩ = some (.int .u16 a1_3) := (blk_cell BK130.out 3).trans rfl
                  have hfz58_0 := blk_frozen BK130.out 0
                  have hfz58_1 := blk_frozen BK130.out 1
                  have hfz58_2 := blk_frozen BK130.out 2
                  have hfz58_3 := blk_frozen BK130.out 3
                  try go_wp2_with (first | ((with_reducible refine gate_callee (f := 18) rfl ?_); refine goesL_ (some 67) rfl rfl Try.func18 (by kernel_rfl) rfl #[.agg #[.int .u64 a1_0, .int .u32 a1_1, .int .u64 a1_2, .int .u16 a1_3], .agg #[.int .u64 a1_0, .int .u32 a1_1, .int .u64 a1_2, .int .u16 a1_3], .int .u64 a2] rfl (by (try simp only [List.map_toArray, List.map_cons, List.map_nil]); first | done | rfl | (simp only [List.length_drop, List.length_take]; rfl)) ?_; (with_reducible refine (rank_Supersedes.calls kj20 a1_0 a1_1 a1_2 a1_3 a1_0 a1_1 a1_2 a1_3 a2 t134 _ A55.out).mono ?_); rintro e w59 ⟨rfl, hb⟩; refine ⟨_, rfl, ?_⟩; have n0_ := Aside0.mk (blk_below (g := gb129) (o := .cells #[.int .u64 a0_0, .int .u32 a0_1, .int .u64 a0_2, .int .u16 a0_3] 31 (0, 0)) (by (with_reducible repeat (first | refine blk_drewN ?_ _ | refine blk_drew ?_ | refine blk_alloc ?_ _)); exact BK129.out) hb); have n1_ := Aside0.mk (blk_below (g := gb130) (o := .cells #[.int .u64 a1_0, .int .u32 a1_1, .int .u64 a1_2, .int .u16 a1_3] 31 (0, 0)) (by (with_reducible repeat (first | refine blk_drewN ?_ _ | refine blk_drew ?_ | refine blk_alloc ?_ _)); exact BK130.out) hb); have n2_ := Aside0.mk (below_step (by repeat (first | (with_reducible first | exact HB.out | apply below_alloc | apply pw_below_drewN | apply below_drew1 | refine below_set ?_ GE129.out | refine below_set ?_ GE130.out) | exact HB.out)) hb); clear BK129; clear BK130; clear HB; have BK129 := n0_; have BK130 := n1_; have HB := n2_; clear n0_ n1_ n2_; (try clear hb); (try clear hb2); (try clear hk); (try clear hi)))
                  go_ret
                  exact ⟨by first | rfl | (simp [errW_none, errW_some] <;> rfl) | (simp [*, errW_none, errW_some] <;> rfl), by repeat (first | (with_reducible first | exact HB.out | apply below_alloc | apply pw_below_drewN | apply below_drew1 | refine below_set ?_ GE129.out | refine below_set ?_ GE130.out) | exact HB.out)⟩
              · replace c54 := Bool.eq_false_iff.mpr c54
                subst c54
                have H1 : ((rank_Supersedes.f kj20 a0_0 a0_1 a0_2 a0_3 a1_0 a1_1 a1_2 a1_3 a2).bind fun t135 => ((rank_Compare.f kj20 a0_0 a0_1 a0_2 a0_3 a1_0 a1_1 a1_2 a1_3).bind fun t136 => (if (t135 != (decide (t136 < 0))) = true then (some false) else ((rank_Supersedes.f kj20 a1_0 a1_1 a1_2 a1_3 a1_0 a1_1 a1_2 a1_3 a2).bind fun t137 => (some t137))))) = some r := by rw [if_neg (show ¬ (false = true) by decide)] at H; exact H
                clear H
                have H := H1
                clear H1
                replace H := Option.bind_eq_some_iff.mp H
                obtain ⟨t135, A600, H⟩ := H
                replace H : ((rank_Compare.f kj20 a0_0 a0_1 a0_2 a0_3 a1_0 a1_1 a1_2 a1_3).bind fun t136 => (if (t135 != (decide (t136 < 0))) = true then (some false) else ((rank_Supersedes.f kj20 a1_0 a1_1 a1_2 a1_3 a1_0 a1_1 a1_2 a1_3 a2).bind fun t137 => (some t137)))) = some r := H
                have A60 := Aside0.mk A600
                clear A600
                replace H := Option.bind_eq_some_iff.mp H
                obtain ⟨t136, A610, H⟩ := H
                replace H : (if (t135 != (decide (t136 < 0))) = true then (some false) else ((rank_Supersedes.f kj20 a1_0 a1_1 a1_2 a1_3 a1_0 a1_1 a1_2 a1_3 a2).bind fun t137 => (some t137))) = some r := H
                have A61 := Aside0.mk A610
                clear A610
                by_cases c62 : (t135 != (decide (t136 < 0))) = true
                · rw [if_pos c62] at H
                  have c62b0 : (t135 != (decide (t136 < 0))) = true := c62
                  (try (have c62b1 : decide (t135 = (decide (t136 < 0))) = false := by simpa using c62))
                  (try (have c62b2 : (t135 == (decide (t136 < 0))) = false := by simpa using c62))
                  (try (have c62b3 : ¬ (t135 = (decide (t136 < 0))) := by simpa using c62))
                  clear c62
                  exact absurd ((Option.some.inj H).trans LRT.out) (by decide)
                · rw [if_neg c62] at H
                  have c62b0 : (t135 != (decide (t136 < 0))) = false := by simpa using c62
                  (try (have c62b1 : decide (t135 = (decide (t136 < 0))) = true := by simpa using c62))
                  (try (have c62b2 : (t135 == (decide (t136 < 0))) = true := by simpa using c62))
                  clear c62
                  replace H := Option.bind_eq_some_iff.mp H
                  obtain ⟨t137, A660, H⟩ := H
                  replace H : (some t137) = some r := H
                  have A66 := Aside0.mk A660
                  clear A660
                  obtain rfl := Option.some.inj H
                  (try exact absurd LRT.out (by decide))
                  all_goals
                    try go_wp2
                    have n0_ := Aside0.mk (blk_drew BK129.out)
                    have n1_ := Aside0.mk (blk_drew BK130.out)
                    have n2_ := Aside0.mk (below_drew1 HB.out)
                    clear BK129
                    clear BK130
                    clear HB
                    have BK129 := n0_
                    have BK130 := n1_
                    have HB := n2_
                    clear n0_ n1_ n2_
                    refine start_ (n := 13) (S := fun w' => w'.cell? ⟨gb129, 0, none⟩ = some (.int .u64 a0_0) ∧ w'.cell? ⟨gb129, 1, none⟩ = some (.int .u32 a0_1) ∧ w'.cell? ⟨gb129, 2, none⟩ = some (.int .u64 a0_2) ∧ w'.cell? ⟨gb129, 3, none⟩ = some (.int .u16 a0_3) ∧ w'.cell? ⟨gb130, 0, none⟩ = some (.int .u64 a1_0) ∧ w'.cell? ⟨gb130, 1, none⟩ = some (.int .u32 a1_1) ∧ w'.cell? ⟨gb130, 2, none⟩ = some (.int .u64 a1_2) ∧ w'.cell? ⟨gb130, 3, none⟩ = some (.int .u16 a1_3)) (ds := []) #[false, false, false, false, false, false, false, false, false, false, false, false, false] (by kernel_rfl) rfl rfl ⟨(blk_cell BK129.out 0).trans rfl, (blk_cell BK129.out 1).trans rfl, (blk_cell BK129.out 2).trans rfl, (blk_cell BK129.out 3).trans rfl, (blk_cell BK130.out 0).trans rfl, (blk_cell BK130.out 1).trans rfl, (blk_cell BK130.out 2).trans rfl, (blk_cell BK130.out 3).trans rfl⟩ (fun hHeld => ?_); refine with_tabW treelinelaw10_RankTakes.tab7 treelinelaw10_RankTakes.bits7 (fun HT_ HW_ => ?_)
                    generalize wc.drew = w67 at BK129 BK130 HB hHeld ⊢
                    refine pure_ (i := 0) (N := some 51) (v := ?_) (a' := ?_) #[true, false, false, false, false, false, false, false, false, false, false, false, false] rfl rfl (any_of HT_.out (by kernel_rfl)) (fun _ _ _ h => h) (Or.inl ⟨by rfl, ?_⟩) ?_ ?_
                    rotate_left
                    · intro w'
                      go_simp
                      with_reducible rfl
                    rotate_left
                    · simp only [Act.put, List.setIfInBounds_toArray, List.set_cons_zero, List.set_cons_succ, i64_w, i32_w]
                      rfl
                    refine pure_ (i := 1) (N := some 52) (v := ?_) (a' := ?_) #[true, true, false, false, false, false, false, false, false, false, false, false, false] rfl rfl (any_of HT_.out (by kernel_rfl)) (fun _ _ _ h => h) (Or.inl ⟨by rfl, ?_⟩) ?_ ?_
                    rotate_left
                    · intro w'
                      go_simp
                      with_reducible rfl
                    rotate_left
                    · simp only [Act.put, List.setIfInBounds_toArray, List.set_cons_zero, List.set_cons_succ, i64_w, i32_w]
                      rfl
                    refine pure_ (i := 2) (N := some 53) (v := ?_) (a' := ?_) #[true, true, true, false, false, false, false, false, false, false, false, false, false] rfl rfl (any_of HT_.out (by kernel_rfl)) (fun _ _ _ h => h) (Or.inl ⟨by rfl, ?_⟩) ?_ ?_
                    rotate_left
                    · intro w'
                      go_simp
                      with_reducible rfl
                    rotate_left
                    · simp only [Act.put, List.setIfInBounds_toArray, List.set_cons_zero, List.set_cons_succ, i64_w, i32_w]
                      rfl
                    refine pure_ (i := 5) (N := some 56) (v := ?_) (a' := ?_) #[true, true, true, false, false, true, false, false, false, false, false, false, false] rfl rfl (any_of HT_.out (by kernel_rfl)) (fun _ _ _ h => h) (Or.inl ⟨by rfl, ?_⟩) ?_ ?_
                    rotate_left
                    · intro w'
                      go_simp
                      with_reducible rfl
                    rotate_left
                    · simp only [Act.put, List.setIfInBounds_toArray, List.set_cons_zero, List.set_cons_succ, i64_w, i32_w]
                      rfl
                    refine take_ (i := 3) (N := some 54) (v := ?_) (a' := ?_) #[true, true, true, true, false, true, false, false, false, false, false, false, false] rfl rfl (take_ofW HT_.out HW_.out (by kernel_rfl)) (fun _ _ _ h => h) (Or.inl ⟨by rfl, ?_⟩) hHeld ?_ ?_
                    rotate_left
                    · rintro w' ⟨s0, s1, s2, s3, s4, s5, s6, s7⟩
                      go_simp
                      with_reducible rfl
                    rotate_left
                    · simp only [Act.put, List.setIfInBounds_toArray, List.set_cons_zero, List.set_cons_succ, i64_w, i32_w]
                      rfl
                    refine take_ (i := 4) (N := some 55) (v := ?_) (a' := ?_) #[true, true, true, true, true, true, false, false, false, false, false, false, false] rfl rfl (take_ofW HT_.out HW_.out (by kernel_rfl)) (fun _ _ _ h => h) (Or.inl ⟨by rfl, ?_⟩) hHeld ?_ ?_
                    rotate_left
                    · rintro w' ⟨s0, s1, s2, s3, s4, s5, s6, s7⟩
                      go_simp
                      with_reducible rfl
                    rotate_left
                    · simp only [Act.put, List.setIfInBounds_toArray, List.set_cons_zero, List.set_cons_succ, i64_w, i32_w]
                      rfl
                    refine take_ (i := 7) (N := some 58) (v := ?_) (a' := ?_) #[true, true, true, true, true, true, false, true, false, false, false, false, false] rfl rfl (take_ofW HT_.out HW_.out (by kernel_rfl)) (fun _ _ _ h => h) (Or.inl ⟨by rfl, ?_⟩) hHeld ?_ ?_
                    rotate_left
                    · rintro w' ⟨s0, s1, s2, s3, s4, s5, s6, s7⟩
                      go_simp
                      with_reducible rfl
                    rotate_left
                    · simp only [Act.put, List.setIfInBounds_toArray, List.set_cons_zero, List.set_cons_succ, i64_w, i32_w]
                      rfl
                    refine take_ (i := 8) (N := some 59) (v := ?_) (a' := ?_) #[true, true, true, true, true, true, false, true, true, false, false, false, false] rfl rfl (take_ofW HT_.out HW_.out (by kernel_rfl)) (fun _ _ _ h => h) (Or.inl ⟨by rfl, ?_⟩) hHeld ?_ ?_
                    rotate_left
                    · rintro w' ⟨s0, s1, s2, s3, s4, s5, s6, s7⟩
                      go_simp
                      with_reducible rfl
                    rotate_left
                    · simp only [Act.put, List.setIfInBounds_toArray, List.set_cons_zero, List.set_cons_succ, i64_w, i32_w]
                      rfl
                    refine one_ (i := 6) (N := some 57) #[true, true, true, true, true, true, true, true, true, false, false, false, false] rfl rfl (one_of HT_.out (by kernel_rfl)) (by decide) (fun K hK => ?_)
                    refine goes_ Try.func18 (by kernel_rfl) rfl #[.agg #[.int .u64 a0_0, .int .u32 a0_1, .int .u64 a0_2, .int .u16 a0_3], .agg #[.int .u64 a1_0, .int .u32 a1_1, .int .u64 a1_2, .int .u16 a1_3], .int .u64 a2] (by rfl) rfl rfl (by (try simp only [List.map_toArray, List.map_cons, List.map_nil]); first | done | rfl | (simp only [List.length_drop, List.length_take]; rfl)) ?_
                    with_reducible refine (rank_Supersedes.calls kj20 a0_0 a0_1 a0_2 a0_3 a1_0 a1_1 a1_2 a1_3 a2 t135 _ A60.out).mono ?_
                    rintro e w68 ⟨rfl, hb⟩
                    refine ⟨_, rfl, ?_⟩
                    have n0_ := Aside0.mk (blk_below (g := gb129) (o := .cells #[.int .u64 a0_0, .int .u32 a0_1, .int .u64 a0_2, .int .u16 a0_3] 31 (0, 0)) (by (with_reducible repeat (first | refine blk_drewN ?_ _ | refine blk_drew ?_ | refine blk_alloc ?_ _)); exact BK129.out) hb)
                    have n1_ := Aside0.mk (blk_below (g := gb130) (o := .cells #[.int .u64 a1_0, .int .u32 a1_1, .int .u64 a1_2, .int .u16 a1_3] 31 (0, 0)) (by (with_reducible repeat (first | refine blk_drewN ?_ _ | refine blk_drew ?_ | refine blk_alloc ?_ _)); exact BK130.out) hb)
                    have n2_ := Aside0.mk (below_step (by repeat (first | (with_reducible first | exact HB.out | apply below_alloc | apply pw_below_drewN | apply below_drew1 | refine below_set ?_ GE129.out | refine below_set ?_ GE130.out) | exact HB.out)) hb)
                    clear BK129
                    clear BK130
                    clear HB
                    have BK129 := n0_
                    have BK130 := n1_
                    have HB := n2_
                    clear n0_ n1_ n2_
                    (try clear hb)
                    (try clear hb2)
                    (try clear hk)
                    (try clear hi)
                    refine hK.out _ _ ⟨(blk_cell BK129.out 0).trans rfl, (blk_cell BK129.out 1).trans rfl, (blk_cell BK129.out 2).trans rfl, (blk_cell BK129.out 3).trans rfl, (blk_cell BK130.out 0).trans rfl, (blk_cell BK130.out 1).trans rfl, (blk_cell BK130.out 2).trans rfl, (blk_cell BK130.out 3).trans rfl⟩ (fun hHeld => ?_)
                    clear hK K
                    refine norm_ (a' := ?_) ?_ ?_
                    rotate_left
                    · show Act.put _ (some 57) _ = _
                      simp only [Act.put, List.setIfInBounds_toArray, List.set_cons_zero, List.set_cons_succ, i64_w, i32_w]
                      rfl
                    refine one_ (i := 9) (N := some 60) #[true, true, true, true, true, true, true, true, true, true, false, false, false] rfl rfl (one_of HT_.out (by kernel_rfl)) (by decide) (fun K hK => ?_)
                    refine goes_ Try.func16 (by kernel_rfl) rfl #[.agg #[.int .u64 a0_0, .int .u32 a0_1, .int .u64 a0_2, .int .u16 a0_3], .agg #[.int .u64 a1_0, .int .u32 a1_1, .int .u64 a1_2, .int .u16 a1_3]] (by rfl) rfl rfl (by (try simp only [List.map_toArray, List.map_cons, List.map_nil]); first | done | rfl | (simp only [List.length_drop, List.length_take]; rfl)) ?_
                    with_reducible refine (rank_Compare.calls kj20 a0_0 a0_1 a0_2 a0_3 a1_0 a1_1 a1_2 a1_3 t136 _ A61.out).mono ?_
                    rintro e w69 ⟨rfl, hb⟩
                    refine ⟨_, rfl, ?_⟩
                    have n0_ := Aside0.mk (blk_below (g := gb129) (o := .cells #[.int .u64 a0_0, .int .u32 a0_1, .int .u64 a0_2, .int .u16 a0_3] 31 (0, 0)) (by (with_reducible repeat (first | refine blk_drewN ?_ _ | refine blk_drew ?_ | refine blk_alloc ?_ _)); exact BK129.out) hb)
                    have n1_ := Aside0.mk (blk_below (g := gb130) (o := .cells #[.int .u64 a1_0, .int .u32 a1_1, .int .u64 a1_2, .int .u16 a1_3] 31 (0, 0)) (by (with_reducible repeat (first | refine blk_drewN ?_ _ | refine blk_drew ?_ | refine blk_alloc ?_ _)); exact BK130.out) hb)
                    have n2_ := Aside0.mk (below_step (by repeat (first | (with_reducible first | exact HB.out | apply below_alloc | apply pw_below_drewN | apply below_drew1 | refine below_set ?_ GE129.out | refine below_set ?_ GE130.out) | exact HB.out)) hb)
                    clear BK129
                    clear BK130
                    clear HB
                    have BK129 := n0_
                    have BK130 := n1_
                    have HB := n2_
                    clear n0_ n1_ n2_
                    (try clear hb)
                    (try clear hb2)
                    (try clear hk)
                    (try clear hi)
                    refine hK.out _ _ ⟨(blk_cell BK129.out 0).trans rfl, (blk_cell BK129.out 1).trans rfl, (blk_cell BK129.out 2).trans rfl, (blk_cell BK129.out 3).trans rfl, (blk_cell BK130.out 0).trans rfl, (blk_cell BK130.out 1).trans rfl, (blk_cell BK130.out 2).trans rfl, (blk_cell BK130.out 3).trans rfl⟩ (fun hHeld => ?_)
                    clear hK K
                    refine norm_ (a' := ?_) ?_ ?_
                    rotate_left
                    · show Act.put _ (some 60) _ = _
                      simp only [Act.put, List.setIfInBounds_toArray, List.set_cons_zero, List.set_cons_succ, i64_w, i32_w]
                      rfl
                    refine pure_ (i := 10) (N := some 61) (v := ?_) (a' := ?_) #[true, true, true, true, true, true, true, true, true, true, true, false, false] rfl rfl (any_of HT_.out (by kernel_rfl)) (fun _ _ _ h => h) (Or.inl ⟨by rfl, ?_⟩) ?_ ?_
                    rotate_left
                    · intro w'
                      go_simp
                      with_reducible rfl
                    rotate_left
                    · simp only [Act.put, List.setIfInBounds_toArray, List.set_cons_zero, List.set_cons_succ, i64_w, i32_w]
                      rfl
                    refine pure_ (i := 11) (N := some 62) (v := ?_) (a' := ?_) #[true, true, true, true, true, true, true, true, true, true, true, true, false] rfl rfl (any_of HT_.out (by kernel_rfl)) (fun _ _ _ h => h) (Or.inl ⟨by rfl, ?_⟩) ?_ ?_
                    rotate_left
                    · intro w'
                      go_simp
                      with_reducible rfl
                    rotate_left
                    · simp only [Act.put, List.setIfInBounds_toArray, List.set_cons_zero, List.set_cons_succ, i64_w, i32_w]
                      rfl
                    refine pure_ (i := 12) (N := some 63) (v := ?_) (a' := ?_) #[true, true, true, true, true, true, true, true, true, true, true, true, true] rfl rfl (any_of HT_.out (by kernel_rfl)) (fun _ _ _ h => h) (Or.inl ⟨by rfl, ?_⟩) ?_ ?_
                    rotate_left
                    · intro w'
                      go_simp
                      with_reducible rfl
                    rotate_left
                    · simp only [Act.put, List.setIfInBounds_toArray, List.set_cons_zero, List.set_cons_succ, i64_w, i32_w]
                      rfl
                    refine done_ (done_of HT_.out (by kernel_rfl)) ?_
                    have hnb70 := NB130_129.out
                    have hnc70 := NB129_130.out
                    have hcz71_0 : w69.cell? ⟨gb130, 0, none⟩ = some (.int .u64 a1_0) := (blk_cell BK130.out 0).trans rfl
                    have hcz71_1 : w69.cell? ⟨gb130, 1, none⟩ = some (.int .u32 a1_1) := (blk_cell BK130.out 1).trans rfl
                    have hcz71_2 : w69.cell? ⟨gb130, 2, none⟩ = some (.int .u64 a1_2) := (blk_cell BK130.out 2).trans rfl
                    have hcz71_3 : w69.cell? ⟨gb130, 3, none⟩ = some (.int .u16 a1_3) := (blk_cell BK130.out 3).trans rfl
                    have hfz71_0 := blk_frozen BK130.out 0
                    have hfz71_1 := blk_frozen BK130.out 1
                    have hfz71_2 := blk_frozen BK130.out 2
                    have hfz71_3 := blk_frozen BK130.out 3
                    try go_wp2_with (first | ((with_reducible refine gate_callee (f := 18) rfl ?_); refine goesL_ (some 67) rfl rfl Try.func18 (by kernel_rfl) rfl #[.agg #[.int .u64 a1_0, .int .u32 a1_1, .int .u64 a1_2, .int .u16 a1_3], .agg #[.int .u64 a1_0, .int .u32 a1_1, .int .u64 a1_2, .int .u16 a1_3], .int .u64 a2] rfl (by (try simp only [List.map_toArray, List.map_cons, List.map_nil]); first | done | rfl | (simp only [List.length_drop, List.length_take]; rfl)) ?_; (with_reducible refine (rank_Supersedes.calls kj20 a1_0 a1_1 a1_2 a1_3 a1_0 a1_1 a1_2 a1_3 a2 t137 _ A66.out).mono ?_); rintro e w72 ⟨rfl, hb⟩; refine ⟨_, rfl, ?_⟩; have n0_ := Aside0.mk (blk_below (g := gb129) (o := .cells #[.int .u64 a0_0, .int .u32 a0_1, .int .u64 a0_2, .int .u16 a0_3] 31 (0, 0)) (by (with_reducible repeat (first | refine blk_drewN ?_ _ | refine blk_drew ?_ | refine blk_alloc ?_ _)); exact BK129.out) hb); have n1_ := Aside0.mk (blk_below (g := gb130) (o := .cells #[.int .u64 a1_0, .int .u32 a1_1, .int .u64 a1_2, .int .u16 a1_3] 31 (0, 0)) (by (with_reducible repeat (first | refine blk_drewN ?_ _ | refine blk_drew ?_ | refine blk_alloc ?_ _)); exact BK130.out) hb); have n2_ := Aside0.mk (below_step (by repeat (first | (with_reducible first | exact HB.out | apply below_alloc | apply pw_below_drewN | apply below_drew1 | refine below_set ?_ GE129.out | refine below_set ?_ GE130.out) | exact HB.out)) hb); clear BK129; clear BK130; clear HB; have BK129 := n0_; have BK130 := n1_; have HB := n2_; clear n0_ n1_ n2_; (try clear hb); (try clear hb2); (try clear hk); (try clear hi)))
                    go_ret
                    exact ⟨by first | rfl | (simp [errW_none, errW_some] <;> rfl) | (simp [*, errW_none, errW_some] <;> rfl), by repeat (first | (with_reducible first | exact HB.out | apply below_alloc | apply pw_below_drewN | apply below_drew1 | refine below_set ?_ GE129.out | refine below_set ?_ GE130.out) | exact HB.out)⟩
  · replace c5 := Bool.eq_false_iff.mpr c5
    subst c5
    have H1 : (some false) = some r := by rw [if_neg (show ¬ (false = true) by decide)] at H; exact H
    clear H
    have H := H1
    clear H1
    exact absurd ((Option.some.inj H).trans LRT.out) (by decide)
end Go.Proofs.Ytnoejdogickplaa.PRankTakes
