/- What Go functions that the law RankPlays uses come to, and why: part 4. Made out of the kit's print by a program of this session (wip/tools/mend.py), with more rows. -/
import Derived.Test.YtnoejdogickplaaPRankPlaysx0
namespace Go.Proofs.Ytnoejdogickplaa.PRankPlays
open Go.RowKit Go.Proofs.YtnoejdogickplaaW.PrintWords Go.Proofs.YtnoejdogickplaaW.PrintLast Go.Proofs.YtnoejdogickplaaW.PrintMore
attribute [local go_sem] max2_int min2_int max_two min_two max_three min_three max_four min_four   -- for this text's walks alone
set_option linter.unusedVariables false
set_option linter.unusedSimpArgs false

/-! ### treelineref10_Supersedes: function 22 -/
def treelineref10_Supersedes.j0 : Nat → Int → Bool → Int → Int → Int → Int → Int → Int → Int → Int → Option (Bool)
  | 0, _, _, _, _, _, _, _, _, _, _ => none
  | k + 1, x2, x46, x140000, x140001, x140002, x140003, x141000, x141001, x141002, x141003 => if x46 = true then (some true) else (if x140000 = x141000 then (if x140001 = x141001 then (if x140002 = x141002 then (if x140002 = x2 then (some (decide (x140003 ≤ x141003))) else (some true)) else (some false)) else (some false)) else (some false))
def treelineref10_Supersedes.f (k : Nat) (a0_0 : Int) (a0_1 : Int) (a0_2 : Int) (a0_3 : Int) (a1_0 : Int) (a1_1 : Int) (a1_2 : Int) (a1_3 : Int) (a2 : Int) : Option (Bool) := if a0_0 < a1_0 then (treelineref10_Supersedes.j0 k a2 true a0_0 a0_1 a0_2 a0_3 a1_0 a1_1 a1_2 a1_3) else (if a0_0 = a1_0 then (if a0_1 < a1_1 then (treelineref10_Supersedes.j0 k a2 true a0_0 a0_1 a0_2 a0_3 a1_0 a1_1 a1_2 a1_3) else (if a0_1 = a1_1 then (treelineref10_Supersedes.j0 k a2 (decide (a0_2 < a1_2)) a0_0 a0_1 a0_2 a0_3 a1_0 a1_1 a1_2 a1_3) else (treelineref10_Supersedes.j0 k a2 false a0_0 a0_1 a0_2 a0_3 a1_0 a1_1 a1_2 a1_3))) else (treelineref10_Supersedes.j0 k a2 false a0_0 a0_1 a0_2 a0_3 a1_0 a1_1 a1_2 a1_3))
theorem treelineref10_Supersedes.mono_l : ∀ k, (∀ y0 y1 y2 y3 y4 y5 y6 y7 y8 y9, LeO (treelineref10_Supersedes.j0 k y0 y1 y2 y3 y4 y5 y6 y7 y8 y9) (treelineref10_Supersedes.j0 (k + 1) y0 y1 y2 y3 y4 y5 y6 y7 y8 y9))
  | 0 => fun _ _ _ _ _ _ _ _ _ _ r h => by simp [treelineref10_Supersedes.j0] at h
  | k + 1 => by
    have ih0 := treelineref10_Supersedes.mono_l k
    · intro y0 y1 y2 y3 y4 y5 y6 y7 y8 y9
      unfold treelineref10_Supersedes.j0
      repeat' first
      | (with_reducible exact ih0 _ _ _ _ _ _ _ _ _ _)
      | (with_reducible exact LeO.refl _)
      | (with_reducible exact LeO.none _)
      | (with_reducible refine LeO.ite ?_ ?_)
      | (with_reducible refine LeO.bind ?_ (fun _ => ?_))
      | exact ih0 _ _ _ _ _ _ _ _ _ _
      | exact LeO.none _
      | refine LeO.ite ?_ ?_
      | refine LeO.bind ?_ (fun _ => ?_)
theorem treelineref10_Supersedes.mono : ∀ a0 a1 a2 a3 a4 a5 a6 a7 a8 k, LeO (treelineref10_Supersedes.f k a0 a1 a2 a3 a4 a5 a6 a7 a8) (treelineref10_Supersedes.f (k + 1) a0 a1 a2 a3 a4 a5 a6 a7 a8) := by
  intro a0 a1 a2 a3 a4 a5 a6 a7 a8 k
  have ih0 := treelineref10_Supersedes.mono_l k
  unfold treelineref10_Supersedes.f
  repeat' first
      | (with_reducible exact ih0 _ _ _ _ _ _ _ _ _ _)
      | (with_reducible exact LeO.refl _)
      | (with_reducible exact LeO.none _)
      | (with_reducible refine LeO.ite ?_ ?_)
      | (with_reducible refine LeO.bind ?_ (fun _ => ?_))
      | exact ih0 _ _ _ _ _ _ _ _ _ _
      | exact LeO.none _
      | refine LeO.ite ?_ ?_
      | refine LeO.bind ?_ (fun _ => ?_)
set_option maxHeartbeats 8000000 in
set_option maxRecDepth 100000 in
theorem treelineref10_Supersedes.calls (k : Nat) (a0_0 : Int) (a0_1 : Int) (a0_2 : Int) (a0_3 : Int) (a1_0 : Int) (a1_1 : Int) (a1_2 : Int) (a1_3 : Int) (a2 : Int) (r : Bool) (w : World) (h : treelineref10_Supersedes.f k a0_0 a0_1 a0_2 a0_3 a1_0 a1_1 a1_2 a1_3 a2 = some r) :
    Calls Try.prog 22 #[.agg #[.int .u64 a0_0, .int .u32 a0_1, .int .u64 a0_2, .int .u16 a0_3], .agg #[.int .u64 a1_0, .int .u32 a1_1, .int .u64 a1_2, .int .u16 a1_3], .int .u64 a2] w fun e w' => e = .returned (.bool r) ∧ Below w.heap.size w w' := by
  have hu43 := Try.underlying43
  have HB := Aside0.mk (Below.refl w.heap.size w)
  have H : (if a0_0 < a1_0 then (treelineref10_Supersedes.j0 k a2 true a0_0 a0_1 a0_2 a0_3 a1_0 a1_1 a1_2 a1_3) else (if a0_0 = a1_0 then (if a0_1 < a1_1 then (treelineref10_Supersedes.j0 k a2 true a0_0 a0_1 a0_2 a0_3 a1_0 a1_1 a1_2 a1_3) else (if a0_1 = a1_1 then (treelineref10_Supersedes.j0 k a2 (decide (a0_2 < a1_2)) a0_0 a0_1 a0_2 a0_3 a1_0 a1_1 a1_2 a1_3) else (treelineref10_Supersedes.j0 k a2 false a0_0 a0_1 a0_2 a0_3 a1_0 a1_1 a1_2 a1_3))) else (treelineref10_Supersedes.j0 k a2 false a0_0 a0_1 a0_2 a0_3 a1_0 a1_1 a1_2 a1_3))) = some r := h
  clear h
  have HC4 := Aside0.mk H
  clear H
  go_enter Try.func22, Try.ntmps22
  go_upto_region 1 with (first | ((with_reducible refine gate_dst (N := 3) rfl ?_); refine box_event ?hg (N := 3) ?hd (cs := #[.int .u64 a0_0, .int .u32 a0_1, .int .u64 a0_2, .int .u16 a0_3]) (t := 43) ?hr ?_; (case hd => rfl); (case hg => rfl); (case hr => first | (go_simp; done) | (go_simp; rfl)); intro gb139 hg w5 hbox hb; have n0_ := Aside0.mk (below_step (by repeat (first | (with_reducible first | exact HB.out | apply below_alloc | apply pw_below_drewN | apply below_drew1) | exact HB.out)) hb); have n1_ := Aside0.mk (hbox); have n2_ := Aside0.mk ((by rw [hg]; exact (below_size (by repeat (first | (with_reducible first | exact HB.out | apply below_alloc | apply pw_below_drewN | apply below_drew1) | exact HB.out))) : w.heap.size ≤ gb139)); have n3_ := Aside0.mk ((by rw [hg]; exact (below_size (by repeat (first | (with_reducible first | exact HB.out | apply below_alloc | apply pw_below_drewN | apply below_drew1) | exact HB.out))) : w.heap.size ≤ gb139)); clear HB; have HB := n0_; have BK139 := n1_; have GW139 := n2_; have GE139 := n3_; clear n0_ n1_ n2_ n3_; clear hb hbox hg) | ((with_reducible refine gate_dst (N := 4) rfl ?_); refine box_event ?hg (N := 4) ?hd (cs := #[.int .u64 a1_0, .int .u32 a1_1, .int .u64 a1_2, .int .u16 a1_3]) (t := 43) ?hr ?_; (case hd => rfl); (case hg => rfl); (case hr => first | (go_simp; done) | (go_simp; rfl)); intro gb140 hg w6 hbox hb; have n0_ := Aside0.mk (blk_below (g := gb139) (o := .cells #[.int .u64 a0_0, .int .u32 a0_1, .int .u64 a0_2, .int .u16 a0_3] 43 (0, 0)) (by (with_reducible repeat (first | refine blk_drewN ?_ _ | refine blk_drew ?_ | refine blk_alloc ?_ _)); exact BK139.out) hb); have n1_ := Aside0.mk (below_step (by repeat (first | (with_reducible first | exact HB.out | apply below_alloc | apply pw_below_drewN | apply below_drew1 | refine below_set ?_ GE139.out) | exact HB.out)) hb); have n2_ := Aside0.mk (hbox); have n3_ := Aside0.mk ((by rw [hg]; exact (below_size (by repeat (first | (with_reducible first | exact HB.out | apply below_alloc | apply pw_below_drewN | apply below_drew1 | refine below_set ?_ GE139.out) | exact HB.out))) : w.heap.size ≤ gb140)); have n4_ := Aside0.mk ((by rw [hg]; exact (below_size (by repeat (first | (with_reducible first | exact HB.out | apply below_alloc | apply pw_below_drewN | apply below_drew1 | refine below_set ?_ GE139.out) | exact HB.out))) : w.heap.size ≤ gb140)); have n5_ := Aside0.mk ((by rw [hg]; exact Nat.ne_of_lt (blk_lt (g := gb139) (o := .cells #[.int .u64 a0_0, .int .u32 a0_1, .int .u64 a0_2, .int .u16 a0_3] 43 (0, 0)) (by (with_reducible repeat (first | refine blk_drewN ?_ _ | refine blk_drew ?_ | refine blk_alloc ?_ _)); exact BK139.out)) : gb139 ≠ gb140)); have n6_ := Aside0.mk ((by rw [hg]; exact Nat.ne_of_gt (blk_lt (g := gb139) (o := .cells #[.int .u64 a0_0, .int .u32 a0_1, .int .u64 a0_2, .int .u16 a0_3] 43 (0, 0)) (by (with_reducible repeat (first | refine blk_drewN ?_ _ | refine blk_drew ?_ | refine blk_alloc ?_ _)); exact BK139.out)) : gb140 ≠ gb139)); clear BK139; clear HB; have BK139 := n0_; have HB := n1_; have BK140 := n2_; have GW140 := n3_; have GE140 := n4_; have NB139_140 := n5_; have NB140_139 := n6_; clear n0_ n1_ n2_ n3_ n4_ n5_ n6_; clear hb hbox hg))
  (try simp only [Act.put, List.setIfInBounds_toArray, List.set_cons_zero, List.set_cons_succ])
  go_cut [46] (fun v46 wc => ∃ (kq : Nat) (x46_3 : Bool), v46 = .bool x46_3 ∧ Aside0 (treelineref10_Supersedes.j0 kq a2 x46_3 a0_0 a0_1 a0_2 a0_3 a1_0 a1_1 a1_2 a1_3 = some r) ∧ Aside0 (kq ≤ k) ∧ Aside0 (wc.heap[gb139]? = some (.cells #[.int .u64 a0_0, .int .u32 a0_1, .int .u64 a0_2, .int .u16 a0_3] 43 (0, 0))) ∧ Aside0 (wc.heap[gb140]? = some (.cells #[.int .u64 a1_0, .int .u32 a1_1, .int .u64 a1_2, .int .u16 a1_3] 43 (0, 0))) ∧ Aside0 (Below w.heap.size w wc))
  case first =>
    have H := HC4.out
    clear HC4
    by_cases c7 : a0_0 < a1_0
    · rw [if_pos c7] at H
      have c7b0 : decide (a0_0 < a1_0) = true := decide_eq_true c7
      clear c7
      (first | rw [c7b0] | (simp only [i64_w, i32_w]; rw [c7b0]) | skip)
      have H' := Aside0.mk H
      clear H
      have hnb8 := NB139_140.out
      have hnc8 := NB140_139.out
      have hcz9_0 : w6.cell? ⟨gb139, 0, none⟩ = some (.int .u64 a0_0) := (blk_cell BK139.out 0).trans rfl
      have hcz9_1 : w6.cell? ⟨gb139, 1, none⟩ = some (.int .u32 a0_1) := (blk_cell BK139.out 1).trans rfl
      have hcz9_2 : w6.cell? ⟨gb139, 2, none⟩ = some (.int .u64 a0_2) := (blk_cell BK139.out 2).trans rfl
      have hcz9_3 : w6.cell? ⟨gb139, 3, none⟩ = some (.int .u16 a0_3) := (blk_cell BK139.out 3).trans rfl
      have hfz9_0 := blk_frozen BK139.out 0
      have hfz9_1 := blk_frozen BK139.out 1
      have hfz9_2 := blk_frozen BK139.out 2
      have hfz9_3 := blk_frozen BK139.out 3
      have hcz10_0 : w6.cell? ⟨gb140, 0, none⟩ = some (.int .u64 a1_0) := (blk_cell BK140.out 0).trans rfl
      have hcz10_1 : w6.cell? ⟨gb140, 1, none⟩ = some (.int .u32 a1_1) := (blk_cell BK140.out 1).trans rfl
      have hcz10_2 : w6.cell? ⟨gb140, 2, none⟩ = some (.int .u64 a1_2) := (blk_cell BK140.out 2).trans rfl
      have hcz10_3 : w6.cell? ⟨gb140, 3, none⟩ = some (.int .u16 a1_3) := (blk_cell BK140.out 3).trans rfl
      have hfz10_0 := blk_frozen BK140.out 0
      have hfz10_1 := blk_frozen BK140.out 1
      have hfz10_2 := blk_frozen BK140.out 2
      have hfz10_3 := blk_frozen BK140.out 3
      go_wp2
      go_meet
      case rel => exact ⟨_, (true), (by first | rfl | (simp; done) | (simp [*]; done)), H', ⟨by first | omega | exact Nat.le_refl _⟩, ⟨by (with_reducible repeat (first | refine blk_drewN ?_ _ | refine blk_drew ?_ | refine blk_alloc ?_ _)); exact BK139.out⟩, ⟨by (with_reducible repeat (first | refine blk_drewN ?_ _ | refine blk_drew ?_ | refine blk_alloc ?_ _)); exact BK140.out⟩, ⟨by repeat (first | (with_reducible first | exact HB.out | apply below_alloc | apply pw_below_drewN | apply below_drew1 | refine below_set ?_ GE139.out | refine below_set ?_ GE140.out) | exact HB.out)⟩⟩
    · rw [if_neg c7] at H
      have c7b0 : decide (a0_0 < a1_0) = false := decide_eq_false c7
      clear c7
      (first | rw [c7b0] | (simp only [i64_w, i32_w]; rw [c7b0]) | skip)
      by_cases c11 : a0_0 = a1_0
      · rw [if_pos c11] at H
        have c11b0 : (a0_0 == a1_0) = true := beq_iff_eq.mpr c11
        have c11b1 : (a0_0 != a1_0) = false := bne_eq_false_iff_eq.mpr c11
        clear c11
        by_cases c12 : a0_1 < a1_1
        · rw [if_pos c12] at H
          have c12b0 : decide (a0_1 < a1_1) = true := decide_eq_true c12
          clear c12
          have H' := Aside0.mk H
          clear H
          have hnb13 := NB139_140.out
          have hnc13 := NB140_139.out
          have hcz14_0 : w6.cell? ⟨gb139, 0, none⟩ = some (.int .u64 a0_0) := (blk_cell BK139.out 0).trans rfl
          have hcz14_1 : w6.cell? ⟨gb139, 1, none⟩ = some (.int .u32 a0_1) := (blk_cell BK139.out 1).trans rfl
          have hcz14_2 : w6.cell? ⟨gb139, 2, none⟩ = some (.int .u64 a0_2) := (blk_cell BK139.out 2).trans rfl
          have hcz14_3 : w6.cell? ⟨gb139, 3, none⟩ = some (.int .u16 a0_3) := (blk_cell BK139.out 3).trans rfl
          have hfz14_0 := blk_frozen BK139.out 0
          have hfz14_1 := blk_frozen BK139.out 1
          have hfz14_2 := blk_frozen BK139.out 2
          have hfz14_3 := blk_frozen BK139.out 3
          have hcz15_0 : w6.cell? ⟨gb140, 0, none⟩ = some (.int .u64 a1_0) := (blk_cell BK140.out 0).trans rfl
          have hcz15_1 : w6.cell? ⟨gb140, 1, none⟩ = some (.int .u32 a1_1) := (blk_cell BK140.out 1).trans rfl
          have hcz15_2 : w6.cell? ⟨gb140, 2, none⟩ = some (.int .u64 a1_2) := (blk_cell BK140.out 2).trans rfl
          have hcz15_3 : w6.cell? ⟨gb140, 3, none⟩ = some (.int .u16 a1_3) := (blk_cell BK140.out 3).trans rfl
          have hfz15_0 := blk_frozen BK140.out 0
          have hfz15_1 := blk_frozen BK140.out 1
          have hfz15_2 := blk_frozen BK140.out 2
          have hfz15_3 := blk_frozen BK140.out 3
          go_wp2
          go_meet
          case rel => exact ⟨_, (true), (by first | rfl | (simp; done) | (simp [*]; done)), H', ⟨by first | omega | exact Nat.le_refl _⟩, ⟨by (with_reducible repeat (first | refine blk_drewN ?_ _ | refine blk_drew ?_ | refine blk_alloc ?_ _)); exact BK139.out⟩, ⟨by (with_reducible repeat (first | refine blk_drewN ?_ _ | refine blk_drew ?_ | refine blk_alloc ?_ _)); exact BK140.out⟩, ⟨by repeat (first | (with_reducible first | exact HB.out | apply below_alloc | apply pw_below_drewN | apply below_drew1 | refine below_set ?_ GE139.out | refine below_set ?_ GE140.out) | exact HB.out)⟩⟩
        · rw [if_neg c12] at H
          have c12b0 : decide (a0_1 < a1_1) = false := decide_eq_false c12
          clear c12
          by_cases c16 : a0_1 = a1_1
          · rw [if_pos c16] at H
            have c16b0 : (a0_1 == a1_1) = true := beq_iff_eq.mpr c16
            have c16b1 : (a0_1 != a1_1) = false := bne_eq_false_iff_eq.mpr c16
            clear c16
            have H' := Aside0.mk H
            clear H
            have hnb17 := NB139_140.out
            have hnc17 := NB140_139.out
            have hcz18_0 : w6.cell? ⟨gb139, 0, none⟩ = some (.int .u64 a0_0) := (blk_cell BK139.out 0).trans rfl
            have hcz18_1 : w6.cell? ⟨gb139, 1, none⟩ = some (.int .u32 a0_1) := (blk_cell BK139.out 1).trans rfl
            have hcz18_2 : w6.cell? ⟨gb139, 2, none⟩ = some (.int .u64 a0_2) := (blk_cell BK139.out 2).trans rfl
            have hcz18_3 : w6.cell? ⟨gb139, 3, none⟩ = some (.int .u16 a0_3) := (blk_cell BK139.out 3).trans rfl
            have hfz18_0 := blk_frozen BK139.out 0
            have hfz18_1 := blk_frozen BK139.out 1
            have hfz18_2 := blk_frozen BK139.out 2
            have hfz18_3 := blk_frozen BK139.out 3
            have hcz19_0 : w6.cell? ⟨gb140, 0, none⟩ = some (.int .u64 a1_0) := (blk_cell BK140.out 0).trans rfl
            have hcz19_1 : w6.cell? ⟨gb140, 1, none⟩ = some (.int .u32 a1_1) := (blk_cell BK140.out 1).trans rfl
            have hcz19_2 : w6.cell? ⟨gb140, 2, none⟩ = some (.int .u64 a1_2) := (blk_cell BK140.out 2).trans rfl
            have hcz19_3 : w6.cell? ⟨gb140, 3, none⟩ = some (.int .u16 a1_3) := (blk_cell BK140.out 3).trans rfl
            have hfz19_0 := blk_frozen BK140.out 0
            have hfz19_1 := blk_frozen BK140.out 1
            have hfz19_2 := blk_frozen BK140.out 2
            have hfz19_3 := blk_frozen BK140.out 3
            go_wp2
            go_meet
            case rel => exact ⟨_, (decide (a0_2 < a1_2)), (by first | rfl | (simp; done) | (simp [*]; done)), H', ⟨by first | omega | exact Nat.le_refl _⟩, ⟨by (with_reducible repeat (first | refine blk_drewN ?_ _ | refine blk_drew ?_ | refine blk_alloc ?_ _)); exact BK139.out⟩, ⟨by (with_reducible repeat (first | refine blk_drewN ?_ _ | refine blk_drew ?_ | refine blk_alloc ?_ _)); exact BK140.out⟩, ⟨by repeat (first | (with_reducible first | exact HB.out | apply below_alloc | apply pw_below_drewN | apply below_drew1 | refine below_set ?_ GE139.out | refine below_set ?_ GE140.out) | exact HB.out)⟩⟩
          · rw [if_neg c16] at H
            have c16b0 : (a0_1 == a1_1) = false := beq_eq_false_iff_ne.mpr c16
            have c16b1 : (a0_1 != a1_1) = true := bne_iff_ne.mpr c16
            have H' := Aside0.mk H
            clear H
            have hnb20 := NB139_140.out
            have hnc20 := NB140_139.out
            have hcz21_0 : w6.cell? ⟨gb139, 0, none⟩ = some (.int .u64 a0_0) := (blk_cell BK139.out 0).trans rfl
            have hcz21_1 : w6.cell? ⟨gb139, 1, none⟩ = some (.int .u32 a0_1) := (blk_cell BK139.out 1).trans rfl
            have hcz21_2 : w6.cell? ⟨gb139, 2, none⟩ = some (.int .u64 a0_2) := (blk_cell BK139.out 2).trans rfl
            have hcz21_3 : w6.cell? ⟨gb139, 3, none⟩ = some (.int .u16 a0_3) := (blk_cell BK139.out 3).trans rfl
            have hfz21_0 := blk_frozen BK139.out 0
            have hfz21_1 := blk_frozen BK139.out 1
            have hfz21_2 := blk_frozen BK139.out 2
            have hfz21_3 := blk_frozen BK139.out 3
            have hcz22_0 : w6.cell? ⟨gb140, 0, none⟩ = some (.int .u64 a1_0) := (blk_cell BK140.out 0).trans rfl
            have hcz22_1 : w6.cell? ⟨gb140, 1, none⟩ = some (.int .u32 a1_1) := (blk_cell BK140.out 1).trans rfl
            have hcz22_2 : w6.cell? ⟨gb140, 2, none⟩ = some (.int .u64 a1_2) := (blk_cell BK140.out 2).trans rfl
            have hcz22_3 : w6.cell? ⟨gb140, 3, none⟩ = some (.int .u16 a1_3) := (blk_cell BK140.out 3).trans rfl
            have hfz22_0 := blk_frozen BK140.out 0
            have hfz22_1 := blk_frozen BK140.out 1
            have hfz22_2 := blk_frozen BK140.out 2
            have hfz22_3 := blk_frozen BK140.out 3
            go_wp2
            go_meet
            case rel => exact ⟨_, (false), (by first | rfl | (simp; done) | (simp [*]; done)), H', ⟨by first | omega | exact Nat.le_refl _⟩, ⟨by (with_reducible repeat (first | refine blk_drewN ?_ _ | refine blk_drew ?_ | refine blk_alloc ?_ _)); exact BK139.out⟩, ⟨by (with_reducible repeat (first | refine blk_drewN ?_ _ | refine blk_drew ?_ | refine blk_alloc ?_ _)); exact BK140.out⟩, ⟨by repeat (first | (with_reducible first | exact HB.out | apply below_alloc | apply pw_below_drewN | apply below_drew1 | refine below_set ?_ GE139.out | refine below_set ?_ GE140.out) | exact HB.out)⟩⟩
      · rw [if_neg c11] at H
        have c11b0 : (a0_0 == a1_0) = false := beq_eq_false_iff_ne.mpr c11
        have c11b1 : (a0_0 != a1_0) = true := bne_iff_ne.mpr c11
        have H' := Aside0.mk H
        clear H
        have hnb23 := NB139_140.out
        have hnc23 := NB140_139.out
        have hcz24_0 : w6.cell? ⟨gb139, 0, none⟩ = some (.int .u64 a0_0) := (blk_cell BK139.out 0).trans rfl
        have hcz24_1 : w6.cell? ⟨gb139, 1, none⟩ = some (.int .u32 a0_1) := (blk_cell BK139.out 1).trans rfl
        have hcz24_2 : w6.cell? ⟨gb139, 2, none⟩ = some (.int .u64 a0_2) := (blk_cell BK139.out 2).trans rfl
        have hcz24_3 : w6.cell? ⟨gb139, 3, none⟩ = some (.int .u16 a0_3) := (blk_cell BK139.out 3).trans rfl
        have hfz24_0 := blk_frozen BK139.out 0
        have hfz24_1 := blk_frozen BK139.out 1
        have hfz24_2 := blk_frozen BK139.out 2
        have hfz24_3 := blk_frozen BK139.out 3
        have hcz25_0 : w6.cell? ⟨gb140, 0, none⟩ = some (.int .u64 a1_0) := (blk_cell BK140.out 0).trans rfl
        have hcz25_1 : w6.cell? ⟨gb140, 1, none⟩ = some (.int .u32 a1_1) := (blk_cell BK140.out 1).trans rfl
        have hcz25_2 : w6.cell? ⟨gb140, 2, none⟩ = some (.int .u64 a1_2) := (blk_cell BK140.out 2).trans rfl
        have hcz25_3 : w6.cell? ⟨gb140, 3, none⟩ = some (.int .u16 a1_3) := (blk_cell BK140.out 3).trans rfl
        have hfz25_0 := blk_frozen BK140.out 0
        have hfz25_1 := blk_frozen BK140.out 1
        have hfz25_2 := blk_frozen BK140.out 2
        have hfz25_3 := blk_frozen BK140.out 3
        go_wp2
        go_meet
        case rel => exact ⟨_, (false), (by first | rfl | (simp; done) | (simp [*]; done)), H', ⟨by first | omega | exact Nat.le_refl _⟩, ⟨by (with_reducible repeat (first | refine blk_drewN ?_ _ | refine blk_drew ?_ | refine blk_alloc ?_ _)); exact BK139.out⟩, ⟨by (with_reducible repeat (first | refine blk_drewN ?_ _ | refine blk_drew ?_ | refine blk_alloc ?_ _)); exact BK140.out⟩, ⟨by repeat (first | (with_reducible first | exact HB.out | apply below_alloc | apply pw_below_drewN | apply below_drew1 | refine below_set ?_ GE139.out | refine below_set ?_ GE140.out) | exact HB.out)⟩⟩
  case rest =>
    clear HC4
    try clear c1
    try clear c2
    try clear p2
    try clear c7
    try clear c7b0
    try clear c8
    try clear c11
    try clear c11b0
    try clear c11b1
    try clear c12
    try clear c12b0
    try clear c13
    try clear c16
    try clear c16b0
    try clear c16b1
    try clear c17
    try clear c20
    try clear c22
    try clear c23
    try clear hcz10_0
    try clear hcz10_1
    try clear hcz10_2
    try clear hcz10_3
    try clear hcz14_0
    try clear hcz14_1
    try clear hcz14_2
    try clear hcz14_3
    try clear hcz15_0
    try clear hcz15_1
    try clear hcz15_2
    try clear hcz15_3
    try clear hcz18_0
    try clear hcz18_1
    try clear hcz18_2
    try clear hcz18_3
    try clear hcz19_0
    try clear hcz19_1
    try clear hcz19_2
    try clear hcz19_3
    try clear hcz21_0
    try clear hcz21_1
    try clear hcz21_2
    try clear hcz21_3
    try clear hcz22_0
    try clear hcz22_1
    try clear hcz22_2
    try clear hcz22_3
    try clear hcz24_0
    try clear hcz24_1
    try clear hcz24_2
    try clear hcz24_3
    try clear hcz25_0
    try clear hcz25_1
    try clear hcz25_2
    try clear hcz25_3
    try clear hcz9_0
    try clear hcz9_1
    try clear hcz9_2
    try clear hcz9_3
    try clear hfz10_0
    try clear hfz10_1
    try clear hfz10_2
    try clear hfz10_3
    try clear hfz14_0
    try clear hfz14_1
    try clear hfz14_2
    try clear hfz14_3
    try clear hfz15_0
    try clear hfz15_1
    try clear hfz15_2
    try clear hfz15_3
    try clear hfz18_0
    try clear hfz18_1
    try clear hfz18_2
    try clear hfz18_3
    try clear hfz19_0
    try clear hfz19_1
    try clear hfz19_2
    try clear hfz19_3
    try clear hfz21_0
    try clear hfz21_1
    try clear hfz21_2
    try clear hfz21_3
    try clear hfz22_0
    try clear hfz22_1
    try clear hfz22_2
    try clear hfz22_3
    try clear hfz24_0
    try clear hfz24_1
    try clear hfz24_2
    try clear hfz24_3
    try clear hfz25_0
    try clear hfz25_1
    try clear hfz25_2
    try clear hfz25_3
    try clear hfz9_0
    try clear hfz9_1
    try clear hfz9_2
    try clear hfz9_3
    obtain ⟨kq, x46_3, rfl, HA, HJ3, BK139, BK140, HB⟩ := hcut
    cases kq with
    | zero => exact absurd HA.out (by simp [treelineref10_Supersedes.j0])
    | succ kj3 =>
      have H := HA.out
      clear HA
      simp only [treelineref10_Supersedes.j0] at H
      by_cases c26 : x46_3 = true
      · subst c26
        have H1 : (some true) = some r := by rw [if_pos rfl] at H; exact H
        clear H
        have H := H1
        clear H1
        obtain rfl := Option.some.inj H
        go_wp2
        go_ret
        exact ⟨by first | rfl | (simp [errW_none, errW_some] <;> rfl) | (simp [*, errW_none, errW_some] <;> rfl), by repeat (first | (with_reducible first | exact HB.out | apply below_alloc | apply pw_below_drewN | apply below_drew1 | refine below_set ?_ GE139.out | refine below_set ?_ GE140.out) | exact HB.out)⟩
      · replace c26 := Bool.eq_false_iff.mpr c26
        subst c26
        have H1 : (if a0_0 = a1_0 then (if a0_1 = a1_1 then (if a0_2 = a1_2 then (if a0_2 = a2 then (some (decide (a0_3 ≤ a1_3))) else (some true)) else (some false)) else (some false)) else (some false)) = some r := by rw [if_neg (show ¬ (false = true) by decide)] at H; exact H
        clear H
        have H := H1
        clear H1
        by_cases c27 : a0_0 = a1_0
        · rw [if_pos c27] at H
          have c27b0 : (a0_0 == a1_0) = true := beq_iff_eq.mpr c27
          have c27b1 : (a0_0 != a1_0) = false := bne_eq_false_iff_eq.mpr c27
          clear c27
          by_cases c28 : a0_1 = a1_1
          · rw [if_pos c28] at H
            have c28b0 : (a0_1 == a1_1) = true := beq_iff_eq.mpr c28
            have c28b1 : (a0_1 != a1_1) = false := bne_eq_false_iff_eq.mpr c28
            clear c28
            by_cases c29 : a0_2 = a1_2
            · rw [if_pos c29] at H
              have c29b0 : (a0_2 == a1_2) = true := beq_iff_eq.mpr c29
              have c29b1 : (a0_2 != a1_2) = false := bne_eq_false_iff_eq.mpr c29
              clear c29
              by_cases c30 : a0_2 = a2
              · rw [if_pos c30] at H
                have c30b0 : (a0_2 == a2) = true := beq_iff_eq.mpr c30
                have c30b1 : (a0_2 != a2) = false := bne_eq_false_iff_eq.mpr c30
                clear c30
                obtain rfl := Option.some.inj H
                have hnb31 := NB139_140.out
                have hnc31 := NB140_139.out
                have hcz32_0 : wc.cell? ⟨gb139, 0, none⟩ = some (.int .u64 a0_0) := (blk_cell BK139.out 0).trans rfl
                have hcz32_1 : wc.cell? ⟨gb139, 1, none⟩ = some (.int .u32 a0_1) := (blk_cell BK139.out 1).trans rfl
                have hcz32_2 : wc.cell? ⟨gb139, 2, none⟩ = some (.int .u64 a0_2) := (blk_cell BK139.out 2).trans rfl
                have hcz32_3 : wc.cell? ⟨gb139, 3, none⟩ = some (.int .u16 a0_3) := (blk_cell BK139.out 3).trans rfl
                have hfz32_0 := blk_frozen BK139.out 0
                have hfz32_1 := blk_frozen BK139.out 1
                have hfz32_2 := blk_frozen BK139.out 2
                have hfz32_3 := blk_frozen BK139.out 3
                have hcz33_0 : wc.cell? ⟨gb140, 0, none⟩ = some (.int .u64 a1_0) := (blk_cell BK140.out 0).trans rfl
                have hcz33_1 : wc.cell? ⟨gb140, 1, none⟩ = some (.int .u32 a1_1) := (blk_cell BK140.out 1).trans rfl
                have hcz33_2 : wc.cell? ⟨gb140, 2, none⟩ = some (.int .u64 a1_2) := (blk_cell BK140.out 2).trans rfl
                have hcz33_3 : wc.cell? ⟨gb140, 3, none⟩ = some (.int .u16 a1_3) := (blk_cell BK140.out 3).trans rfl
                have hfz33_0 := blk_frozen BK140.out 0
                have hfz33_1 := blk_frozen BK140.out 1
                have hfz33_2 := blk_frozen BK140.out 2
                have hfz33_3 := blk_frozen BK140.out 3
                go_wp2
                go_ret
                exact ⟨by first | rfl | (simp [errW_none, errW_some] <;> rfl) | (simp [*, errW_none, errW_some] <;> rfl), by repeat (first | (with_reducible first | exact HB.out | apply below_alloc | apply pw_below_drewN | apply below_drew1 | refine below_set ?_ GE139.out | refine below_set ?_ GE140.out) | exact HB.out)⟩
              · rw [if_neg c30] at H
                have c30b0 : (a0_2 == a2) = false := beq_eq_false_iff_ne.mpr c30
                have c30b1 : (a0_2 != a2) = true := bne_iff_ne.mpr c30
                obtain rfl := Option.some.inj H
                have hnb34 := NB139_140.out
                have hnc34 := NB140_139.out
                have hcz35_0 : wc.cell? ⟨gb139, 0, none⟩ = some (.int .u64 a0_0) := (blk_cell BK139.out 0).trans rfl
                have hcz35_1 : wc.cell? ⟨gb139, 1, none⟩ = some (.int .u32 a0_1) := (blk_cell BK139.out 1).trans rfl
                have hcz35_2 : wc.cell? ⟨gb139, 2, none⟩ = some (.int .u64 a0_2) := (blk_cell BK139.out 2).trans rfl
                have hcz35_3 : wc.cell? ⟨gb139, 3, none⟩ = some (.int .u16 a0_3) := (blk_cell BK139.out 3).trans rfl
                have hfz35_0 := blk_frozen BK139.out 0
                have hfz35_1 := blk_frozen BK139.out 1
                have hfz35_2 := blk_frozen BK139.out 2
                have hfz35_3 := blk_frozen BK139.out 3
                have hcz36_0 : wc.cell? ⟨gb140, 0, none⟩ = some (.int .u64 a1_0) := (blk_cell BK140.out 0).trans rfl
                have hcz36_1 : wc.cell? ⟨gb140, 1, none⟩ = some (.int .u32 a1_1) := (blk_cell BK140.out 1).trans rfl
                have hcz36_2 : wc.cell? ⟨gb140, 2, none⟩ = some (.int .u64 a1_2) := (blk_cell BK140.out 2).trans rfl
                have hcz36_3 : wc.cell? ⟨gb140, 3, none⟩ = some (.int .u16 a1_3) := (blk_cell BK140.out 3).trans rfl
                have hfz36_0 := blk_frozen BK140.out 0
                have hfz36_1 := blk_frozen BK140.out 1
                have hfz36_2 := blk_frozen BK140.out 2
                have hfz36_3 := blk_frozen BK140.out 3
                go_wp2
                go_ret
                exact ⟨by first | rfl | (simp [errW_none, errW_some] <;> rfl) | (simp [*, errW_none, errW_some] <;> rfl), by repeat (first | (with_reducible first | exact HB.out | apply below_alloc | apply pw_below_drewN | apply below_drew1 | refine below_set ?_ GE139.out | refine below_set ?_ GE140.out) | exact HB.out)⟩
            · rw [if_neg c29] at H
              have c29b0 : (a0_2 == a1_2) = false := beq_eq_false_iff_ne.mpr c29
              have c29b1 : (a0_2 != a1_2) = true := bne_iff_ne.mpr c29
              obtain rfl := Option.some.inj H
              have hnb37 := NB139_140.out
              have hnc37 := NB140_139.out
              have hcz38_0 : wc.cell? ⟨gb139, 0, none⟩ = some (.int .u64 a0_0) := (blk_cell BK139.out 0).trans rfl
              have hcz38_1 : wc.cell? ⟨gb139, 1, none⟩ = some (.int .u32 a0_1) := (blk_cell BK139.out 1).trans rfl
              have hcz38_2 : wc.cell? ⟨gb139, 2, none⟩ = some (.int .u64 a0_2) := (blk_cell BK139.out 2).trans rfl
              have hcz38_3 : wc.cell? ⟨gb139, 3, none⟩ = some (.int .u16 a0_3) := (blk_cell BK139.out 3).trans rfl
              have hfz38_0 := blk_frozen BK139.out 0
              have hfz38_1 := blk_frozen BK139.out 1
              have hfz38_2 := blk_frozen BK139.out 2
              have hfz38_3 := blk_frozen BK139.out 3
              have hcz39_0 : wc.cell? ⟨gb140, 0, none⟩ = some (.int .u64 a1_0) := (blk_cell BK140.out 0).trans rfl
              have hcz39_1 : wc.cell? ⟨gb140, 1, none⟩ = some (.int .u32 a1_1) := (blk_cell BK140.out 1).trans rfl
              have hcz39_2 : wc.cell? ⟨gb140, 2, none⟩ = some (.int .u64 a1_2) := (blk_cell BK140.out 2).trans rfl
              have hcz39_3 : wc.cell? ⟨gb140, 3, none⟩ = some (.int .u16 a1_3) := (blk_cell BK140.out 3).trans rfl
              have hfz39_0 := blk_frozen BK140.out 0
              have hfz39_1 := blk_frozen BK140.out 1
              have hfz39_2 := blk_frozen BK140.out 2
              have hfz39_3 := blk_frozen BK140.out 3
              go_wp2
              go_ret
              exact ⟨by first | rfl | (simp [errW_none, errW_some] <;> rfl) | (simp [*, errW_none, errW_some] <;> rfl), by repeat (first | (with_reducible first | exact HB.out | apply below_alloc | apply pw_below_drewN | apply below_drew1 | refine below_set ?_ GE139.out | refine below_set ?_ GE140.out) | exact HB.out)⟩
          · rw [if_neg c28] at H
            have c28b0 : (a0_1 == a1_1) = false := beq_eq_false_iff_ne.mpr c28
            have c28b1 : (a0_1 != a1_1) = true := bne_iff_ne.mpr c28
            obtain rfl := Option.some.inj H
            have hnb40 := NB139_140.out
            have hnc40 := NB140_139.out
            have hcz41_0 : wc.cell? ⟨gb139, 0, none⟩ = some (.int .u64 a0_0) := (blk_cell BK139.out 0).trans rfl
            have hcz41_1 : wc.cell? ⟨gb139, 1, none⟩ = some (.int .u32 a0_1) := (blk_cell BK139.out 1).trans rfl
            have hcz41_2 : wc.cell? ⟨gb139, 2, none⟩ = some (.int .u64 a0_2) := (blk_cell BK139.out 2).trans rfl
            have hcz41_3 : wc.cell? ⟨gb139, 3, none⟩ = some (.int .u16 a0_3) := (blk_cell BK139.out 3).trans rfl
            have hfz41_0 := blk_frozen BK139.out 0
            have hfz41_1 := blk_frozen BK139.out 1
            have hfz41_2 := blk_frozen BK139.out 2
            have hfz41_3 := blk_frozen BK139.out 3
            have hcz42_0 : wc.cell? ⟨gb140, 0, none⟩ = some (.int .u64 a1_0) := (blk_cell BK140.out 0).trans rfl
            have hcz42_1 : wc.cell? ⟨gb140, 1, none⟩ = some (.int .u32 a1_1) := (blk_cell BK140.out 1).trans rfl
            have hcz42_2 : wc.cell? ⟨gb140, 2, none⟩ = some (.int .u64 a1_2) := (blk_cell BK140.out 2).trans rfl
            have hcz42_3 : wc.cell? ⟨gb140, 3, none⟩ = some (.int .u16 a1_3) := (blk_cell BK140.out 3).trans rfl
            have hfz42_0 := blk_frozen BK140.out 0
            have hfz42_1 := blk_frozen BK140.out 1
            have hfz42_2 := blk_frozen BK140.out 2
            have hfz42_3 := blk_frozen BK140.out 3
            go_wp2
            go_ret
            exact ⟨by first | rfl | (simp [errW_none, errW_some] <;> rfl) | (simp [*, errW_none, errW_some] <;> rfl), by repeat (first | (with_reducible first | exact HB.out | apply below_alloc | apply pw_below_drewN | apply below_drew1 | refine below_set ?_ GE139.out | refine below_set ?_ GE140.out) | exact HB.out)⟩
        · rw [if_neg c27] at H
          have c27b0 : (a0_0 == a1_0) = false := beq_eq_false_iff_ne.mpr c27
          have c27b1 : (a0_0 != a1_0) = true := bne_iff_ne.mpr c27
          obtain rfl := Option.some.inj H
          have hnb43 := NB139_140.out
          have hnc43 := NB140_139.out
          have hcz44_0 : wc.cell? ⟨gb139, 0, none⟩ = some (.int .u64 a0_0) := (blk_cell BK139.out 0).trans rfl
          have hcz44_1 : wc.cell? ⟨gb139, 1, none⟩ = some (.int .u32 a0_1) := (blk_cell BK139.out 1).trans rfl
          have hcz44_2 : wc.cell? ⟨gb139, 2, none⟩ = some (.int .u64 a0_2) := (blk_cell BK139.out 2).trans rfl
          have hcz44_3 : wc.cell? ⟨gb139, 3, none⟩ = some (.int .u16 a0_3) := (blk_cell BK139.out 3).trans rfl
          have hfz44_0 := blk_frozen BK139.out 0
          have hfz44_1 := blk_frozen BK139.out 1
          have hfz44_2 := blk_frozen BK139.out 2
          have hfz44_3 := blk_frozen BK139.out 3
          have hcz45_0 : wc.cell? ⟨gb140, 0, none⟩ = some (.int .u64 a1_0) := (blk_cell BK140.out 0).trans rfl
          have hcz45_1 : wc.cell? ⟨gb140, 1, none⟩ = some (.int .u32 a1_1) := (blk_cell BK140.out 1).trans rfl
          have hcz45_2 : wc.cell? ⟨gb140, 2, none⟩ = some (.int .u64 a1_2) := (blk_cell BK140.out 2).trans rfl
          have hcz45_3 : wc.cell? ⟨gb140, 3, none⟩ = some (.int .u16 a1_3) := (blk_cell BK140.out 3).trans rfl
          have hfz45_0 := blk_frozen BK140.out 0
          have hfz45_1 := blk_frozen BK140.out 1
          have hfz45_2 := blk_frozen BK140.out 2
          have hfz45_3 := blk_frozen BK140.out 3
          go_wp2
          go_ret
          exact ⟨by first | rfl | (simp [errW_none, errW_some] <;> rfl) | (simp [*, errW_none, errW_some] <;> rfl), by repeat (first | (with_reducible first | exact HB.out | apply below_alloc | apply pw_below_drewN | apply below_drew1 | refine below_set ?_ GE139.out | refine below_set ?_ GE140.out) | exact HB.out)⟩

end Go.Proofs.Ytnoejdogickplaa.PRankPlays
