/- What Go functions that the law TopoRight uses come to, and why: part 12. Made out of the kit's print by a program of this session (wip/tools/stub.py, splice.py), functions that it does not take told by hand. -/
import Derived.Test.YtkgfpagfmdefgaaOTopoRightx11
namespace Go.Proofs.Ytkgfpagfmdefgaa.OTopoRight
open Go.RowKit Go.Proofs.YtkgfpagfmdefgaaW.PrintWords Go.Proofs.YtkgfpagfmdefgaaW.PrintLast Go.Proofs.YtkgfpagfmdefgaaW.PrintMore
attribute [local go_sem] max2_int min2_int max_two min_two max_three min_three max_four min_four   -- for this text's walks alone
set_option linter.unusedVariables false
set_option linter.unusedSimpArgs false

/-! ### treelineref20_Few: function 8 -/
mutual
def treelineref20_Few.j0 : Nat → Bool → Int → List (S48) → List (List Int) → List (S59) → Option (Bool)
  | 0, _, _, _, _, _ => none
  | k + 1, x25, x200000, x200001, x200002, x200003 => if x25 = true then (some false) else (treelineref20_Few.l0 k 0 x200000 x200001 x200002 x200003)
def treelineref20_Few.l0 : Nat → Int → Int → List (S48) → List (List Int) → List (S59) → Option (Bool)
  | 0, _, _, _, _, _ => none
  | k + 1, x3, x200000, x200001, x200002, x200003 => if x3 < (x200001.length : Int) then (if 0 ≤ x3 then (if (((rd_T48 x200001 x3).f7).length : Int) > 20 then (some false) else (treelineref20_Few.l0 k (wrap64 (x3 + 1)) x200000 x200001 x200002 x200003)) else (none)) else (treelineref20_Few.l1 k 0 x200000 x200001 x200002 x200003)
def treelineref20_Few.l1 : Nat → Int → Int → List (S48) → List (List Int) → List (S59) → Option (Bool)
  | 0, _, _, _, _, _ => none
  | k + 1, x4, x200000, x200001, x200002, x200003 => if x4 < (x200002.length : Int) then (if 0 ≤ x4 then (if ((rd_L9 x200002 x4).length : Int) > 20 then (some false) else (treelineref20_Few.l1 k (wrap64 (x4 + 1)) x200000 x200001 x200002 x200003)) else (none)) else (some true)
end
def treelineref20_Few.f (k : Nat) (a0_0 : Int) (l0_1 : List (S48)) (l0_2 : List (List Int)) (l0_3 : List (S59)) : Option (Bool) := if a0_0 > 20 then (treelineref20_Few.j0 k true a0_0 l0_1 l0_2 l0_3) else (if (l0_1.length : Int) > 20 then (treelineref20_Few.j0 k true a0_0 l0_1 l0_2 l0_3) else (if (l0_2.length : Int) > 20 then (treelineref20_Few.j0 k true a0_0 l0_1 l0_2 l0_3) else (treelineref20_Few.j0 k (decide ((l0_3.length : Int) > 40)) a0_0 l0_1 l0_2 l0_3)))
theorem treelineref20_Few.mono_l : ∀ k, (∀ y0 y1 y2 y3 y4, LeO (treelineref20_Few.j0 k y0 y1 y2 y3 y4) (treelineref20_Few.j0 (k + 1) y0 y1 y2 y3 y4)) ∧ (∀ y0 y1 y2 y3 y4, LeO (treelineref20_Few.l0 k y0 y1 y2 y3 y4) (treelineref20_Few.l0 (k + 1) y0 y1 y2 y3 y4)) ∧ (∀ y0 y1 y2 y3 y4, LeO (treelineref20_Few.l1 k y0 y1 y2 y3 y4) (treelineref20_Few.l1 (k + 1) y0 y1 y2 y3 y4))
  | 0 => ⟨fun _ _ _ _ _ r h => by simp [treelineref20_Few.j0] at h, fun _ _ _ _ _ r h => by simp [treelineref20_Few.l0] at h, fun _ _ _ _ _ r h => by simp [treelineref20_Few.l1] at h⟩
  | k + 1 => by
    obtain ⟨ih0, ih1, ih2⟩ := treelineref20_Few.mono_l k
    refine ⟨?_, ?_, ?_⟩
    · intro y0 y1 y2 y3 y4
      unfold treelineref20_Few.j0
      repeat' first
      | (with_reducible exact ih0 _ _ _ _ _)
      | (with_reducible exact ih1 _ _ _ _ _)
      | (with_reducible exact ih2 _ _ _ _ _)
      | (with_reducible exact LeO.refl _)
      | (with_reducible exact LeO.none _)
      | (with_reducible refine LeO.ite ?_ ?_)
      | (with_reducible refine LeO.bind ?_ (fun _ => ?_))
      | exact ih0 _ _ _ _ _
      | exact ih1 _ _ _ _ _
      | exact ih2 _ _ _ _ _
      | exact LeO.none _
      | refine LeO.ite ?_ ?_
      | refine LeO.bind ?_ (fun _ => ?_)
    · intro y0 y1 y2 y3 y4
      unfold treelineref20_Few.l0
      repeat' first
      | (with_reducible exact ih0 _ _ _ _ _)
      | (with_reducible exact ih1 _ _ _ _ _)
      | (with_reducible exact ih2 _ _ _ _ _)
      | (with_reducible exact LeO.refl _)
      | (with_reducible exact LeO.none _)
      | (with_reducible refine LeO.ite ?_ ?_)
      | (with_reducible refine LeO.bind ?_ (fun _ => ?_))
      | exact ih0 _ _ _ _ _
      | exact ih1 _ _ _ _ _
      | exact ih2 _ _ _ _ _
      | exact LeO.none _
      | refine LeO.ite ?_ ?_
      | refine LeO.bind ?_ (fun _ => ?_)
    · intro y0 y1 y2 y3 y4
      unfold treelineref20_Few.l1
      repeat' first
      | (with_reducible exact ih0 _ _ _ _ _)
      | (with_reducible exact ih1 _ _ _ _ _)
      | (with_reducible exact ih2 _ _ _ _ _)
      | (with_reducible exact LeO.refl _)
      | (with_reducible exact LeO.none _)
      | (with_reducible refine LeO.ite ?_ ?_)
      | (with_reducible refine LeO.bind ?_ (fun _ => ?_))
      | exact ih0 _ _ _ _ _
      | exact ih1 _ _ _ _ _
      | exact ih2 _ _ _ _ _
      | exact LeO.none _
      | refine LeO.ite ?_ ?_
      | refine LeO.bind ?_ (fun _ => ?_)
theorem treelineref20_Few.mono : ∀ a0 a1 a2 a3 k, LeO (treelineref20_Few.f k a0 a1 a2 a3) (treelineref20_Few.f (k + 1) a0 a1 a2 a3) := by
  intro a0 a1 a2 a3 k
  obtain ⟨ih0, ih1, ih2⟩ := treelineref20_Few.mono_l k
  unfold treelineref20_Few.f
  repeat' first
      | (with_reducible exact ih0 _ _ _ _ _)
      | (with_reducible exact ih1 _ _ _ _ _)
      | (with_reducible exact ih2 _ _ _ _ _)
      | (with_reducible exact LeO.refl _)
      | (with_reducible exact LeO.none _)
      | (with_reducible refine LeO.ite ?_ ?_)
      | (with_reducible refine LeO.bind ?_ (fun _ => ?_))
      | exact ih0 _ _ _ _ _
      | exact ih1 _ _ _ _ _
      | exact ih2 _ _ _ _ _
      | exact LeO.none _
      | refine LeO.ite ?_ ?_
      | refine LeO.bind ?_ (fun _ => ?_)
set_option maxHeartbeats 8000000 in
set_option maxRecDepth 100000 in
theorem treelineref20_Few.calls (k : Nat) (a0_0 : Int) (A0_1 : Option Addr) (c0_1 : Nat) (l0_1 : List (S48)) (A0_2 : Option Addr) (c0_2 : Nat) (l0_2 : List (List Int)) (A0_3 : Option Addr) (c0_3 : Nat) (l0_3 : List (S59)) (r : Bool) (w : World) (hr0_1 : Kd.C k48 w A0_1 l0_1.length l0_1) (hc0_1 : l0_1.length ≤ c0_1) (hr0_2 : Kd.C (Kd.slice 3 (Kd.int .i64)) w A0_2 l0_2.length l0_2) (hc0_2 : l0_2.length ≤ c0_2) (hr0_3 : Kd.C k59 w A0_3 l0_3.length l0_3) (hc0_3 : l0_3.length ≤ c0_3) (h : treelineref20_Few.f k a0_0 l0_1 l0_2 l0_3 = some r) :
  Calls Try.prog 8 #[.agg #[.int .i64 a0_0, .slice A0_1 l0_1.length c0_1, .slice A0_2 l0_2.length c0_2, .slice A0_3 l0_3.length c0_3]] w fun e w' => e = .returned (.bool r) ∧ Below w.heap.size w w' := by
 have hu26 := Try.underlying26
 have HR0_1 := Aside0.mk hr0_1
 have HC0_1 := Aside0.mk hc0_1
 clear hr0_1 hc0_1
 have HR0_2 := Aside0.mk hr0_2
 have HC0_2 := Aside0.mk hc0_2
 clear hr0_2 hc0_2
 have HR0_3 := Aside0.mk hr0_3
 have HC0_3 := Aside0.mk hc0_3
 clear hr0_3 hc0_3
 have HB := Aside0.mk (Below.refl w.heap.size w)
 have H : (if a0_0 > 20 then (treelineref20_Few.j0 k true a0_0 l0_1 l0_2 l0_3) else (if (l0_1.length : Int) > 20 then (treelineref20_Few.j0 k true a0_0 l0_1 l0_2 l0_3) else (if (l0_2.length : Int) > 20 then (treelineref20_Few.j0 k true a0_0 l0_1 l0_2 l0_3) else (treelineref20_Few.j0 k (decide ((l0_3.length : Int) > 40)) a0_0 l0_1 l0_2 l0_3)))) = some r := h
 clear h
 have HC2 := Aside0.mk H
 clear H
 go_enter Try.func8, Try.ntmps8
 go_upto_region 1 with (first | ((with_reducible refine gate_dst (N := 1) rfl ?_); (try (refine gate_guard (by rfl) ?_; dsimp only)); refine box_event ?hg (N := 1) ?hd (cs := #[.int .i64 a0_0, .slice A0_1 l0_1.length c0_1, .slice A0_2 l0_2.length c0_2, .slice A0_3 l0_3.length c0_3]) (t := 26) ?hr ?_; (case hd => rfl); (case hg => rfl); (case hr => first | (go_simp; done) | (go_simp; rfl)); intro gb199 hg w3 hbox hb; have n0_ := Aside0.mk (below_step (by repeat (first | (with_reducible first | exact HB.out | apply below_alloc | apply pw_below_drewN | apply below_drew1) | exact HB.out)) hb); have n1_ := Aside0.mk (hbox); have n2_ := Aside0.mk ((by rw [hg]; exact (below_size (by repeat (first | (with_reducible first | exact HB.out | apply below_alloc | apply pw_below_drewN | apply below_drew1) | exact HB.out))) : w.heap.size ≤ gb199)); have n3_ := Aside0.mk ((by rw [hg]; exact (below_size (by repeat (first | (with_reducible first | exact HB.out | apply below_alloc | apply pw_below_drewN | apply below_drew1) | exact HB.out))) : w.heap.size ≤ gb199)); clear HB; have HB := n0_; have BK199 := n1_; have GW199 := n2_; have GE199 := n3_; clear n0_ n1_ n2_ n3_; clear hb hbox hg))
 (try simp only [Act.put, List.setIfInBounds_toArray, List.set_cons_zero, List.set_cons_succ])
 go_cut [25] (fun v25 wc => ∃ (kq : Nat) (x25_1 : Bool), v25 = .bool x25_1 ∧ Aside0 (treelineref20_Few.j0 kq x25_1 a0_0 l0_1 l0_2 l0_3 = some r) ∧ Aside0 (kq ≤ k) ∧ Aside0 (wc.heap[gb199]? = some (.cells #[.int .i64 a0_0, (.slice A0_1 l0_1.length c0_1), (.slice A0_2 l0_2.length c0_2), (.slice A0_3 l0_3.length c0_3)] 26 (0, 0))) ∧ Aside0 (Below w.heap.size w wc))
 case first =>
  have H := HC2.out
  clear HC2
  by_cases c4 : a0_0 > 20
  ·rw [if_pos c4] at H
   have c4b0 : decide (20 < a0_0) = true := decide_eq_true c4
   clear c4
   (first | rw [c4b0] | (simp only [i64_w, i32_w]; rw [c4b0]) | skip)
   have H' := Aside0.mk H
   clear H
   have hcz5_0 : w3.cell? ⟨gb199, 0, none⟩ = some (.int .i64 a0_0) := (blk_cell BK199.out 0).trans rfl
   have hcz5_1 : w3.cell? ⟨gb199, 1, none⟩ = some (.slice A0_1 l0_1.length c0_1) := (blk_cell BK199.out 1).trans rfl
   have hcz5_2 : w3.cell? ⟨gb199, 2, none⟩ = some (.slice A0_2 l0_2.length c0_2) := (blk_cell BK199.out 2).trans rfl
   have hcz5_3 : w3.cell? ⟨gb199, 3, none⟩ = some (.slice A0_3 l0_3.length c0_3) := (blk_cell BK199.out 3).trans rfl
   have hfz5_0 := blk_frozen BK199.out 0
   have hfz5_1 := blk_frozen BK199.out 1
   have hfz5_2 := blk_frozen BK199.out 2
   have hfz5_3 := blk_frozen BK199.out 3
   go_wp2
   go_meet
   case rel => exact ⟨_, (true), (by first | rfl | (simp; done) | (simp [*]; done)), H', ⟨by first | omega | exact Nat.le_refl _⟩, ⟨by (with_reducible repeat (first | refine blk_drewN ?_ _ | refine blk_drew ?_ | refine blk_alloc ?_ _)); exact BK199.out⟩, ⟨by repeat (first | (with_reducible first | exact HB.out | apply below_alloc | apply pw_below_drewN | apply below_drew1 | refine below_set ?_ GE199.out) | exact HB.out)⟩⟩
  rw [if_neg c4] at H
  have c4b0 : decide (20 < a0_0) = false := decide_eq_false c4
  clear c4
  (first | rw [c4b0] | (simp only [i64_w, i32_w]; rw [c4b0]) | skip)
  by_cases c6 : (l0_1.length : Int) > 20
  ·rw [if_pos c6] at H
   have c6b0 : decide (20 < (l0_1.length : Int)) = true := decide_eq_true c6
   have c6b1 : decide (20 < l0_1.length) = true := decide_eq_true (by omega)
   clear c6
   have H' := Aside0.mk H
   clear H
   have hcz7_0 : w3.cell? ⟨gb199, 0, none⟩ = some (.int .i64 a0_0) := (blk_cell BK199.out 0).trans rfl
   have hcz7_1 : w3.cell? ⟨gb199, 1, none⟩ = some (.slice A0_1 l0_1.length c0_1) := (blk_cell BK199.out 1).trans rfl
   have hcz7_2 : w3.cell? ⟨gb199, 2, none⟩ = some (.slice A0_2 l0_2.length c0_2) := (blk_cell BK199.out 2).trans rfl
   have hcz7_3 : w3.cell? ⟨gb199, 3, none⟩ = some (.slice A0_3 l0_3.length c0_3) := (blk_cell BK199.out 3).trans rfl
   have hfz7_0 := blk_frozen BK199.out 0
   have hfz7_1 := blk_frozen BK199.out 1
   have hfz7_2 := blk_frozen BK199.out 2
   have hfz7_3 := blk_frozen BK199.out 3
   go_wp2
   go_meet
   case rel => exact ⟨_, (true), (by first | rfl | (simp; done) | (simp [*]; done)), H', ⟨by first | omega | exact Nat.le_refl _⟩, ⟨by (with_reducible repeat (first | refine blk_drewN ?_ _ | refine blk_drew ?_ | refine blk_alloc ?_ _)); exact BK199.out⟩, ⟨by repeat (first | (with_reducible first | exact HB.out | apply below_alloc | apply pw_below_drewN | apply below_drew1 | refine below_set ?_ GE199.out) | exact HB.out)⟩⟩
  rw [if_neg c6] at H
  have c6b0 : decide (20 < (l0_1.length : Int)) = false := decide_eq_false c6
  have c6b1 : decide (20 < l0_1.length) = false := decide_eq_false (by omega)
  clear c6
  by_cases c8 : (l0_2.length : Int) > 20
  ·rw [if_pos c8] at H
   have c8b0 : decide (20 < (l0_2.length : Int)) = true := decide_eq_true c8
   have c8b1 : decide (20 < l0_2.length) = true := decide_eq_true (by omega)
   clear c8
   have H' := Aside0.mk H
   clear H
   have hcz9_0 : w3.cell? ⟨gb199, 0, none⟩ = some (.int .i64 a0_0) := (blk_cell BK199.out 0).trans rfl
   have hcz9_1 : w3.cell? ⟨gb199, 1, none⟩ = some (.slice A0_1 l0_1.length c0_1) := (blk_cell BK199.out 1).trans rfl
   have hcz9_2 : w3.cell? ⟨gb199, 2, none⟩ = some (.slice A0_2 l0_2.length c0_2) := (blk_cell BK199.out 2).trans rfl
   have hcz9_3 : w3.cell? ⟨gb199, 3, none⟩ = some (.slice A0_3 l0_3.length c0_3) := (blk_cell BK199.out 3).trans rfl
   have hfz9_0 := blk_frozen BK199.out 0
   have hfz9_1 := blk_frozen BK199.out 1
   have hfz9_2 := blk_frozen BK199.out 2
   have hfz9_3 := blk_frozen BK199.out 3
   go_wp2
   go_meet
   case rel => exact ⟨_, (true), (by first | rfl | (simp; done) | (simp [*]; done)), H', ⟨by first | omega | exact Nat.le_refl _⟩, ⟨by (with_reducible repeat (first | refine blk_drewN ?_ _ | refine blk_drew ?_ | refine blk_alloc ?_ _)); exact BK199.out⟩, ⟨by repeat (first | (with_reducible first | exact HB.out | apply below_alloc | apply pw_below_drewN | apply below_drew1 | refine below_set ?_ GE199.out) | exact HB.out)⟩⟩
  rw [if_neg c8] at H
  have c8b0 : decide (20 < (l0_2.length : Int)) = false := decide_eq_false c8
  have c8b1 : decide (20 < l0_2.length) = false := decide_eq_false (by omega)
  clear c8
  have H' := Aside0.mk H
  clear H
  have hcz10_0 : w3.cell? ⟨gb199, 0, none⟩ = some (.int .i64 a0_0) := (blk_cell BK199.out 0).trans rfl
  have hcz10_1 : w3.cell? ⟨gb199, 1, none⟩ = some (.slice A0_1 l0_1.length c0_1) := (blk_cell BK199.out 1).trans rfl
  have hcz10_2 : w3.cell? ⟨gb199, 2, none⟩ = some (.slice A0_2 l0_2.length c0_2) := (blk_cell BK199.out 2).trans rfl
  have hcz10_3 : w3.cell? ⟨gb199, 3, none⟩ = some (.slice A0_3 l0_3.length c0_3) := (blk_cell BK199.out 3).trans rfl
  have hfz10_0 := blk_frozen BK199.out 0
  have hfz10_1 := blk_frozen BK199.out 1
  have hfz10_2 := blk_frozen BK199.out 2
  have hfz10_3 := blk_frozen BK199.out 3
  go_wp2
  go_meet
  case rel => exact ⟨_, (decide ((l0_3.length : Int) > 40)), (by first | rfl | (simp; done) | (simp [*]; done)), H', ⟨by first | omega | exact Nat.le_refl _⟩, ⟨by (with_reducible repeat (first | refine blk_drewN ?_ _ | refine blk_drew ?_ | refine blk_alloc ?_ _)); exact BK199.out⟩, ⟨by repeat (first | (with_reducible first | exact HB.out | apply below_alloc | apply pw_below_drewN | apply below_drew1 | refine below_set ?_ GE199.out) | exact HB.out)⟩⟩
 clear HC2
 try clear p2
 try clear c4
 try clear c4b0
 try clear c6
 try clear c6b0
 try clear c6b1
 try clear c8
 try clear c8b0
 try clear c8b1
 try clear hcz10_0
 try clear hcz10_1
 try clear hcz10_2
 try clear hcz10_3
 try clear hcz5_0
 try clear hcz5_1
 try clear hcz5_2
 try clear hcz5_3
 try clear hcz7_0
 try clear hcz7_1
 try clear hcz7_2
 try clear hcz7_3
 try clear hcz9_0
 try clear hcz9_1
 try clear hcz9_2
 try clear hcz9_3
 try clear hfz10_0
 try clear hfz10_1
 try clear hfz10_2
 try clear hfz10_3
 try clear hfz5_0
 try clear hfz5_1
 try clear hfz5_2
 try clear hfz5_3
 try clear hfz7_0
 try clear hfz7_1
 try clear hfz7_2
 try clear hfz7_3
 try clear hfz9_0
 try clear hfz9_1
 try clear hfz9_2
 try clear hfz9_3
 obtain ⟨kq, x25_1, rfl, HA, HJ1, BK199, HB⟩ := hcut
 cases kq with
 | zero => exact absurd HA.out (by simp [treelineref20_Few.j0])
 | succ kj1 => ?_
 have H := HA.out
 clear HA
 simp only [treelineref20_Few.j0] at H
 by_cases c11 : x25_1 = true
 ·subst c11
  have H1 : (some false) = some r := by rw [if_pos rfl] at H; exact H
  clear H
  have H := H1
  clear H1
  obtain rfl := Option.some.inj H
  go_wp2
  go_ret
  exact ⟨by first | rfl | (simp [errW_none, errW_some] <;> rfl) | (simp [*, errW_none, errW_some] <;> rfl), by repeat (first | (with_reducible first | exact HB.out | apply below_alloc | apply pw_below_drewN | apply below_drew1 | refine below_set ?_ GE199.out) | exact HB.out)⟩
 replace c11 := Bool.eq_false_iff.mpr c11
 subst c11
 have H1 : (treelineref20_Few.l0 kj1 0 a0_0 l0_1 l0_2 l0_3) = some r := by rw [if_neg (show ¬ (false = true) by decide)] at H; exact H
 clear H
 have H := H1
 clear H1
 have H' := Aside0.mk H
 clear H
 go_wp2
 go_loopg [3] kj1 (fun kq v3 w' => ∃ (x3_2 : Int), v3 = .int .i64 x3_2 ∧ Aside0 (treelineref20_Few.l0 kq x3_2 a0_0 l0_1 l0_2 l0_3 = some r) ∧ Aside0 (kq ≤ kj1) ∧ Aside0 (w'.heap[gb199]? = some (.cells #[.int .i64 a0_0, (.slice A0_1 l0_1.length c0_1), (.slice A0_2 l0_2.length c0_2), (.slice A0_3 l0_3.length c0_3)] 26 (0, 0))) ∧ Aside0 (Below w.heap.size w w'))
 case atStart => exact ⟨(0), (by first | rfl | (simp; done) | (simp [*]; done)), H', ⟨Nat.le_refl _⟩, ⟨by (with_reducible repeat (first | refine blk_drewN ?_ _ | refine blk_drew ?_ | refine blk_alloc ?_ _)); exact BK199.out⟩, ⟨by repeat (first | (with_reducible first | exact HB.out | apply below_alloc | apply pw_below_drewN | apply below_drew1 | refine below_set ?_ GE199.out) | exact HB.out)⟩⟩
 clear H'
 try clear c1
 try clear p2
 try clear c4
 try clear c4b0
 try clear c6
 try clear c6b0
 try clear c6b1
 try clear c8
 try clear c8b0
 try clear c8b1
 try clear c11
 try clear hcz10_0
 try clear hcz10_1
 try clear hcz10_2
 try clear hcz10_3
 try clear hcz5_0
 try clear hcz5_1
 try clear hcz5_2
 try clear hcz5_3
 try clear hcz7_0
 try clear hcz7_1
 try clear hcz7_2
 try clear hcz7_3
 try clear hcz9_0
 try clear hcz9_1
 try clear hcz9_2
 try clear hcz9_3
 try clear hfz10_0
 try clear hfz10_1
 try clear hfz10_2
 try clear hfz10_3
 try clear hfz5_0
 try clear hfz5_1
 try clear hfz5_2
 try clear hfz5_3
 try clear hfz7_0
 try clear hfz7_1
 try clear hfz7_2
 try clear hfz7_3
 try clear hfz9_0
 try clear hfz9_1
 try clear hfz9_2
 try clear hfz9_3
 try clear p2
 obtain ⟨x3_2, rfl, HA, HK2, BK199, HB⟩ := hrel
 cases gk with
 | zero => exact absurd HA.out (by simp [treelineref20_Few.l0])
 | succ k2 => ?_
 have H := HA.out
 clear HA
 simp only [treelineref20_Few.l0] at H
 by_cases c12 : x3_2 < (l0_1.length : Int)
 ·rw [if_pos c12] at H
  have c12b0 : decide (x3_2 < (l0_1.length : Int)) = true := decide_eq_true c12
  clear c12
  by_cases c13 : 0 ≤ x3_2
  rotate_left
  ·rw [if_neg c13] at H
   exact absurd H (by simp)
  rw [if_pos c13] at H
  have c13b0 : decide (0 ≤ x3_2) = true := decide_eq_true c13
  clear c13
  by_cases c14 : (((rd_T48 l0_1 x3_2).f7).length : Int) > 20
  ·rw [if_pos c14] at H
   have c14b0 : decide (20 < (((rd_T48 l0_1 x3_2).f7).length : Int)) = true := decide_eq_true c14
   have c14b1 : decide (20 < ((rd_T48 l0_1 x3_2).f7).length) = true := decide_eq_true (by omega)
   clear c14
   obtain rfl := Option.some.inj H
   have hcz15_0 : wr.cell? ⟨gb199, 0, none⟩ = some (.int .i64 a0_0) := (blk_cell BK199.out 0).trans rfl
   have hcz15_1 : wr.cell? ⟨gb199, 1, none⟩ = some (.slice A0_1 l0_1.length c0_1) := (blk_cell BK199.out 1).trans rfl
   have hcz15_2 : wr.cell? ⟨gb199, 2, none⟩ = some (.slice A0_2 l0_2.length c0_2) := (blk_cell BK199.out 2).trans rfl
   have hcz15_3 : wr.cell? ⟨gb199, 3, none⟩ = some (.slice A0_3 l0_3.length c0_3) := (blk_cell BK199.out 3).trans rfl
   have hfz15_0 := blk_frozen BK199.out 0
   have hfz15_1 := blk_frozen BK199.out 1
   have hfz15_2 := blk_frozen BK199.out 2
   have hfz15_3 := blk_frozen BK199.out 3
   have p200 : 0 ≤ (x3_2 : Int) := of_decide_eq_true (by first | (with_reducible assumption) | assumption)
   have q200 : x3_2 < (l0_1.length : Int) := of_decide_eq_true (by first | (with_reducible assumption) | assumption)
   obtain ⟨ad200, A200_7, c200_7, e200, hx200_0, hx200_1, hx200_2, hx200_3, hx200_4, hx200_5, hx200_6, hx200_7, hl200_7, hi200_7⟩ := at_T48 HR0_1.out x3_2 p200 q200
   cases e200
   replace hx200_0 := (HB.out.cell (World.block_lt_of_cell? w _ hx200_0)).trans hx200_0
   replace hx200_1 := (HB.out.cell (World.block_lt_of_cell? w _ hx200_1)).trans hx200_1
   replace hx200_2 := (HB.out.cell (World.block_lt_of_cell? w _ hx200_2)).trans hx200_2
   replace hx200_3 := (HB.out.cell (World.block_lt_of_cell? w _ hx200_3)).trans hx200_3
   replace hx200_4 := (HB.out.cell (World.block_lt_of_cell? w _ hx200_4)).trans hx200_4
   replace hx200_5 := (HB.out.cell (World.block_lt_of_cell? w _ hx200_5)).trans hx200_5
   replace hx200_6 := (HB.out.cell (World.block_lt_of_cell? w _ hx200_6)).trans hx200_6
   replace hx200_7 := (HB.out.cell (World.block_lt_of_cell? w _ hx200_7)).trans hx200_7
   have HR200_7 := Aside0.mk hi200_7
   have HC200_7 := Aside0.mk hl200_7
   clear hi200_7 hl200_7
   replace p200 := eq_true p200
   replace q200 := eq_true q200
   go_wp2
   go_ret
   exact ⟨by first | rfl | (simp [errW_none, errW_some] <;> rfl) | (simp [*, errW_none, errW_some] <;> rfl), by repeat (first | (with_reducible first | exact HB.out | apply below_alloc | apply pw_below_drewN | apply below_drew1 | refine below_set ?_ GE199.out) | exact HB.out)⟩
  rw [if_neg c14] at H
  have c14b0 : decide (20 < (((rd_T48 l0_1 x3_2).f7).length : Int)) = false := decide_eq_false c14
  have c14b1 : decide (20 < ((rd_T48 l0_1 x3_2).f7).length) = false := decide_eq_false (by omega)
  clear c14
  have H' := Aside0.mk H
  clear H
  have hcz16_0 : wr.cell? ⟨gb199, 0, none⟩ = some (.int .i64 a0_0) := (blk_cell BK199.out 0).trans rfl
  have hcz16_1 : wr.cell? ⟨gb199, 1, none⟩ = some (.slice A0_1 l0_1.length c0_1) := (blk_cell BK199.out 1).trans rfl
  have hcz16_2 : wr.cell? ⟨gb199, 2, none⟩ = some (.slice A0_2 l0_2.length c0_2) := (blk_cell BK199.out 2).trans rfl
  have hcz16_3 : wr.cell? ⟨gb199, 3, none⟩ = some (.slice A0_3 l0_3.length c0_3) := (blk_cell BK199.out 3).trans rfl
  have hfz16_0 := blk_frozen BK199.out 0
  have hfz16_1 := blk_frozen BK199.out 1
  have hfz16_2 := blk_frozen BK199.out 2
  have hfz16_3 := blk_frozen BK199.out 3
  have p200 : 0 ≤ (x3_2 : Int) := of_decide_eq_true (by first | (with_reducible assumption) | assumption)
  have q200 : x3_2 < (l0_1.length : Int) := of_decide_eq_true (by first | (with_reducible assumption) | assumption)
  obtain ⟨ad200, A200_7, c200_7, e200, hx200_0, hx200_1, hx200_2, hx200_3, hx200_4, hx200_5, hx200_6, hx200_7, hl200_7, hi200_7⟩ := at_T48 HR0_1.out x3_2 p200 q200
  cases e200
  replace hx200_0 := (HB.out.cell (World.block_lt_of_cell? w _ hx200_0)).trans hx200_0
  replace hx200_1 := (HB.out.cell (World.block_lt_of_cell? w _ hx200_1)).trans hx200_1
  replace hx200_2 := (HB.out.cell (World.block_lt_of_cell? w _ hx200_2)).trans hx200_2
  replace hx200_3 := (HB.out.cell (World.block_lt_of_cell? w _ hx200_3)).trans hx200_3
  replace hx200_4 := (HB.out.cell (World.block_lt_of_cell? w _ hx200_4)).trans hx200_4
  replace hx200_5 := (HB.out.cell (World.block_lt_of_cell? w _ hx200_5)).trans hx200_5
  replace hx200_6 := (HB.out.cell (World.block_lt_of_cell? w _ hx200_6)).trans hx200_6
  replace hx200_7 := (HB.out.cell (World.block_lt_of_cell? w _ hx200_7)).trans hx200_7
  have HR200_7 := Aside0.mk hi200_7
  have HC200_7 := Aside0.mk hl200_7
  clear hi200_7 hl200_7
  replace p200 := eq_true p200
  replace q200 := eq_true q200
  go_wp2
  go_roundg k2
  case measure => have := HJ1.out; have := HK2.out; omega
  case rel => exact ⟨(wrap64 (x3_2 + 1)), (by first | rfl | (simp; done) | (simp [*]; done)), H', ⟨by have := HJ1.out; have := HK2.out; omega⟩, ⟨by (with_reducible repeat (first | refine blk_drewN ?_ _ | refine blk_drew ?_ | refine blk_alloc ?_ _)); exact BK199.out⟩, ⟨by repeat (first | (with_reducible first | exact HB.out | apply below_alloc | apply pw_below_drewN | apply below_drew1 | refine below_set ?_ GE199.out) | exact HB.out)⟩⟩
 rw [if_neg c12] at H
 have c12b0 : decide (x3_2 < (l0_1.length : Int)) = false := decide_eq_false c12
 clear c12
 have H' := Aside0.mk H
 clear H
 have hcz17_0 : wr.cell? ⟨gb199, 0, none⟩ = some (.int .i64 a0_0) := (blk_cell BK199.out 0).trans rfl
 have hcz17_1 : wr.cell? ⟨gb199, 1, none⟩ = some (.slice A0_1 l0_1.length c0_1) := (blk_cell BK199.out 1).trans rfl
 have hcz17_2 : wr.cell? ⟨gb199, 2, none⟩ = some (.slice A0_2 l0_2.length c0_2) := (blk_cell BK199.out 2).trans rfl
 have hcz17_3 : wr.cell? ⟨gb199, 3, none⟩ = some (.slice A0_3 l0_3.length c0_3) := (blk_cell BK199.out 3).trans rfl
 have hfz17_0 := blk_frozen BK199.out 0
 have hfz17_1 := blk_frozen BK199.out 1
 have hfz17_2 := blk_frozen BK199.out 2
 have hfz17_3 := blk_frozen BK199.out 3
 go_wp2
 go_loopg [4] k2 (fun kq v4 w' => ∃ (x4_3 : Int), v4 = .int .i64 x4_3 ∧ Aside0 (treelineref20_Few.l1 kq x4_3 a0_0 l0_1 l0_2 l0_3 = some r) ∧ Aside0 (kq ≤ k2) ∧ Aside0 (w'.heap[gb199]? = some (.cells #[.int .i64 a0_0, (.slice A0_1 l0_1.length c0_1), (.slice A0_2 l0_2.length c0_2), (.slice A0_3 l0_3.length c0_3)] 26 (0, 0))) ∧ Aside0 (Below w.heap.size w w'))
 case atStart => exact ⟨(0), (by first | rfl | (simp; done) | (simp [*]; done)), H', ⟨Nat.le_refl _⟩, ⟨by (with_reducible repeat (first | refine blk_drewN ?_ _ | refine blk_drew ?_ | refine blk_alloc ?_ _)); exact BK199.out⟩, ⟨by repeat (first | (with_reducible first | exact HB.out | apply below_alloc | apply pw_below_drewN | apply below_drew1 | refine below_set ?_ GE199.out) | exact HB.out)⟩⟩
 clear H'
 try clear c1
 try clear c2
 try clear p2
 try clear q2
 try clear hx2
 try clear c4
 try clear c4b0
 try clear c6
 try clear c6b0
 try clear c6b1
 try clear p6
 try clear c8
 try clear c8b0
 try clear c8b1
 try clear c11
 try clear c12
 try clear c12b0
 try clear c13
 try clear c13b0
 try clear c14
 try clear c14b0
 try clear c14b1
 try clear hcz10_0
 try clear hcz10_1
 try clear hcz10_2
 try clear hcz10_3
 try clear hcz15_0
 try clear hcz15_1
 try clear hcz15_2
 try clear hcz15_3
 try clear hcz16_0
 try clear hcz16_1
 try clear hcz16_2
 try clear hcz16_3
 try clear hcz17_0
 try clear hcz17_1
 try clear hcz17_2
 try clear hcz17_3
 try clear hcz5_0
 try clear hcz5_1
 try clear hcz5_2
 try clear hcz5_3
 try clear hcz7_0
 try clear hcz7_1
 try clear hcz7_2
 try clear hcz7_3
 try clear hcz9_0
 try clear hcz9_1
 try clear hcz9_2
 try clear hcz9_3
 try clear hfz10_0
 try clear hfz10_1
 try clear hfz10_2
 try clear hfz10_3
 try clear hfz15_0
 try clear hfz15_1
 try clear hfz15_2
 try clear hfz15_3
 try clear hfz16_0
 try clear hfz16_1
 try clear hfz16_2
 try clear hfz16_3
 try clear hfz17_0
 try clear hfz17_1
 try clear hfz17_2
 try clear hfz17_3
 try clear hfz5_0
 try clear hfz5_1
 try clear hfz5_2
 try clear hfz5_3
 try clear hfz7_0
 try clear hfz7_1
 try clear hfz7_2
 try clear hfz7_3
 try clear hfz9_0
 try clear hfz9_1
 try clear hfz9_2
 try clear hfz9_3
 try clear hx200_0
 try clear hx200_1
 try clear hx200_2
 try clear hx200_3
 try clear hx200_4
 try clear hx200_5
 try clear hx200_6
 try clear hx200_7
 try clear p2
 try clear p200
 try clear q200
 obtain ⟨x4_3, rfl, HA, HK3, BK199, HB⟩ := hrel
 cases gk with
 | zero => exact absurd HA.out (by simp [treelineref20_Few.l1])
 | succ k3 => ?_
 have H := HA.out
 clear HA
 simp only [treelineref20_Few.l1] at H
 by_cases c18 : x4_3 < (l0_2.length : Int)
 rotate_left
 ·rw [if_neg c18] at H
  have c18b0 : decide (x4_3 < (l0_2.length : Int)) = false := decide_eq_false c18
  clear c18
  obtain rfl := Option.some.inj H
  have hcz23_0 : wr.cell? ⟨gb199, 0, none⟩ = some (.int .i64 a0_0) := (blk_cell BK199.out 0).trans rfl
  have hcz23_1 : wr.cell? ⟨gb199, 1, none⟩ = some (.slice A0_1 l0_1.length c0_1) := (blk_cell BK199.out 1).trans rfl
  have hcz23_2 : wr.cell? ⟨gb199, 2, none⟩ = some (.slice A0_2 l0_2.length c0_2) := (blk_cell BK199.out 2).trans rfl
  have hcz23_3 : wr.cell? ⟨gb199, 3, none⟩ = some (.slice A0_3 l0_3.length c0_3) := (blk_cell BK199.out 3).trans rfl
  have hfz23_0 := blk_frozen BK199.out 0
  have hfz23_1 := blk_frozen BK199.out 1
  have hfz23_2 := blk_frozen BK199.out 2
  have hfz23_3 := blk_frozen BK199.out 3
  go_wp2
  go_ret
  exact ⟨by first | rfl | (simp [errW_none, errW_some] <;> rfl) | (simp [*, errW_none, errW_some] <;> rfl), by repeat (first | (with_reducible first | exact HB.out | apply below_alloc | apply pw_below_drewN | apply below_drew1 | refine below_set ?_ GE199.out) | exact HB.out)⟩
 rw [if_pos c18] at H
 have c18b0 : decide (x4_3 < (l0_2.length : Int)) = true := decide_eq_true c18
 clear c18
 by_cases c19 : 0 ≤ x4_3
 rotate_left
 ·rw [if_neg c19] at H
  exact absurd H (by simp)
 rw [if_pos c19] at H
 have c19b0 : decide (0 ≤ x4_3) = true := decide_eq_true c19
 clear c19
 by_cases c20 : ((rd_L9 l0_2 x4_3).length : Int) > 20
 ·rw [if_pos c20] at H
  have c20b0 : decide (20 < ((rd_L9 l0_2 x4_3).length : Int)) = true := decide_eq_true c20
  have c20b1 : decide (20 < (rd_L9 l0_2 x4_3).length) = true := decide_eq_true (by omega)
  clear c20
  obtain rfl := Option.some.inj H
  have hcz21_0 : wr.cell? ⟨gb199, 0, none⟩ = some (.int .i64 a0_0) := (blk_cell BK199.out 0).trans rfl
  have hcz21_1 : wr.cell? ⟨gb199, 1, none⟩ = some (.slice A0_1 l0_1.length c0_1) := (blk_cell BK199.out 1).trans rfl
  have hcz21_2 : wr.cell? ⟨gb199, 2, none⟩ = some (.slice A0_2 l0_2.length c0_2) := (blk_cell BK199.out 2).trans rfl
  have hcz21_3 : wr.cell? ⟨gb199, 3, none⟩ = some (.slice A0_3 l0_3.length c0_3) := (blk_cell BK199.out 3).trans rfl
  have hfz21_0 := blk_frozen BK199.out 0
  have hfz21_1 := blk_frozen BK199.out 1
  have hfz21_2 := blk_frozen BK199.out 2
  have hfz21_3 := blk_frozen BK199.out 3
  have p201 : 0 ≤ (x4_3 : Int) := of_decide_eq_true (by first | (with_reducible assumption) | assumption)
  have q201 : x4_3 < (l0_2.length : Int) := of_decide_eq_true (by first | (with_reducible assumption) | assumption)
  obtain ⟨ad201, A201_0, c201_0, e201, hx201_0, hl201_0, hi201_0⟩ := at_L9 HR0_2.out x4_3 p201 q201
  cases e201
  replace hx201_0 := (HB.out.cell (World.block_lt_of_cell? w _ hx201_0)).trans hx201_0
  have HR201_0 := Aside0.mk hi201_0
  have HC201_0 := Aside0.mk hl201_0
  clear hi201_0 hl201_0
  replace p201 := eq_true p201
  replace q201 := eq_true q201
  go_wp2
  go_ret
  exact ⟨by first | rfl | (simp [errW_none, errW_some] <;> rfl) | (simp [*, errW_none, errW_some] <;> rfl), by repeat (first | (with_reducible first | exact HB.out | apply below_alloc | apply pw_below_drewN | apply below_drew1 | refine below_set ?_ GE199.out) | exact HB.out)⟩
 rw [if_neg c20] at H
 have c20b0 : decide (20 < ((rd_L9 l0_2 x4_3).length : Int)) = false := decide_eq_false c20
 have c20b1 : decide (20 < (rd_L9 l0_2 x4_3).length) = false := decide_eq_false (by omega)
 clear c20
 have H' := Aside0.mk H
 clear H
 have hcz22_0 : wr.cell? ⟨gb199, 0, none⟩ = some (.int .i64 a0_0) := (blk_cell BK199.out 0).trans rfl
 have hcz22_1 : wr.cell? ⟨gb199, 1, none⟩ = some (.slice A0_1 l0_1.length c0_1) := (blk_cell BK199.out 1).trans rfl
 have hcz22_2 : wr.cell? ⟨gb199, 2, none⟩ = some (.slice A0_2 l0_2.length c0_2) := (blk_cell BK199.out 2).trans rfl
 have hcz22_3 : wr.cell? ⟨gb199, 3, none⟩ = some (.slice A0_3 l0_3.length c0_3) := (blk_cell BK199.out 3).trans rfl
 have hfz22_0 := blk_frozen BK199.out 0
 have hfz22_1 := blk_frozen BK199.out 1
 have hfz22_2 := blk_frozen BK199.out 2
 have hfz22_3 := blk_frozen BK199.out 3
 have p201 : 0 ≤ (x4_3 : Int) := of_decide_eq_true (by first | (with_reducible assumption) | assumption)
 have q201 : x4_3 < (l0_2.length : Int) := of_decide_eq_true (by first | (with_reducible assumption) | assumption)
 obtain ⟨ad201, A201_0, c201_0, e201, hx201_0, hl201_0, hi201_0⟩ := at_L9 HR0_2.out x4_3 p201 q201
 cases e201
 replace hx201_0 := (HB.out.cell (World.block_lt_of_cell? w _ hx201_0)).trans hx201_0
 have HR201_0 := Aside0.mk hi201_0
 have HC201_0 := Aside0.mk hl201_0
 clear hi201_0 hl201_0
 replace p201 := eq_true p201
 replace q201 := eq_true q201
 go_wp2
 go_roundg k3
 case measure => have := HJ1.out; have := HK2.out; have := HK3.out; omega
 case rel => exact ⟨(wrap64 (x4_3 + 1)), (by first | rfl | (simp; done) | (simp [*]; done)), H', ⟨by have := HJ1.out; have := HK2.out; have := HK3.out; omega⟩, ⟨by (with_reducible repeat (first | refine blk_drewN ?_ _ | refine blk_drew ?_ | refine blk_alloc ?_ _)); exact BK199.out⟩, ⟨by repeat (first | (with_reducible first | exact HB.out | apply below_alloc | apply pw_below_drewN | apply below_drew1 | refine below_set ?_ GE199.out) | exact HB.out)⟩⟩
end Go.Proofs.Ytkgfpagfmdefgaa.OTopoRight
