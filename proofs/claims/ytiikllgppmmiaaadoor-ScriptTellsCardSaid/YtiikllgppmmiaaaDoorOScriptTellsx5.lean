/- What Go functions that the law ScriptTells uses come to, and why: part 5. Made out of the kit's print by a program of this session (wip/tools/stub.py, splice.py), functions that it does not take told by hand. -/
import Derived.Test.YtiikllgppmmiaaaDoorOScriptTellsx4
namespace Go.Proofs.YtiikllgppmmiaaaDoor.OScriptTells
open Go.RowKit Go.Proofs.YtiikllgppmmiaaaDoorW.PrintWords Go.Proofs.YtiikllgppmmiaaaDoorW.PrintLast Go.Proofs.YtiikllgppmmiaaaDoorW.PrintMore
attribute [local go_sem] max2_int min2_int max_two min_two max_three min_three max_four min_four   -- for this text's walks alone
set_option linter.unusedVariables false
set_option linter.unusedSimpArgs false

/-! ### frame_Check: function 27 -/
mutual
def frame_Check.j0 : Nat → Bool → Int → Int → Int → List Int → Option (Int)
  | 0, _, _, _, _, _ => none
  | k + 1, x3, x179000, x179001, x179002, x179003 => if x3 = true then (some 1) else (if (x179003.length : Int) > 1500 then (some 4) else (if x179002 > 1500 then (frame_Check.j1 k (decide (x179002 < 1536)) x179000 x179001 x179002 x179003) else (frame_Check.j1 k false x179000 x179001 x179002 x179003)))
def frame_Check.j1 : Nat → Bool → Int → Int → Int → List Int → Option (Int)
  | 0, _, _, _, _, _ => none
  | k + 1, x17, x179000, x179001, x179002, x179003 => if x17 = true then (some 3) else (if x179002 ≤ 1500 then (if (wrap64 (x179002)) = (x179003.length : Int) then (some 0) else (some 3)) else (some 0))
end
def frame_Check.f (k : Nat) (a0_0 : Int) (a0_1 : Int) (a0_2 : Int) (l0_3 : List Int) : Option (Int) := if a0_0 ≥ 281474976710656 then (frame_Check.j0 k true a0_0 a0_1 a0_2 l0_3) else (frame_Check.j0 k (decide (a0_1 ≥ 281474976710656)) a0_0 a0_1 a0_2 l0_3)
theorem frame_Check.mono_l : ∀ k, (∀ y0 y1 y2 y3 y4, LeO (frame_Check.j0 k y0 y1 y2 y3 y4) (frame_Check.j0 (k + 1) y0 y1 y2 y3 y4)) ∧ (∀ y0 y1 y2 y3 y4, LeO (frame_Check.j1 k y0 y1 y2 y3 y4) (frame_Check.j1 (k + 1) y0 y1 y2 y3 y4))
  | 0 => ⟨fun _ _ _ _ _ r h => by simp [frame_Check.j0] at h, fun _ _ _ _ _ r h => by simp [frame_Check.j1] at h⟩
  | k + 1 => by
    obtain ⟨ih0, ih1⟩ := frame_Check.mono_l k
    refine ⟨?_, ?_⟩
    · intro y0 y1 y2 y3 y4
      unfold frame_Check.j0
      repeat' first
      | (with_reducible exact ih0 _ _ _ _ _)
      | (with_reducible exact ih1 _ _ _ _ _)
      | (with_reducible exact LeO.refl _)
      | (with_reducible exact LeO.none _)
      | (with_reducible refine LeO.ite ?_ ?_)
      | (with_reducible refine LeO.bind ?_ (fun _ => ?_))
      | exact ih0 _ _ _ _ _
      | exact ih1 _ _ _ _ _
      | exact LeO.none _
      | refine LeO.ite ?_ ?_
      | refine LeO.bind ?_ (fun _ => ?_)
    · intro y0 y1 y2 y3 y4
      unfold frame_Check.j1
      repeat' first
      | (with_reducible exact ih0 _ _ _ _ _)
      | (with_reducible exact ih1 _ _ _ _ _)
      | (with_reducible exact LeO.refl _)
      | (with_reducible exact LeO.none _)
      | (with_reducible refine LeO.ite ?_ ?_)
      | (with_reducible refine LeO.bind ?_ (fun _ => ?_))
      | exact ih0 _ _ _ _ _
      | exact ih1 _ _ _ _ _
      | exact LeO.none _
      | refine LeO.ite ?_ ?_
      | refine LeO.bind ?_ (fun _ => ?_)
theorem frame_Check.mono : ∀ a0 a1 a2 a3 k, LeO (frame_Check.f k a0 a1 a2 a3) (frame_Check.f (k + 1) a0 a1 a2 a3) := by
  intro a0 a1 a2 a3 k
  obtain ⟨ih0, ih1⟩ := frame_Check.mono_l k
  unfold frame_Check.f
  repeat' first
      | (with_reducible exact ih0 _ _ _ _ _)
      | (with_reducible exact ih1 _ _ _ _ _)
      | (with_reducible exact LeO.refl _)
      | (with_reducible exact LeO.none _)
      | (with_reducible refine LeO.ite ?_ ?_)
      | (with_reducible refine LeO.bind ?_ (fun _ => ?_))
      | exact ih0 _ _ _ _ _
      | exact ih1 _ _ _ _ _
      | exact LeO.none _
      | refine LeO.ite ?_ ?_
      | refine LeO.bind ?_ (fun _ => ?_)
set_option maxHeartbeats 8000000 in
set_option maxRecDepth 100000 in
theorem frame_Check.calls (k : Nat) (a0_0 : Int) (a0_1 : Int) (a0_2 : Int) (A0_3 : Option Addr) (c0_3 : Nat) (l0_3 : List Int) (r : Int) (w : World) (hr0_3 : Kd.C (Kd.int .u8) w A0_3 l0_3.length l0_3) (hc0_3 : l0_3.length ≤ c0_3) (h : frame_Check.f k a0_0 a0_1 a0_2 l0_3 = some r) :
  Calls Tryd.prog 27 #[.agg #[.int .u64 a0_0, .int .u64 a0_1, .int .u16 a0_2, .slice A0_3 l0_3.length c0_3]] w fun e w' => e = .returned (.int .i64 r) ∧ Below w.heap.size w w' := by
 have hu43 := Tryd.underlying43
 have HR0_3 := Aside0.mk hr0_3
 have HC0_3 := Aside0.mk hc0_3
 clear hr0_3 hc0_3
 have HB := Aside0.mk (Below.refl w.heap.size w)
 have H : (if a0_0 ≥ 281474976710656 then (frame_Check.j0 k true a0_0 a0_1 a0_2 l0_3) else (frame_Check.j0 k (decide (a0_1 ≥ 281474976710656)) a0_0 a0_1 a0_2 l0_3)) = some r := h
 clear h
 have HC2 := Aside0.mk H
 clear H
 go_enter Tryd.func27, Tryd.ntmps27
 go_upto_region 1 with (first | ((with_reducible refine gate_dst (N := 1) rfl ?_); (try (refine gate_guard (by rfl) ?_; dsimp only)); refine box_event ?hg (N := 1) ?hd (cs := #[.int .u64 a0_0, .int .u64 a0_1, .int .u16 a0_2, .slice A0_3 l0_3.length c0_3]) (t := 43) ?hr ?_; (case hd => rfl); (case hg => rfl); (case hr => first | (go_simp; done) | (go_simp; rfl)); intro gb178 hg w3 hbox hb; have n0_ := Aside0.mk (below_step (by repeat (first | (with_reducible first | exact HB.out | apply below_alloc | apply pw_below_drewN | apply below_drew1) | exact HB.out)) hb); have n1_ := Aside0.mk (hbox); have n2_ := Aside0.mk ((by rw [hg]; exact (below_size (by repeat (first | (with_reducible first | exact HB.out | apply below_alloc | apply pw_below_drewN | apply below_drew1) | exact HB.out))) : w.heap.size ≤ gb178)); have n3_ := Aside0.mk ((by rw [hg]; exact (below_size (by repeat (first | (with_reducible first | exact HB.out | apply below_alloc | apply pw_below_drewN | apply below_drew1) | exact HB.out))) : w.heap.size ≤ gb178)); clear HB; have HB := n0_; have BK178 := n1_; have GW178 := n2_; have GE178 := n3_; clear n0_ n1_ n2_ n3_; clear hb hbox hg))
 (try simp only [Act.put, List.setIfInBounds_toArray, List.set_cons_zero, List.set_cons_succ])
 go_cut [3] (fun v3 wc => ∃ (kq : Nat) (x3_1 : Bool), v3 = .bool x3_1 ∧ Aside0 (frame_Check.j0 kq x3_1 a0_0 a0_1 a0_2 l0_3 = some r) ∧ Aside0 (kq ≤ k) ∧ Aside0 (wc.heap[gb178]? = some (.cells #[.int .u64 a0_0, .int .u64 a0_1, .int .u16 a0_2, (.slice A0_3 l0_3.length c0_3)] 43 (0, 0))) ∧ Aside0 (Below w.heap.size w wc))
 case first =>
  have H := HC2.out
  clear HC2
  by_cases c4 : a0_0 ≥ 281474976710656
  ·rw [if_pos c4] at H
   have c4b0 : decide (281474976710656 ≤ a0_0) = true := decide_eq_true c4
   clear c4
   (first | rw [c4b0] | (simp only [i64_w, i32_w]; rw [c4b0]) | skip)
   have H' := Aside0.mk H
   clear H
   have hcz5_0 : w3.cell? ⟨gb178, 0, none⟩ = some (.int .u64 a0_0) := (blk_cell BK178.out 0).trans rfl
   have hcz5_1 : w3.cell? ⟨gb178, 1, none⟩ = some (.int .u64 a0_1) := (blk_cell BK178.out 1).trans rfl
   have hcz5_2 : w3.cell? ⟨gb178, 2, none⟩ = some (.int .u16 a0_2) := (blk_cell BK178.out 2).trans rfl
   have hcz5_3 : w3.cell? ⟨gb178, 3, none⟩ = some (.slice A0_3 l0_3.length c0_3) := (blk_cell BK178.out 3).trans rfl
   have hfz5_0 := blk_frozen BK178.out 0
   have hfz5_1 := blk_frozen BK178.out 1
   have hfz5_2 := blk_frozen BK178.out 2
   have hfz5_3 := blk_frozen BK178.out 3
   go_wp2
   go_meet
   case rel => exact ⟨_, (true), (by first | rfl | (simp; done) | (simp [*]; done)), H', ⟨by first | omega | exact Nat.le_refl _⟩, ⟨by (with_reducible repeat (first | refine blk_drewN ?_ _ | refine blk_drew ?_ | refine blk_alloc ?_ _)); exact BK178.out⟩, ⟨by repeat (first | (with_reducible first | exact HB.out | apply below_alloc | apply pw_below_drewN | apply below_drew1 | refine below_set ?_ GE178.out) | exact HB.out)⟩⟩
  rw [if_neg c4] at H
  have c4b0 : decide (281474976710656 ≤ a0_0) = false := decide_eq_false c4
  clear c4
  (first | rw [c4b0] | (simp only [i64_w, i32_w]; rw [c4b0]) | skip)
  have H' := Aside0.mk H
  clear H
  have hcz6_0 : w3.cell? ⟨gb178, 0, none⟩ = some (.int .u64 a0_0) := (blk_cell BK178.out 0).trans rfl
  have hcz6_1 : w3.cell? ⟨gb178, 1, none⟩ = some (.int .u64 a0_1) := (blk_cell BK178.out 1).trans rfl
  have hcz6_2 : w3.cell? ⟨gb178, 2, none⟩ = some (.int .u16 a0_2) := (blk_cell BK178.out 2).trans rfl
  have hcz6_3 : w3.cell? ⟨gb178, 3, none⟩ = some (.slice A0_3 l0_3.length c0_3) := (blk_cell BK178.out 3).trans rfl
  have hfz6_0 := blk_frozen BK178.out 0
  have hfz6_1 := blk_frozen BK178.out 1
  have hfz6_2 := blk_frozen BK178.out 2
  have hfz6_3 := blk_frozen BK178.out 3
  go_wp2
  go_meet
  case rel => exact ⟨_, (decide (a0_1 ≥ 281474976710656)), (by first | rfl | (simp; done) | (simp [*]; done)), H', ⟨by first | omega | exact Nat.le_refl _⟩, ⟨by (with_reducible repeat (first | refine blk_drewN ?_ _ | refine blk_drew ?_ | refine blk_alloc ?_ _)); exact BK178.out⟩, ⟨by repeat (first | (with_reducible first | exact HB.out | apply below_alloc | apply pw_below_drewN | apply below_drew1 | refine below_set ?_ GE178.out) | exact HB.out)⟩⟩
 clear HC2
 try clear c2
 try clear p2
 try clear c4
 try clear c4b0
 try clear hcz5_0
 try clear hcz5_1
 try clear hcz5_2
 try clear hcz5_3
 try clear hcz6_0
 try clear hcz6_1
 try clear hcz6_2
 try clear hcz6_3
 try clear hfz5_0
 try clear hfz5_1
 try clear hfz5_2
 try clear hfz5_3
 try clear hfz6_0
 try clear hfz6_1
 try clear hfz6_2
 try clear hfz6_3
 obtain ⟨kq, x3_1, rfl, HA, HJ1, BK178, HB⟩ := hcut
 cases kq with
 | zero => exact absurd HA.out (by simp [frame_Check.j0])
 | succ kj1 => ?_
 have H := HA.out
 clear HA
 simp only [frame_Check.j0] at H
 by_cases c7 : x3_1 = true
 ·subst c7
  have H1 : (some 1) = some r := by rw [if_pos rfl] at H; exact H
  clear H
  have H := H1
  clear H1
  obtain rfl := Option.some.inj H
  go_wp2
  go_ret
  exact ⟨by first | rfl | (simp [errW_none, errW_some] <;> rfl) | (simp [*, errW_none, errW_some] <;> rfl), by repeat (first | (with_reducible first | exact HB.out | apply below_alloc | apply pw_below_drewN | apply below_drew1 | refine below_set ?_ GE178.out) | exact HB.out)⟩
 replace c7 := Bool.eq_false_iff.mpr c7
 subst c7
 have H1 : (if (l0_3.length : Int) > 1500 then (some 4) else (if a0_2 > 1500 then (frame_Check.j1 kj1 (decide (a0_2 < 1536)) a0_0 a0_1 a0_2 l0_3) else (frame_Check.j1 kj1 false a0_0 a0_1 a0_2 l0_3))) = some r := by rw [if_neg (show ¬ (false = true) by decide)] at H; exact H
 clear H
 have H := H1
 clear H1
 by_cases c8 : (l0_3.length : Int) > 1500
 ·rw [if_pos c8] at H
  have c8b0 : decide (1500 < (l0_3.length : Int)) = true := decide_eq_true c8
  have c8b1 : decide (1500 < l0_3.length) = true := decide_eq_true (by omega)
  clear c8
  obtain rfl := Option.some.inj H
  have hcz9_0 : wc.cell? ⟨gb178, 0, none⟩ = some (.int .u64 a0_0) := (blk_cell BK178.out 0).trans rfl
  have hcz9_1 : wc.cell? ⟨gb178, 1, none⟩ = some (.int .u64 a0_1) := (blk_cell BK178.out 1).trans rfl
  have hcz9_2 : wc.cell? ⟨gb178, 2, none⟩ = some (.int .u16 a0_2) := (blk_cell BK178.out 2).trans rfl
  have hcz9_3 : wc.cell? ⟨gb178, 3, none⟩ = some (.slice A0_3 l0_3.length c0_3) := (blk_cell BK178.out 3).trans rfl
  have hfz9_0 := blk_frozen BK178.out 0
  have hfz9_1 := blk_frozen BK178.out 1
  have hfz9_2 := blk_frozen BK178.out 2
  have hfz9_3 := blk_frozen BK178.out 3
  go_wp2
  go_ret
  exact ⟨by first | rfl | (simp [errW_none, errW_some] <;> rfl) | (simp [*, errW_none, errW_some] <;> rfl), by repeat (first | (with_reducible first | exact HB.out | apply below_alloc | apply pw_below_drewN | apply below_drew1 | refine below_set ?_ GE178.out) | exact HB.out)⟩
 rw [if_neg c8] at H
 have c8b0 : decide (1500 < (l0_3.length : Int)) = false := decide_eq_false c8
 have c8b1 : decide (1500 < l0_3.length) = false := decide_eq_false (by omega)
 clear c8
 have HC10 := Aside0.mk H
 clear H
 have hcz11_0 : wc.cell? ⟨gb178, 0, none⟩ = some (.int .u64 a0_0) := (blk_cell BK178.out 0).trans rfl
 have hcz11_1 : wc.cell? ⟨gb178, 1, none⟩ = some (.int .u64 a0_1) := (blk_cell BK178.out 1).trans rfl
 have hcz11_2 : wc.cell? ⟨gb178, 2, none⟩ = some (.int .u16 a0_2) := (blk_cell BK178.out 2).trans rfl
 have hcz11_3 : wc.cell? ⟨gb178, 3, none⟩ = some (.slice A0_3 l0_3.length c0_3) := (blk_cell BK178.out 3).trans rfl
 have hfz11_0 := blk_frozen BK178.out 0
 have hfz11_1 := blk_frozen BK178.out 1
 have hfz11_2 := blk_frozen BK178.out 2
 have hfz11_3 := blk_frozen BK178.out 3
 go_upto_region 5 with (fail)
 go_cut [17] (fun v17 wc => ∃ (kq : Nat) (x17_9 : Bool), v17 = .bool x17_9 ∧ Aside0 (frame_Check.j1 kq x17_9 a0_0 a0_1 a0_2 l0_3 = some r) ∧ Aside0 (kq ≤ kj1) ∧ Aside0 (wc.heap[gb178]? = some (.cells #[.int .u64 a0_0, .int .u64 a0_1, .int .u16 a0_2, (.slice A0_3 l0_3.length c0_3)] 43 (0, 0))) ∧ Aside0 (Below w.heap.size w wc))
 case first =>
  have H := HC10.out
  clear HC10
  by_cases c12 : a0_2 > 1500
  rotate_left
  ·rw [if_neg c12] at H
   have c12b0 : decide (1500 < a0_2) = false := decide_eq_false c12
   clear c12
   (first | rw [c12b0] | (simp only [i64_w, i32_w]; rw [c12b0]) | skip)
   have H' := Aside0.mk H
   clear H
   have hcz14_0 : wc.cell? ⟨gb178, 0, none⟩ = some (.int .u64 a0_0) := (blk_cell BK178.out 0).trans rfl
   have hcz14_1 : wc.cell? ⟨gb178, 1, none⟩ = some (.int .u64 a0_1) := (blk_cell BK178.out 1).trans rfl
   have hcz14_2 : wc.cell? ⟨gb178, 2, none⟩ = some (.int .u16 a0_2) := (blk_cell BK178.out 2).trans rfl
   have hcz14_3 : wc.cell? ⟨gb178, 3, none⟩ = some (.slice A0_3 l0_3.length c0_3) := (blk_cell BK178.out 3).trans rfl
   have hfz14_0 := blk_frozen BK178.out 0
   have hfz14_1 := blk_frozen BK178.out 1
   have hfz14_2 := blk_frozen BK178.out 2
   have hfz14_3 := blk_frozen BK178.out 3
   go_wp2
   go_meet
   case rel => exact ⟨_, (false), (by first | rfl | (simp; done) | (simp [*]; done)), H', ⟨by have := HJ1.out; first | omega | exact Nat.le_refl _⟩, ⟨by (with_reducible repeat (first | refine blk_drewN ?_ _ | refine blk_drew ?_ | refine blk_alloc ?_ _)); exact BK178.out⟩, ⟨by repeat (first | (with_reducible first | exact HB.out | apply below_alloc | apply pw_below_drewN | apply below_drew1 | refine below_set ?_ GE178.out) | exact HB.out)⟩⟩
  rw [if_pos c12] at H
  have c12b0 : decide (1500 < a0_2) = true := decide_eq_true c12
  clear c12
  (first | rw [c12b0] | (simp only [i64_w, i32_w]; rw [c12b0]) | skip)
  have H' := Aside0.mk H
  clear H
  have hcz13_0 : wc.cell? ⟨gb178, 0, none⟩ = some (.int .u64 a0_0) := (blk_cell BK178.out 0).trans rfl
  have hcz13_1 : wc.cell? ⟨gb178, 1, none⟩ = some (.int .u64 a0_1) := (blk_cell BK178.out 1).trans rfl
  have hcz13_2 : wc.cell? ⟨gb178, 2, none⟩ = some (.int .u16 a0_2) := (blk_cell BK178.out 2).trans rfl
  have hcz13_3 : wc.cell? ⟨gb178, 3, none⟩ = some (.slice A0_3 l0_3.length c0_3) := (blk_cell BK178.out 3).trans rfl
  have hfz13_0 := blk_frozen BK178.out 0
  have hfz13_1 := blk_frozen BK178.out 1
  have hfz13_2 := blk_frozen BK178.out 2
  have hfz13_3 := blk_frozen BK178.out 3
  go_wp2
  go_meet
  case rel => exact ⟨_, (decide (a0_2 < 1536)), (by first | rfl | (simp; done) | (simp [*]; done)), H', ⟨by have := HJ1.out; first | omega | exact Nat.le_refl _⟩, ⟨by (with_reducible repeat (first | refine blk_drewN ?_ _ | refine blk_drew ?_ | refine blk_alloc ?_ _)); exact BK178.out⟩, ⟨by repeat (first | (with_reducible first | exact HB.out | apply below_alloc | apply pw_below_drewN | apply below_drew1 | refine below_set ?_ GE178.out) | exact HB.out)⟩⟩
 clear HC10
 try clear c1
 try clear c2
 try clear p2
 try clear c4
 try clear c4b0
 try clear c7
 try clear c8
 try clear c8b0
 try clear c8b1
 try clear c12
 try clear c12b0
 try clear hcz11_0
 try clear hcz11_1
 try clear hcz11_2
 try clear hcz11_3
 try clear hcz13_0
 try clear hcz13_1
 try clear hcz13_2
 try clear hcz13_3
 try clear hcz14_0
 try clear hcz14_1
 try clear hcz14_2
 try clear hcz14_3
 try clear hcz5_0
 try clear hcz5_1
 try clear hcz5_2
 try clear hcz5_3
 try clear hcz6_0
 try clear hcz6_1
 try clear hcz6_2
 try clear hcz6_3
 try clear hcz9_0
 try clear hcz9_1
 try clear hcz9_2
 try clear hcz9_3
 try clear hfz11_0
 try clear hfz11_1
 try clear hfz11_2
 try clear hfz11_3
 try clear hfz13_0
 try clear hfz13_1
 try clear hfz13_2
 try clear hfz13_3
 try clear hfz14_0
 try clear hfz14_1
 try clear hfz14_2
 try clear hfz14_3
 try clear hfz5_0
 try clear hfz5_1
 try clear hfz5_2
 try clear hfz5_3
 try clear hfz6_0
 try clear hfz6_1
 try clear hfz6_2
 try clear hfz6_3
 try clear hfz9_0
 try clear hfz9_1
 try clear hfz9_2
 try clear hfz9_3
 try clear p2
 obtain ⟨kq, x17_9, rfl, HA, HJ9, BK178, HB⟩ := hcut
 cases kq with
 | zero => exact absurd HA.out (by simp [frame_Check.j1])
 | succ kj9 => ?_
 have H := HA.out
 clear HA
 simp only [frame_Check.j1] at H
 by_cases c15 : x17_9 = true
 ·subst c15
  have H1 : (some 3) = some r := by rw [if_pos rfl] at H; exact H
  clear H
  have H := H1
  clear H1
  obtain rfl := Option.some.inj H
  go_wp2
  go_ret
  exact ⟨by first | rfl | (simp [errW_none, errW_some] <;> rfl) | (simp [*, errW_none, errW_some] <;> rfl), by repeat (first | (with_reducible first | exact HB.out | apply below_alloc | apply pw_below_drewN | apply below_drew1 | refine below_set ?_ GE178.out) | exact HB.out)⟩
 replace c15 := Bool.eq_false_iff.mpr c15
 subst c15
 have H1 : (if a0_2 ≤ 1500 then (if (wrap64 (a0_2)) = (l0_3.length : Int) then (some 0) else (some 3)) else (some 0)) = some r := by rw [if_neg (show ¬ (false = true) by decide)] at H; exact H
 clear H
 have H := H1
 clear H1
 by_cases c16 : a0_2 ≤ 1500
 rotate_left
 ·rw [if_neg c16] at H
  have c16b0 : decide (a0_2 ≤ 1500) = false := decide_eq_false c16
  clear c16
  obtain rfl := Option.some.inj H
  have hcz20_0 : wc.cell? ⟨gb178, 0, none⟩ = some (.int .u64 a0_0) := (blk_cell BK178.out 0).trans rfl
  have hcz20_1 : wc.cell? ⟨gb178, 1, none⟩ = some (.int .u64 a0_1) := (blk_cell BK178.out 1).trans rfl
  have hcz20_2 : wc.cell? ⟨gb178, 2, none⟩ = some (.int .u16 a0_2) := (blk_cell BK178.out 2).trans rfl
  have hcz20_3 : wc.cell? ⟨gb178, 3, none⟩ = some (.slice A0_3 l0_3.length c0_3) := (blk_cell BK178.out 3).trans rfl
  have hfz20_0 := blk_frozen BK178.out 0
  have hfz20_1 := blk_frozen BK178.out 1
  have hfz20_2 := blk_frozen BK178.out 2
  have hfz20_3 := blk_frozen BK178.out 3
  go_wp2
  go_ret
  exact ⟨by first | rfl | (simp [errW_none, errW_some] <;> rfl) | (simp [*, errW_none, errW_some] <;> rfl), by repeat (first | (with_reducible first | exact HB.out | apply below_alloc | apply pw_below_drewN | apply below_drew1 | refine below_set ?_ GE178.out) | exact HB.out)⟩
 rw [if_pos c16] at H
 have c16b0 : decide (a0_2 ≤ 1500) = true := decide_eq_true c16
 clear c16
 by_cases c17 : (wrap64 (a0_2)) = (l0_3.length : Int)
 rotate_left
 ·rw [if_neg c17] at H
  have c17b0 : ((wrap64 (a0_2)) == (l0_3.length : Int)) = false := beq_eq_false_iff_ne.mpr c17
  have c17b1 : ((wrap64 (a0_2)) != (l0_3.length : Int)) = true := bne_iff_ne.mpr c17
  obtain rfl := Option.some.inj H
  have hcz19_0 : wc.cell? ⟨gb178, 0, none⟩ = some (.int .u64 a0_0) := (blk_cell BK178.out 0).trans rfl
  have hcz19_1 : wc.cell? ⟨gb178, 1, none⟩ = some (.int .u64 a0_1) := (blk_cell BK178.out 1).trans rfl
  have hcz19_2 : wc.cell? ⟨gb178, 2, none⟩ = some (.int .u16 a0_2) := (blk_cell BK178.out 2).trans rfl
  have hcz19_3 : wc.cell? ⟨gb178, 3, none⟩ = some (.slice A0_3 l0_3.length c0_3) := (blk_cell BK178.out 3).trans rfl
  have hfz19_0 := blk_frozen BK178.out 0
  have hfz19_1 := blk_frozen BK178.out 1
  have hfz19_2 := blk_frozen BK178.out 2
  have hfz19_3 := blk_frozen BK178.out 3
  go_wp2
  go_ret
  exact ⟨by first | rfl | (simp [errW_none, errW_some] <;> rfl) | (simp [*, errW_none, errW_some] <;> rfl), by repeat (first | (with_reducible first | exact HB.out | apply below_alloc | apply pw_below_drewN | apply below_drew1 | refine below_set ?_ GE178.out) | exact HB.out)⟩
 rw [if_pos c17] at H
 have c17b0 : ((wrap64 (a0_2)) == (l0_3.length : Int)) = true := beq_iff_eq.mpr c17
 have c17b1 : ((wrap64 (a0_2)) != (l0_3.length : Int)) = false := bne_eq_false_iff_eq.mpr c17
 clear c17
 obtain rfl := Option.some.inj H
 have hcz18_0 : wc.cell? ⟨gb178, 0, none⟩ = some (.int .u64 a0_0) := (blk_cell BK178.out 0).trans rfl
 have hcz18_1 : wc.cell? ⟨gb178, 1, none⟩ = some (.int .u64 a0_1) := (blk_cell BK178.out 1).trans rfl
 have hcz18_2 : wc.cell? ⟨gb178, 2, none⟩ = some (.int .u16 a0_2) := (blk_cell BK178.out 2).trans rfl
 have hcz18_3 : wc.cell? ⟨gb178, 3, none⟩ = some (.slice A0_3 l0_3.length c0_3) := (blk_cell BK178.out 3).trans rfl
 have hfz18_0 := blk_frozen BK178.out 0
 have hfz18_1 := blk_frozen BK178.out 1
 have hfz18_2 := blk_frozen BK178.out 2
 have hfz18_3 := blk_frozen BK178.out 3
 go_wp2
 go_ret
 exact ⟨by first | rfl | (simp [errW_none, errW_some] <;> rfl) | (simp [*, errW_none, errW_some] <;> rfl), by repeat (first | (with_reducible first | exact HB.out | apply below_alloc | apply pw_below_drewN | apply below_drew1 | refine below_set ?_ GE178.out) | exact HB.out)⟩
end Go.Proofs.YtiikllgppmmiaaaDoor.OScriptTells
