/- What Go functions that the law TopoRight uses come to, and why: part 8. Made out of the kit's print by a program of this session (wip/tools/stub.py, splice.py), functions that it does not take told by hand. -/
import Derived.Test.YtkgfpagfmdefgaaOTopoRightx7
namespace Go.Proofs.Ytkgfpagfmdefgaa.OTopoRight
open Go.RowKit Go.Proofs.YtkgfpagfmdefgaaW.PrintWords Go.Proofs.YtkgfpagfmdefgaaW.PrintLast Go.Proofs.YtkgfpagfmdefgaaW.PrintMore
attribute [local go_sem] max2_int min2_int max_two min_two max_three min_three max_four min_four   -- for this text's walks alone
set_option linter.unusedVariables false
set_option linter.unusedSimpArgs false

/-! ### topo_Joined: function 13 -/
def topo_Joined.l0 : Nat → List Int → Int → Int → Option (Bool)
  | 0, _, _, _ => none
  | k + 1, x9, x10, x11 => if x11 < x10 then (if 0 ≤ x11 then (if x11 < (x9.length : Int) then (if (rd x9 x11) = 0 then (topo_Joined.l0 k x9 x10 (wrap64 (x11 + 1))) else (some false)) else (none)) else (none)) else (some true)
def topo_Joined.f (k : Nat) (a0_0 : Int) (l0_1 : List (S48)) (l0_2 : List (List Int)) (l0_3 : List (S59)) (l1 : List (List Bool)) : Option (Bool) := (topo_Parts.f k a0_0 l0_1 l0_2 l0_3 l1).bind fun t153 => (topo_Joined.l0 k t153 (t153.length : Int) 0)
theorem topo_Joined.mono_l : ∀ k, (∀ y0 y1 y2, LeO (topo_Joined.l0 k y0 y1 y2) (topo_Joined.l0 (k + 1) y0 y1 y2))
  | 0 => fun _ _ _ r h => by simp [topo_Joined.l0] at h
  | k + 1 => by
    have ih0 := topo_Joined.mono_l k
    · intro y0 y1 y2
      unfold topo_Joined.l0
      repeat' first
      | (with_reducible exact ih0 _ _ _)
      | (with_reducible exact topo_Parts.mono _ _ _ _ _ _)
      | (with_reducible exact LeO.refl _)
      | (with_reducible exact LeO.none _)
      | (with_reducible refine LeO.ite ?_ ?_)
      | (with_reducible refine LeO.bind ?_ (fun _ => ?_))
      | exact ih0 _ _ _
      | exact topo_Parts.mono _ _ _ _ _ _
      | exact LeO.none _
      | refine LeO.ite ?_ ?_
      | refine LeO.bind ?_ (fun _ => ?_)
theorem topo_Joined.mono : ∀ a0 a1 a2 a3 a4 k, LeO (topo_Joined.f k a0 a1 a2 a3 a4) (topo_Joined.f (k + 1) a0 a1 a2 a3 a4) := by
  intro a0 a1 a2 a3 a4 k
  have ih0 := topo_Joined.mono_l k
  unfold topo_Joined.f
  repeat' first
      | (with_reducible exact ih0 _ _ _)
      | (with_reducible exact topo_Parts.mono _ _ _ _ _ _)
      | (with_reducible exact LeO.refl _)
      | (with_reducible exact LeO.none _)
      | (with_reducible refine LeO.ite ?_ ?_)
      | (with_reducible refine LeO.bind ?_ (fun _ => ?_))
      | exact ih0 _ _ _
      | exact topo_Parts.mono _ _ _ _ _ _
      | exact LeO.none _
      | refine LeO.ite ?_ ?_
      | refine LeO.bind ?_ (fun _ => ?_)
set_option maxHeartbeats 8000000 in
set_option maxRecDepth 100000 in
theorem topo_Joined.calls (k : Nat) (a0_0 : Int) (A0_1 : Option Addr) (c0_1 : Nat) (l0_1 : List (S48)) (A0_2 : Option Addr) (c0_2 : Nat) (l0_2 : List (List Int)) (A0_3 : Option Addr) (c0_3 : Nat) (l0_3 : List (S59)) (A1 : Option Addr) (c1 : Nat) (l1 : List (List Bool)) (r : Bool) (w : World) (hr0_1 : Kd.C k48 w A0_1 l0_1.length l0_1) (hc0_1 : l0_1.length ≤ c0_1) (hr0_2 : Kd.C (Kd.slice 3 (Kd.int .i64)) w A0_2 l0_2.length l0_2) (hc0_2 : l0_2.length ≤ c0_2) (hr0_3 : Kd.C k59 w A0_3 l0_3.length l0_3) (hc0_3 : l0_3.length ≤ c0_3) (hr1 : Kd.C (Kd.slice 4 Kd.bool) w A1 l1.length l1) (hc1 : l1.length ≤ c1) (h : topo_Joined.f k a0_0 l0_1 l0_2 l0_3 l1 = some r) :
  Calls Try.prog 13 #[.agg #[.int .i64 a0_0, .slice A0_1 l0_1.length c0_1, .slice A0_2 l0_2.length c0_2, .slice A0_3 l0_3.length c0_3], .slice A1 l1.length c1] w fun e w' => e = .returned (.bool r) ∧ Below w.heap.size w w' := by
 have hu26 := Try.underlying26
 have HR0_1 := Aside0.mk hr0_1
 have HC0_1 := Aside0.mk hc0_1
 clear hr0_1 hc0_1
 have HR0_2 := Aside0.mk hr0_2
 have HC0_2 := Aside0.mk hc0_2
 clear hr0_2 hc0_2
 have HR0_3 := Aside0.mk hr0_3
 have HC0_3 := Aside0.mk hc0_3
 clear hr0_3 hc0_3
 have HR1 := Aside0.mk hr1
 have HC1 := Aside0.mk hc1
 clear hr1 hc1
 have HB := Aside0.mk (Below.refl w.heap.size w)
 have H : ((topo_Parts.f k a0_0 l0_1 l0_2 l0_3 l1).bind fun t153 => (topo_Joined.l0 k t153 (t153.length : Int) 0)) = some r := h
 clear h
 replace H := Option.bind_eq_some_iff.mp H
 obtain ⟨t153, A30, H⟩ := H
 replace H : (topo_Joined.l0 k t153 (t153.length : Int) 0) = some r := H
 have A3 := Aside0.mk A30
 clear A30
 have H' := Aside0.mk H
 clear H
 go_enter Try.func13, Try.ntmps13
 go_wp2_with (first | ((with_reducible refine gate_dst (N := 2) rfl ?_); refine box_event ?hg (N := 2) ?hd (cs := #[.int .i64 a0_0, .slice A0_1 l0_1.length c0_1, .slice A0_2 l0_2.length c0_2, .slice A0_3 l0_3.length c0_3]) (t := 26) ?hr ?_; (case hd => rfl); (case hg => rfl); (case hr => first | (go_simp; done) | (go_simp; rfl)); intro gb152 hg w4 hbox hb; have n0_ := Aside0.mk (below_step (by repeat (first | (with_reducible first | exact HB.out | apply below_alloc | apply pw_below_drewN | apply below_drew1) | exact HB.out)) hb); have n1_ := Aside0.mk (hbox); have n2_ := Aside0.mk ((by rw [hg]; exact (below_size (by repeat (first | (with_reducible first | exact HB.out | apply below_alloc | apply pw_below_drewN | apply below_drew1) | exact HB.out))) : w.heap.size ≤ gb152)); have n3_ := Aside0.mk ((by rw [hg]; exact (below_size (by repeat (first | (with_reducible first | exact HB.out | apply below_alloc | apply pw_below_drewN | apply below_drew1) | exact HB.out))) : w.heap.size ≤ gb152)); clear HB; have HB := n0_; have BK152 := n1_; have GW152 := n2_; have GE152 := n3_; clear n0_ n1_ n2_ n3_; clear hb hbox hg; have hcz5_0 : w4.cell? ⟨gb152, 0, none⟩ = some (.int .i64 a0_0) := (blk_cell BK152.out 0).trans rfl; have hcz5_1 : w4.cell? ⟨gb152, 1, none⟩ = some (.slice A0_1 l0_1.length c0_1) := (blk_cell BK152.out 1).trans rfl; have hcz5_2 : w4.cell? ⟨gb152, 2, none⟩ = some (.slice A0_2 l0_2.length c0_2) := (blk_cell BK152.out 2).trans rfl; have hcz5_3 : w4.cell? ⟨gb152, 3, none⟩ = some (.slice A0_3 l0_3.length c0_3) := (blk_cell BK152.out 3).trans rfl; have hfz5_0 := blk_frozen BK152.out 0; have hfz5_1 := blk_frozen BK152.out 1; have hfz5_2 := blk_frozen BK152.out 2; have hfz5_3 := blk_frozen BK152.out 3) | ((with_reducible refine gate_callee (f := 11) rfl ?_); refine goesL_ (some 9) rfl rfl Try.func11 (by kernel_rfl) rfl #[.agg #[.int .i64 a0_0, .slice A0_1 l0_1.length c0_1, .slice A0_2 l0_2.length c0_2, .slice A0_3 l0_3.length c0_3], .slice A1 l1.length c1] rfl (by (try simp only [List.map_toArray, List.map_cons, List.map_nil]); first | done | rfl | (simp only [List.length_drop, List.length_take]; rfl)) ?_; (with_reducible refine (topo_Parts.calls k a0_0 _ _ l0_1 _ _ l0_2 _ _ l0_3 _ _ l1 t153 _ ?side1 ?side2 ?side3 ?side4 ?side5 ?side6 ?side7 ?side8 A3.out).mono ?_); (case side1 => repeat (first | exact (Kd.C_below HR0_1.out HB.out) | (with_reducible refine Kd.C_alloc ?_ _) | (with_reducible refine Kd.C_drewN ?_ _) | (with_reducible refine Kd.C_drew ?_))); (case side2 => exact HC0_1.out); (case side3 => repeat (first | exact (Kd.C_below HR0_2.out HB.out) | (with_reducible refine Kd.C_alloc ?_ _) | (with_reducible refine Kd.C_drewN ?_ _) | (with_reducible refine Kd.C_drew ?_))); (case side4 => exact HC0_2.out); (case side5 => repeat (first | exact (Kd.C_below HR0_3.out HB.out) | (with_reducible refine Kd.C_alloc ?_ _) | (with_reducible refine Kd.C_drewN ?_ _) | (with_reducible refine Kd.C_drew ?_))); (case side6 => exact HC0_3.out); (case side7 => repeat (first | exact (Kd.C_below HR1.out HB.out) | (with_reducible refine Kd.C_alloc ?_ _) | (with_reducible refine Kd.C_drewN ?_ _) | (with_reducible refine Kd.C_drew ?_))); (case side8 => exact HC1.out); rintro e w6 ⟨v154, rfl, ho0, hb⟩; refine ⟨_, rfl, ?_⟩; have n0_ := Aside0.mk (Kd.R_lower ho0 (below_size (by repeat (first | (with_reducible first | exact HB.out | apply below_alloc | apply pw_below_drewN | apply below_drew1 | refine below_set ?_ GE152.out) | exact HB.out)))); have n1_ := Aside0.mk (blk_below (g := gb152) (o := .cells #[.int .i64 a0_0, .slice A0_1 l0_1.length c0_1, .slice A0_2 l0_2.length c0_2, .slice A0_3 l0_3.length c0_3] 26 (0, 0)) (by (with_reducible repeat (first | refine blk_drewN ?_ _ | refine blk_drew ?_ | refine blk_alloc ?_ _)); exact BK152.out) hb); have n2_ := Aside0.mk (below_step (by repeat (first | (with_reducible first | exact HB.out | apply below_alloc | apply pw_below_drewN | apply below_drew1 | refine below_set ?_ GE152.out) | exact HB.out)) hb); clear BK152; clear HB; have HO155 := n0_; have BK152 := n1_; have HB := n2_; clear n0_ n1_ n2_; (try clear hb); (try clear hb2); (try clear hk); (try clear hi); (try clear ho0); obtain ⟨Ao7, co7, eo7⟩ := Kd.R_slice HO155.out; subst eo7) | (go_at_call 11; (with_reducible refine (topo_Parts.calls k a0_0 _ _ l0_1 _ _ l0_2 _ _ l0_3 _ _ l1 t153 _ ?side1 ?side2 ?side3 ?side4 ?side5 ?side6 ?side7 ?side8 A3.out).mono ?_); (case side1 => repeat (first | exact (Kd.C_below HR0_1.out HB.out) | (with_reducible refine Kd.C_alloc ?_ _) | (with_reducible refine Kd.C_drewN ?_ _) | (with_reducible refine Kd.C_drew ?_))); (case side2 => exact HC0_1.out); (case side3 => repeat (first | exact (Kd.C_below HR0_2.out HB.out) | (with_reducible refine Kd.C_alloc ?_ _) | (with_reducible refine Kd.C_drewN ?_ _) | (with_reducible refine Kd.C_drew ?_))); (case side4 => exact HC0_2.out); (case side5 => repeat (first | exact (Kd.C_below HR0_3.out HB.out) | (with_reducible refine Kd.C_alloc ?_ _) | (with_reducible refine Kd.C_drewN ?_ _) | (with_reducible refine Kd.C_drew ?_))); (case side6 => exact HC0_3.out); (case side7 => repeat (first | exact (Kd.C_below HR1.out HB.out) | (with_reducible refine Kd.C_alloc ?_ _) | (with_reducible refine Kd.C_drewN ?_ _) | (with_reducible refine Kd.C_drew ?_))); (case side8 => exact HC1.out); rintro e w6 ⟨v154, rfl, ho0, hb⟩; have n0_ := Aside0.mk (Kd.R_lower ho0 (below_size (by repeat (first | (with_reducible first | exact HB.out | apply below_alloc | apply pw_below_drewN | apply below_drew1 | refine below_set ?_ GE152.out) | exact HB.out)))); have n1_ := Aside0.mk (blk_below (g := gb152) (o := .cells #[.int .i64 a0_0, .slice A0_1 l0_1.length c0_1, .slice A0_2 l0_2.length c0_2, .slice A0_3 l0_3.length c0_3] 26 (0, 0)) (by (with_reducible repeat (first | refine blk_drewN ?_ _ | refine blk_drew ?_ | refine blk_alloc ?_ _)); exact BK152.out) hb); have n2_ := Aside0.mk (below_step (by repeat (first | (with_reducible first | exact HB.out | apply below_alloc | apply pw_below_drewN | apply below_drew1 | refine below_set ?_ GE152.out) | exact HB.out)) hb); clear BK152; clear HB; have HO155 := n0_; have BK152 := n1_; have HB := n2_; clear n0_ n1_ n2_; (try clear hb); (try clear hb2); (try clear hk); (try clear hi); (try clear ho0); obtain ⟨Ao7, co7, eo7⟩ := Kd.R_slice HO155.out; subst eo7))
 go_loopg [11] k (fun kq v11 w' => ∃ (x11_1 : Int), v11 = .int .i64 x11_1 ∧ Aside0 (topo_Joined.l0 kq t153 (t153.length : Int) x11_1 = some r) ∧ Aside0 (kq ≤ k) ∧ Aside0 (Kd.R (Kd.int .i64) 3 w' w.heap.size (fun _ => True) (.slice Ao7 t153.length co7) t153) ∧ Aside0 (w'.heap[gb152]? = some (.cells #[.int .i64 a0_0, (.slice A0_1 l0_1.length c0_1), (.slice A0_2 l0_2.length c0_2), (.slice A0_3 l0_3.length c0_3)] 26 (0, 0))) ∧ Aside0 (Below w.heap.size w w'))
 case atStart => exact ⟨(0), (by first | rfl | (simp; done) | (simp [*]; done)), H', ⟨Nat.le_refl _⟩, ⟨by (with_reducible repeat (first | apply Kd.R_alloc | apply Kd.R_drewN | apply Kd.R_drew)); exact HO155.out⟩, ⟨by (with_reducible repeat (first | refine blk_drewN ?_ _ | refine blk_drew ?_ | refine blk_alloc ?_ _)); exact BK152.out⟩, ⟨by repeat (first | (with_reducible first | exact HB.out | apply below_alloc | apply pw_below_drewN | apply below_drew1 | refine below_set ?_ GE152.out) | exact HB.out)⟩⟩
 clear H'
 try clear c1
 try clear p2
 try clear hcz5_0
 try clear hcz5_1
 try clear hcz5_2
 try clear hcz5_3
 try clear hfz5_0
 try clear hfz5_1
 try clear hfz5_2
 try clear hfz5_3
 obtain ⟨x11_1, rfl, HA, HK1, HO_9, BK152, HB⟩ := hrel
 cases gk with
 | zero => exact absurd HA.out (by simp [topo_Joined.l0])
 | succ k1 => ?_
 have H := HA.out
 clear HA
 simp only [topo_Joined.l0] at H
 by_cases c8 : x11_1 < (t153.length : Int)
 rotate_left
 ·rw [if_neg c8] at H
  have c8b0 : decide (x11_1 < (t153.length : Int)) = false := decide_eq_false c8
  clear c8
  obtain rfl := Option.some.inj H
  go_wp2
  go_ret
  exact ⟨by first | rfl | (simp [errW_none, errW_some] <;> rfl) | (simp [*, errW_none, errW_some] <;> rfl), by repeat (first | (with_reducible first | exact HB.out | apply below_alloc | apply pw_below_drewN | apply below_drew1 | refine below_set ?_ GE152.out) | exact HB.out)⟩
 rw [if_pos c8] at H
 have c8b0 : decide (x11_1 < (t153.length : Int)) = true := decide_eq_true c8
 clear c8
 by_cases c9 : 0 ≤ x11_1
 rotate_left
 ·rw [if_neg c9] at H
  exact absurd H (by simp)
 rw [if_pos c9] at H
 have c9b0 : decide (0 ≤ x11_1) = true := decide_eq_true c9
 clear c9
 by_cases c10 : x11_1 < (t153.length : Int)
 rotate_left
 ·rw [if_neg c10] at H
  exact absurd H (by simp)
 rw [if_pos c10] at H
 have c10b0 : decide (x11_1 < (t153.length : Int)) = true := decide_eq_true c10
 clear c10
 by_cases c11 : (rd t153 x11_1) = 0
 rotate_left
 ·rw [if_neg c11] at H
  have c11b0 : ((rd t153 x11_1) == 0) = false := beq_eq_false_iff_ne.mpr c11
  have c11b1 : ((rd t153 x11_1) != 0) = true := bne_iff_ne.mpr c11
  obtain rfl := Option.some.inj H
  have p156 : 0 ≤ (x11_1 : Int) := of_decide_eq_true (by first | (with_reducible assumption) | assumption)
  have q156 : x11_1 < (t153.length : Int) := of_decide_eq_true (by first | (with_reducible assumption) | assumption)
  obtain ⟨ad156, e156, hx156_0⟩ := Kd.at_int (Kd.R_reads' HO_9.out).2.2 x11_1 p156 q156
  cases e156
  replace p156 := eq_true p156
  replace q156 := eq_true q156
  go_wp2
  go_ret
  exact ⟨by first | rfl | (simp [errW_none, errW_some] <;> rfl) | (simp [*, errW_none, errW_some] <;> rfl), by repeat (first | (with_reducible first | exact HB.out | apply below_alloc | apply pw_below_drewN | apply below_drew1 | refine below_set ?_ GE152.out) | exact HB.out)⟩
 rw [if_pos c11] at H
 have c11b0 : ((rd t153 x11_1) == 0) = true := beq_iff_eq.mpr c11
 have c11b1 : ((rd t153 x11_1) != 0) = false := bne_eq_false_iff_eq.mpr c11
 clear c11
 have H' := Aside0.mk H
 clear H
 have p156 : 0 ≤ (x11_1 : Int) := of_decide_eq_true (by first | (with_reducible assumption) | assumption)
 have q156 : x11_1 < (t153.length : Int) := of_decide_eq_true (by first | (with_reducible assumption) | assumption)
 obtain ⟨ad156, e156, hx156_0⟩ := Kd.at_int (Kd.R_reads' HO_9.out).2.2 x11_1 p156 q156
 cases e156
 replace p156 := eq_true p156
 replace q156 := eq_true q156
 go_wp2
 go_roundg k1
 case measure => have := HK1.out; omega
 case rel => exact ⟨(wrap64 (x11_1 + 1)), (by first | rfl | (simp; done) | (simp [*]; done)), H', ⟨by have := HK1.out; omega⟩, ⟨by (with_reducible repeat (first | apply Kd.R_alloc | apply Kd.R_drewN | apply Kd.R_drew)); exact HO_9.out⟩, ⟨by (with_reducible repeat (first | refine blk_drewN ?_ _ | refine blk_drew ?_ | refine blk_alloc ?_ _)); exact BK152.out⟩, ⟨by repeat (first | (with_reducible first | exact HB.out | apply below_alloc | apply pw_below_drewN | apply below_drew1 | refine below_set ?_ GE152.out) | exact HB.out)⟩⟩
end Go.Proofs.Ytkgfpagfmdefgaa.OTopoRight
