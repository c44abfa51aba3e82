/- What Go functions that the law ConfChecks uses come to, and why: part 2. Made out of the kit's print by a program of this session (wip/tools/mend.py), with more rows. -/
import Derived.Test.YtahhlbbgjjhncaaPConfChecksx0
import Derived.Test.YtahhlbbgjjhncaaOConfChecksx1
namespace Go.Proofs.Ytahhlbbgjjhncaa.PConfChecks
open Go.RowKit Go.Proofs.YtahhlbbgjjhncaaW.PrintWords Go.Proofs.YtahhlbbgjjhncaaW.PrintLast Go.Proofs.YtahhlbbgjjhncaaW.PrintMore
attribute [local go_sem] max2_int min2_int max_two min_two max_three min_three max_four min_four   -- for this text's walks alone
set_option linter.unusedVariables false
set_option linter.unusedSimpArgs false

/-! ### conf_Check: function 19 -/
mutual
def conf_Check.j0 : Nat → Bool → Int → Int → Int → Int → Int → Int → Int → List (S40) → Option (Int)
  | 0, _, _, _, _, _, _, _, _, _ => none
  | k + 1, x10, x116000, x116001, x116002, x116003, x116004, x116005, x116006, x116007 => if x10 = true then (some 3) else (if (x116007.length : Int) = 0 then (some 8) else (if (x116007.length : Int) > 4 then (some 4) else (conf_Check.l0 k x116007 (x116007.length : Int) 0)))
def conf_Check.l0 : Nat → List (S40) → Int → Int → Option (Int)
  | 0, _, _, _ => none
  | k + 1, x33, x34, x35 => if x35 < x34 then (if 0 ≤ x35 then (if x35 < (x33.length : Int) then ((conf_Port.f ((rd_T40 x33 x35).f0) ((rd_T40 x33 x35).f1) ((rd_T40 x33 x35).f2)).bind fun t122 => (if t122 = true then (conf_Check.l0 k x33 x34 (wrap64 (x35 + 1))) else (some 3))) else (none)) else (none)) else (some 0)
end
def conf_Check.f (k : Nat) (a0_0 : Int) (a0_1 : Int) (a0_2 : Int) (a0_3 : Int) (a0_4 : Int) (a0_5 : Int) (a0_6 : Int) (l0_7 : List (S40)) : Option (Int) := (ids_Right.f a0_0).bind fun t116 => (if t116 = true then ((conf_Times.f a0_0 a0_1 a0_2 a0_3 a0_4 a0_5 a0_6 l0_7).bind fun t117 => (if t117 = true then ((conf_within.f a0_5 10 1000000).bind fun t118 => (if t118 = true then ((conf_within.f a0_6 0 64).bind fun t119 => (conf_Check.j0 k (!t119) a0_0 a0_1 a0_2 a0_3 a0_4 a0_5 a0_6 l0_7)) else (conf_Check.j0 k (!t118) a0_0 a0_1 a0_2 a0_3 a0_4 a0_5 a0_6 l0_7))) else (conf_Check.j0 k (!t117) a0_0 a0_1 a0_2 a0_3 a0_4 a0_5 a0_6 l0_7))) else (some 1))
theorem conf_Check.mono_l : ∀ k, (∀ y0 y1 y2 y3 y4 y5 y6 y7 y8, LeO (conf_Check.j0 k y0 y1 y2 y3 y4 y5 y6 y7 y8) (conf_Check.j0 (k + 1) y0 y1 y2 y3 y4 y5 y6 y7 y8)) ∧ (∀ y0 y1 y2, LeO (conf_Check.l0 k y0 y1 y2) (conf_Check.l0 (k + 1) y0 y1 y2))
  | 0 => ⟨fun _ _ _ _ _ _ _ _ _ r h => by simp [conf_Check.j0] at h, fun _ _ _ r h => by simp [conf_Check.l0] at h⟩
  | k + 1 => by
    obtain ⟨ih0, ih1⟩ := conf_Check.mono_l k
    refine ⟨?_, ?_⟩
    · intro y0 y1 y2 y3 y4 y5 y6 y7 y8
      unfold conf_Check.j0
      repeat' first
      | (with_reducible exact ih0 _ _ _ _ _ _ _ _ _)
      | (with_reducible exact ih1 _ _ _)
      | (with_reducible exact LeO.refl _)
      | (with_reducible exact LeO.none _)
      | (with_reducible refine LeO.ite ?_ ?_)
      | (with_reducible refine LeO.bind ?_ (fun _ => ?_))
      | exact ih0 _ _ _ _ _ _ _ _ _
      | exact ih1 _ _ _
      | exact LeO.none _
      | refine LeO.ite ?_ ?_
      | refine LeO.bind ?_ (fun _ => ?_)
    · intro y0 y1 y2
      unfold conf_Check.l0
      repeat' first
      | (with_reducible exact ih0 _ _ _ _ _ _ _ _ _)
      | (with_reducible exact ih1 _ _ _)
      | (with_reducible exact LeO.refl _)
      | (with_reducible exact LeO.none _)
      | (with_reducible refine LeO.ite ?_ ?_)
      | (with_reducible refine LeO.bind ?_ (fun _ => ?_))
      | exact ih0 _ _ _ _ _ _ _ _ _
      | exact ih1 _ _ _
      | exact LeO.none _
      | refine LeO.ite ?_ ?_
      | refine LeO.bind ?_ (fun _ => ?_)
theorem conf_Check.mono : ∀ a0 a1 a2 a3 a4 a5 a6 a7 k, LeO (conf_Check.f k a0 a1 a2 a3 a4 a5 a6 a7) (conf_Check.f (k + 1) a0 a1 a2 a3 a4 a5 a6 a7) := by
  intro a0 a1 a2 a3 a4 a5 a6 a7 k
  obtain ⟨ih0, ih1⟩ := conf_Check.mono_l k
  unfold conf_Check.f
  repeat' first
      | (with_reducible exact ih0 _ _ _ _ _ _ _ _ _)
      | (with_reducible exact ih1 _ _ _)
      | (with_reducible exact LeO.refl _)
      | (with_reducible exact LeO.none _)
      | (with_reducible refine LeO.ite ?_ ?_)
      | (with_reducible refine LeO.bind ?_ (fun _ => ?_))
      | exact ih0 _ _ _ _ _ _ _ _ _
      | exact ih1 _ _ _
      | exact LeO.none _
      | refine LeO.ite ?_ ?_
      | refine LeO.bind ?_ (fun _ => ?_)
set_option maxHeartbeats 8000000 in
set_option maxRecDepth 100000 in
theorem conf_Check.calls (k : Nat) (a0_0 : Int) (a0_1 : Int) (a0_2 : Int) (a0_3 : Int) (a0_4 : Int) (a0_5 : Int) (a0_6 : Int) (A0_7 : Option Addr) (c0_7 : Nat) (l0_7 : List (S40)) (r : Int) (w : World) (hr0_7 : Kd.C k40 w A0_7 l0_7.length l0_7) (hc0_7 : l0_7.length ≤ c0_7) (h : conf_Check.f k a0_0 a0_1 a0_2 a0_3 a0_4 a0_5 a0_6 l0_7 = some r) :
    Calls Try.prog 19 #[.agg #[.int .u64 a0_0, .int .u16 a0_1, .int .i64 a0_2, .int .i64 a0_3, .int .i64 a0_4, .int .i64 a0_5, .int .i64 a0_6, .slice A0_7 l0_7.length c0_7]] w fun e w' => e = .returned (.int .i64 r) ∧ Below w.heap.size w w' := by
  have hu27 := Try.underlying27
  have hu40 := Try.underlying40
  have HR0_7 := Aside0.mk hr0_7
  have HC0_7 := Aside0.mk hc0_7
  clear hr0_7 hc0_7
  have HB := Aside0.mk (Below.refl w.heap.size w)
  have H : ((ids_Right.f a0_0).bind fun t116 => (if t116 = true then ((conf_Times.f a0_0 a0_1 a0_2 a0_3 a0_4 a0_5 a0_6 l0_7).bind fun t117 => (if t117 = true then ((conf_within.f a0_5 10 1000000).bind fun t118 => (if t118 = true then ((conf_within.f a0_6 0 64).bind fun t119 => (conf_Check.j0 k (!t119) a0_0 a0_1 a0_2 a0_3 a0_4 a0_5 a0_6 l0_7)) else (conf_Check.j0 k (!t118) a0_0 a0_1 a0_2 a0_3 a0_4 a0_5 a0_6 l0_7))) else (conf_Check.j0 k (!t117) a0_0 a0_1 a0_2 a0_3 a0_4 a0_5 a0_6 l0_7))) else (some 1))) = some r := h
  clear h
  replace H := Option.bind_eq_some_iff.mp H
  obtain ⟨t116, A20, H⟩ := H
  replace H : (if t116 = true then ((conf_Times.f a0_0 a0_1 a0_2 a0_3 a0_4 a0_5 a0_6 l0_7).bind fun t117 => (if t117 = true then ((conf_within.f a0_5 10 1000000).bind fun t118 => (if t118 = true then ((conf_within.f a0_6 0 64).bind fun t119 => (conf_Check.j0 k (!t119) a0_0 a0_1 a0_2 a0_3 a0_4 a0_5 a0_6 l0_7)) else (conf_Check.j0 k (!t118) a0_0 a0_1 a0_2 a0_3 a0_4 a0_5 a0_6 l0_7))) else (conf_Check.j0 k (!t117) a0_0 a0_1 a0_2 a0_3 a0_4 a0_5 a0_6 l0_7))) else (some 1)) = some r := H
  have A2 := Aside0.mk A20
  clear A20
  by_cases c3 : t116 = true
  · subst c3
    have H1 : ((conf_Times.f a0_0 a0_1 a0_2 a0_3 a0_4 a0_5 a0_6 l0_7).bind fun t117 => (if t117 = true then ((conf_within.f a0_5 10 1000000).bind fun t118 => (if t118 = true then ((conf_within.f a0_6 0 64).bind fun t119 => (conf_Check.j0 k (!t119) a0_0 a0_1 a0_2 a0_3 a0_4 a0_5 a0_6 l0_7)) else (conf_Check.j0 k (!t118) a0_0 a0_1 a0_2 a0_3 a0_4 a0_5 a0_6 l0_7))) else (conf_Check.j0 k (!t117) a0_0 a0_1 a0_2 a0_3 a0_4 a0_5 a0_6 l0_7))) = some r := by rw [if_pos rfl] at H; exact H
    clear H
    have H := H1
    clear H1
    replace H := Option.bind_eq_some_iff.mp H
    obtain ⟨t117, A40, H⟩ := H
    replace H : (if t117 = true then ((conf_within.f a0_5 10 1000000).bind fun t118 => (if t118 = true then ((conf_within.f a0_6 0 64).bind fun t119 => (conf_Check.j0 k (!t119) a0_0 a0_1 a0_2 a0_3 a0_4 a0_5 a0_6 l0_7)) else (conf_Check.j0 k (!t118) a0_0 a0_1 a0_2 a0_3 a0_4 a0_5 a0_6 l0_7))) else (conf_Check.j0 k (!t117) a0_0 a0_1 a0_2 a0_3 a0_4 a0_5 a0_6 l0_7)) = some r := H
    have A4 := Aside0.mk A40
    clear A40
    have HC5 := Aside0.mk H
    clear H
    go_enter Try.func19, Try.ntmps19
    go_upto_if 10 with (first | ((with_reducible refine gate_dst (N := 1) rfl ?_); refine box_event ?hg (N := 1) ?hd (cs := #[.int .u64 a0_0, .int .u16 a0_1, .int .i64 a0_2, .int .i64 a0_3, .int .i64 a0_4, .int .i64 a0_5, .int .i64 a0_6, .slice A0_7 l0_7.length c0_7]) (t := 27) ?hr ?_; (case hd => rfl); (case hg => rfl); (case hr => first | (go_simp; done) | (go_simp; rfl)); intro gb115 hg w6 hbox hb; have n0_ := Aside0.mk (below_step (by repeat (first | (with_reducible first | exact HB.out | apply below_alloc | apply pw_below_drewN | apply below_drew1) | exact HB.out)) hb); have n1_ := Aside0.mk (hbox); have n2_ := Aside0.mk ((by rw [hg]; exact (below_size (by repeat (first | (with_reducible first | exact HB.out | apply below_alloc | apply pw_below_drewN | apply below_drew1) | exact HB.out))) : w.heap.size ≤ gb115)); have n3_ := Aside0.mk ((by rw [hg]; exact (below_size (by repeat (first | (with_reducible first | exact HB.out | apply below_alloc | apply pw_below_drewN | apply below_drew1) | exact HB.out))) : w.heap.size ≤ gb115)); clear HB; have HB := n0_; have BK115 := n1_; have GW115 := n2_; have GE115 := n3_; clear n0_ n1_ n2_ n3_; clear hb hbox hg; have hcz7_0 : w6.cell? ⟨gb115, 0, none⟩ = some (.int .u64 a0_0) := (blk_cell BK115.out 0).trans rfl; have hcz7_1 : w6.cell? ⟨gb115, 1, none⟩ = some (.int .u16 a0_1) := (blk_cell BK115.out 1).trans rfl; have hcz7_2 : w6.cell? ⟨gb115, 2, none⟩ = some (.int .i64 a0_2) := (blk_cell BK115.out 2).trans rfl; have hcz7_3 : w6.cell? ⟨gb115, 3, none⟩ = some (.int .i64 a0_3) := (blk_cell BK115.out 3).trans rfl; have hcz7_4 : w6.cell? ⟨gb115, 4, none⟩ = some (.int .i64 a0_4) := (blk_cell BK115.out 4).trans rfl; have hcz7_5 : w6.cell? ⟨gb115, 5, none⟩ = some (.int .i64 a0_5) := (blk_cell BK115.out 5).trans rfl; have hcz7_6 : w6.cell? ⟨gb115, 6, none⟩ = some (.int .i64 a0_6) := (blk_cell BK115.out 6).trans rfl; have hcz7_7 : w6.cell? ⟨gb115, 7, none⟩ = some (.slice A0_7 l0_7.length c0_7) := (blk_cell BK115.out 7).trans rfl; have hfz7_0 := blk_frozen BK115.out 0; have hfz7_1 := blk_frozen BK115.out 1; have hfz7_2 := blk_frozen BK115.out 2; have hfz7_3 := blk_frozen BK115.out 3; have hfz7_4 := blk_frozen BK115.out 4; have hfz7_5 := blk_frozen BK115.out 5; have hfz7_6 := blk_frozen BK115.out 6; have hfz7_7 := blk_frozen BK115.out 7) | ((with_reducible refine gate_callee (f := 34) rfl ?_); refine goesL_ (some 8) rfl rfl Try.func34 (by kernel_rfl) rfl #[.int .u64 a0_0] rfl (by (try simp only [List.map_toArray, List.map_cons, List.map_nil]); first | done | rfl | (simp only [List.length_drop, List.length_take]; rfl)) ?_; (with_reducible refine (ids_Right.calls a0_0 true _ A2.out).mono ?_); rintro e w' ⟨rfl, ⟨nd, rfl⟩⟩; refine ⟨_, rfl, ?_⟩) | ((with_reducible refine gate_callee (f := 14) rfl ?_); refine goesL_ (some 12) rfl rfl Try.func14 (by kernel_rfl) rfl #[.agg #[.int .u64 a0_0, .int .u16 a0_1, .int .i64 a0_2, .int .i64 a0_3, .int .i64 a0_4, .int .i64 a0_5, .int .i64 a0_6, .slice A0_7 l0_7.length c0_7]] rfl (by (try simp only [List.map_toArray, List.map_cons, List.map_nil]); first | done | rfl | (simp only [List.length_drop, List.length_take]; rfl)) ?_; (with_reducible refine (conf_Times.calls a0_0 a0_1 a0_2 a0_3 a0_4 a0_5 a0_6 _ _ l0_7 t117 _ ?side1 ?side2 A4.out).mono ?_); (case side1 => repeat (first | exact (Kd.C_below HR0_7.out (by repeat (first | (with_reducible first | exact HB.out | apply below_alloc | apply pw_below_drewN | apply below_drew1 | refine below_set ?_ GE115.out) | exact HB.out))) | (with_reducible refine Kd.C_alloc ?_ _) | (with_reducible refine Kd.C_drewN ?_ _) | (with_reducible refine Kd.C_drew ?_))); (case side2 => exact HC0_7.out); rintro e w8 ⟨rfl, hb⟩; refine ⟨_, rfl, ?_⟩; have n0_ := Aside0.mk (blk_below (g := gb115) (o := .cells #[.int .u64 a0_0, .int .u16 a0_1, .int .i64 a0_2, .int .i64 a0_3, .int .i64 a0_4, .int .i64 a0_5, .int .i64 a0_6, .slice A0_7 l0_7.length c0_7] 27 (0, 0)) (by (with_reducible repeat (first | refine blk_drewN ?_ _ | refine blk_drew ?_ | refine blk_alloc ?_ _)); exact BK115.out) hb); have n1_ := Aside0.mk (below_step (by repeat (first | (with_reducible first | exact HB.out | apply below_alloc | apply pw_below_drewN | apply below_drew1 | refine below_set ?_ GE115.out) | exact HB.out)) hb); clear BK115; clear HB; have BK115 := n0_; have HB := n1_; clear n0_ n1_; (try clear hb); (try clear hb2); (try clear hk); (try clear hi)))
    (try simp only [Act.put, List.setIfInBounds_toArray, List.set_cons_zero, List.set_cons_succ])
    go_cut [10] (fun v10 wc => ∃ (kq : Nat) (x10_4 : Bool), v10 = .bool x10_4 ∧ Aside0 (conf_Check.j0 kq x10_4 a0_0 a0_1 a0_2 a0_3 a0_4 a0_5 a0_6 l0_7 = some r) ∧ Aside0 (kq ≤ k) ∧ Aside0 (wc.heap[gb115]? = some (.cells #[.int .u64 a0_0, .int .u16 a0_1, .int .i64 a0_2, .int .i64 a0_3, .int .i64 a0_4, .int .i64 a0_5, .int .i64 a0_6, (.slice A0_7 l0_7.length c0_7)] 27 (0, 0))) ∧ Aside0 (Below w.heap.size w wc))
    case first =>
      have H := HC5.out
      clear HC5
      by_cases c9 : t117 = true
      · subst c9
        have H1 : ((conf_within.f a0_5 10 1000000).bind fun t118 => (if t118 = true then ((conf_within.f a0_6 0 64).bind fun t119 => (conf_Check.j0 k (!t119) a0_0 a0_1 a0_2 a0_3 a0_4 a0_5 a0_6 l0_7)) else (conf_Check.j0 k (!t118) a0_0 a0_1 a0_2 a0_3 a0_4 a0_5 a0_6 l0_7))) = some r := by rw [if_pos rfl] at H; exact H
        clear H
        have H := H1
        clear H1
        replace H := Option.bind_eq_some_iff.mp H
        obtain ⟨t118, A100, H⟩ := H
        replace H : (if t118 = true then ((conf_within.f a0_6 0 64).bind fun t119 => (conf_Check.j0 k (!t119) a0_0 a0_1 a0_2 a0_3 a0_4 a0_5 a0_6 l0_7)) else (conf_Check.j0 k (!t118) a0_0 a0_1 a0_2 a0_3 a0_4 a0_5 a0_6 l0_7)) = some r := H
        have A10 := Aside0.mk A100
        clear A100
        by_cases c11 : t118 = true
        · subst c11
          have H1 : ((conf_within.f a0_6 0 64).bind fun t119 => (conf_Check.j0 k (!t119) a0_0 a0_1 a0_2 a0_3 a0_4 a0_5 a0_6 l0_7)) = some r := by rw [if_pos rfl] at H; exact H
          clear H
          have H := H1
          clear H1
          replace H := Option.bind_eq_some_iff.mp H
          obtain ⟨t119, A120, H⟩ := H
          replace H : (conf_Check.j0 k (!t119) a0_0 a0_1 a0_2 a0_3 a0_4 a0_5 a0_6 l0_7) = some r := H
          have A12 := Aside0.mk A120
          clear A120
          have H' := Aside0.mk H
          clear H
          have hcz13_0 : w8.cell? ⟨gb115, 0, none⟩ = some (.int .u64 a0_0) := (blk_cell BK115.out 0).trans rfl
          have hcz13_1 : w8.cell? ⟨gb115, 1, none⟩ = some (.int .u16 a0_1) := (blk_cell BK115.out 1).trans rfl
          have hcz13_2 : w8.cell? ⟨gb115, 2, none⟩ = some (.int .i64 a0_2) := (blk_cell BK115.out 2).trans rfl
          have hcz13_3 : w8.cell? ⟨gb115, 3, none⟩ = some (.int .i64 a0_3) := (blk_cell BK115.out 3).trans rfl
          have hcz13_4 : w8.cell? ⟨gb115, 4, none⟩ = some (.int .i64 a0_4) := (blk_cell BK115.out 4).trans rfl
          have hcz13_5 : w8.cell? ⟨gb115, 5, none⟩ = some (.int .i64 a0_5) := (blk_cell BK115.out 5).trans rfl
          have hcz13_6 : w8.cell? ⟨gb115, 6, none⟩ = some (.int .i64 a0_6) := (blk_cell BK115.out 6).trans rfl
          have hcz13_7 : w8.cell? ⟨gb115, 7, none⟩ = some (.slice A0_7 l0_7.length c0_7) := (blk_cell BK115.out 7).trans rfl
          have hfz13_0 := blk_frozen BK115.out 0
          have hfz13_1 := blk_frozen BK115.out 1
          have hfz13_2 := blk_frozen BK115.out 2
          have hfz13_3 := blk_frozen BK115.out 3
          have hfz13_4 := blk_frozen BK115.out 4
          have hfz13_5 := blk_frozen BK115.out 5
          have hfz13_6 := blk_frozen BK115.out 6
          have hfz13_7 := blk_frozen BK115.out 7
          go_wp2_with (first | ((with_reducible refine gate_callee (f := 40) rfl ?_); refine goesL_ (some 16) rfl rfl Try.func40 (by kernel_rfl) rfl #[.int .i64 a0_5, .int .i64 10, .int .i64 1000000] rfl (by (try simp only [List.map_toArray, List.map_cons, List.map_nil]); first | done | rfl | (simp only [List.length_drop, List.length_take]; rfl)) ?_; (with_reducible refine (conf_within.calls a0_5 10 1000000 true _ A10.out).mono ?_); rintro e w' ⟨rfl, ⟨nd, rfl⟩⟩; refine ⟨_, rfl, ?_⟩) | ((with_reducible refine gate_callee (f := 40) rfl ?_); refine goesL_ (some 20) rfl rfl Try.func40 (by kernel_rfl) rfl #[.int .i64 a0_6, .int .i64 0, .int .i64 64] rfl (by (try simp only [List.map_toArray, List.map_cons, List.map_nil]); first | done | rfl | (simp only [List.length_drop, List.length_take]; rfl)) ?_; (with_reducible refine (conf_within.calls a0_6 0 64 t119 _ A12.out).mono ?_); rintro e w' ⟨rfl, ⟨nd, rfl⟩⟩; refine ⟨_, rfl, ?_⟩) | (go_at_call 40; (with_reducible refine (conf_within.calls a0_5 10 1000000 true _ A10.out).mono ?_); rintro e w' ⟨rfl, ⟨nd, rfl⟩⟩) | (go_at_call 40; (with_reducible refine (conf_within.calls a0_6 0 64 t119 _ A12.out).mono ?_); rintro e w' ⟨rfl, ⟨nd, rfl⟩⟩))
          go_meet
          case rel => exact ⟨_, (!t119), (by first | rfl | (simp; done) | (simp [*]; done)), H', ⟨by first | omega | exact Nat.le_refl _⟩, ⟨by (with_reducible repeat (first | refine blk_drewN ?_ _ | refine blk_drew ?_ | refine blk_alloc ?_ _)); exact BK115.out⟩, ⟨by repeat (first | (with_reducible first | exact HB.out | apply below_alloc | apply pw_below_drewN | apply below_drew1 | refine below_set ?_ GE115.out) | exact HB.out)⟩⟩
        · replace c11 := Bool.eq_false_iff.mpr c11
          subst c11
          have H1 : (conf_Check.j0 k (!false) a0_0 a0_1 a0_2 a0_3 a0_4 a0_5 a0_6 l0_7) = some r := by rw [if_neg (show ¬ (false = true) by decide)] at H; exact H
          clear H
          have H := H1
          clear H1
          have H' := Aside0.mk H
          clear H
          have hcz14_0 : w8.cell? ⟨gb115, 0, none⟩ = some (.int .u64 a0_0) := (blk_cell BK115.out 0).trans rfl
          have hcz14_1 : w8.cell? ⟨gb115, 1, none⟩ = some (.int .u16 a0_1) := (blk_cell BK115.out 1).trans rfl
          have hcz14_2 : w8.cell? ⟨gb115, 2, none⟩ = some (.int .i64 a0_2) := (blk_cell BK115.out 2).trans rfl
          have hcz14_3 : w8.cell? ⟨gb115, 3, none⟩ = some (.int .i64 a0_3) := (blk_cell BK115.out 3).trans rfl
          have hcz14_4 : w8.cell? ⟨gb115, 4, none⟩ = some (.int .i64 a0_4) := (blk_cell BK115.out 4).trans rfl
          have hcz14_5 : w8.cell? ⟨gb115, 5, none⟩ = some (.int .i64 a0_5) := (blk_cell BK115.out 5).trans rfl
          have hcz14_6 : w8.cell? ⟨gb115, 6, none⟩ = some (.int .i64 a0_6) := (blk_cell BK115.out 6).trans rfl
          have hcz14_7 : w8.cell? ⟨gb115, 7, none⟩ = some (.slice A0_7 l0_7.length c0_7) := (blk_cell BK115.out 7).trans rfl
          have hfz14_0 := blk_frozen BK115.out 0
          have hfz14_1 := blk_frozen BK115.out 1
          have hfz14_2 := blk_frozen BK115.out 2
          have hfz14_3 := blk_frozen BK115.out 3
          have hfz14_4 := blk_frozen BK115.out 4
          have hfz14_5 := blk_frozen BK115.out 5
          have hfz14_6 := blk_frozen BK115.out 6
          have hfz14_7 := blk_frozen BK115.out 7
          go_wp2_with (first | ((with_reducible refine gate_callee (f := 40) rfl ?_); refine goesL_ (some 16) rfl rfl Try.func40 (by kernel_rfl) rfl #[.int .i64 a0_5, .int .i64 10, .int .i64 1000000] rfl (by (try simp only [List.map_toArray, List.map_cons, List.map_nil]); first | done | rfl | (simp only [List.length_drop, List.length_take]; rfl)) ?_; (with_reducible refine (conf_within.calls a0_5 10 1000000 false _ A10.out).mono ?_); rintro e w' ⟨rfl, ⟨nd, rfl⟩⟩; refine ⟨_, rfl, ?_⟩) | (go_at_call 40; (with_reducible refine (conf_within.calls a0_5 10 1000000 false _ A10.out).mono ?_); rintro e w' ⟨rfl, ⟨nd, rfl⟩⟩))
          go_meet
          case rel => exact ⟨_, (!false), (by first | rfl | (simp; done) | (simp [*]; done)), H', ⟨by first | omega | exact Nat.le_refl _⟩, ⟨by (with_reducible repeat (first | refine blk_drewN ?_ _ | refine blk_drew ?_ | refine blk_alloc ?_ _)); exact BK115.out⟩, ⟨by repeat (first | (with_reducible first | exact HB.out | apply below_alloc | apply pw_below_drewN | apply below_drew1 | refine below_set ?_ GE115.out) | exact HB.out)⟩⟩
      · replace c9 := Bool.eq_false_iff.mpr c9
        subst c9
        have H1 : (conf_Check.j0 k (!false) a0_0 a0_1 a0_2 a0_3 a0_4 a0_5 a0_6 l0_7) = some r := by rw [if_neg (show ¬ (false = true) by decide)] at H; exact H
        clear H
        have H := H1
        clear H1
        have H' := Aside0.mk H
        clear H
        go_wp2
        go_meet
        case rel => exact ⟨_, (!false), (by first | rfl | (simp; done) | (simp [*]; done)), H', ⟨by first | omega | exact Nat.le_refl _⟩, ⟨by (with_reducible repeat (first | refine blk_drewN ?_ _ | refine blk_drew ?_ | refine blk_alloc ?_ _)); exact BK115.out⟩, ⟨by repeat (first | (with_reducible first | exact HB.out | apply below_alloc | apply pw_below_drewN | apply below_drew1 | refine below_set ?_ GE115.out) | exact HB.out)⟩⟩
    case rest =>
      clear HC5
      try clear c1
      try clear p2
      try clear c3
      try clear c4
      try clear c9
      try clear c11
      try clear c14
      try clear hcz13_0
      try clear hcz13_1
      try clear hcz13_2
      try clear hcz13_3
      try clear hcz13_4
      try clear hcz13_5
      try clear hcz13_6
      try clear hcz13_7
      try clear hcz14_0
      try clear hcz14_1
      try clear hcz14_2
      try clear hcz14_3
      try clear hcz14_4
      try clear hcz14_5
      try clear hcz14_6
      try clear hcz14_7
      try clear hcz7_0
      try clear hcz7_1
      try clear hcz7_2
      try clear hcz7_3
      try clear hcz7_4
      try clear hcz7_5
      try clear hcz7_6
      try clear hcz7_7
      try clear hfz13_0
      try clear hfz13_1
      try clear hfz13_2
      try clear hfz13_3
      try clear hfz13_4
      try clear hfz13_5
      try clear hfz13_6
      try clear hfz13_7
      try clear hfz14_0
      try clear hfz14_1
      try clear hfz14_2
      try clear hfz14_3
      try clear hfz14_4
      try clear hfz14_5
      try clear hfz14_6
      try clear hfz14_7
      try clear hfz7_0
      try clear hfz7_1
      try clear hfz7_2
      try clear hfz7_3
      try clear hfz7_4
      try clear hfz7_5
      try clear hfz7_6
      try clear hfz7_7
      obtain ⟨kq, x10_4, rfl, HA, HJ4, BK115, HB⟩ := hcut
      cases kq with
      | zero => exact absurd HA.out (by simp [conf_Check.j0])
      | succ kj4 =>
        have H := HA.out
        clear HA
        simp only [conf_Check.j0] at H
        by_cases c15 : x10_4 = true
        · subst c15
          have H1 : (some 3) = some r := by rw [if_pos rfl] at H; exact H
          clear H
          have H := H1
          clear H1
          obtain rfl := Option.some.inj H
          go_wp2
          go_ret
          exact ⟨by first | rfl | (simp [errW_none, errW_some] <;> rfl) | (simp [*, errW_none, errW_some] <;> rfl), by repeat (first | (with_reducible first | exact HB.out | apply below_alloc | apply pw_below_drewN | apply below_drew1 | refine below_set ?_ GE115.out) | exact HB.out)⟩
        · replace c15 := Bool.eq_false_iff.mpr c15
          subst c15
          have H1 : (if (l0_7.length : Int) = 0 then (some 8) else (if (l0_7.length : Int) > 4 then (some 4) else (conf_Check.l0 kj4 l0_7 (l0_7.length : Int) 0))) = some r := by rw [if_neg (show ¬ (false = true) by decide)] at H; exact H
          clear H
          have H := H1
          clear H1
          by_cases c16 : (l0_7.length : Int) = 0
          · rw [if_pos c16] at H
            have c16b0 : ((l0_7.length : Int) == 0) = true := beq_iff_eq.mpr c16
            have c16b1 : ((l0_7.length : Int) != 0) = false := bne_eq_false_iff_eq.mpr c16
            clear c16
            obtain rfl := Option.some.inj H
            have hcz17_0 : wc.cell? ⟨gb115, 0, none⟩ = some (.int .u64 a0_0) := (blk_cell BK115.out 0).trans rfl
            have hcz17_1 : wc.cell? ⟨gb115, 1, none⟩ = some (.int .u16 a0_1) := (blk_cell BK115.out 1).trans rfl
            have hcz17_2 : wc.cell? ⟨gb115, 2, none⟩ = some (.int .i64 a0_2) := (blk_cell BK115.out 2).trans rfl
            have hcz17_3 : wc.cell? ⟨gb115, 3, none⟩ = some (.int .i64 a0_3) := (blk_cell BK115.out 3).trans rfl
            have hcz17_4 : wc.cell? ⟨gb115, 4, none⟩ = some (.int .i64 a0_4) := (blk_cell BK115.out 4).trans rfl
            have hcz17_5 : wc.cell? ⟨gb115, 5, none⟩ = some (.int .i64 a0_5) := (blk_cell BK115.out 5).trans rfl
            have hcz17_6 : wc.cell? ⟨gb115, 6, none⟩ = some (.int .i64 a0_6) := (blk_cell BK115.out 6).trans rfl
            have hcz17_7 : wc.cell? ⟨gb115, 7, none⟩ = some (.slice A0_7 l0_7.length c0_7) := (blk_cell BK115.out 7).trans rfl
            have hfz17_0 := blk_frozen BK115.out 0
            have hfz17_1 := blk_frozen BK115.out 1
            have hfz17_2 := blk_frozen BK115.out 2
            have hfz17_3 := blk_frozen BK115.out 3
            have hfz17_4 := blk_frozen BK115.out 4
            have hfz17_5 := blk_frozen BK115.out 5
            have hfz17_6 := blk_frozen BK115.out 6
            have hfz17_7 := blk_frozen BK115.out 7
            go_wp2
            go_ret
            exact ⟨by first | rfl | (simp [errW_none, errW_some] <;> rfl) | (simp [*, errW_none, errW_some] <;> rfl), by repeat (first | (with_reducible first | exact HB.out | apply below_alloc | apply pw_below_drewN | apply below_drew1 | refine below_set ?_ GE115.out) | exact HB.out)⟩
          · rw [if_neg c16] at H
            have c16b0 : ((l0_7.length : Int) == 0) = false := beq_eq_false_iff_ne.mpr c16
            have c16b1 : ((l0_7.length : Int) != 0) = true := bne_iff_ne.mpr c16
            have c16b2 : ¬ (l0_7 = []) := fun h_ => c16 (by rw [h_]; rfl)
            by_cases c18 : (l0_7.length : Int) > 4
            · rw [if_pos c18] at H
              have c18b0 : decide (4 < (l0_7.length : Int)) = true := decide_eq_true c18
              have c18b1 : decide (4 < l0_7.length) = true := decide_eq_true (by omega)
              clear c18
              obtain rfl := Option.some.inj H
              have hcz19_0 : wc.cell? ⟨gb115, 0, none⟩ = some (.int .u64 a0_0) := (blk_cell BK115.out 0).trans rfl
              have hcz19_1 : wc.cell? ⟨gb115, 1, none⟩ = some (.int .u16 a0_1) := (blk_cell BK115.out 1).trans rfl
              have hcz19_2 : wc.cell? ⟨gb115, 2, none⟩ = some (.int .i64 a0_2) := (blk_cell BK115.out 2).trans rfl
              have hcz19_3 : wc.cell? ⟨gb115, 3, none⟩ = some (.int .i64 a0_3) := (blk_cell BK115.out 3).trans rfl
              have hcz19_4 : wc.cell? ⟨gb115, 4, none⟩ = some (.int .i64 a0_4) := (blk_cell BK115.out 4).trans rfl
              have hcz19_5 : wc.cell? ⟨gb115, 5, none⟩ = some (.int .i64 a0_5) := (blk_cell BK115.out 5).trans rfl
              have hcz19_6 : wc.cell? ⟨gb115, 6, none⟩ = some (.int .i64 a0_6) := (blk_cell BK115.out 6).trans rfl
              have hcz19_7 : wc.cell? ⟨gb115, 7, none⟩ = some (.slice A0_7 l0_7.length c0_7) := (blk_cell BK115.out 7).trans rfl
              have hfz19_0 := blk_frozen BK115.out 0
              have hfz19_1 := blk_frozen BK115.out 1
              have hfz19_2 := blk_frozen BK115.out 2
              have hfz19_3 := blk_frozen BK115.out 3
              have hfz19_4 := blk_frozen BK115.out 4
              have hfz19_5 := blk_frozen BK115.out 5
              have hfz19_6 := blk_frozen BK115.out 6
              have hfz19_7 := blk_frozen BK115.out 7
              go_wp2
              go_ret
              exact ⟨by first | rfl | (simp [errW_none, errW_some] <;> rfl) | (simp [*, errW_none, errW_some] <;> rfl), by repeat (first | (with_reducible first | exact HB.out | apply below_alloc | apply pw_below_drewN | apply below_drew1 | refine below_set ?_ GE115.out) | exact HB.out)⟩
            · rw [if_neg c18] at H
              have c18b0 : decide (4 < (l0_7.length : Int)) = false := decide_eq_false c18
              have c18b1 : decide (4 < l0_7.length) = false := decide_eq_false (by omega)
              clear c18
              have H' := Aside0.mk H
              clear H
              have hcz20_0 : wc.cell? ⟨gb115, 0, none⟩ = some (.int .u64 a0_0) := (blk_cell BK115.out 0).trans rfl
              have hcz20_1 : wc.cell? ⟨gb115, 1, none⟩ = some (.int .u16 a0_1) := (blk_cell BK115.out 1).trans rfl
              have hcz20_2 : wc.cell? ⟨gb115, 2, none⟩ = some (.int .i64 a0_2) := (blk_cell BK115.out 2).trans rfl
              have hcz20_3 : wc.cell? ⟨gb115, 3, none⟩ = some (.int .i64 a0_3) := (blk_cell BK115.out 3).trans rfl
              have hcz20_4 : wc.cell? ⟨gb115, 4, none⟩ = some (.int .i64 a0_4) := (blk_cell BK115.out 4).trans rfl
              have hcz20_5 : wc.cell? ⟨gb115, 5, none⟩ = some (.int .i64 a0_5) := (blk_cell BK115.out 5).trans rfl
              have hcz20_6 : wc.cell? ⟨gb115, 6, none⟩ = some (.int .i64 a0_6) := (blk_cell BK115.out 6).trans rfl
              have hcz20_7 : wc.cell? ⟨gb115, 7, none⟩ = some (.slice A0_7 l0_7.length c0_7) := (blk_cell BK115.out 7).trans rfl
              have hfz20_0 := blk_frozen BK115.out 0
              have hfz20_1 := blk_frozen BK115.out 1
              have hfz20_2 := blk_frozen BK115.out 2
              have hfz20_3 := blk_frozen BK115.out 3
              have hfz20_4 := blk_frozen BK115.out 4
              have hfz20_5 := blk_frozen BK115.out 5
              have hfz20_6 := blk_frozen BK115.out 6
              have hfz20_7 := blk_frozen BK115.out 7
              go_wp2
              go_loopg [35] kj4 (fun kq v35 w' => ∃ (x35_2 : Int), v35 = .int .i64 x35_2 ∧ Aside0 (conf_Check.l0 kq l0_7 (l0_7.length : Int) x35_2 = some r) ∧ Aside0 (kq ≤ kj4) ∧ Aside0 (w'.heap[gb115]? = some (.cells #[.int .u64 a0_0, .int .u16 a0_1, .int .i64 a0_2, .int .i64 a0_3, .int .i64 a0_4, .int .i64 a0_5, .int .i64 a0_6, (.slice A0_7 l0_7.length c0_7)] 27 (0, 0))) ∧ Aside0 (Below w.heap.size w w'))
              case atStart => exact ⟨(0), (by first | rfl | (simp; done) | (simp [*]; done)), H', ⟨Nat.le_refl _⟩, ⟨by (with_reducible repeat (first | refine blk_drewN ?_ _ | refine blk_drew ?_ | refine blk_alloc ?_ _)); exact BK115.out⟩, ⟨by repeat (first | (with_reducible first | exact HB.out | apply below_alloc | apply pw_below_drewN | apply below_drew1 | refine below_set ?_ GE115.out) | exact HB.out)⟩⟩
              case round =>
                clear H'
                try clear c1
                try clear p2
                try clear c3
                try clear c4
                try clear c9
                try clear c11
                try clear c14
                try clear c15
                try clear c16
                try clear c16b0
                try clear c16b1
                try clear c16b2
                try clear c18
                try clear c18b0
                try clear c18b1
                try clear c19
                try clear hcz13_0
                try clear hcz13_1
                try clear hcz13_2
                try clear hcz13_3
                try clear hcz13_4
                try clear hcz13_5
                try clear hcz13_6
                try clear hcz13_7
                try clear hcz14_0
                try clear hcz14_1
                try clear hcz14_2
                try clear hcz14_3
                try clear hcz14_4
                try clear hcz14_5
                try clear hcz14_6
                try clear hcz14_7
                try clear hcz17_0
                try clear hcz17_1
                try clear hcz17_2
                try clear hcz17_3
                try clear hcz17_4
                try clear hcz17_5
                try clear hcz17_6
                try clear hcz17_7
                try clear hcz19_0
                try clear hcz19_1
                try clear hcz19_2
                try clear hcz19_3
                try clear hcz19_4
                try clear hcz19_5
                try clear hcz19_6
                try clear hcz19_7
                try clear hcz20_0
                try clear hcz20_1
                try clear hcz20_2
                try clear hcz20_3
                try clear hcz20_4
                try clear hcz20_5
                try clear hcz20_6
                try clear hcz20_7
                try clear hcz7_0
                try clear hcz7_1
                try clear hcz7_2
                try clear hcz7_3
                try clear hcz7_4
                try clear hcz7_5
                try clear hcz7_6
                try clear hcz7_7
                try clear hfz13_0
                try clear hfz13_1
                try clear hfz13_2
                try clear hfz13_3
                try clear hfz13_4
                try clear hfz13_5
                try clear hfz13_6
                try clear hfz13_7
                try clear hfz14_0
                try clear hfz14_1
                try clear hfz14_2
                try clear hfz14_3
                try clear hfz14_4
                try clear hfz14_5
                try clear hfz14_6
                try clear hfz14_7
                try clear hfz17_0
                try clear hfz17_1
                try clear hfz17_2
                try clear hfz17_3
                try clear hfz17_4
                try clear hfz17_5
                try clear hfz17_6
                try clear hfz17_7
                try clear hfz19_0
                try clear hfz19_1
                try clear hfz19_2
                try clear hfz19_3
                try clear hfz19_4
                try clear hfz19_5
                try clear hfz19_6
                try clear hfz19_7
                try clear hfz20_0
                try clear hfz20_1
                try clear hfz20_2
                try clear hfz20_3
                try clear hfz20_4
                try clear hfz20_5
                try clear hfz20_6
                try clear hfz20_7
                try clear hfz7_0
                try clear hfz7_1
                try clear hfz7_2
                try clear hfz7_3
                try clear hfz7_4
                try clear hfz7_5
                try clear hfz7_6
                try clear hfz7_7
                try clear p2
                obtain ⟨x35_2, rfl, HA, HK2, BK115, HB⟩ := hrel
                cases gk with
                | zero => exact absurd HA.out (by simp [conf_Check.l0])
                | succ k2 =>
                  have H := HA.out
                  clear HA
                  simp only [conf_Check.l0] at H
                  by_cases c21 : x35_2 < (l0_7.length : Int)
                  · rw [if_pos c21] at H
                    have c21b0 : decide (x35_2 < (l0_7.length : Int)) = true := decide_eq_true c21
                    clear c21
                    by_cases c22 : 0 ≤ x35_2
                    · rw [if_pos c22] at H
                      have c22b0 : decide (0 ≤ x35_2) = true := decide_eq_true c22
                      clear c22
                      by_cases c23 : x35_2 < (l0_7.length : Int)
                      · rw [if_pos c23] at H
                        have c23b0 : decide (x35_2 < (l0_7.length : Int)) = true := decide_eq_true c23
                        clear c23
                        replace H := Option.bind_eq_some_iff.mp H
                        obtain ⟨t122, A240, H⟩ := H
                        replace H : (if t122 = true then (conf_Check.l0 k2 l0_7 (l0_7.length : Int) (wrap64 (x35_2 + 1))) else (some 3)) = some r := H
                        have A24 := Aside0.mk A240
                        clear A240
                        by_cases c25 : t122 = true
                        · subst c25
                          have H1 : (conf_Check.l0 k2 l0_7 (l0_7.length : Int) (wrap64 (x35_2 + 1))) = some r := by rw [if_pos rfl] at H; exact H
                          clear H
                          have H := H1
                          clear H1
                          have H' := Aside0.mk H
                          clear H
                          have p120 : 0 ≤ (x35_2 : Int) := of_decide_eq_true (by first | (with_reducible assumption) | assumption)
                          have q120 : x35_2 < (l0_7.length : Int) := of_decide_eq_true (by first | (with_reducible assumption) | assumption)
                          obtain ⟨ad120, e120, hx120_0, hx120_1, hx120_2⟩ := at_T40 HR0_7.out x35_2 p120 q120
                          cases e120
                          replace hx120_0 := (HB.out.cell (World.block_lt_of_cell? w _ hx120_0)).trans hx120_0
                          replace hx120_1 := (HB.out.cell (World.block_lt_of_cell? w _ hx120_1)).trans hx120_1
                          replace hx120_2 := (HB.out.cell (World.block_lt_of_cell? w _ hx120_2)).trans hx120_2
                          replace p120 := eq_true p120
                          replace q120 := eq_true q120
                          go_wp2_with (first | ((with_reducible refine gate_dst (N := 4) rfl ?_); refine box_event ?hg (N := 4) ?hd (cs := #[.int .u8 0, .int .u32 0, .bool false]) (t := 40) ?hr ?_; (case hd => rfl); (case hg => rfl); (case hr => first | (go_simp; done) | (go_simp; rfl)); intro gb121 hg w26 hbox hb; have n0_ := Aside0.mk (blk_below (g := gb115) (o := .cells #[.int .u64 a0_0, .int .u16 a0_1, .int .i64 a0_2, .int .i64 a0_3, .int .i64 a0_4, .int .i64 a0_5, .int .i64 a0_6, .slice (some ad120) l0_7.length c0_7] 27 (0, 0)) (by (with_reducible repeat (first | refine blk_drewN ?_ _ | refine blk_drew ?_ | refine blk_alloc ?_ _)); exact BK115.out) hb); have n1_ := Aside0.mk (below_step (by repeat (first | (with_reducible first | exact HB.out | apply below_alloc | apply pw_below_drewN | apply below_drew1 | refine below_set ?_ GE115.out) | exact HB.out)) hb); have n2_ := Aside0.mk (hbox); have n3_ := Aside0.mk ((by rw [hg]; exact (below_size (by repeat (first | (with_reducible first | exact HB.out | apply below_alloc | apply pw_below_drewN | apply below_drew1 | refine below_set ?_ GE115.out) | exact HB.out))) : w.heap.size ≤ gb121)); have n4_ := Aside0.mk ((by rw [hg]; exact (below_size (by repeat (first | (with_reducible first | exact HB.out | apply below_alloc | apply pw_below_drewN | apply below_drew1 | refine below_set ?_ GE115.out) | exact HB.out))) : w.heap.size ≤ gb121)); have n5_ := Aside0.mk ((by rw [hg]; exact Nat.ne_of_lt (blk_lt (g := gb115) (o := .cells #[.int .u64 a0_0, .int .u16 a0_1, .int .i64 a0_2, .int .i64 a0_3, .int .i64 a0_4, .int .i64 a0_5, .int .i64 a0_6, .slice (some ad120) l0_7.length c0_7] 27 (0, 0)) (by (with_reducible repeat (first | refine blk_drewN ?_ _ | refine blk_drew ?_ | refine blk_alloc ?_ _)); exact BK115.out)) : gb115 ≠ gb121)); have n6_ := Aside0.mk ((by rw [hg]; exact Nat.ne_of_gt (blk_lt (g := gb115) (o := .cells #[.int .u64 a0_0, .int .u16 a0_1, .int .i64 a0_2, .int .i64 a0_3, .int .i64 a0_4, .int .i64 a0_5, .int .i64 a0_6, .slice (some ad120) l0_7.length c0_7] 27 (0, 0)) (by (with_reducible repeat (first | refine blk_drewN ?_ _ | refine blk_drew ?_ | refine blk_alloc ?_ _)); exact BK115.out)) : gb121 ≠ gb115)); clear BK115; clear HB; have BK115 := n0_; have HB := n1_; have BK121 := n2_; have GW121 := n3_; have GE121 := n4_; have NB115_121 := n5_; have NB121_115 := n6_; clear n0_ n1_ n2_ n3_ n4_ n5_ n6_; clear hb hbox hg; have hnb27 := NB121_115.out; have hnc27 := NB115_121.out; have hcz28_0 : w26.cell? ⟨gb121, 0, none⟩ = some (.int .u8 0) := (blk_cell BK121.out 0).trans rfl; have hcz28_1 : w26.cell? ⟨gb121, 1, none⟩ = some (.int .u32 0) := (blk_cell BK121.out 1).trans rfl; have hcz28_2 : w26.cell? ⟨gb121, 2, none⟩ = some (.bool false) := (blk_cell BK121.out 2).trans rfl; have hfz28_0 := blk_frozen BK121.out 0; have hfz28_1 := blk_frozen BK121.out 1; have hfz28_2 := blk_frozen BK121.out 2) | ((with_reducible refine gate_callee (f := 22) rfl ?_); refine goesL_ (some 40) rfl rfl Try.func22 (by kernel_rfl) rfl #[.agg #[.int .u8 ((rd_T40 l0_7 x35_2).f0), .int .u32 ((rd_T40 l0_7 x35_2).f1), .bool ((rd_T40 l0_7 x35_2).f2)]] rfl (by (try simp only [List.map_toArray, List.map_cons, List.map_nil]); first | done | rfl | (simp only [List.length_drop, List.length_take]; rfl)) ?_; (with_reducible refine (conf_Port.calls ((rd_T40 l0_7 x35_2).f0) ((rd_T40 l0_7 x35_2).f1) ((rd_T40 l0_7 x35_2).f2) true _ A24.out).mono ?_); rintro e w29 ⟨rfl, hb⟩; refine ⟨_, rfl, ?_⟩; have n0_ := Aside0.mk (blk_below (g := gb115) (o := .cells #[.int .u64 a0_0, .int .u16 a0_1, .int .i64 a0_2, .int .i64 a0_3, .int .i64 a0_4, .int .i64 a0_5, .int .i64 a0_6, .slice (some ad120) l0_7.length c0_7] 27 (0, 0)) (by (with_reducible repeat (first | refine blk_drewN ?_ _ | refine blk_drew ?_ | refine blk_alloc ?_ _)); refine blk_far ?_ NB115_121.out _; (with_reducible repeat (first | refine blk_drewN ?_ _ | refine blk_drew ?_ | refine blk_alloc ?_ _)); refine blk_far ?_ NB115_121.out _; (with_reducible repeat (first | refine blk_drewN ?_ _ | refine blk_drew ?_ | refine blk_alloc ?_ _)); refine blk_far ?_ NB115_121.out _; (with_reducible repeat (first | refine blk_drewN ?_ _ | refine blk_drew ?_ | refine blk_alloc ?_ _)); exact BK115.out) hb); have n1_ := Aside0.mk (blk_below (g := gb121) (o := .cells #[.int .u8 ((rd_T40 l0_7 x35_2).f0), .int .u32 ((rd_T40 l0_7 x35_2).f1), .bool ((rd_T40 l0_7 x35_2).f2)] 40 (0, 0)) (by (with_reducible repeat (first | refine blk_drewN ?_ _ | refine blk_drew ?_ | refine blk_alloc ?_ _)); refine blk_put (cs := #[.int .u8 ((rd_T40 l0_7 x35_2).f0), .int .u32 ((rd_T40 l0_7 x35_2).f1), .bool false]) ?_ 2 _ rfl; (with_reducible repeat (first | refine blk_drewN ?_ _ | refine blk_drew ?_ | refine blk_alloc ?_ _)); refine blk_put (cs := #[.int .u8 ((rd_T40 l0_7 x35_2).f0), .int .u32 0, .bool false]) ?_ 1 _ rfl; (with_reducible repeat (first | refine blk_drewN ?_ _ | refine blk_drew ?_ | refine blk_alloc ?_ _)); refine blk_put (cs := #[.int .u8 0, .int .u32 0, .bool false]) ?_ 0 _ rfl; (with_reducible repeat (first | refine blk_drewN ?_ _ | refine blk_drew ?_ | refine blk_alloc ?_ _)); exact BK121.out) hb); have n2_ := Aside0.mk (below_step (by repeat (first | (with_reducible first | exact HB.out | apply below_alloc | apply pw_below_drewN | apply below_drew1 | refine below_set ?_ GE115.out | refine below_set ?_ GE121.out) | exact HB.out)) hb); clear BK115; clear BK121; clear HB; have BK115 := n0_; have BK121 := n1_; have HB := n2_; clear n0_ n1_ n2_; (try clear hb); (try clear hb2); (try clear hk); (try clear hi)) | (go_at_call 22; (with_reducible refine (conf_Port.calls ((rd_T40 l0_7 x35_2).f0) ((rd_T40 l0_7 x35_2).f1) ((rd_T40 l0_7 x35_2).f2) true _ A24.out).mono ?_); rintro e w29 ⟨rfl, hb⟩; have n0_ := Aside0.mk (blk_below (g := gb115) (o := .cells #[.int .u64 a0_0, .int .u16 a0_1, .int .i64 a0_2, .int .i64 a0_3, .int .i64 a0_4, .int .i64 a0_5, .int .i64 a0_6, .slice (some ad120) l0_7.length c0_7] 27 (0, 0)) (by (with_reducible repeat (first | refine blk_drewN ?_ _ | refine blk_drew ?_ | refine blk_alloc ?_ _)); refine blk_far ?_ NB115_121.out _; (with_reducible repeat (first | refine blk_drewN ?_ _ | refine blk_drew ?_ | refine blk_alloc ?_ _)); refine blk_far ?_ NB115_121.out _; (with_reducible repeat (first | refine blk_drewN ?_ _ | refine blk_drew ?_ | refine blk_alloc ?_ _)); refine blk_far ?_ NB115_121.out _; (with_reducible repeat (first | refine blk_drewN ?_ _ | refine blk_drew ?_ | refine blk_alloc ?_ _)); exact BK115.out) hb); have n1_ := Aside0.mk (blk_below (g := gb121) (o := .cells #[.int .u8 ((rd_T40 l0_7 x35_2).f0), .int .u32 ((rd_T40 l0_7 x35_2).f1), .bool ((rd_T40 l0_7 x35_2).f2)] 40 (0, 0)) (by (with_reducible repeat (first | refine blk_drewN ?_ _ | refine blk_drew ?_ | refine blk_alloc ?_ _)); refine blk_put (cs := #[.int .u8 ((rd_T40 l0_7 x35_2).f0), .int .u32 ((rd_T40 l0_7 x35_2).f1), .bool false]) ?_ 2 _ rfl; (with_reducible repeat (first | refine blk_drewN ?_ _ | refine blk_drew ?_ | refine blk_alloc ?_ _)); refine blk_put (cs := #[.int .u8 ((rd_T40 l0_7 x35_2).f0), .int .u32 0, .bool false]) ?_ 1 _ rfl; (with_reducible repeat (first | refine blk_drewN ?_ _ | refine blk_drew ?_ | refine blk_alloc ?_ _)); refine blk_put (cs := #[.int .u8 0, .int .u32 0, .bool false]) ?_ 0 _ rfl; (with_reducible repeat (first | refine blk_drewN ?_ _ | refine blk_drew ?_ | refine blk_alloc ?_ _)); exact BK121.out) hb); have n2_ := Aside0.mk (below_step (by repeat (first | (with_reducible first | exact HB.out | apply below_alloc | apply pw_below_drewN | apply below_drew1 | refine below_set ?_ GE115.out | refine below_set ?_ GE121.out) | exact HB.out)) hb); clear BK115; clear BK121; clear HB; have BK115 := n0_; have BK121 := n1_; have HB := n2_; clear n0_ n1_ n2_; (try clear hb); (try clear hb2); (try clear hk); (try clear hi)))
                          go_roundg k2
                          case measure => have := HJ4.out; have := HK2.out; omega
                          case rel => exact ⟨(wrap64 (x35_2 + 1)), (by first | rfl | (simp; done) | (simp [*]; done)), H', ⟨by have := HJ4.out; have := HK2.out; omega⟩, ⟨by (with_reducible repeat (first | refine blk_drewN ?_ _ | refine blk_drew ?_ | refine blk_alloc ?_ _)); exact BK115.out⟩, ⟨by repeat (first | (with_reducible first | exact HB.out | apply below_alloc | apply pw_below_drewN | apply below_drew1 | refine below_set ?_ GE115.out | refine below_set ?_ GE121.out) | exact HB.out)⟩⟩
                        · replace c25 := Bool.eq_false_iff.mpr c25
                          subst c25
                          have H1 : (some 3) = some r := by rw [if_neg (show ¬ (false = true) by decide)] at H; exact H
                          clear H
                          have H := H1
                          clear H1
                          obtain rfl := Option.some.inj H
                          have p120 : 0 ≤ (x35_2 : Int) := of_decide_eq_true (by first | (with_reducible assumption) | assumption)
                          have q120 : x35_2 < (l0_7.length : Int) := of_decide_eq_true (by first | (with_reducible assumption) | assumption)
                          obtain ⟨ad120, e120, hx120_0, hx120_1, hx120_2⟩ := at_T40 HR0_7.out x35_2 p120 q120
                          cases e120
                          replace hx120_0 := (HB.out.cell (World.block_lt_of_cell? w _ hx120_0)).trans hx120_0
                          replace hx120_1 := (HB.out.cell (World.block_lt_of_cell? w _ hx120_1)).trans hx120_1
                          replace hx120_2 := (HB.out.cell (World.block_lt_of_cell? w _ hx120_2)).trans hx120_2
                          replace p120 := eq_true p120
                          replace q120 := eq_true q120
                          go_wp2_with (first | ((with_reducible refine gate_dst (N := 4) rfl ?_); refine box_event ?hg (N := 4) ?hd (cs := #[.int .u8 0, .int .u32 0, .bool false]) (t := 40) ?hr ?_; (case hd => rfl); (case hg => rfl); (case hr => first | (go_simp; done) | (go_simp; rfl)); intro gb121 hg w30 hbox hb; have n0_ := Aside0.mk (blk_below (g := gb115) (o := .cells #[.int .u64 a0_0, .int .u16 a0_1, .int .i64 a0_2, .int .i64 a0_3, .int .i64 a0_4, .int .i64 a0_5, .int .i64 a0_6, .slice (some ad120) l0_7.length c0_7] 27 (0, 0)) (by (with_reducible repeat (first | refine blk_drewN ?_ _ | refine blk_drew ?_ | refine blk_alloc ?_ _)); exact BK115.out) hb); have n1_ := Aside0.mk (below_step (by repeat (first | (with_reducible first | exact HB.out | apply below_alloc | apply pw_below_drewN | apply below_drew1 | refine below_set ?_ GE115.out) | exact HB.out)) hb); have n2_ := Aside0.mk (hbox); have n3_ := Aside0.mk ((by rw [hg]; exact (below_size (by repeat (first | (with_reducible first | exact HB.out | apply below_alloc | apply pw_below_drewN | apply below_drew1 | refine below_set ?_ GE115.out) | exact HB.out))) : w.heap.size ≤ gb121)); have n4_ := Aside0.mk ((by rw [hg]; exact (below_size (by repeat (first | (with_reducible first | exact HB.out | apply below_alloc | apply pw_below_drewN | apply below_drew1 | refine below_set ?_ GE115.out) | exact HB.out))) : w.heap.size ≤ gb121)); have n5_ := Aside0.mk ((by rw [hg]; exact Nat.ne_of_lt (blk_lt (g := gb115) (o := .cells #[.int .u64 a0_0, .int .u16 a0_1, .int .i64 a0_2, .int .i64 a0_3, .int .i64 a0_4, .int .i64 a0_5, .int .i64 a0_6, .slice (some ad120) l0_7.length c0_7] 27 (0, 0)) (by (with_reducible repeat (first | refine blk_drewN ?_ _ | refine blk_drew ?_ | refine blk_alloc ?_ _)); exact BK115.out)) : gb115 ≠ gb121)); have n6_ := Aside0.mk ((by rw [hg]; exact Nat.ne_of_gt (blk_lt (g := gb115) (o := .cells #[.int .u64 a0_0, .int .u16 a0_1, .int .i64 a0_2, .int .i64 a0_3, .int .i64 a0_4, .int .i64 a0_5, .int .i64 a0_6, .slice (some ad120) l0_7.length c0_7] 27 (0, 0)) (by (with_reducible repeat (first | refine blk_drewN ?_ _ | refine blk_drew ?_ | refine blk_alloc ?_ _)); exact BK115.out)) : gb121 ≠ gb115)); clear BK115; clear HB; have BK115 := n0_; have HB := n1_; have BK121 := n2_; have GW121 := n3_; have GE121 := n4_; have NB115_121 := n5_; have NB121_115 := n6_; clear n0_ n1_ n2_ n3_ n4_ n5_ n6_; clear hb hbox hg; have hnb31 := NB121_115.out; have hnc31 := NB115_121.out; have hcz32_0 : w30.cell? ⟨gb121, 0, none⟩ = some (.int .u8 0) := (blk_cell BK121.out 0).trans rfl; have hcz32_1 : w30.cell? ⟨gb121, 1, none⟩ = some (.int .u32 0) := (blk_cell BK121.out 1).trans rfl; have hcz32_2 : w30.cell? ⟨gb121, 2, none⟩ = some (.bool false) := (blk_cell BK121.out 2).trans rfl; have hfz32_0 := blk_frozen BK121.out 0; have hfz32_1 := blk_frozen BK121.out 1; have hfz32_2 := blk_frozen BK121.out 2) | ((with_reducible refine gate_callee (f := 22) rfl ?_); refine goesL_ (some 40) rfl rfl Try.func22 (by kernel_rfl) rfl #[.agg #[.int .u8 ((rd_T40 l0_7 x35_2).f0), .int .u32 ((rd_T40 l0_7 x35_2).f1), .bool ((rd_T40 l0_7 x35_2).f2)]] rfl (by (try simp only [List.map_toArray, List.map_cons, List.map_nil]); first | done | rfl | (simp only [List.length_drop, List.length_take]; rfl)) ?_; (with_reducible refine (conf_Port.calls ((rd_T40 l0_7 x35_2).f0) ((rd_T40 l0_7 x35_2).f1) ((rd_T40 l0_7 x35_2).f2) false _ A24.out).mono ?_); rintro e w33 ⟨rfl, hb⟩; refine ⟨_, rfl, ?_⟩; have n0_ := Aside0.mk (blk_below (g := gb115) (o := .cells #[.int .u64 a0_0, .int .u16 a0_1, .int .i64 a0_2, .int .i64 a0_3, .int .i64 a0_4, .int .i64 a0_5, .int .i64 a0_6, .slice (some ad120) l0_7.length c0_7] 27 (0, 0)) (by (with_reducible repeat (first | refine blk_drewN ?_ _ | refine blk_drew ?_ | refine blk_alloc ?_ _)); refine blk_far ?_ NB115_121.out _; (with_reducible repeat (first | refine blk_drewN ?_ _ | refine blk_drew ?_ | refine blk_alloc ?_ _)); refine blk_far ?_ NB115_121.out _; (with_reducible repeat (first | refine blk_drewN ?_ _ | refine blk_drew ?_ | refine blk_alloc ?_ _)); refine blk_far ?_ NB115_121.out _; (with_reducible repeat (first | refine blk_drewN ?_ _ | refine blk_drew ?_ | refine blk_alloc ?_ _)); exact BK115.out) hb); have n1_ := Aside0.mk (blk_below (g := gb121) (o := .cells #[.int .u8 ((rd_T40 l0_7 x35_2).f0), .int .u32 ((rd_T40 l0_7 x35_2).f1), .bool ((rd_T40 l0_7 x35_2).f2)] 40 (0, 0)) (by (with_reducible repeat (first | refine blk_drewN ?_ _ | refine blk_drew ?_ | refine blk_alloc ?_ _)); refine blk_put (cs := #[.int .u8 ((rd_T40 l0_7 x35_2).f0), .int .u32 ((rd_T40 l0_7 x35_2).f1), .bool false]) ?_ 2 _ rfl; (with_reducible repeat (first | refine blk_drewN ?_ _ | refine blk_drew ?_ | refine blk_alloc ?_ _)); refine blk_put (cs := #[.int .u8 ((rd_T40 l0_7 x35_2).f0), .int .u32 0, .bool false]) ?_ 1 _ rfl; (with_reducible repeat (first | refine blk_drewN ?_ _ | refine blk_drew ?_ | refine blk_alloc ?_ _)); refine blk_put (cs := #[.int .u8 0, .int .u32 0, .bool false]) ?_ 0 _ rfl; (with_reducible repeat (first | refine blk_drewN ?_ _ | refine blk_drew ?_ | refine blk_alloc ?_ _)); exact BK121.out) hb); have n2_ := Aside0.mk (below_step (by repeat (first | (with_reducible first | exact HB.out | apply below_alloc | apply pw_below_drewN | apply below_drew1 | refine below_set ?_ GE115.out | refine below_set ?_ GE121.out) | exact HB.out)) hb); clear BK115; clear BK121; clear HB; have BK115 := n0_; have BK121 := n1_; have HB := n2_; clear n0_ n1_ n2_; (try clear hb); (try clear hb2); (try clear hk); (try clear hi)) | (go_at_call 22; (with_reducible refine (conf_Port.calls ((rd_T40 l0_7 x35_2).f0) ((rd_T40 l0_7 x35_2).f1) ((rd_T40 l0_7 x35_2).f2) false _ A24.out).mono ?_); rintro e w33 ⟨rfl, hb⟩; have n0_ := Aside0.mk (blk_below (g := gb115) (o := .cells #[.int .u64 a0_0, .int .u16 a0_1, .int .i64 a0_2, .int .i64 a0_3, .int .i64 a0_4, .int .i64 a0_5, .int .i64 a0_6, .slice (some ad120) l0_7.length c0_7] 27 (0, 0)) (by (with_reducible repeat (first | refine blk_drewN ?_ _ | refine blk_drew ?_ | refine blk_alloc ?_ _)); refine blk_far ?_ NB115_121.out _; (with_reducible repeat (first | refine blk_drewN ?_ _ | refine blk_drew ?_ | refine blk_alloc ?_ _)); refine blk_far ?_ NB115_121.out _; (with_reducible repeat (first | refine blk_drewN ?_ _ | refine blk_drew ?_ | refine blk_alloc ?_ _)); refine blk_far ?_ NB115_121.out _; (with_reducible repeat (first | refine blk_drewN ?_ _ | refine blk_drew ?_ | refine blk_alloc ?_ _)); exact BK115.out) hb); have n1_ := Aside0.mk (blk_below (g := gb121) (o := .cells #[.int .u8 ((rd_T40 l0_7 x35_2).f0), .int .u32 ((rd_T40 l0_7 x35_2).f1), .bool ((rd_T40 l0_7 x35_2).f2)] 40 (0, 0)) (by (with_reducible repeat (first | refine blk_drewN ?_ _ | refine blk_drew ?_ | refine blk_alloc ?_ _)); refine blk_put (cs := #[.int .u8 ((rd_T40 l0_7 x35_2).f0), .int .u32 ((rd_T40 l0_7 x35_2).f1), .bool false]) ?_ 2 _ rfl; (with_reducible repeat (first | refine blk_drewN ?_ _ | refine blk_drew ?_ | refine blk_alloc ?_ _)); refine blk_put (cs := #[.int .u8 ((rd_T40 l0_7 x35_2).f0), .int .u32 0, .bool false]) ?_ 1 _ rfl; (with_reducible repeat (first | refine blk_drewN ?_ _ | refine blk_drew ?_ | refine blk_alloc ?_ _)); refine blk_put (cs := #[.int .u8 0, .int .u32 0, .bool false]) ?_ 0 _ rfl; (with_reducible repeat (first | refine blk_drewN ?_ _ | refine blk_drew ?_ | refine blk_alloc ?_ _)); exact BK121.out) hb); have n2_ := Aside0.mk (below_step (by repeat (first | (with_reducible first | exact HB.out | apply below_alloc | apply pw_below_drewN | apply below_drew1 | refine below_set ?_ GE115.out | refine below_set ?_ GE121.out) | exact HB.out)) hb); clear BK115; clear BK121; clear HB; have BK115 := n0_; have BK121 := n1_; have HB := n2_; clear n0_ n1_ n2_; (try clear hb); (try clear hb2); (try clear hk); (try clear hi)))
                          go_ret
                          exact ⟨by first | rfl | (simp [errW_none, errW_some] <;> rfl) | (simp [*, errW_none, errW_some] <;> rfl), by repeat (first | (with_reducible first | exact HB.out | apply below_alloc | apply pw_below_drewN | apply below_drew1 | refine below_set ?_ GE115.out | refine below_set ?_ GE121.out) | exact HB.out)⟩
                      · rw [if_neg c23] at H
                        exact absurd H (by simp)
                    · rw [if_neg c22] at H
                      exact absurd H (by simp)
                  · rw [if_neg c21] at H
                    have c21b0 : decide (x35_2 < (l0_7.length : Int)) = false := decide_eq_false c21
                    clear c21
                    obtain rfl := Option.some.inj H
                    go_wp2
                    go_ret
                    exact ⟨by first | rfl | (simp [errW_none, errW_some] <;> rfl) | (simp [*, errW_none, errW_some] <;> rfl), by repeat (first | (with_reducible first | exact HB.out | apply below_alloc | apply pw_below_drewN | apply below_drew1 | refine below_set ?_ GE115.out) | exact HB.out)⟩
  · replace c3 := Bool.eq_false_iff.mpr c3
    subst c3
    have H1 : (some 1) = some r := by rw [if_neg (show ¬ (false = true) by decide)] at H; exact H
    clear H
    have H := H1
    clear H1
    obtain rfl := Option.some.inj H
    go_enter Try.func19, Try.ntmps19
    go_wp2_with (first | ((with_reducible refine gate_dst (N := 1) rfl ?_); refine box_event ?hg (N := 1) ?hd (cs := #[.int .u64 a0_0, .int .u16 a0_1, .int .i64 a0_2, .int .i64 a0_3, .int .i64 a0_4, .int .i64 a0_5, .int .i64 a0_6, .slice A0_7 l0_7.length c0_7]) (t := 27) ?hr ?_; (case hd => rfl); (case hg => rfl); (case hr => first | (go_simp; done) | (go_simp; rfl)); intro gb115 hg w34 hbox hb; have n0_ := Aside0.mk (below_step (by repeat (first | (with_reducible first | exact HB.out | apply below_alloc | apply pw_below_drewN | apply below_drew1) | exact HB.out)) hb); have n1_ := Aside0.mk (hbox); have n2_ := Aside0.mk ((by rw [hg]; exact (below_size (by repeat (first | (with_reducible first | exact HB.out | apply below_alloc | apply pw_below_drewN | apply below_drew1) | exact HB.out))) : w.heap.size ≤ gb115)); have n3_ := Aside0.mk ((by rw [hg]; exact (below_size (by repeat (first | (with_reducible first | exact HB.out | apply below_alloc | apply pw_below_drewN | apply below_drew1) | exact HB.out))) : w.heap.size ≤ gb115)); clear HB; have HB := n0_; have BK115 := n1_; have GW115 := n2_; have GE115 := n3_; clear n0_ n1_ n2_ n3_; clear hb hbox hg; have hcz35_0 : w34.cell? ⟨gb115, 0, none⟩ = some (.int .u64 a0_0) := (blk_cell BK115.out 0).trans rfl; have hcz35_1 : w34.cell? ⟨gb115, 1, none⟩ = some (.int .u16 a0_1) := (blk_cell BK115.out 1).trans rfl; have hcz35_2 : w34.cell? ⟨gb115, 2, none⟩ = some (.int .i64 a0_2) := (blk_cell BK115.out 2).trans rfl; have hcz35_3 : w34.cell? ⟨gb115, 3, none⟩ = some (.int .i64 a0_3) := (blk_cell BK115.out 3).trans rfl; have hcz35_4 : w34.cell? ⟨gb115, 4, none⟩ = some (.int .i64 a0_4) := (blk_cell BK115.out 4).trans rfl; have hcz35_5 : w34.cell? ⟨gb115, 5, none⟩ = some (.int .i64 a0_5) := (blk_cell BK115.out 5).trans rfl; have hcz35_6 : w34.cell? ⟨gb115, 6, none⟩ = some (.int .i64 a0_6) := (blk_cell BK115.out 6).trans rfl; have hcz35_7 : w34.cell? ⟨gb115, 7, none⟩ = some (.slice A0_7 l0_7.length c0_7) := (blk_cell BK115.out 7).trans rfl; have hfz35_0 := blk_frozen BK115.out 0; have hfz35_1 := blk_frozen BK115.out 1; have hfz35_2 := blk_frozen BK115.out 2; have hfz35_3 := blk_frozen BK115.out 3; have hfz35_4 := blk_frozen BK115.out 4; have hfz35_5 := blk_frozen BK115.out 5; have hfz35_6 := blk_frozen BK115.out 6; have hfz35_7 := blk_frozen BK115.out 7) | ((with_reducible refine gate_callee (f := 34) rfl ?_); refine goesL_ (some 8) rfl rfl Try.func34 (by kernel_rfl) rfl #[.int .u64 a0_0] rfl (by (try simp only [List.map_toArray, List.map_cons, List.map_nil]); first | done | rfl | (simp only [List.length_drop, List.length_take]; rfl)) ?_; (with_reducible refine (ids_Right.calls a0_0 false _ A2.out).mono ?_); rintro e w' ⟨rfl, ⟨nd, rfl⟩⟩; refine ⟨_, rfl, ?_⟩) | (go_at_call 34; (with_reducible refine (ids_Right.calls a0_0 false _ A2.out).mono ?_); rintro e w' ⟨rfl, ⟨nd, rfl⟩⟩))
    go_ret
    exact ⟨by first | rfl | (simp [errW_none, errW_some] <;> rfl) | (simp [*, errW_none, errW_some] <;> rfl), by repeat (first | (with_reducible first | exact HB.out | apply below_alloc | apply pw_below_drewN | apply below_drew1 | refine below_set ?_ GE115.out) | exact HB.out)⟩

/-! ### treelineref11_Times: function 21 -/
def treelineref11_Times.f (a0_0 : Int) (a0_1 : Int) (a0_2 : Int) (a0_3 : Int) (a0_4 : Int) (a0_5 : Int) (a0_6 : Int) (l0_7 : List (S40)) : Option (Bool) := if a0_2 < 6 then (some false) else (if a0_2 > 40 then (some false) else (if a0_3 < 1 then (some false) else (if a0_3 > 10 then (some false) else (if a0_4 < 4 then (some false) else (if a0_4 > 30 then (some false) else (if a0_2 ≤ (wrap64 (2 * (wrap64 (a0_4 - 1)))) then (some (decide (a0_2 ≥ (wrap64 (2 * (wrap64 (a0_3 + 1))))))) else (some false)))))))
set_option maxHeartbeats 8000000 in
set_option maxRecDepth 100000 in
theorem treelineref11_Times.calls (a0_0 : Int) (a0_1 : Int) (a0_2 : Int) (a0_3 : Int) (a0_4 : Int) (a0_5 : Int) (a0_6 : Int) (A0_7 : Option Addr) (c0_7 : Nat) (l0_7 : List (S40)) (r : Bool) (w : World) (hr0_7 : Kd.C k40 w A0_7 l0_7.length l0_7) (hc0_7 : l0_7.length ≤ c0_7) (h : treelineref11_Times.f a0_0 a0_1 a0_2 a0_3 a0_4 a0_5 a0_6 l0_7 = some r) :
    Calls Try.prog 21 #[.agg #[.int .u64 a0_0, .int .u16 a0_1, .int .i64 a0_2, .int .i64 a0_3, .int .i64 a0_4, .int .i64 a0_5, .int .i64 a0_6, .slice A0_7 l0_7.length c0_7]] w fun e w' => e = .returned (.bool r) ∧ Below w.heap.size w w' := by
  have hu27 := Try.underlying27
  have HR0_7 := Aside0.mk hr0_7
  have HC0_7 := Aside0.mk hc0_7
  clear hr0_7 hc0_7
  have HB := Aside0.mk (Below.refl w.heap.size w)
  have H : (if a0_2 < 6 then (some false) else (if a0_2 > 40 then (some false) else (if a0_3 < 1 then (some false) else (if a0_3 > 10 then (some false) else (if a0_4 < 4 then (some false) else (if a0_4 > 30 then (some false) else (if a0_2 ≤ (wrap64 (2 * (wrap64 (a0_4 - 1)))) then (some (decide (a0_2 ≥ (wrap64 (2 * (wrap64 (a0_3 + 1))))))) else (some false)))))))) = some r := h
  clear h
  by_cases c2 : a0_2 < 6
  · rw [if_pos c2] at H
    have c2b0 : decide (a0_2 < 6) = true := decide_eq_true c2
    clear c2
    obtain rfl := Option.some.inj H
    go_enter Try.func21, Try.ntmps21
    go_wp2_with (first | ((with_reducible refine gate_dst (N := 1) rfl ?_); refine box_event ?hg (N := 1) ?hd (cs := #[.int .u64 a0_0, .int .u16 a0_1, .int .i64 a0_2, .int .i64 a0_3, .int .i64 a0_4, .int .i64 a0_5, .int .i64 a0_6, .slice A0_7 l0_7.length c0_7]) (t := 27) ?hr ?_; (case hd => rfl); (case hg => rfl); (case hr => first | (go_simp; done) | (go_simp; rfl)); intro gb123 hg w3 hbox hb; have n0_ := Aside0.mk (below_step (by repeat (first | (with_reducible first | exact HB.out | apply below_alloc | apply pw_below_drewN | apply below_drew1) | exact HB.out)) hb); have n1_ := Aside0.mk (hbox); have n2_ := Aside0.mk ((by rw [hg]; exact (below_size (by repeat (first | (with_reducible first | exact HB.out | apply below_alloc | apply pw_below_drewN | apply below_drew1) | exact HB.out))) : w.heap.size ≤ gb123)); have n3_ := Aside0.mk ((by rw [hg]; exact (below_size (by repeat (first | (with_reducible first | exact HB.out | apply below_alloc | apply pw_below_drewN | apply below_drew1) | exact HB.out))) : w.heap.size ≤ gb123)); clear HB; have HB := n0_; have BK123 := n1_; have GW123 := n2_; have GE123 := n3_; clear n0_ n1_ n2_ n3_; clear hb hbox hg; have hcz4_0 : w3.cell? ⟨gb123, 0, none⟩ = some (.int .u64 a0_0) := (blk_cell BK123.out 0).trans rfl; have hcz4_1 : w3.cell? ⟨gb123, 1, none⟩ = some (.int .u16 a0_1) := (blk_cell BK123.out 1).trans rfl; have hcz4_2 : w3.cell? ⟨gb123, 2, none⟩ = some (.int .i64 a0_2) := (blk_cell BK123.out 2).trans rfl; have hcz4_3 : w3.cell? ⟨gb123, 3, none⟩ = some (.int .i64 a0_3) := (blk_cell BK123.out 3).trans rfl; have hcz4_4 : w3.cell? ⟨gb123, 4, none⟩ = some (.int .i64 a0_4) := (blk_cell BK123.out 4).trans rfl; have hcz4_5 : w3.cell? ⟨gb123, 5, none⟩ = some (.int .i64 a0_5) := (blk_cell BK123.out 5).trans rfl; have hcz4_6 : w3.cell? ⟨gb123, 6, none⟩ = some (.int .i64 a0_6) := (blk_cell BK123.out 6).trans rfl; have hcz4_7 : w3.cell? ⟨gb123, 7, none⟩ = some (.slice A0_7 l0_7.length c0_7) := (blk_cell BK123.out 7).trans rfl; have hfz4_0 := blk_frozen BK123.out 0; have hfz4_1 := blk_frozen BK123.out 1; have hfz4_2 := blk_frozen BK123.out 2; have hfz4_3 := blk_frozen BK123.out 3; have hfz4_4 := blk_frozen BK123.out 4; have hfz4_5 := blk_frozen BK123.out 5; have hfz4_6 := blk_frozen BK123.out 6; have hfz4_7 := blk_frozen BK123.out 7))
    go_ret
    exact ⟨by first | rfl | (simp [errW_none, errW_some] <;> rfl) | (simp [*, errW_none, errW_some] <;> rfl), by repeat (first | (with_reducible first | exact HB.out | apply below_alloc | apply pw_below_drewN | apply below_drew1 | refine below_set ?_ GE123.out) | exact HB.out)⟩
  · rw [if_neg c2] at H
    have c2b0 : decide (a0_2 < 6) = false := decide_eq_false c2
    clear c2
    by_cases c5 : a0_2 > 40
    · rw [if_pos c5] at H
      have c5b0 : decide (40 < a0_2) = true := decide_eq_true c5
      clear c5
      obtain rfl := Option.some.inj H
      go_enter Try.func21, Try.ntmps21
      go_wp2_with (first | ((with_reducible refine gate_dst (N := 1) rfl ?_); refine box_event ?hg (N := 1) ?hd (cs := #[.int .u64 a0_0, .int .u16 a0_1, .int .i64 a0_2, .int .i64 a0_3, .int .i64 a0_4, .int .i64 a0_5, .int .i64 a0_6, .slice A0_7 l0_7.length c0_7]) (t := 27) ?hr ?_; (case hd => rfl); (case hg => rfl); (case hr => first | (go_simp; done) | (go_simp; rfl)); intro gb123 hg w6 hbox hb; have n0_ := Aside0.mk (below_step (by repeat (first | (with_reducible first | exact HB.out | apply below_alloc | apply pw_below_drewN | apply below_drew1) | exact HB.out)) hb); have n1_ := Aside0.mk (hbox); have n2_ := Aside0.mk ((by rw [hg]; exact (below_size (by repeat (first | (with_reducible first | exact HB.out | apply below_alloc | apply pw_below_drewN | apply below_drew1) | exact HB.out))) : w.heap.size ≤ gb123)); have n3_ := Aside0.mk ((by rw [hg]; exact (below_size (by repeat (first | (with_reducible first | exact HB.out | apply below_alloc | apply pw_below_drewN | apply below_drew1) | exact HB.out))) : w.heap.size ≤ gb123)); clear HB; have HB := n0_; have BK123 := n1_; have GW123 := n2_; have GE123 := n3_; clear n0_ n1_ n2_ n3_; clear hb hbox hg; have hcz7_0 : w6.cell? ⟨gb123, 0, none⟩ = some (.int .u64 a0_0) := (blk_cell BK123.out 0).trans rfl; have hcz7_1 : w6.cell? ⟨gb123, 1, none⟩ = some (.int .u16 a0_1) := (blk_cell BK123.out 1).trans rfl; have hcz7_2 : w6.cell? ⟨gb123, 2, none⟩ = some (.int .i64 a0_2) := (blk_cell BK123.out 2).trans rfl; have hcz7_3 : w6.cell? ⟨gb123, 3, none⟩ = some (.int .i64 a0_3) := (blk_cell BK123.out 3).trans rfl; have hcz7_4 : w6.cell? ⟨gb123, 4, none⟩ = some (.int .i64 a0_4) := (blk_cell BK123.out 4).trans rfl; have hcz7_5 : w6.cell? ⟨gb123, 5, none⟩ = some (.int .i64 a0_5) := (blk_cell BK123.out 5).trans rfl; have hcz7_6 : w6.cell? ⟨gb123, 6, none⟩ = some (.int .i64 a0_6) := (blk_cell BK123.out 6).trans rfl; have hcz7_7 : w6.cell? ⟨gb123, 7, none⟩ = some (.slice A0_7 l0_7.length c0_7) := (blk_cell BK123.out 7).trans rfl; have hfz7_0 := blk_frozen BK123.out 0; have hfz7_1 := blk_frozen BK123.out 1; have hfz7_2 := blk_frozen BK123.out 2; have hfz7_3 := blk_frozen BK123.out 3; have hfz7_4 := blk_frozen BK123.out 4; have hfz7_5 := blk_frozen BK123.out 5; have hfz7_6 := blk_frozen BK123.out 6; have hfz7_7 := blk_frozen BK123.out 7))
      go_ret
      exact ⟨by first | rfl | (simp [errW_none, errW_some] <;> rfl) | (simp [*, errW_none, errW_some] <;> rfl), by repeat (first | (with_reducible first | exact HB.out | apply below_alloc | apply pw_below_drewN | apply below_drew1 | refine below_set ?_ GE123.out) | exact HB.out)⟩
    · rw [if_neg c5] at H
      have c5b0 : decide (40 < a0_2) = false := decide_eq_false c5
      clear c5
      by_cases c8 : a0_3 < 1
      · rw [if_pos c8] at H
        have c8b0 : decide (a0_3 < 1) = true := decide_eq_true c8
        clear c8
        obtain rfl := Option.some.inj H
        go_enter Try.func21, Try.ntmps21
        go_wp2_with (first | ((with_reducible refine gate_dst (N := 1) rfl ?_); refine box_event ?hg (N := 1) ?hd (cs := #[.int .u64 a0_0, .int .u16 a0_1, .int .i64 a0_2, .int .i64 a0_3, .int .i64 a0_4, .int .i64 a0_5, .int .i64 a0_6, .slice A0_7 l0_7.length c0_7]) (t := 27) ?hr ?_; (case hd => rfl); (case hg => rfl); (case hr => first | (go_simp; done) | (go_simp; rfl)); intro gb123 hg w9 hbox hb; have n0_ := Aside0.mk (below_step (by repeat (first | (with_reducible first | exact HB.out | apply below_alloc | apply pw_below_drewN | apply below_drew1) | exact HB.out)) hb); have n1_ := Aside0.mk (hbox); have n2_ := Aside0.mk ((by rw [hg]; exact (below_size (by repeat (first | (with_reducible first | exact HB.out | apply below_alloc | apply pw_below_drewN | apply below_drew1) | exact HB.out))) : w.heap.size ≤ gb123)); have n3_ := Aside0.mk ((by rw [hg]; exact (below_size (by repeat (first | (with_reducible first | exact HB.out | apply below_alloc | apply pw_below_drewN | apply below_drew1) | exact HB.out))) : w.heap.size ≤ gb123)); clear HB; have HB := n0_; have BK123 := n1_; have GW123 := n2_; have GE123 := n3_; clear n0_ n1_ n2_ n3_; clear hb hbox hg; have hcz10_0 : w9.cell? ⟨gb123, 0, none⟩ = some (.int .u64 a0_0) := (blk_cell BK123.out 0).trans rfl; have hcz10_1 : w9.cell? ⟨gb123, 1, none⟩ = some (.int .u16 a0_1) := (blk_cell BK123.out 1).trans rfl; have hcz10_2 : w9.cell? ⟨gb123, 2, none⟩ = some (.int .i64 a0_2) := (blk_cell BK123.out 2).trans rfl; have hcz10_3 : w9.cell? ⟨gb123, 3, none⟩ = some (.int .i64 a0_3) := (blk_cell BK123.out 3).trans rfl; have hcz10_4 : w9.cell? ⟨gb123, 4, none⟩ = some (.int .i64 a0_4) := (blk_cell BK123.out 4).trans rfl; have hcz10_5 : w9.cell? ⟨gb123, 5, none⟩ = some (.int .i64 a0_5) := (blk_cell BK123.out 5).trans rfl; have hcz10_6 : w9.cell? ⟨gb123, 6, none⟩ = some (.int .i64 a0_6) := (blk_cell BK123.out 6).trans rfl; have hcz10_7 : w9.cell? ⟨gb123, 7, none⟩ = some (.slice A0_7 l0_7.length c0_7) := (blk_cell BK123.out 7).trans rfl; have hfz10_0 := blk_frozen BK123.out 0; have hfz10_1 := blk_frozen BK123.out 1; have hfz10_2 := blk_frozen BK123.out 2; have hfz10_3 := blk_frozen BK123.out 3; have hfz10_4 := blk_frozen BK123.out 4; have hfz10_5 := blk_frozen BK123.out 5; have hfz10_6 := blk_frozen BK123.out 6; have hfz10_7 := blk_frozen BK123.out 7))
        go_ret
        exact ⟨by first | rfl | (simp [errW_none, errW_some] <;> rfl) | (simp [*, errW_none, errW_some] <;> rfl), by repeat (first | (with_reducible first | exact HB.out | apply below_alloc | apply pw_below_drewN | apply below_drew1 | refine below_set ?_ GE123.out) | exact HB.out)⟩
      · rw [if_neg c8] at H
        have c8b0 : decide (a0_3 < 1) = false := decide_eq_false c8
        clear c8
        by_cases c11 : a0_3 > 10
        · rw [if_pos c11] at H
          have c11b0 : decide (10 < a0_3) = true := decide_eq_true c11
          clear c11
          obtain rfl := Option.some.inj H
          go_enter Try.func21, Try.ntmps21
          go_wp2_with (first | ((with_reducible refine gate_dst (N := 1) rfl ?_); refine box_event ?hg (N := 1) ?hd (cs := #[.int .u64 a0_0, .int .u16 a0_1, .int .i64 a0_2, .int .i64 a0_3, .int .i64 a0_4, .int .i64 a0_5, .int .i64 a0_6, .slice A0_7 l0_7.length c0_7]) (t := 27) ?hr ?_; (case hd => rfl); (case hg => rfl); (case hr => first | (go_simp; done) | (go_simp; rfl)); intro gb123 hg w12 hbox hb; have n0_ := Aside0.mk (below_step (by repeat (first | (with_reducible first | exact HB.out | apply below_alloc | apply pw_below_drewN | apply below_drew1) | exact HB.out)) hb); have n1_ := Aside0.mk (hbox); have n2_ := Aside0.mk ((by rw [hg]; exact (below_size (by repeat (first | (with_reducible first | exact HB.out | apply below_alloc | apply pw_below_drewN | apply below_drew1) | exact HB.out))) : w.heap.size ≤ gb123)); have n3_ := Aside0.mk ((by rw [hg]; exact (below_size (by repeat (first | (with_reducible first | exact HB.out | apply below_alloc | apply pw_below_drewN | apply below_drew1) | exact HB.out))) : w.heap.size ≤ gb123)); clear HB; have HB := n0_; have BK123 := n1_; have GW123 := n2_; have GE123 := n3_; clear n0_ n1_ n2_ n3_; clear hb hbox hg; have hcz13_0 : w12.cell? ⟨gb123, 0, none⟩ = some (.int .u64 a0_0) := (blk_cell BK123.out 0).trans rfl; have hcz13_1 : w12.cell? ⟨gb123, 1, none⟩ = some (.int .u16 a0_1) := (blk_cell BK123.out 1).trans rfl; have hcz13_2 : w12.cell? ⟨gb123, 2, none⟩ = some (.int .i64 a0_2) := (blk_cell BK123.out 2).trans rfl; have hcz13_3 : w12.cell? ⟨gb123, 3, none⟩ = some (.int .i64 a0_3) := (blk_cell BK123.out 3).trans rfl; have hcz13_4 : w12.cell? ⟨gb123, 4, none⟩ = some (.int .i64 a0_4) := (blk_cell BK123.out 4).trans rfl; have hcz13_5 : w12.cell? ⟨gb123, 5, none⟩ = some (.int .i64 a0_5) := (blk_cell BK123.out 5).trans rfl; have hcz13_6 : w12.cell? ⟨gb123, 6, none⟩ = some (.int .i64 a0_6) := (blk_cell BK123.out 6).trans rfl; have hcz13_7 : w12.cell? ⟨gb123, 7, none⟩ = some (.slice A0_7 l0_7.length c0_7) := (blk_cell BK123.out 7).trans rfl; have hfz13_0 := blk_frozen BK123.out 0; have hfz13_1 := blk_frozen BK123.out 1; have hfz13_2 := blk_frozen BK123.out 2; have hfz13_3 := blk_frozen BK123.out 3; have hfz13_4 := blk_frozen BK123.out 4; have hfz13_5 := blk_frozen BK123.out 5; have hfz13_6 := blk_frozen BK123.out 6; have hfz13_7 := blk_frozen BK123.out 7))
          go_ret
          exact ⟨by first | rfl | (simp [errW_none, errW_some] <;> rfl) | (simp [*, errW_none, errW_some] <;> rfl), by repeat (first | (with_reducible first | exact HB.out | apply below_alloc | apply pw_below_drewN | apply below_drew1 | refine below_set ?_ GE123.out) | exact HB.out)⟩
        · rw [if_neg c11] at H
          have c11b0 : decide (10 < a0_3) = false := decide_eq_false c11
          clear c11
          by_cases c14 : a0_4 < 4
          · rw [if_pos c14] at H
            have c14b0 : decide (a0_4 < 4) = true := decide_eq_true c14
            clear c14
            obtain rfl := Option.some.inj H
            go_enter Try.func21, Try.ntmps21
            go_wp2_with (first | ((with_reducible refine gate_dst (N := 1) rfl ?_); refine box_event ?hg (N := 1) ?hd (cs := #[.int .u64 a0_0, .int .u16 a0_1, .int .i64 a0_2, .int .i64 a0_3, .int .i64 a0_4, .int .i64 a0_5, .int .i64 a0_6, .slice A0_7 l0_7.length c0_7]) (t := 27) ?hr ?_; (case hd => rfl); (case hg => rfl); (case hr => first | (go_simp; done) | (go_simp; rfl)); intro gb123 hg w15 hbox hb; have n0_ := Aside0.mk (below_step (by repeat (first | (with_reducible first | exact HB.out | apply below_alloc | apply pw_below_drewN | apply below_drew1) | exact HB.out)) hb); have n1_ := Aside0.mk (hbox); have n2_ := Aside0.mk ((by rw [hg]; exact (below_size (by repeat (first | (with_reducible first | exact HB.out | apply below_alloc | apply pw_below_drewN | apply below_drew1) | exact HB.out))) : w.heap.size ≤ gb123)); have n3_ := Aside0.mk ((by rw [hg]; exact (below_size (by repeat (first | (with_reducible first | exact HB.out | apply below_alloc | apply pw_below_drewN | apply below_drew1) | exact HB.out))) : w.heap.size ≤ gb123)); clear HB; have HB := n0_; have BK123 := n1_; have GW123 := n2_; have GE123 := n3_; clear n0_ n1_ n2_ n3_; clear hb hbox hg; have hcz16_0 : w15.cell? ⟨gb123, 0, none⟩ = some (.int .u64 a0_0) := (blk_cell BK123.out 0).trans rfl; have hcz16_1 : w15.cell? ⟨gb123, 1, none⟩ = some (.int .u16 a0_1) := (blk_cell BK123.out 1).trans rfl; have hcz16_2 : w15.cell? ⟨gb123, 2, none⟩ = some (.int .i64 a0_2) := (blk_cell BK123.out 2).trans rfl; have hcz16_3 : w15.cell? ⟨gb123, 3, none⟩ = some (.int .i64 a0_3) := (blk_cell BK123.out 3).trans rfl; have hcz16_4 : w15.cell? ⟨gb123, 4, none⟩ = some (.int .i64 a0_4) := (blk_cell BK123.out 4).trans rfl; have hcz16_5 : w15.cell? ⟨gb123, 5, none⟩ = some (.int .i64 a0_5) := (blk_cell BK123.out 5).trans rfl; have hcz16_6 : w15.cell? ⟨gb123, 6, none⟩ = some (.int .i64 a0_6) := (blk_cell BK123.out 6).trans rfl; have hcz16_7 : w15.cell? ⟨gb123, 7, none⟩ = some (.slice A0_7 l0_7.length c0_7) := (blk_cell BK123.out 7).trans rfl; have hfz16_0 := blk_frozen BK123.out 0; have hfz16_1 := blk_frozen BK123.out 1; have hfz16_2 := blk_frozen BK123.out 2; have hfz16_3 := blk_frozen BK123.out 3; have hfz16_4 := blk_frozen BK123.out 4; have hfz16_5 := blk_frozen BK123.out 5; have hfz16_6 := blk_frozen BK123.out 6; have hfz16_7 := blk_frozen BK123.out 7))
            go_ret
            exact ⟨by first | rfl | (simp [errW_none, errW_some] <;> rfl) | (simp [*, errW_none, errW_some] <;> rfl), by repeat (first | (with_reducible first | exact HB.out | apply below_alloc | apply pw_below_drewN | apply below_drew1 | refine below_set ?_ GE123.out) | exact HB.out)⟩
          · rw [if_neg c14] at H
            have c14b0 : decide (a0_4 < 4) = false := decide_eq_false c14
            clear c14
            by_cases c17 : a0_4 > 30
            · rw [if_pos c17] at H
              have c17b0 : decide (30 < a0_4) = true := decide_eq_true c17
              clear c17
              obtain rfl := Option.some.inj H
              go_enter Try.func21, Try.ntmps21
              go_wp2_with (first | ((with_reducible refine gate_dst (N := 1) rfl ?_); refine box_event ?hg (N := 1) ?hd (cs := #[.int .u64 a0_0, .int .u16 a0_1, .int .i64 a0_2, .int .i64 a0_3, .int .i64 a0_4, .int .i64 a0_5, .int .i64 a0_6, .slice A0_7 l0_7.length c0_7]) (t := 27) ?hr ?_; (case hd => rfl); (case hg => rfl); (case hr => first | (go_simp; done) | (go_simp; rfl)); intro gb123 hg w18 hbox hb; have n0_ := Aside0.mk (below_step (by repeat (first | (with_reducible first | exact HB.out | apply below_alloc | apply pw_below_drewN | apply below_drew1) | exact HB.out)) hb); have n1_ := Aside0.mk (hbox); have n2_ := Aside0.mk ((by rw [hg]; exact (below_size (by repeat (first | (with_reducible first | exact HB.out | apply below_alloc | apply pw_below_drewN | apply below_drew1) | exact HB.out))) : w.heap.size ≤ gb123)); have n3_ := Aside0.mk ((by rw [hg]; exact (below_size (by repeat (first | (with_reducible first | exact HB.out | apply below_alloc | apply pw_below_drewN | apply below_drew1) | exact HB.out))) : w.heap.size ≤ gb123)); clear HB; have HB := n0_; have BK123 := n1_; have GW123 := n2_; have GE123 := n3_; clear n0_ n1_ n2_ n3_; clear hb hbox hg; have hcz19_0 : w18.cell? ⟨gb123, 0, none⟩ = some (.int .u64 a0_0) := (blk_cell BK123.out 0).trans rfl; have hcz19_1 : w18.cell? ⟨gb123, 1, none⟩ = some (.int .u16 a0_1) := (blk_cell BK123.out 1).trans rfl; have hcz19_2 : w18.cell? ⟨gb123, 2, none⟩ = some (.int .i64 a0_2) := (blk_cell BK123.out 2).trans rfl; have hcz19_3 : w18.cell? ⟨gb123, 3, none⟩ = some (.int .i64 a0_3) := (blk_cell BK123.out 3).trans rfl; have hcz19_4 : w18.cell? ⟨gb123, 4, none⟩ = some (.int .i64 a0_4) := (blk_cell BK123.out 4).trans rfl; have hcz19_5 : w18.cell? ⟨gb123, 5, none⟩ = some (.int .i64 a0_5) := (blk_cell BK123.out 5).trans rfl; have hcz19_6 : w18.cell? ⟨gb123, 6, none⟩ = some (.int .i64 a0_6) := (blk_cell BK123.out 6).trans rfl; have hcz19_7 : w18.cell? ⟨gb123, 7, none⟩ = some (.slice A0_7 l0_7.length c0_7) := (blk_cell BK123.out 7).trans rfl; have hfz19_0 := blk_frozen BK123.out 0; have hfz19_1 := blk_frozen BK123.out 1; have hfz19_2 := blk_frozen BK123.out 2; have hfz19_3 := blk_frozen BK123.out 3; have hfz19_4 := blk_frozen BK123.out 4; have hfz19_5 := blk_frozen BK123.out 5; have hfz19_6 := blk_frozen BK123.out 6; have hfz19_7 := blk_frozen BK123.out 7))
              go_ret
              exact ⟨by first | rfl | (simp [errW_none, errW_some] <;> rfl) | (simp [*, errW_none, errW_some] <;> rfl), by repeat (first | (with_reducible first | exact HB.out | apply below_alloc | apply pw_below_drewN | apply below_drew1 | refine below_set ?_ GE123.out) | exact HB.out)⟩
            · rw [if_neg c17] at H
              have c17b0 : decide (30 < a0_4) = false := decide_eq_false c17
              clear c17
              by_cases c20 : a0_2 ≤ (wrap64 (2 * (wrap64 (a0_4 - 1))))
              · rw [if_pos c20] at H
                have c20b0 : decide (a0_2 ≤ (wrap64 (2 * (wrap64 (a0_4 - 1))))) = true := decide_eq_true c20
                clear c20
                obtain rfl := Option.some.inj H
                go_enter Try.func21, Try.ntmps21
                go_wp2_with (first | ((with_reducible refine gate_dst (N := 1) rfl ?_); refine box_event ?hg (N := 1) ?hd (cs := #[.int .u64 a0_0, .int .u16 a0_1, .int .i64 a0_2, .int .i64 a0_3, .int .i64 a0_4, .int .i64 a0_5, .int .i64 a0_6, .slice A0_7 l0_7.length c0_7]) (t := 27) ?hr ?_; (case hd => rfl); (case hg => rfl); (case hr => first | (go_simp; done) | (go_simp; rfl)); intro gb123 hg w21 hbox hb; have n0_ := Aside0.mk (below_step (by repeat (first | (with_reducible first | exact HB.out | apply below_alloc | apply pw_below_drewN | apply below_drew1) | exact HB.out)) hb); have n1_ := Aside0.mk (hbox); have n2_ := Aside0.mk ((by rw [hg]; exact (below_size (by repeat (first | (with_reducible first | exact HB.out | apply below_alloc | apply pw_below_drewN | apply below_drew1) | exact HB.out))) : w.heap.size ≤ gb123)); have n3_ := Aside0.mk ((by rw [hg]; exact (below_size (by repeat (first | (with_reducible first | exact HB.out | apply below_alloc | apply pw_below_drewN | apply below_drew1) | exact HB.out))) : w.heap.size ≤ gb123)); clear HB; have HB := n0_; have BK123 := n1_; have GW123 := n2_; have GE123 := n3_; clear n0_ n1_ n2_ n3_; clear hb hbox hg; have hcz22_0 : w21.cell? ⟨gb123, 0, none⟩ = some (.int .u64 a0_0) := (blk_cell BK123.out 0).trans rfl; have hcz22_1 : w21.cell? ⟨gb123, 1, none⟩ = some (.int .u16 a0_1) := (blk_cell BK123.out 1).trans rfl; have hcz22_2 : w21.cell? ⟨gb123, 2, none⟩ = some (.int .i64 a0_2) := (blk_cell BK123.out 2).trans rfl; have hcz22_3 : w21.cell? ⟨gb123, 3, none⟩ = some (.int .i64 a0_3) := (blk_cell BK123.out 3).trans rfl; have hcz22_4 : w21.cell? ⟨gb123, 4, none⟩ = some (.int .i64 a0_4) := (blk_cell BK123.out 4).trans rfl; have hcz22_5 : w21.cell? ⟨gb123, 5, none⟩ = some (.int .i64 a0_5) := (blk_cell BK123.out 5).trans rfl; have hcz22_6 : w21.cell? ⟨gb123, 6, none⟩ = some (.int .i64 a0_6) := (blk_cell BK123.out 6).trans rfl; have hcz22_7 : w21.cell? ⟨gb123, 7, none⟩ = some (.slice A0_7 l0_7.length c0_7) := (blk_cell BK123.out 7).trans rfl; have hfz22_0 := blk_frozen BK123.out 0; have hfz22_1 := blk_frozen BK123.out 1; have hfz22_2 := blk_frozen BK123.out 2; have hfz22_3 := blk_frozen BK123.out 3; have hfz22_4 := blk_frozen BK123.out 4; have hfz22_5 := blk_frozen BK123.out 5; have hfz22_6 := blk_frozen BK123.out 6; have hfz22_7 := blk_frozen BK123.out 7))
                go_ret
                exact ⟨by first | rfl | (simp [errW_none, errW_some] <;> rfl) | (simp [*, errW_none, errW_some] <;> rfl), by repeat (first | (with_reducible first | exact HB.out | apply below_alloc | apply pw_below_drewN | apply below_drew1 | refine below_set ?_ GE123.out) | exact HB.out)⟩
              · rw [if_neg c20] at H
                have c20b0 : decide (a0_2 ≤ (wrap64 (2 * (wrap64 (a0_4 - 1))))) = false := decide_eq_false c20
                clear c20
                obtain rfl := Option.some.inj H
                go_enter Try.func21, Try.ntmps21
                go_wp2_with (first | ((with_reducible refine gate_dst (N := 1) rfl ?_); refine box_event ?hg (N := 1) ?hd (cs := #[.int .u64 a0_0, .int .u16 a0_1, .int .i64 a0_2, .int .i64 a0_3, .int .i64 a0_4, .int .i64 a0_5, .int .i64 a0_6, .slice A0_7 l0_7.length c0_7]) (t := 27) ?hr ?_; (case hd => rfl); (case hg => rfl); (case hr => first | (go_simp; done) | (go_simp; rfl)); intro gb123 hg w23 hbox hb; have n0_ := Aside0.mk (below_step (by repeat (first | (with_reducible first | exact HB.out | apply below_alloc | apply pw_below_drewN | apply below_drew1) | exact HB.out)) hb); have n1_ := Aside0.mk (hbox); have n2_ := Aside0.mk ((by rw [hg]; exact (below_size (by repeat (first | (with_reducible first | exact HB.out | apply below_alloc | apply pw_below_drewN | apply below_drew1) | exact HB.out))) : w.heap.size ≤ gb123)); have n3_ := Aside0.mk ((by rw [hg]; exact (below_size (by repeat (first | (with_reducible first | exact HB.out | apply below_alloc | apply pw_below_drewN | apply below_drew1) | exact HB.out))) : w.heap.size ≤ gb123)); clear HB; have HB := n0_; have BK123 := n1_; have GW123 := n2_; have GE123 := n3_; clear n0_ n1_ n2_ n3_; clear hb hbox hg; have hcz24_0 : w23.cell? ⟨gb123, 0, none⟩ = some (.int .u64 a0_0) := (blk_cell BK123.out 0).trans rfl; have hcz24_1 : w23.cell? ⟨gb123, 1, none⟩ = some (.int .u16 a0_1) := (blk_cell BK123.out 1).trans rfl; have hcz24_2 : w23.cell? ⟨gb123, 2, none⟩ = some (.int .i64 a0_2) := (blk_cell BK123.out 2).trans rfl; have hcz24_3 : w23.cell? ⟨gb123, 3, none⟩ = some (.int .i64 a0_3) := (blk_cell BK123.out 3).trans rfl; have hcz24_4 : w23.cell? ⟨gb123, 4, none⟩ = some (.int .i64 a0_4) := (blk_cell BK123.out 4).trans rfl; have hcz24_5 : w23.cell? ⟨gb123, 5, none⟩ = some (.int .i64 a0_5) := (blk_cell BK123.out 5).trans rfl; have hcz24_6 : w23.cell? ⟨gb123, 6, none⟩ = some (.int .i64 a0_6) := (blk_cell BK123.out 6).trans rfl; have hcz24_7 : w23.cell? ⟨gb123, 7, none⟩ = some (.slice A0_7 l0_7.length c0_7) := (blk_cell BK123.out 7).trans rfl; have hfz24_0 := blk_frozen BK123.out 0; have hfz24_1 := blk_frozen BK123.out 1; have hfz24_2 := blk_frozen BK123.out 2; have hfz24_3 := blk_frozen BK123.out 3; have hfz24_4 := blk_frozen BK123.out 4; have hfz24_5 := blk_frozen BK123.out 5; have hfz24_6 := blk_frozen BK123.out 6; have hfz24_7 := blk_frozen BK123.out 7))
                go_ret
                exact ⟨by first | rfl | (simp [errW_none, errW_some] <;> rfl) | (simp [*, errW_none, errW_some] <;> rfl), by repeat (first | (with_reducible first | exact HB.out | apply below_alloc | apply pw_below_drewN | apply below_drew1 | refine below_set ?_ GE123.out) | exact HB.out)⟩

/-! ### treelineref01_Right: function 35 -/
def treelineref01_Right.f (a0 : Int) : Option (Bool) := if a0 > 0 then (if a0 < 281474976710656 then (some ((Int.tmod (IntKind.u64.wrap (Int.tdiv a0 1099511627776)) 2) == 0)) else (some false)) else (some false)
set_option maxHeartbeats 8000000 in
set_option maxRecDepth 100000 in
theorem treelineref01_Right.calls (a0 : Int) (r : Bool) (w : World) (h : treelineref01_Right.f a0 = some r) :
    Calls Try.prog 35 #[.int .u64 a0] w fun e w' => e = .returned (.bool r) ∧ Drawn0 w w' := by
  have H : (if a0 > 0 then (if a0 < 281474976710656 then (some ((Int.tmod (IntKind.u64.wrap (Int.tdiv a0 1099511627776)) 2) == 0)) else (some false)) else (some false)) = some r := h
  clear h
  by_cases c2 : a0 > 0
  · rw [if_pos c2] at H
    have c2b0 : decide (0 < a0) = true := decide_eq_true c2
    clear c2
    by_cases c3 : a0 < 281474976710656
    · rw [if_pos c3] at H
      have c3b0 : decide (a0 < 281474976710656) = true := decide_eq_true c3
      clear c3
      obtain rfl := Option.some.inj H
      go_enter Try.func35, Try.ntmps35
      go_wp2
      go_ret
      exact ⟨by first | rfl | (simp; done) | (simp [*]; done), by repeat (first | exact Drawn0.refl _ | apply Drawn0.step)⟩
    · rw [if_neg c3] at H
      have c3b0 : decide (a0 < 281474976710656) = false := decide_eq_false c3
      clear c3
      obtain rfl := Option.some.inj H
      go_enter Try.func35, Try.ntmps35
      go_wp2
      go_ret
      exact ⟨by first | rfl | (simp; done) | (simp [*]; done), by repeat (first | exact Drawn0.refl _ | apply Drawn0.step)⟩
  · rw [if_neg c2] at H
    have c2b0 : decide (0 < a0) = false := decide_eq_false c2
    clear c2
    obtain rfl := Option.some.inj H
    go_enter Try.func35, Try.ntmps35
    go_wp2
    go_ret
    exact ⟨by first | rfl | (simp; done) | (simp [*]; done), by repeat (first | exact Drawn0.refl _ | apply Drawn0.step)⟩

end Go.Proofs.Ytahhlbbgjjhncaa.PConfChecks
