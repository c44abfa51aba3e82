/- What Go functions that the law ConfCopies uses come to, and why: part 2. Made out of the kit's print by a program of this session (wip/tools/mend.py), with more rows. -/
import Derived.Test.YtahhlbbgjjhncaaPConfCopiesx0
namespace Go.Proofs.Ytahhlbbgjjhncaa.PConfCopies
open Go.RowKit Go.Proofs.YtahhlbbgjjhncaaW.PrintWords Go.Proofs.YtahhlbbgjjhncaaW.PrintLast Go.Proofs.YtahhlbbgjjhncaaW.PrintMore
attribute [local go_sem] max2_int min2_int max_two min_two max_three min_three max_four min_four   -- for this text's walks alone
set_option linter.unusedVariables false
set_option linter.unusedSimpArgs false

/-! ### conf_within: function 40 -/
def conf_within.f (a0 : Int) (a1 : Int) (a2 : Int) : Option (Bool) := if a0 ≥ a1 then (some (decide (a0 ≤ a2))) else (some false)
set_option maxHeartbeats 8000000 in
set_option maxRecDepth 100000 in
theorem conf_within.calls (a0 : Int) (a1 : Int) (a2 : Int) (r : Bool) (w : World) (h : conf_within.f a0 a1 a2 = some r) :
    Calls Try.prog 40 #[.int .i64 a0, .int .i64 a1, .int .i64 a2] w fun e w' => e = .returned (.bool r) ∧ Drawn0 w w' := by
  have H : (if a0 ≥ a1 then (some (decide (a0 ≤ a2))) else (some false)) = some r := h
  clear h
  by_cases c4 : a0 ≥ a1
  · rw [if_pos c4] at H
    have c4b0 : decide (a1 ≤ a0) = true := decide_eq_true c4
    clear c4
    obtain rfl := Option.some.inj H
    go_enter Try.func40, Try.ntmps40
    go_wp2
    go_ret
    exact ⟨by first | rfl | (simp; done) | (simp [*]; done), by repeat (first | exact Drawn0.refl _ | apply Drawn0.step)⟩
  · rw [if_neg c4] at H
    have c4b0 : decide (a1 ≤ a0) = false := decide_eq_false c4
    clear c4
    obtain rfl := Option.some.inj H
    go_enter Try.func40, Try.ntmps40
    go_wp2
    go_ret
    exact ⟨by first | rfl | (simp; done) | (simp [*]; done), by repeat (first | exact Drawn0.refl _ | apply Drawn0.step)⟩

/-! ### conf_Times: function 14 -/
def conf_Times.f (a0_0 : Int) (a0_1 : Int) (a0_2 : Int) (a0_3 : Int) (a0_4 : Int) (a0_5 : Int) (a0_6 : Int) (l0_7 : List (S40)) : Option (Bool) := (conf_within.f a0_2 6 40).bind fun t102 => (if t102 = true then ((conf_within.f a0_3 1 10).bind fun t103 => (if t103 = true then ((conf_within.f a0_4 4 30).bind fun t104 => (if t104 = true then (if (wrap64 (2 * (wrap64 (a0_4 - 1)))) ≥ a0_2 then (some (decide (a0_2 ≥ (wrap64 (2 * (wrap64 (a0_3 + 1))))))) else (some false)) else (some false))) else (some false))) else (some false))
set_option maxHeartbeats 8000000 in
set_option maxRecDepth 100000 in
theorem conf_Times.calls (a0_0 : Int) (a0_1 : Int) (a0_2 : Int) (a0_3 : Int) (a0_4 : Int) (a0_5 : Int) (a0_6 : Int) (A0_7 : Option Addr) (c0_7 : Nat) (l0_7 : List (S40)) (r : Bool) (w : World) (hr0_7 : Kd.C k40 w A0_7 l0_7.length l0_7) (hc0_7 : l0_7.length ≤ c0_7) (h : conf_Times.f a0_0 a0_1 a0_2 a0_3 a0_4 a0_5 a0_6 l0_7 = some r) :
    Calls Try.prog 14 #[.agg #[.int .u64 a0_0, .int .u16 a0_1, .int .i64 a0_2, .int .i64 a0_3, .int .i64 a0_4, .int .i64 a0_5, .int .i64 a0_6, .slice A0_7 l0_7.length c0_7]] w fun e w' => e = .returned (.bool r) ∧ Below w.heap.size w w' := by
  have hu27 := Try.underlying27
  have HR0_7 := Aside0.mk hr0_7
  have HC0_7 := Aside0.mk hc0_7
  clear hr0_7 hc0_7
  have HB := Aside0.mk (Below.refl w.heap.size w)
  have H : ((conf_within.f a0_2 6 40).bind fun t102 => (if t102 = true then ((conf_within.f a0_3 1 10).bind fun t103 => (if t103 = true then ((conf_within.f a0_4 4 30).bind fun t104 => (if t104 = true then (if (wrap64 (2 * (wrap64 (a0_4 - 1)))) ≥ a0_2 then (some (decide (a0_2 ≥ (wrap64 (2 * (wrap64 (a0_3 + 1))))))) else (some false)) else (some false))) else (some false))) else (some false))) = some r := h
  clear h
  replace H := Option.bind_eq_some_iff.mp H
  obtain ⟨t102, A20, H⟩ := H
  replace H : (if t102 = true then ((conf_within.f a0_3 1 10).bind fun t103 => (if t103 = true then ((conf_within.f a0_4 4 30).bind fun t104 => (if t104 = true then (if (wrap64 (2 * (wrap64 (a0_4 - 1)))) ≥ a0_2 then (some (decide (a0_2 ≥ (wrap64 (2 * (wrap64 (a0_3 + 1))))))) else (some false)) else (some false))) else (some false))) else (some false)) = some r := H
  have A2 := Aside0.mk A20
  clear A20
  by_cases c3 : t102 = true
  · subst c3
    have H1 : ((conf_within.f a0_3 1 10).bind fun t103 => (if t103 = true then ((conf_within.f a0_4 4 30).bind fun t104 => (if t104 = true then (if (wrap64 (2 * (wrap64 (a0_4 - 1)))) ≥ a0_2 then (some (decide (a0_2 ≥ (wrap64 (2 * (wrap64 (a0_3 + 1))))))) else (some false)) else (some false))) else (some false))) = some r := by rw [if_pos rfl] at H; exact H
    clear H
    have H := H1
    clear H1
    replace H := Option.bind_eq_some_iff.mp H
    obtain ⟨t103, A40, H⟩ := H
    replace H : (if t103 = true then ((conf_within.f a0_4 4 30).bind fun t104 => (if t104 = true then (if (wrap64 (2 * (wrap64 (a0_4 - 1)))) ≥ a0_2 then (some (decide (a0_2 ≥ (wrap64 (2 * (wrap64 (a0_3 + 1))))))) else (some false)) else (some false))) else (some false)) = some r := H
    have A4 := Aside0.mk A40
    clear A40
    by_cases c5 : t103 = true
    · subst c5
      have H1 : ((conf_within.f a0_4 4 30).bind fun t104 => (if t104 = true then (if (wrap64 (2 * (wrap64 (a0_4 - 1)))) ≥ a0_2 then (some (decide (a0_2 ≥ (wrap64 (2 * (wrap64 (a0_3 + 1))))))) else (some false)) else (some false))) = some r := by rw [if_pos rfl] at H; exact H
      clear H
      have H := H1
      clear H1
      replace H := Option.bind_eq_some_iff.mp H
      obtain ⟨t104, A60, H⟩ := H
      replace H : (if t104 = true then (if (wrap64 (2 * (wrap64 (a0_4 - 1)))) ≥ a0_2 then (some (decide (a0_2 ≥ (wrap64 (2 * (wrap64 (a0_3 + 1))))))) else (some false)) else (some false)) = some r := H
      have A6 := Aside0.mk A60
      clear A60
      by_cases c7 : t104 = true
      · subst c7
        have H1 : (if (wrap64 (2 * (wrap64 (a0_4 - 1)))) ≥ a0_2 then (some (decide (a0_2 ≥ (wrap64 (2 * (wrap64 (a0_3 + 1))))))) else (some false)) = some r := by rw [if_pos rfl] at H; exact H
        clear H
        have H := H1
        clear H1
        by_cases c8 : (wrap64 (2 * (wrap64 (a0_4 - 1)))) ≥ a0_2
        · rw [if_pos c8] at H
          have c8b0 : decide (a0_2 ≤ (wrap64 (2 * (wrap64 (a0_4 - 1))))) = true := decide_eq_true c8
          clear c8
          obtain rfl := Option.some.inj H
          go_enter Try.func14, Try.ntmps14
          go_wp2_with (first | ((with_reducible refine gate_dst (N := 1) rfl ?_); refine box_event ?hg (N := 1) ?hd (cs := #[.int .u64 a0_0, .int .u16 a0_1, .int .i64 a0_2, .int .i64 a0_3, .int .i64 a0_4, .int .i64 a0_5, .int .i64 a0_6, .slice A0_7 l0_7.length c0_7]) (t := 27) ?hr ?_; (case hd => rfl); (case hg => rfl); (case hr => first | (go_simp; done) | (go_simp; rfl)); intro gb101 hg w9 hbox hb; have n0_ := Aside0.mk (below_step (by repeat (first | (with_reducible first | exact HB.out | apply below_alloc | apply pw_below_drewN | apply below_drew1) | exact HB.out)) hb); have n1_ := Aside0.mk (hbox); have n2_ := Aside0.mk ((by rw [hg]; exact (below_size (by repeat (first | (with_reducible first | exact HB.out | apply below_alloc | apply pw_below_drewN | apply below_drew1) | exact HB.out))) : w.heap.size ≤ gb101)); have n3_ := Aside0.mk ((by rw [hg]; exact (below_size (by repeat (first | (with_reducible first | exact HB.out | apply below_alloc | apply pw_below_drewN | apply below_drew1) | exact HB.out))) : w.heap.size ≤ gb101)); clear HB; have HB := n0_; have BK101 := n1_; have GW101 := n2_; have GE101 := n3_; clear n0_ n1_ n2_ n3_; clear hb hbox hg; have hcz10_0 : w9.cell? ⟨gb101, 0, none⟩ = some (.int .u64 a0_0) := (blk_cell BK101.out 0).trans rfl; have hcz10_1 : w9.cell? ⟨gb101, 1, none⟩ = some (.int .u16 a0_1) := (blk_cell BK101.out 1).trans rfl; have hcz10_2 : w9.cell? ⟨gb101, 2, none⟩ = some (.int .i64 a0_2) := (blk_cell BK101.out 2).trans rfl; have hcz10_3 : w9.cell? ⟨gb101, 3, none⟩ = some (.int .i64 a0_3) := (blk_cell BK101.out 3).trans rfl; have hcz10_4 : w9.cell? ⟨gb101, 4, none⟩ = some (.int .i64 a0_4) := (blk_cell BK101.out 4).trans rfl; have hcz10_5 : w9.cell? ⟨gb101, 5, none⟩ = some (.int .i64 a0_5) := (blk_cell BK101.out 5).trans rfl; have hcz10_6 : w9.cell? ⟨gb101, 6, none⟩ = some (.int .i64 a0_6) := (blk_cell BK101.out 6).trans rfl; have hcz10_7 : w9.cell? ⟨gb101, 7, none⟩ = some (.slice A0_7 l0_7.length c0_7) := (blk_cell BK101.out 7).trans rfl; have hfz10_0 := blk_frozen BK101.out 0; have hfz10_1 := blk_frozen BK101.out 1; have hfz10_2 := blk_frozen BK101.out 2; have hfz10_3 := blk_frozen BK101.out 3; have hfz10_4 := blk_frozen BK101.out 4; have hfz10_5 := blk_frozen BK101.out 5; have hfz10_6 := blk_frozen BK101.out 6; have hfz10_7 := blk_frozen BK101.out 7) | ((with_reducible refine gate_callee (f := 40) rfl ?_); refine goesL_ (some 5) rfl rfl Try.func40 (by kernel_rfl) rfl #[.int .i64 a0_2, .int .i64 6, .int .i64 40] rfl (by (try simp only [List.map_toArray, List.map_cons, List.map_nil]); first | done | rfl | (simp only [List.length_drop, List.length_take]; rfl)) ?_; (with_reducible refine (conf_within.calls a0_2 6 40 true _ A2.out).mono ?_); rintro e w' ⟨rfl, ⟨nd, rfl⟩⟩; refine ⟨_, rfl, ?_⟩) | (go_at_call 40; (with_reducible refine (conf_within.calls a0_3 1 10 true _ A4.out).mono ?_); rintro e w' ⟨rfl, ⟨nd, rfl⟩⟩) | (go_at_call 40; (with_reducible refine (conf_within.calls a0_4 4 30 true _ A6.out).mono ?_); rintro e w' ⟨rfl, ⟨nd, rfl⟩⟩) | (go_at_call 40; (with_reducible refine (conf_within.calls a0_2 6 40 true _ A2.out).mono ?_); rintro e w' ⟨rfl, ⟨nd, rfl⟩⟩))
          go_ret
          exact ⟨by first | rfl | (simp [errW_none, errW_some] <;> rfl) | (simp [*, errW_none, errW_some] <;> rfl), by repeat (first | (with_reducible first | exact HB.out | apply below_alloc | apply pw_below_drewN | apply below_drew1 | refine below_set ?_ GE101.out) | exact HB.out)⟩
        · rw [if_neg c8] at H
          have c8b0 : decide (a0_2 ≤ (wrap64 (2 * (wrap64 (a0_4 - 1))))) = false := decide_eq_false c8
          clear c8
          obtain rfl := Option.some.inj H
          go_enter Try.func14, Try.ntmps14
          go_wp2_with (first | ((with_reducible refine gate_dst (N := 1) rfl ?_); refine box_event ?hg (N := 1) ?hd (cs := #[.int .u64 a0_0, .int .u16 a0_1, .int .i64 a0_2, .int .i64 a0_3, .int .i64 a0_4, .int .i64 a0_5, .int .i64 a0_6, .slice A0_7 l0_7.length c0_7]) (t := 27) ?hr ?_; (case hd => rfl); (case hg => rfl); (case hr => first | (go_simp; done) | (go_simp; rfl)); intro gb101 hg w11 hbox hb; have n0_ := Aside0.mk (below_step (by repeat (first | (with_reducible first | exact HB.out | apply below_alloc | apply pw_below_drewN | apply below_drew1) | exact HB.out)) hb); have n1_ := Aside0.mk (hbox); have n2_ := Aside0.mk ((by rw [hg]; exact (below_size (by repeat (first | (with_reducible first | exact HB.out | apply below_alloc | apply pw_below_drewN | apply below_drew1) | exact HB.out))) : w.heap.size ≤ gb101)); have n3_ := Aside0.mk ((by rw [hg]; exact (below_size (by repeat (first | (with_reducible first | exact HB.out | apply below_alloc | apply pw_below_drewN | apply below_drew1) | exact HB.out))) : w.heap.size ≤ gb101)); clear HB; have HB := n0_; have BK101 := n1_; have GW101 := n2_; have GE101 := n3_; clear n0_ n1_ n2_ n3_; clear hb hbox hg; have hcz12_0 : w11.cell? ⟨gb101, 0, none⟩ = some (.int .u64 a0_0) := (blk_cell BK101.out 0).trans rfl; have hcz12_1 : w11.cell? ⟨gb101, 1, none⟩ = some (.int .u16 a0_1) := (blk_cell BK101.out 1).trans rfl; have hcz12_2 : w11.cell? ⟨gb101, 2, none⟩ = some (.int .i64 a0_2) := (blk_cell BK101.out 2).trans rfl; have hcz12_3 : w11.cell? ⟨gb101, 3, none⟩ = some (.int .i64 a0_3) := (blk_cell BK101.out 3).trans rfl; have hcz12_4 : w11.cell? ⟨gb101, 4, none⟩ = some (.int .i64 a0_4) := (blk_cell BK101.out 4).trans rfl; have hcz12_5 : w11.cell? ⟨gb101, 5, none⟩ = some (.int .i64 a0_5) := (blk_cell BK101.out 5).trans rfl; have hcz12_6 : w11.cell? ⟨gb101, 6, none⟩ = some (.int .i64 a0_6) := (blk_cell BK101.out 6).trans rfl; have hcz12_7 : w11.cell? ⟨gb101, 7, none⟩ = some (.slice A0_7 l0_7.length c0_7) := (blk_cell BK101.out 7).trans rfl; have hfz12_0 := blk_frozen BK101.out 0; have hfz12_1 := blk_frozen BK101.out 1; have hfz12_2 := blk_frozen BK101.out 2; have hfz12_3 := blk_frozen BK101.out 3; have hfz12_4 := blk_frozen BK101.out 4; have hfz12_5 := blk_frozen BK101.out 5; have hfz12_6 := blk_frozen BK101.out 6; have hfz12_7 := blk_frozen BK101.out 7) | ((with_reducible refine gate_callee (f := 40) rfl ?_); refine goesL_ (some 5) rfl rfl Try.func40 (by kernel_rfl) rfl #[.int .i64 a0_2, .int .i64 6, .int .i64 40] rfl (by (try simp only [List.map_toArray, List.map_cons, List.map_nil]); first | done | rfl | (simp only [List.length_drop, List.length_take]; rfl)) ?_; (with_reducible refine (conf_within.calls a0_2 6 40 true _ A2.out).mono ?_); rintro e w' ⟨rfl, ⟨nd, rfl⟩⟩; refine ⟨_, rfl, ?_⟩) | (go_at_call 40; (with_reducible refine (conf_within.calls a0_3 1 10 true _ A4.out).mono ?_); rintro e w' ⟨rfl, ⟨nd, rfl⟩⟩) | (go_at_call 40; (with_reducible refine (conf_within.calls a0_4 4 30 true _ A6.out).mono ?_); rintro e w' ⟨rfl, ⟨nd, rfl⟩⟩) | (go_at_call 40; (with_reducible refine (conf_within.calls a0_2 6 40 true _ A2.out).mono ?_); rintro e w' ⟨rfl, ⟨nd, rfl⟩⟩))
          go_ret
          exact ⟨by first | rfl | (simp [errW_none, errW_some] <;> rfl) | (simp [*, errW_none, errW_some] <;> rfl), by repeat (first | (with_reducible first | exact HB.out | apply below_alloc | apply pw_below_drewN | apply below_drew1 | refine below_set ?_ GE101.out) | exact HB.out)⟩
      · replace c7 := Bool.eq_false_iff.mpr c7
        subst c7
        have H1 : (some false) = some r := by rw [if_neg (show ¬ (false = true) by decide)] at H; exact H
        clear H
        have H := H1
        clear H1
        obtain rfl := Option.some.inj H
        go_enter Try.func14, Try.ntmps14
        go_wp2_with (first | ((with_reducible refine gate_dst (N := 1) rfl ?_); refine box_event ?hg (N := 1) ?hd (cs := #[.int .u64 a0_0, .int .u16 a0_1, .int .i64 a0_2, .int .i64 a0_3, .int .i64 a0_4, .int .i64 a0_5, .int .i64 a0_6, .slice A0_7 l0_7.length c0_7]) (t := 27) ?hr ?_; (case hd => rfl); (case hg => rfl); (case hr => first | (go_simp; done) | (go_simp; rfl)); intro gb101 hg w13 hbox hb; have n0_ := Aside0.mk (below_step (by repeat (first | (with_reducible first | exact HB.out | apply below_alloc | apply pw_below_drewN | apply below_drew1) | exact HB.out)) hb); have n1_ := Aside0.mk (hbox); have n2_ := Aside0.mk ((by rw [hg]; exact (below_size (by repeat (first | (with_reducible first | exact HB.out | apply below_alloc | apply pw_below_drewN | apply below_drew1) | exact HB.out))) : w.heap.size ≤ gb101)); have n3_ := Aside0.mk ((by rw [hg]; exact (below_size (by repeat (first | (with_reducible first | exact HB.out | apply below_alloc | apply pw_below_drewN | apply below_drew1) | exact HB.out))) : w.heap.size ≤ gb101)); clear HB; have HB := n0_; have BK101 := n1_; have GW101 := n2_; have GE101 := n3_; clear n0_ n1_ n2_ n3_; clear hb hbox hg; have hcz14_0 : w13.cell? ⟨gb101, 0, none⟩ = some (.int .u64 a0_0) := (blk_cell BK101.out 0).trans rfl; have hcz14_1 : w13.cell? ⟨gb101, 1, none⟩ = some (.int .u16 a0_1) := (blk_cell BK101.out 1).trans rfl; have hcz14_2 : w13.cell? ⟨gb101, 2, none⟩ = some (.int .i64 a0_2) := (blk_cell BK101.out 2).trans rfl; have hcz14_3 : w13.cell? ⟨gb101, 3, none⟩ = some (.int .i64 a0_3) := (blk_cell BK101.out 3).trans rfl; have hcz14_4 : w13.cell? ⟨gb101, 4, none⟩ = some (.int .i64 a0_4) := (blk_cell BK101.out 4).trans rfl; have hcz14_5 : w13.cell? ⟨gb101, 5, none⟩ = some (.int .i64 a0_5) := (blk_cell BK101.out 5).trans rfl; have hcz14_6 : w13.cell? ⟨gb101, 6, none⟩ = some (.int .i64 a0_6) := (blk_cell BK101.out 6).trans rfl; have hcz14_7 : w13.cell? ⟨gb101, 7, none⟩ = some (.slice A0_7 l0_7.length c0_7) := (blk_cell BK101.out 7).trans rfl; have hfz14_0 := blk_frozen BK101.out 0; have hfz14_1 := blk_frozen BK101.out 1; have hfz14_2 := blk_frozen BK101.out 2; have hfz14_3 := blk_frozen BK101.out 3; have hfz14_4 := blk_frozen BK101.out 4; have hfz14_5 := blk_frozen BK101.out 5; have hfz14_6 := blk_frozen BK101.out 6; have hfz14_7 := blk_frozen BK101.out 7) | ((with_reducible refine gate_callee (f := 40) rfl ?_); refine goesL_ (some 5) rfl rfl Try.func40 (by kernel_rfl) rfl #[.int .i64 a0_2, .int .i64 6, .int .i64 40] rfl (by (try simp only [List.map_toArray, List.map_cons, List.map_nil]); first | done | rfl | (simp only [List.length_drop, List.length_take]; rfl)) ?_; (with_reducible refine (conf_within.calls a0_2 6 40 true _ A2.out).mono ?_); rintro e w' ⟨rfl, ⟨nd, rfl⟩⟩; refine ⟨_, rfl, ?_⟩) | (go_at_call 40; (with_reducible refine (conf_within.calls a0_3 1 10 true _ A4.out).mono ?_); rintro e w' ⟨rfl, ⟨nd, rfl⟩⟩) | (go_at_call 40; (with_reducible refine (conf_within.calls a0_4 4 30 false _ A6.out).mono ?_); rintro e w' ⟨rfl, ⟨nd, rfl⟩⟩) | (go_at_call 40; (with_reducible refine (conf_within.calls a0_2 6 40 true _ A2.out).mono ?_); rintro e w' ⟨rfl, ⟨nd, rfl⟩⟩))
        go_ret
        exact ⟨by first | rfl | (simp [errW_none, errW_some] <;> rfl) | (simp [*, errW_none, errW_some] <;> rfl), by repeat (first | (with_reducible first | exact HB.out | apply below_alloc | apply pw_below_drewN | apply below_drew1 | refine below_set ?_ GE101.out) | exact HB.out)⟩
    · replace c5 := Bool.eq_false_iff.mpr c5
      subst c5
      have H1 : (some false) = some r := by rw [if_neg (show ¬ (false = true) by decide)] at H; exact H
      clear H
      have H := H1
      clear H1
      obtain rfl := Option.some.inj H
      go_enter Try.func14, Try.ntmps14
      go_wp2_with (first | ((with_reducible refine gate_dst (N := 1) rfl ?_); refine box_event ?hg (N := 1) ?hd (cs := #[.int .u64 a0_0, .int .u16 a0_1, .int .i64 a0_2, .int .i64 a0_3, .int .i64 a0_4, .int .i64 a0_5, .int .i64 a0_6, .slice A0_7 l0_7.length c0_7]) (t := 27) ?hr ?_; (case hd => rfl); (case hg => rfl); (case hr => first | (go_simp; done) | (go_simp; rfl)); intro gb101 hg w15 hbox hb; have n0_ := Aside0.mk (below_step (by repeat (first | (with_reducible first | exact HB.out | apply below_alloc | apply pw_below_drewN | apply below_drew1) | exact HB.out)) hb); have n1_ := Aside0.mk (hbox); have n2_ := Aside0.mk ((by rw [hg]; exact (below_size (by repeat (first | (with_reducible first | exact HB.out | apply below_alloc | apply pw_below_drewN | apply below_drew1) | exact HB.out))) : w.heap.size ≤ gb101)); have n3_ := Aside0.mk ((by rw [hg]; exact (below_size (by repeat (first | (with_reducible first | exact HB.out | apply below_alloc | apply pw_below_drewN | apply below_drew1) | exact HB.out))) : w.heap.size ≤ gb101)); clear HB; have HB := n0_; have BK101 := n1_; have GW101 := n2_; have GE101 := n3_; clear n0_ n1_ n2_ n3_; clear hb hbox hg; have hcz16_0 : w15.cell? ⟨gb101, 0, none⟩ = some (.int .u64 a0_0) := (blk_cell BK101.out 0).trans rfl; have hcz16_1 : w15.cell? ⟨gb101, 1, none⟩ = some (.int .u16 a0_1) := (blk_cell BK101.out 1).trans rfl; have hcz16_2 : w15.cell? ⟨gb101, 2, none⟩ = some (.int .i64 a0_2) := (blk_cell BK101.out 2).trans rfl; have hcz16_3 : w15.cell? ⟨gb101, 3, none⟩ = some (.int .i64 a0_3) := (blk_cell BK101.out 3).trans rfl; have hcz16_4 : w15.cell? ⟨gb101, 4, none⟩ = some (.int .i64 a0_4) := (blk_cell BK101.out 4).trans rfl; have hcz16_5 : w15.cell? ⟨gb101, 5, none⟩ = some (.int .i64 a0_5) := (blk_cell BK101.out 5).trans rfl; have hcz16_6 : w15.cell? ⟨gb101, 6, none⟩ = some (.int .i64 a0_6) := (blk_cell BK101.out 6).trans rfl; have hcz16_7 : w15.cell? ⟨gb101, 7, none⟩ = some (.slice A0_7 l0_7.length c0_7) := (blk_cell BK101.out 7).trans rfl; have hfz16_0 := blk_frozen BK101.out 0; have hfz16_1 := blk_frozen BK101.out 1; have hfz16_2 := blk_frozen BK101.out 2; have hfz16_3 := blk_frozen BK101.out 3; have hfz16_4 := blk_frozen BK101.out 4; have hfz16_5 := blk_frozen BK101.out 5; have hfz16_6 := blk_frozen BK101.out 6; have hfz16_7 := blk_frozen BK101.out 7) | ((with_reducible refine gate_callee (f := 40) rfl ?_); refine goesL_ (some 5) rfl rfl Try.func40 (by kernel_rfl) rfl #[.int .i64 a0_2, .int .i64 6, .int .i64 40] rfl (by (try simp only [List.map_toArray, List.map_cons, List.map_nil]); first | done | rfl | (simp only [List.length_drop, List.length_take]; rfl)) ?_; (with_reducible refine (conf_within.calls a0_2 6 40 true _ A2.out).mono ?_); rintro e w' ⟨rfl, ⟨nd, rfl⟩⟩; refine ⟨_, rfl, ?_⟩) | (go_at_call 40; (with_reducible refine (conf_within.calls a0_3 1 10 false _ A4.out).mono ?_); rintro e w' ⟨rfl, ⟨nd, rfl⟩⟩) | (go_at_call 40; (with_reducible refine (conf_within.calls a0_2 6 40 true _ A2.out).mono ?_); rintro e w' ⟨rfl, ⟨nd, rfl⟩⟩))
      go_ret
      exact ⟨by first | rfl | (simp [errW_none, errW_some] <;> rfl) | (simp [*, errW_none, errW_some] <;> rfl), by repeat (first | (with_reducible first | exact HB.out | apply below_alloc | apply pw_below_drewN | apply below_drew1 | refine below_set ?_ GE101.out) | exact HB.out)⟩
  · replace c3 := Bool.eq_false_iff.mpr c3
    subst c3
    have H1 : (some false) = some r := by rw [if_neg (show ¬ (false = true) by decide)] at H; exact H
    clear H
    have H := H1
    clear H1
    obtain rfl := Option.some.inj H
    go_enter Try.func14, Try.ntmps14
    go_wp2_with (first | ((with_reducible refine gate_dst (N := 1) rfl ?_); refine box_event ?hg (N := 1) ?hd (cs := #[.int .u64 a0_0, .int .u16 a0_1, .int .i64 a0_2, .int .i64 a0_3, .int .i64 a0_4, .int .i64 a0_5, .int .i64 a0_6, .slice A0_7 l0_7.length c0_7]) (t := 27) ?hr ?_; (case hd => rfl); (case hg => rfl); (case hr => first | (go_simp; done) | (go_simp; rfl)); intro gb101 hg w17 hbox hb; have n0_ := Aside0.mk (below_step (by repeat (first | (with_reducible first | exact HB.out | apply below_alloc | apply pw_below_drewN | apply below_drew1) | exact HB.out)) hb); have n1_ := Aside0.mk (hbox); have n2_ := Aside0.mk ((by rw [hg]; exact (below_size (by repeat (first | (with_reducible first | exact HB.out | apply below_alloc | apply pw_below_drewN | apply below_drew1) | exact HB.out))) : w.heap.size ≤ gb101)); have n3_ := Aside0.mk ((by rw [hg]; exact (below_size (by repeat (first | (with_reducible first | exact HB.out | apply below_alloc | apply pw_below_drewN | apply below_drew1) | exact HB.out))) : w.heap.size ≤ gb101)); clear HB; have HB := n0_; have BK101 := n1_; have GW101 := n2_; have GE101 := n3_; clear n0_ n1_ n2_ n3_; clear hb hbox hg; have hcz18_0 : w17.cell? ⟨gb101, 0, none⟩ = some (.int .u64 a0_0) := (blk_cell BK101.out 0).trans rfl; have hcz18_1 : w17.cell? ⟨gb101, 1, none⟩ = some (.int .u16 a0_1) := (blk_cell BK101.out 1).trans rfl; have hcz18_2 : w17.cell? ⟨gb101, 2, none⟩ = some (.int .i64 a0_2) := (blk_cell BK101.out 2).trans rfl; have hcz18_3 : w17.cell? ⟨gb101, 3, none⟩ = some (.int .i64 a0_3) := (blk_cell BK101.out 3).trans rfl; have hcz18_4 : w17.cell? ⟨gb101, 4, none⟩ = some (.int .i64 a0_4) := (blk_cell BK101.out 4).trans rfl; have hcz18_5 : w17.cell? ⟨gb101, 5, none⟩ = some (.int .i64 a0_5) := (blk_cell BK101.out 5).trans rfl; have hcz18_6 : w17.cell? ⟨gb101, 6, none⟩ = some (.int .i64 a0_6) := (blk_cell BK101.out 6).trans rfl; have hcz18_7 : w17.cell? ⟨gb101, 7, none⟩ = some (.slice A0_7 l0_7.length c0_7) := (blk_cell BK101.out 7).trans rfl; have hfz18_0 := blk_frozen BK101.out 0; have hfz18_1 := blk_frozen BK101.out 1; have hfz18_2 := blk_frozen BK101.out 2; have hfz18_3 := blk_frozen BK101.out 3; have hfz18_4 := blk_frozen BK101.out 4; have hfz18_5 := blk_frozen BK101.out 5; have hfz18_6 := blk_frozen BK101.out 6; have hfz18_7 := blk_frozen BK101.out 7) | ((with_reducible refine gate_callee (f := 40) rfl ?_); refine goesL_ (some 5) rfl rfl Try.func40 (by kernel_rfl) rfl #[.int .i64 a0_2, .int .i64 6, .int .i64 40] rfl (by (try simp only [List.map_toArray, List.map_cons, List.map_nil]); first | done | rfl | (simp only [List.length_drop, List.length_take]; rfl)) ?_; (with_reducible refine (conf_within.calls a0_2 6 40 false _ A2.out).mono ?_); rintro e w' ⟨rfl, ⟨nd, rfl⟩⟩; refine ⟨_, rfl, ?_⟩) | (go_at_call 40; (with_reducible refine (conf_within.calls a0_2 6 40 false _ A2.out).mono ?_); rintro e w' ⟨rfl, ⟨nd, rfl⟩⟩))
    go_ret
    exact ⟨by first | rfl | (simp [errW_none, errW_some] <;> rfl) | (simp [*, errW_none, errW_some] <;> rfl), by repeat (first | (with_reducible first | exact HB.out | apply below_alloc | apply pw_below_drewN | apply below_drew1 | refine below_set ?_ GE101.out) | exact HB.out)⟩

/-! ### treelinelaw11_awake: function 13 -/
def treelinelaw11_awake.f  : Option (Bool) := (conf_Times.f 0 0 20 2 15 0 0 ([] : List (S40))).bind fun t105 => (if t105 = true then ((conf_Times.f 0 0 20 2 10 0 0 ([] : List (S40))).bind fun t106 => (some (!t106))) else (some false))
set_option maxHeartbeats 8000000 in
set_option maxRecDepth 100000 in
theorem treelinelaw11_awake.calls  (r : Bool) (w : World) (h : treelinelaw11_awake.f  = some r) :
    Calls Try.prog 13 #[] w fun e w' => e = .returned (.bool r) ∧ Below w.heap.size w w' := by
  have hu27 := Try.underlying27
  have HB := Aside0.mk (Below.refl w.heap.size w)
  have H : ((conf_Times.f 0 0 20 2 15 0 0 ([] : List (S40))).bind fun t105 => (if t105 = true then ((conf_Times.f 0 0 20 2 10 0 0 ([] : List (S40))).bind fun t106 => (some (!t106))) else (some false))) = some r := h
  clear h
  replace H := Option.bind_eq_some_iff.mp H
  obtain ⟨t105, A10, H⟩ := H
  replace H : (if t105 = true then ((conf_Times.f 0 0 20 2 10 0 0 ([] : List (S40))).bind fun t106 => (some (!t106))) else (some false)) = some r := H
  have A1 := Aside0.mk A10
  clear A10
  by_cases c2 : t105 = true
  · subst c2
    have H1 : ((conf_Times.f 0 0 20 2 10 0 0 ([] : List (S40))).bind fun t106 => (some (!t106))) = some r := by rw [if_pos rfl] at H; exact H
    clear H
    have H := H1
    clear H1
    replace H := Option.bind_eq_some_iff.mp H
    obtain ⟨t106, A30, H⟩ := H
    replace H : (some (!t106)) = some r := H
    have A3 := Aside0.mk A30
    clear A30
    obtain rfl := Option.some.inj H
    go_enter Try.func13, Try.ntmps13
    go_wp2_with (first | ((with_reducible refine gate_callee (f := 14) rfl ?_); refine goesL_ (some 2) rfl rfl Try.func14 (by kernel_rfl) rfl #[.agg #[.int .u64 0, .int .u16 0, .int .i64 20, .int .i64 2, .int .i64 15, .int .i64 0, .int .i64 0, .slice none 0 0]] rfl (by (try simp only [List.map_toArray, List.map_cons, List.map_nil]); first | done | rfl | (simp only [List.length_drop, List.length_take]; rfl)) ?_; (refine (conf_Times.calls 0 0 20 2 15 0 0 _ _ ([] : List (S40)) true _ ?side1 ?side2 A1.out).mono ?_); (case side1 => exact Kd.C_nil _ _); (case side2 => exact Nat.le_refl _); rintro e w4 ⟨rfl, hb⟩; refine ⟨_, rfl, ?_⟩; have n0_ := Aside0.mk (below_step (by repeat (first | (with_reducible first | exact HB.out | apply below_alloc | apply pw_below_drewN | apply below_drew1) | exact HB.out)) hb); clear HB; have HB := n0_; clear n0_; (try clear hb); (try clear hb2); (try clear hk); (try clear hi)) | (go_at_call 14; (refine (conf_Times.calls 0 0 20 2 10 0 0 _ _ ([] : List (S40)) t106 _ ?side1 ?side2 A3.out).mono ?_); (case side1 => exact Kd.C_nil _ _); (case side2 => exact Nat.le_refl _); rintro e w5 ⟨rfl, hb⟩; have n0_ := Aside0.mk (below_step (by repeat (first | (with_reducible first | exact HB.out | apply below_alloc | apply pw_below_drewN | apply below_drew1) | exact HB.out)) hb); clear HB; have HB := n0_; clear n0_; (try clear hb); (try clear hb2); (try clear hk); (try clear hi)))
    go_ret
    exact ⟨by first | rfl | (simp [errW_none, errW_some] <;> rfl) | (simp [*, errW_none, errW_some] <;> rfl), by repeat (first | (with_reducible first | exact HB.out | apply below_alloc | apply pw_below_drewN | apply below_drew1) | exact HB.out)⟩
  · replace c2 := Bool.eq_false_iff.mpr c2
    subst c2
    have H1 : (some false) = some r := by rw [if_neg (show ¬ (false = true) by decide)] at H; exact H
    clear H
    have H := H1
    clear H1
    obtain rfl := Option.some.inj H
    go_enter Try.func13, Try.ntmps13
    go_wp2_with (first | ((with_reducible refine gate_callee (f := 14) rfl ?_); refine goesL_ (some 2) rfl rfl Try.func14 (by kernel_rfl) rfl #[.agg #[.int .u64 0, .int .u16 0, .int .i64 20, .int .i64 2, .int .i64 15, .int .i64 0, .int .i64 0, .slice none 0 0]] rfl (by (try simp only [List.map_toArray, List.map_cons, List.map_nil]); first | done | rfl | (simp only [List.length_drop, List.length_take]; rfl)) ?_; (refine (conf_Times.calls 0 0 20 2 15 0 0 _ _ ([] : List (S40)) false _ ?side1 ?side2 A1.out).mono ?_); (case side1 => exact Kd.C_nil _ _); (case side2 => exact Nat.le_refl _); rintro e w6 ⟨rfl, hb⟩; refine ⟨_, rfl, ?_⟩; have n0_ := Aside0.mk (below_step (by repeat (first | (with_reducible first | exact HB.out | apply below_alloc | apply pw_below_drewN | apply below_drew1) | exact HB.out)) hb); clear HB; have HB := n0_; clear n0_; (try clear hb); (try clear hb2); (try clear hk); (try clear hi)))
    go_ret
    exact ⟨by first | rfl | (simp [errW_none, errW_some] <;> rfl) | (simp [*, errW_none, errW_some] <;> rfl), by repeat (first | (with_reducible first | exact HB.out | apply below_alloc | apply pw_below_drewN | apply below_drew1) | exact HB.out)⟩

/-! ### ids_Bridge: function 28 -/
def ids_Bridge.f (a0 : Int) (a1 : Int) : Option (Int) := some (Go.bits .or .u64 (IntKind.u64.wrap ((IntKind.u64.wrap (a0)) * 281474976710656)) (Go.bits .and .u64 a1 281474976710655))
set_option maxHeartbeats 8000000 in
set_option maxRecDepth 100000 in
theorem ids_Bridge.calls (a0 : Int) (a1 : Int) (r : Int) (w : World) (h : ids_Bridge.f a0 a1 = some r) :
    Calls Try.prog 28 #[.int .u16 a0, .int .u64 a1] w fun e w' => e = .returned (.int .u64 r) ∧ Drawn0 w w' := by
  have H : (some (Go.bits .or .u64 (IntKind.u64.wrap ((IntKind.u64.wrap (a0)) * 281474976710656)) (Go.bits .and .u64 a1 281474976710655))) = some r := h
  clear h
  obtain rfl := Option.some.inj H
  go_enter Try.func28, Try.ntmps28
  go_wp2
  go_ret
  exact ⟨by first | rfl | (simp; done) | (simp [*]; done), by repeat (first | exact Drawn0.refl _ | apply Drawn0.step)⟩

/-! ### conf_Id: function 15 -/
def conf_Id.f (a0_0 : Int) (a0_1 : Int) (a0_2 : Int) (a0_3 : Int) (a0_4 : Int) (a0_5 : Int) (a0_6 : Int) (l0_7 : List (S40)) : Option (Int) := (ids_Bridge.f a0_1 a0_0).bind fun t108 => (some t108)
set_option maxHeartbeats 8000000 in
set_option maxRecDepth 100000 in
theorem conf_Id.calls (a0_0 : Int) (a0_1 : Int) (a0_2 : Int) (a0_3 : Int) (a0_4 : Int) (a0_5 : Int) (a0_6 : Int) (A0_7 : Option Addr) (c0_7 : Nat) (l0_7 : List (S40)) (r : Int) (w : World) (hr0_7 : Kd.C k40 w A0_7 l0_7.length l0_7) (hc0_7 : l0_7.length ≤ c0_7) (h : conf_Id.f a0_0 a0_1 a0_2 a0_3 a0_4 a0_5 a0_6 l0_7 = some r) :
    Calls Try.prog 15 #[.agg #[.int .u64 a0_0, .int .u16 a0_1, .int .i64 a0_2, .int .i64 a0_3, .int .i64 a0_4, .int .i64 a0_5, .int .i64 a0_6, .slice A0_7 l0_7.length c0_7]] w fun e w' => e = .returned (.int .u64 r) ∧ Below w.heap.size w w' := by
  have hu27 := Try.underlying27
  have HR0_7 := Aside0.mk hr0_7
  have HC0_7 := Aside0.mk hc0_7
  clear hr0_7 hc0_7
  have HB := Aside0.mk (Below.refl w.heap.size w)
  have H : ((ids_Bridge.f a0_1 a0_0).bind fun t108 => (some t108)) = some r := h
  clear h
  replace H := Option.bind_eq_some_iff.mp H
  obtain ⟨t108, A20, H⟩ := H
  replace H : (some t108) = some r := H
  have A2 := Aside0.mk A20
  clear A20
  obtain rfl := Option.some.inj H
  go_enter Try.func15, Try.ntmps15
  go_wp2_with (first | ((with_reducible refine gate_dst (N := 1) rfl ?_); refine box_event ?hg (N := 1) ?hd (cs := #[.int .u64 a0_0, .int .u16 a0_1, .int .i64 a0_2, .int .i64 a0_3, .int .i64 a0_4, .int .i64 a0_5, .int .i64 a0_6, .slice A0_7 l0_7.length c0_7]) (t := 27) ?hr ?_; (case hd => rfl); (case hg => rfl); (case hr => first | (go_simp; done) | (go_simp; rfl)); intro gb107 hg w3 hbox hb; have n0_ := Aside0.mk (below_step (by repeat (first | (with_reducible first | exact HB.out | apply below_alloc | apply pw_below_drewN | apply below_drew1) | exact HB.out)) hb); have n1_ := Aside0.mk (hbox); have n2_ := Aside0.mk ((by rw [hg]; exact (below_size (by repeat (first | (with_reducible first | exact HB.out | apply below_alloc | apply pw_below_drewN | apply below_drew1) | exact HB.out))) : w.heap.size ≤ gb107)); have n3_ := Aside0.mk ((by rw [hg]; exact (below_size (by repeat (first | (with_reducible first | exact HB.out | apply below_alloc | apply pw_below_drewN | apply below_drew1) | exact HB.out))) : w.heap.size ≤ gb107)); clear HB; have HB := n0_; have BK107 := n1_; have GW107 := n2_; have GE107 := n3_; clear n0_ n1_ n2_ n3_; clear hb hbox hg; have hcz4_0 : w3.cell? ⟨gb107, 0, none⟩ = some (.int .u64 a0_0) := (blk_cell BK107.out 0).trans rfl; have hcz4_1 : w3.cell? ⟨gb107, 1, none⟩ = some (.int .u16 a0_1) := (blk_cell BK107.out 1).trans rfl; have hcz4_2 : w3.cell? ⟨gb107, 2, none⟩ = some (.int .i64 a0_2) := (blk_cell BK107.out 2).trans rfl; have hcz4_3 : w3.cell? ⟨gb107, 3, none⟩ = some (.int .i64 a0_3) := (blk_cell BK107.out 3).trans rfl; have hcz4_4 : w3.cell? ⟨gb107, 4, none⟩ = some (.int .i64 a0_4) := (blk_cell BK107.out 4).trans rfl; have hcz4_5 : w3.cell? ⟨gb107, 5, none⟩ = some (.int .i64 a0_5) := (blk_cell BK107.out 5).trans rfl; have hcz4_6 : w3.cell? ⟨gb107, 6, none⟩ = some (.int .i64 a0_6) := (blk_cell BK107.out 6).trans rfl; have hcz4_7 : w3.cell? ⟨gb107, 7, none⟩ = some (.slice A0_7 l0_7.length c0_7) := (blk_cell BK107.out 7).trans rfl; have hfz4_0 := blk_frozen BK107.out 0; have hfz4_1 := blk_frozen BK107.out 1; have hfz4_2 := blk_frozen BK107.out 2; have hfz4_3 := blk_frozen BK107.out 3; have hfz4_4 := blk_frozen BK107.out 4; have hfz4_5 := blk_frozen BK107.out 5; have hfz4_6 := blk_frozen BK107.out 6; have hfz4_7 := blk_frozen BK107.out 7) | ((with_reducible refine gate_callee (f := 28) rfl ?_); refine goesL_ (some 7) rfl rfl Try.func28 (by kernel_rfl) rfl #[.int .u16 a0_1, .int .u64 a0_0] rfl (by (try simp only [List.map_toArray, List.map_cons, List.map_nil]); first | done | rfl | (simp only [List.length_drop, List.length_take]; rfl)) ?_; (with_reducible refine (ids_Bridge.calls a0_1 a0_0 t108 _ A2.out).mono ?_); rintro e w' ⟨rfl, ⟨nd, rfl⟩⟩; refine ⟨_, rfl, ?_⟩) | (go_at_call 28; (with_reducible refine (ids_Bridge.calls a0_1 a0_0 t108 _ A2.out).mono ?_); rintro e w' ⟨rfl, ⟨nd, rfl⟩⟩))
  go_ret
  exact ⟨by first | rfl | (simp [errW_none, errW_some] <;> rfl) | (simp [*, errW_none, errW_some] <;> rfl), by repeat (first | (with_reducible first | exact HB.out | apply below_alloc | apply pw_below_drewN | apply below_drew1 | refine below_set ?_ GE107.out) | exact HB.out)⟩

/-! ### treelineref11_Few: function 16 -/
def treelineref11_Few.f (a0_0 : Int) (a0_1 : Int) (a0_2 : Int) (a0_3 : Int) (a0_4 : Int) (a0_5 : Int) (a0_6 : Int) (l0_7 : List (S40)) : Option (Bool) := some (decide ((l0_7.length : Int) ≤ 200))
set_option maxHeartbeats 8000000 in
set_option maxRecDepth 100000 in
theorem treelineref11_Few.calls (a0_0 : Int) (a0_1 : Int) (a0_2 : Int) (a0_3 : Int) (a0_4 : Int) (a0_5 : Int) (a0_6 : Int) (A0_7 : Option Addr) (c0_7 : Nat) (l0_7 : List (S40)) (r : Bool) (w : World) (hr0_7 : Kd.C k40 w A0_7 l0_7.length l0_7) (hc0_7 : l0_7.length ≤ c0_7) (h : treelineref11_Few.f a0_0 a0_1 a0_2 a0_3 a0_4 a0_5 a0_6 l0_7 = some r) :
    Calls Try.prog 16 #[.agg #[.int .u64 a0_0, .int .u16 a0_1, .int .i64 a0_2, .int .i64 a0_3, .int .i64 a0_4, .int .i64 a0_5, .int .i64 a0_6, .slice A0_7 l0_7.length c0_7]] w fun e w' => e = .returned (.bool r) ∧ Below w.heap.size w w' := by
  have hu27 := Try.underlying27
  have HR0_7 := Aside0.mk hr0_7
  have HC0_7 := Aside0.mk hc0_7
  clear hr0_7 hc0_7
  have HB := Aside0.mk (Below.refl w.heap.size w)
  have H : (some (decide ((l0_7.length : Int) ≤ 200))) = some r := h
  clear h
  obtain rfl := Option.some.inj H
  go_enter Try.func16, Try.ntmps16
  go_wp2_with (first | ((with_reducible refine gate_dst (N := 1) rfl ?_); refine box_event ?hg (N := 1) ?hd (cs := #[.int .u64 a0_0, .int .u16 a0_1, .int .i64 a0_2, .int .i64 a0_3, .int .i64 a0_4, .int .i64 a0_5, .int .i64 a0_6, .slice A0_7 l0_7.length c0_7]) (t := 27) ?hr ?_; (case hd => rfl); (case hg => rfl); (case hr => first | (go_simp; done) | (go_simp; rfl)); intro gb109 hg w2 hbox hb; have n0_ := Aside0.mk (below_step (by repeat (first | (with_reducible first | exact HB.out | apply below_alloc | apply pw_below_drewN | apply below_drew1) | exact HB.out)) hb); have n1_ := Aside0.mk (hbox); have n2_ := Aside0.mk ((by rw [hg]; exact (below_size (by repeat (first | (with_reducible first | exact HB.out | apply below_alloc | apply pw_below_drewN | apply below_drew1) | exact HB.out))) : w.heap.size ≤ gb109)); have n3_ := Aside0.mk ((by rw [hg]; exact (below_size (by repeat (first | (with_reducible first | exact HB.out | apply below_alloc | apply pw_below_drewN | apply below_drew1) | exact HB.out))) : w.heap.size ≤ gb109)); clear HB; have HB := n0_; have BK109 := n1_; have GW109 := n2_; have GE109 := n3_; clear n0_ n1_ n2_ n3_; clear hb hbox hg; have hcz3_0 : w2.cell? ⟨gb109, 0, none⟩ = some (.int .u64 a0_0) := (blk_cell BK109.out 0).trans rfl; have hcz3_1 : w2.cell? ⟨gb109, 1, none⟩ = some (.int .u16 a0_1) := (blk_cell BK109.out 1).trans rfl; have hcz3_2 : w2.cell? ⟨gb109, 2, none⟩ = some (.int .i64 a0_2) := (blk_cell BK109.out 2).trans rfl; have hcz3_3 : w2.cell? ⟨gb109, 3, none⟩ = some (.int .i64 a0_3) := (blk_cell BK109.out 3).trans rfl; have hcz3_4 : w2.cell? ⟨gb109, 4, none⟩ = some (.int .i64 a0_4) := (blk_cell BK109.out 4).trans rfl; have hcz3_5 : w2.cell? ⟨gb109, 5, none⟩ = some (.int .i64 a0_5) := (blk_cell BK109.out 5).trans rfl; have hcz3_6 : w2.cell? ⟨gb109, 6, none⟩ = some (.int .i64 a0_6) := (blk_cell BK109.out 6).trans rfl; have hcz3_7 : w2.cell? ⟨gb109, 7, none⟩ = some (.slice A0_7 l0_7.length c0_7) := (blk_cell BK109.out 7).trans rfl; have hfz3_0 := blk_frozen BK109.out 0; have hfz3_1 := blk_frozen BK109.out 1; have hfz3_2 := blk_frozen BK109.out 2; have hfz3_3 := blk_frozen BK109.out 3; have hfz3_4 := blk_frozen BK109.out 4; have hfz3_5 := blk_frozen BK109.out 5; have hfz3_6 := blk_frozen BK109.out 6; have hfz3_7 := blk_frozen BK109.out 7))
  go_ret
  exact ⟨by first | rfl | (simp [errW_none, errW_some] <;> rfl) | (simp [*, errW_none, errW_some] <;> rfl), by repeat (first | (with_reducible first | exact HB.out | apply below_alloc | apply pw_below_drewN | apply below_drew1 | refine below_set ?_ GE109.out) | exact HB.out)⟩

/-! ### conf_Copy: function 18 -/
def conf_Copy.f (a0_0 : Int) (a0_1 : Int) (a0_2 : Int) (a0_3 : Int) (a0_4 : Int) (a0_5 : Int) (a0_6 : Int) (l0_7 : List (S40)) : Option (Int × Int × Int × Int × Int × Int × Int × (List (S40))) := (some (([] : List (S40)) : List (S40))).bind fun y112 => (if y112.length + l0_7.length < 11728124029610 then (some (a0_0, a0_1, a0_2, a0_3, a0_4, a0_5, a0_6, (y112 ++ l0_7))) else (none))
set_option maxHeartbeats 8000000 in
set_option maxRecDepth 100000 in
theorem conf_Copy.calls (a0_0 : Int) (a0_1 : Int) (a0_2 : Int) (a0_3 : Int) (a0_4 : Int) (a0_5 : Int) (a0_6 : Int) (A0_7 : Option Addr) (c0_7 : Nat) (l0_7 : List (S40)) (r1 : Int) (r2 : Int) (r3 : Int) (r4 : Int) (r5 : Int) (r6 : Int) (r7 : Int) (r8 : List (S40)) (w : World) (hr0_7 : Kd.C k40 w A0_7 l0_7.length l0_7) (hc0_7 : l0_7.length ≤ c0_7) (h : conf_Copy.f a0_0 a0_1 a0_2 a0_3 a0_4 a0_5 a0_6 l0_7 = some (r1, r2, r3, r4, r5, r6, r7, r8)) :
    Calls Try.prog 18 #[.agg #[.int .u64 a0_0, .int .u16 a0_1, .int .i64 a0_2, .int .i64 a0_3, .int .i64 a0_4, .int .i64 a0_5, .int .i64 a0_6, .slice A0_7 l0_7.length c0_7]] w fun e w' => ∃ v7_ : Value, e = .returned (.agg #[.int .u64 r1, .int .u16 r2, .int .i64 r3, .int .i64 r4, .int .i64 r5, .int .i64 r6, .int .i64 r7, v7_]) ∧ Kd.R k40 40 w' w.heap.size (fun _ => True) v7_ r8 ∧ Below w.heap.size w w' := by
  have hu27 := Try.underlying27
  have HR0_7 := Aside0.mk hr0_7
  have HC0_7 := Aside0.mk hc0_7
  clear hr0_7 hc0_7
  have HB := Aside0.mk (Below.refl w.heap.size w)
  have H : ((some (([] : List (S40)) : List (S40))).bind fun y112 => (if y112.length + l0_7.length < 11728124029610 then (some (a0_0, a0_1, a0_2, a0_3, a0_4, a0_5, a0_6, (y112 ++ l0_7))) else (none))) = some (r1, r2, r3, r4, r5, r6, r7, r8) := h
  clear h
  obtain ⟨y112, hy112⟩ : ∃ y_ : List (S40), y_ = (([] : List (S40))) := ⟨_, rfl⟩
  replace H : (if y112.length + l0_7.length < 11728124029610 then (some (a0_0, a0_1, a0_2, a0_3, a0_4, a0_5, a0_6, (y112 ++ l0_7))) else (none)) = some (r1, r2, r3, r4, r5, r6, r7, r8) := by first | (rw [hy112]; with_reducible exact H) | (have H2_ := (Option.bind_some _ _).symm.trans H; rw [hy112]; with_reducible exact H2_) | (have H2_ := (Option.bind_some _ _).symm.trans H; with_reducible exact H2_) | with_reducible exact H | (rw [hy112]; exact H) | exact H
  have Ny112 := Aside0.mk hy112
  clear hy112
  by_cases c2 : y112.length + l0_7.length < 11728124029610
  · rw [if_pos c2] at H
    have LMc2 := Aside0.mk c2
    clear c2
    obtain ⟨y115, hy115⟩ : ∃ y_ : List (S40), y_ = (y112 ++ l0_7) := ⟨_, rfl⟩
    replace H : (some (a0_0, a0_1, a0_2, a0_3, a0_4, a0_5, a0_6, y115)) = some (r1, r2, r3, r4, r5, r6, r7, r8) := by first | (rw [hy115]; with_reducible exact H) | (have H2_ := (Option.bind_some _ _).symm.trans H; rw [hy115]; with_reducible exact H2_) | (have H2_ := (Option.bind_some _ _).symm.trans H; with_reducible exact H2_) | with_reducible exact H | (rw [hy115]; exact H) | exact H
    have Ny115 := Aside0.mk hy115
    clear hy115
    simp only [Option.some.injEq, Prod.mk.injEq] at H
    obtain ⟨rfl, rfl, rfl, rfl, rfl, rfl, rfl, rfl⟩ := H
    go_enter Try.func18, Try.ntmps18
    go_wp2_with (first | ((with_reducible refine gate_dst (N := 1) rfl ?_); refine box_event ?hg (N := 1) ?hd (cs := #[.int .u64 a0_0, .int .u16 a0_1, .int .i64 a0_2, .int .i64 a0_3, .int .i64 a0_4, .int .i64 a0_5, .int .i64 a0_6, .slice A0_7 l0_7.length c0_7]) (t := 27) ?hr ?_; (case hd => rfl); (case hg => rfl); (case hr => first | (go_simp; done) | (go_simp; rfl)); intro gb110 hg w3 hbox hb; have n0_ := Aside0.mk (below_step (by repeat (first | (with_reducible first | exact HB.out | apply below_alloc | apply pw_below_drewN | apply below_drew1) | exact HB.out)) hb); have n1_ := Aside0.mk (hbox); have n2_ := Aside0.mk ((by rw [hg]; exact (below_size (by repeat (first | (with_reducible first | exact HB.out | apply below_alloc | apply pw_below_drewN | apply below_drew1) | exact HB.out))) : w.heap.size ≤ gb110)); have n3_ := Aside0.mk ((by rw [hg]; exact (below_size (by repeat (first | (with_reducible first | exact HB.out | apply below_alloc | apply pw_below_drewN | apply below_drew1) | exact HB.out))) : w.heap.size ≤ gb110)); clear HB; have HB := n0_; have BK110 := n1_; have GW110 := n2_; have GE110 := n3_; clear n0_ n1_ n2_ n3_; clear hb hbox hg) | ((with_reducible refine gate_dst (N := 2) rfl ?_); refine box_event ?hg (N := 2) ?hd (cs := #[.int .u64 0, .int .u16 0, .int .i64 0, .int .i64 0, .int .i64 0, .int .i64 0, .int .i64 0, .slice none 0 0]) (t := 27) ?hr ?_; (case hd => rfl); (case hg => rfl); (case hr => first | (go_simp; done) | (go_simp; rfl)); intro gb111 hg w4 hbox hb; have n0_ := Aside0.mk (blk_below (g := gb110) (o := .cells #[.int .u64 a0_0, .int .u16 a0_1, .int .i64 a0_2, .int .i64 a0_3, .int .i64 a0_4, .int .i64 a0_5, .int .i64 a0_6, .slice A0_7 l0_7.length c0_7] 27 (0, 0)) (by (with_reducible repeat (first | refine blk_drewN ?_ _ | refine blk_drew ?_ | refine blk_alloc ?_ _)); exact BK110.out) hb); have n1_ := Aside0.mk (below_step (by repeat (first | (with_reducible first | exact HB.out | apply below_alloc | apply pw_below_drewN | apply below_drew1 | refine below_set ?_ GE110.out) | exact HB.out)) hb); have n2_ := Aside0.mk (hbox); have n3_ := Aside0.mk ((by rw [hg]; exact (below_size (by repeat (first | (with_reducible first | exact HB.out | apply below_alloc | apply pw_below_drewN | apply below_drew1 | refine below_set ?_ GE110.out) | exact HB.out))) : w.heap.size ≤ gb111)); have n4_ := Aside0.mk ((by rw [hg]; exact (below_size (by repeat (first | (with_reducible first | exact HB.out | apply below_alloc | apply pw_below_drewN | apply below_drew1 | refine below_set ?_ GE110.out) | exact HB.out))) : w.heap.size ≤ gb111)); have n5_ := Aside0.mk ((by rw [hg]; exact Nat.ne_of_lt (blk_lt (g := gb110) (o := .cells #[.int .u64 a0_0, .int .u16 a0_1, .int .i64 a0_2, .int .i64 a0_3, .int .i64 a0_4, .int .i64 a0_5, .int .i64 a0_6, .slice A0_7 l0_7.length c0_7] 27 (0, 0)) (by (with_reducible repeat (first | refine blk_drewN ?_ _ | refine blk_drew ?_ | refine blk_alloc ?_ _)); exact BK110.out)) : gb110 ≠ gb111)); have n6_ := Aside0.mk ((by rw [hg]; exact Nat.ne_of_gt (blk_lt (g := gb110) (o := .cells #[.int .u64 a0_0, .int .u16 a0_1, .int .i64 a0_2, .int .i64 a0_3, .int .i64 a0_4, .int .i64 a0_5, .int .i64 a0_6, .slice A0_7 l0_7.length c0_7] 27 (0, 0)) (by (with_reducible repeat (first | refine blk_drewN ?_ _ | refine blk_drew ?_ | refine blk_alloc ?_ _)); exact BK110.out)) : gb111 ≠ gb110)); clear BK110; clear HB; have BK110 := n0_; have HB := n1_; have BK111 := n2_; have GW111 := n3_; have GE111 := n4_; have NB110_111 := n5_; have NB111_110 := n6_; clear n0_ n1_ n2_ n3_ n4_ n5_ n6_; clear hb hbox hg) | ((with_reducible refine gate_dst (N := 3) rfl ?_); refine Kd.R_lit k40 _ 40 ?hg (N := 3) ?hd (xs := ([] : List (S40))) (inner := []) (ok := fun _ => True) (okp := fun _ => True) ?hr ?hp (fun _ hk => hk) trivial (Below.refl _ _) (Nat.le_refl _) (by simp) ?_; (case hd => rfl); (case hg => rfl); (case hr => first | (go_simp; done) | (go_simp; rfl)); (case hp => exact (Reps.none _ _)); intro v113 w5 ho6 hb hg_ hnew_; clear hg_ hnew_; (first | rw [← Ny112.out] at ho6 | (simp only [Int.reduceToNat] at ho6; rw [← Ny112.out] at ho6)); have n0_ := Aside0.mk (Kd.R_lower ho6 (below_size (by repeat (first | (with_reducible first | exact HB.out | apply below_alloc | apply pw_below_drewN | apply below_drew1 | refine below_set ?_ GE110.out | refine below_set ?_ GE111.out) | exact HB.out)))); have n1_ := Aside0.mk (blk_below (g := gb110) (o := .cells #[.int .u64 a0_0, .int .u16 a0_1, .int .i64 a0_2, .int .i64 a0_3, .int .i64 a0_4, .int .i64 a0_5, .int .i64 a0_6, .slice A0_7 l0_7.length c0_7] 27 (0, 0)) (by (with_reducible repeat (first | refine blk_drewN ?_ _ | refine blk_drew ?_ | refine blk_alloc ?_ _)); exact BK110.out) hb); have n2_ := Aside0.mk (blk_below (g := gb111) (o := .cells #[.int .u64 0, .int .u16 0, .int .i64 0, .int .i64 0, .int .i64 0, .int .i64 0, .int .i64 0, .slice none 0 0] 27 (0, 0)) (by (with_reducible repeat (first | refine blk_drewN ?_ _ | refine blk_drew ?_ | refine blk_alloc ?_ _)); exact BK111.out) hb); have n3_ := Aside0.mk (below_step (by repeat (first | (with_reducible first | exact HB.out | apply below_alloc | apply pw_below_drewN | apply below_drew1 | refine below_set ?_ GE110.out | refine below_set ?_ GE111.out) | exact HB.out)) hb); clear BK110; clear BK111; clear HB; have HO114 := n0_; have BK110 := n1_; have BK111 := n2_; have HB := n3_; clear n0_ n1_ n2_ n3_; clear hb ho6; have hnb7 := NB110_111.out; have hnc7 := NB111_110.out; have hcz8_0 : w5.cell? ⟨gb110, 0, none⟩ = some (.int .u64 a0_0) := (blk_cell BK110.out 0).trans rfl; have hcz8_1 : w5.cell? ⟨gb110, 1, none⟩ = some (.int .u16 a0_1) := (blk_cell BK110.out 1).trans rfl; have hcz8_2 : w5.cell? ⟨gb110, 2, none⟩ = some (.int .i64 a0_2) := (blk_cell BK110.out 2).trans rfl; have hcz8_3 : w5.cell? ⟨gb110, 3, none⟩ = some (.int .i64 a0_3) := (blk_cell BK110.out 3).trans rfl; have hcz8_4 : w5.cell? ⟨gb110, 4, none⟩ = some (.int .i64 a0_4) := (blk_cell BK110.out 4).trans rfl; have hcz8_5 : w5.cell? ⟨gb110, 5, none⟩ = some (.int .i64 a0_5) := (blk_cell BK110.out 5).trans rfl; have hcz8_6 : w5.cell? ⟨gb110, 6, none⟩ = some (.int .i64 a0_6) := (blk_cell BK110.out 6).trans rfl; have hcz8_7 : w5.cell? ⟨gb110, 7, none⟩ = some (.slice A0_7 l0_7.length c0_7) := (blk_cell BK110.out 7).trans rfl; have hfz8_0 := blk_frozen BK110.out 0; have hfz8_1 := blk_frozen BK110.out 1; have hfz8_2 := blk_frozen BK110.out 2; have hfz8_3 := blk_frozen BK110.out 3; have hfz8_4 := blk_frozen BK110.out 4; have hfz8_5 := blk_frozen BK110.out 5; have hfz8_6 := blk_frozen BK110.out 6; have hfz8_7 := blk_frozen BK110.out 7) | ((with_reducible refine gate_builtin (b := .append) (xs := #[.tmp 3, .tmp 5]) rfl ?_); at_builtin; refine Kd.R_append_rows k40 (w0 := w) w.heap.size rfl (.tmp 3) (.tmp 5) 25 40 (.agg #[(.int .u8 0), (.int .u32 0), (.bool false)]) 12 rfl Try.underlying25 info40 rfl (by decide) (by omega) v113 y112 l0_7 _ _ _ (fun _ => True) (fun _ => False) rfl rfl ?aO ?aR (fun _ _ h => h) (fun _ h => h.elim) ?aF ?aB ?aS ?aL ?_; (case aR => repeat (first | exact (Kd.C_below HR0_7.out HB.out) | (with_reducible refine Kd.C_alloc ?_ _) | (with_reducible refine Kd.C_drewN ?_ _) | (with_reducible refine Kd.C_drew ?_))); (case aB => exact (by repeat (first | (with_reducible first | exact HB.out | apply below_alloc | apply pw_below_drewN | apply below_drew1 | refine below_set ?_ GE110.out | refine below_set ?_ GE111.out) | exact HB.out))); (case aF => exact (fun _ _ => trivial)); (case aO => exact (by (with_reducible repeat (first | apply Kd.R_alloc | apply Kd.R_drewN | apply Kd.R_drew)); exact HO114.out)); (case aS => exact (below_size (by repeat (first | (with_reducible first | exact HB.out | apply below_alloc | apply pw_below_drewN | apply below_drew1 | refine below_set ?_ GE110.out | refine below_set ?_ GE111.out) | exact HB.out)))); (case aL => have := LMc2.out; omega); intro v116 w9 ho hb hg hat; rw [← Ny115.out] at ho; have n0_ := Aside0.mk (blk_grown (g := gb110) (o := .cells #[.int .u64 a0_0, .int .u16 a0_1, .int .i64 a0_2, .int .i64 a0_3, .int .i64 a0_4, .int .i64 a0_5, .int .i64 a0_6, .slice A0_7 l0_7.length c0_7] 27 (0, 0)) (by (with_reducible repeat (first | refine blk_drewN ?_ _ | refine blk_drew ?_ | refine blk_alloc ?_ _)); exact BK110.out) hg (Kd.R_ne HO114.out BK110.out (by decide))); have n1_ := Aside0.mk (blk_grown (g := gb111) (o := .cells #[.int .u64 0, .int .u16 0, .int .i64 0, .int .i64 0, .int .i64 0, .int .i64 0, .int .i64 0, .slice none 0 0] 27 (0, 0)) (by (with_reducible repeat (first | refine blk_drewN ?_ _ | refine blk_drew ?_ | refine blk_alloc ?_ _)); exact BK111.out) hg (Kd.R_ne HO114.out BK111.out (by decide))); have n2_ := Aside0.mk (hb); have n3_ := Aside0.mk (ho); clear BK110; clear BK111; clear HB; clear HO114; have BK110 := n0_; have BK111 := n1_; have HB := n2_; have HO117 := n3_; clear n0_ n1_ n2_ n3_; clear ho hb hg hat; obtain ⟨Ao10, co10, eo10⟩ := Kd.R_slice HO117.out; subst eo10; have hcz11_0 : w9.cell? ⟨gb110, 0, none⟩ = some (.int .u64 a0_0) := (blk_cell BK110.out 0).trans rfl; have hcz11_1 : w9.cell? ⟨gb110, 1, none⟩ = some (.int .u16 a0_1) := (blk_cell BK110.out 1).trans rfl; have hcz11_2 : w9.cell? ⟨gb110, 2, none⟩ = some (.int .i64 a0_2) := (blk_cell BK110.out 2).trans rfl; have hcz11_3 : w9.cell? ⟨gb110, 3, none⟩ = some (.int .i64 a0_3) := (blk_cell BK110.out 3).trans rfl; have hcz11_4 : w9.cell? ⟨gb110, 4, none⟩ = some (.int .i64 a0_4) := (blk_cell BK110.out 4).trans rfl; have hcz11_5 : w9.cell? ⟨gb110, 5, none⟩ = some (.int .i64 a0_5) := (blk_cell BK110.out 5).trans rfl; have hcz11_6 : w9.cell? ⟨gb110, 6, none⟩ = some (.int .i64 a0_6) := (blk_cell BK110.out 6).trans rfl; have hcz11_7 : w9.cell? ⟨gb110, 7, none⟩ = some (.slice A0_7 l0_7.length c0_7) := (blk_cell BK110.out 7).trans rfl; have hfz11_0 := blk_frozen BK110.out 0; have hfz11_1 := blk_frozen BK110.out 1; have hfz11_2 := blk_frozen BK110.out 2; have hfz11_3 := blk_frozen BK110.out 3; have hfz11_4 := blk_frozen BK110.out 4; have hfz11_5 := blk_frozen BK110.out 5; have hfz11_6 := blk_frozen BK110.out 6; have hfz11_7 := blk_frozen BK110.out 7; have hcz12_0 : w9.cell? ⟨gb111, 0, none⟩ = some (.int .u64 0) := (blk_cell BK111.out 0).trans rfl; have hcz12_1 : w9.cell? ⟨gb111, 1, none⟩ = some (.int .u16 0) := (blk_cell BK111.out 1).trans rfl; have hcz12_2 : w9.cell? ⟨gb111, 2, none⟩ = some (.int .i64 0) := (blk_cell BK111.out 2).trans rfl; have hcz12_3 : w9.cell? ⟨gb111, 3, none⟩ = some (.int .i64 0) := (blk_cell BK111.out 3).trans rfl; have hcz12_4 : w9.cell? ⟨gb111, 4, none⟩ = some (.int .i64 0) := (blk_cell BK111.out 4).trans rfl; have hcz12_5 : w9.cell? ⟨gb111, 5, none⟩ = some (.int .i64 0) := (blk_cell BK111.out 5).trans rfl; have hcz12_6 : w9.cell? ⟨gb111, 6, none⟩ = some (.int .i64 0) := (blk_cell BK111.out 6).trans rfl; have hcz12_7 : w9.cell? ⟨gb111, 7, none⟩ = some (.slice none 0 0) := (blk_cell BK111.out 7).trans rfl; have hfz12_0 := blk_frozen BK111.out 0; have hfz12_1 := blk_frozen BK111.out 1; have hfz12_2 := blk_frozen BK111.out 2; have hfz12_3 := blk_frozen BK111.out 3; have hfz12_4 := blk_frozen BK111.out 4; have hfz12_5 := blk_frozen BK111.out 5; have hfz12_6 := blk_frozen BK111.out 6; have hfz12_7 := blk_frozen BK111.out 7))
    refine bodyPost_ret (results_cell_row rfl _ _ gb111 27 #[.int .u64 a0_0, .int .u16 a0_1, .int .i64 a0_2, .int .i64 a0_3, .int .i64 a0_4, .int .i64 a0_5, .int .i64 a0_6, .slice Ao10 y115.length co10] (0, 0) _ rfl (by (with_reducible repeat (first | refine blk_drewN ?_ _ | refine blk_drew ?_ | refine blk_alloc ?_ _)); refine blk_put (cs := #[.int .u64 a0_0, .int .u16 a0_1, .int .i64 a0_2, .int .i64 a0_3, .int .i64 a0_4, .int .i64 a0_5, .int .i64 a0_6, .slice none 0 0]) ?_ 7 _ rfl; (with_reducible repeat (first | refine blk_drewN ?_ _ | refine blk_drew ?_ | refine blk_alloc ?_ _)); refine blk_put (cs := #[.int .u64 a0_0, .int .u16 a0_1, .int .i64 a0_2, .int .i64 a0_3, .int .i64 a0_4, .int .i64 a0_5, .int .i64 0, .slice none 0 0]) ?_ 6 _ rfl; (with_reducible repeat (first | refine blk_drewN ?_ _ | refine blk_drew ?_ | refine blk_alloc ?_ _)); refine blk_put (cs := #[.int .u64 a0_0, .int .u16 a0_1, .int .i64 a0_2, .int .i64 a0_3, .int .i64 a0_4, .int .i64 0, .int .i64 0, .slice none 0 0]) ?_ 5 _ rfl; (with_reducible repeat (first | refine blk_drewN ?_ _ | refine blk_drew ?_ | refine blk_alloc ?_ _)); refine blk_put (cs := #[.int .u64 a0_0, .int .u16 a0_1, .int .i64 a0_2, .int .i64 a0_3, .int .i64 0, .int .i64 0, .int .i64 0, .slice none 0 0]) ?_ 4 _ rfl; (with_reducible repeat (first | refine blk_drewN ?_ _ | refine blk_drew ?_ | refine blk_alloc ?_ _)); refine blk_put (cs := #[.int .u64 a0_0, .int .u16 a0_1, .int .i64 a0_2, .int .i64 0, .int .i64 0, .int .i64 0, .int .i64 0, .slice none 0 0]) ?_ 3 _ rfl; (with_reducible repeat (first | refine blk_drewN ?_ _ | refine blk_drew ?_ | refine blk_alloc ?_ _)); refine blk_put (cs := #[.int .u64 a0_0, .int .u16 a0_1, .int .i64 0, .int .i64 0, .int .i64 0, .int .i64 0, .int .i64 0, .slice none 0 0]) ?_ 2 _ rfl; (with_reducible repeat (first | refine blk_drewN ?_ _ | refine blk_drew ?_ | refine blk_alloc ?_ _)); refine blk_put (cs := #[.int .u64 a0_0, .int .u16 0, .int .i64 0, .int .i64 0, .int .i64 0, .int .i64 0, .int .i64 0, .slice none 0 0]) ?_ 1 _ rfl; (with_reducible repeat (first | refine blk_drewN ?_ _ | refine blk_drew ?_ | refine blk_alloc ?_ _)); refine blk_put (cs := #[.int .u64 0, .int .u16 0, .int .i64 0, .int .i64 0, .int .i64 0, .int .i64 0, .int .i64 0, .slice none 0 0]) ?_ 0 _ rfl; (with_reducible repeat (first | refine blk_drewN ?_ _ | refine blk_drew ?_ | refine blk_alloc ?_ _)); refine blk_far ?_ NB111_110.out _; (with_reducible repeat (first | refine blk_drewN ?_ _ | refine blk_drew ?_ | refine blk_alloc ?_ _)); exact BK111.out) Try.underlying27 rfl (by kernel_rfl)) rfl ?_
    exact ⟨_, by first | rfl | (simp [errW_none, errW_some] <;> rfl) | (simp [*, errW_none, errW_some] <;> rfl), by (with_reducible repeat (first | apply Kd.R_alloc | apply Kd.R_drewN | apply Kd.R_drew)); exact Kd.R_mono (Kd.R_far (p := ⟨gb111, 7, none⟩) (Kd.R_far (p := ⟨gb111, 6, none⟩) (Kd.R_far (p := ⟨gb111, 5, none⟩) (Kd.R_far (p := ⟨gb111, 4, none⟩) (Kd.R_far (p := ⟨gb111, 3, none⟩) (Kd.R_far (p := ⟨gb111, 2, none⟩) (Kd.R_far (p := ⟨gb111, 1, none⟩) (Kd.R_far (p := ⟨gb111, 0, none⟩) (Kd.R_far (p := ⟨gb110, 7, none⟩) (Kd.R_types (Kd.R_types HO117.out BK110.out (by decide)) BK111.out (by decide)) (fun _ hk => hk.1.2) (.slice Ao10 y115.length co10)) (fun _ hk => hk.2) (.int .u64 a0_0)) (fun _ hk => hk.2) (.int .u16 a0_1)) (fun _ hk => hk.2) (.int .i64 a0_2)) (fun _ hk => hk.2) (.int .i64 a0_3)) (fun _ hk => hk.2) (.int .i64 a0_4)) (fun _ hk => hk.2) (.int .i64 a0_5)) (fun _ hk => hk.2) (.int .i64 a0_6)) (fun _ hk => hk.2) (.slice Ao10 y115.length co10)) (fun _ hk => trivial), by repeat (first | (with_reducible first | exact HB.out | apply below_alloc | apply pw_below_drewN | apply below_drew1 | refine below_set ?_ GE110.out | refine below_set ?_ GE111.out) | exact HB.out)⟩
  · rw [if_neg c2] at H
    exact absurd H (by simp)

/-! ### conf_Port: function 22 -/
def conf_Port.f (a0_0 : Int) (a0_1 : Int) (a0_2 : Bool) : Option (Bool) := if a0_1 ≥ 1 then (some (decide (a0_1 ≤ 65535))) else (some false)
set_option maxHeartbeats 8000000 in
set_option maxRecDepth 100000 in
theorem conf_Port.calls (a0_0 : Int) (a0_1 : Int) (a0_2 : Bool) (r : Bool) (w : World) (h : conf_Port.f a0_0 a0_1 a0_2 = some r) :
    Calls Try.prog 22 #[.agg #[.int .u8 a0_0, .int .u32 a0_1, .bool a0_2]] w fun e w' => e = .returned (.bool r) ∧ Below w.heap.size w w' := by
  have hu40 := Try.underlying40
  have HB := Aside0.mk (Below.refl w.heap.size w)
  have H : (if a0_1 ≥ 1 then (some (decide (a0_1 ≤ 65535))) else (some false)) = some r := h
  clear h
  by_cases c2 : a0_1 ≥ 1
  · rw [if_pos c2] at H
    have c2b0 : decide (1 ≤ a0_1) = true := decide_eq_true c2
    clear c2
    obtain rfl := Option.some.inj H
    go_enter Try.func22, Try.ntmps22
    go_wp2_with (first | ((with_reducible refine gate_dst (N := 1) rfl ?_); refine box_event ?hg (N := 1) ?hd (cs := #[.int .u8 a0_0, .int .u32 a0_1, .bool a0_2]) (t := 40) ?hr ?_; (case hd => rfl); (case hg => rfl); (case hr => first | (go_simp; done) | (go_simp; rfl)); intro gb118 hg w3 hbox hb; have n0_ := Aside0.mk (below_step (by repeat (first | (with_reducible first | exact HB.out | apply below_alloc | apply pw_below_drewN | apply below_drew1) | exact HB.out)) hb); have n1_ := Aside0.mk (hbox); have n2_ := Aside0.mk ((by rw [hg]; exact (below_size (by repeat (first | (with_reducible first | exact HB.out | apply below_alloc | apply pw_below_drewN | apply below_drew1) | exact HB.out))) : w.heap.size ≤ gb118)); have n3_ := Aside0.mk ((by rw [hg]; exact (below_size (by repeat (first | (with_reducible first | exact HB.out | apply below_alloc | apply pw_below_drewN | apply below_drew1) | exact HB.out))) : w.heap.size ≤ gb118)); clear HB; have HB := n0_; have BK118 := n1_; have GW118 := n2_; have GE118 := n3_; clear n0_ n1_ n2_ n3_; clear hb hbox hg; have hcz4_0 : w3.cell? ⟨gb118, 0, none⟩ = some (.int .u8 a0_0) := (blk_cell BK118.out 0).trans rfl; have hcz4_1 : w3.cell? ⟨gb118, 1, none⟩ = some (.int .u32 a0_1) := (blk_cell BK118.out 1).trans rfl; have hcz4_2 : w3.cell? ⟨gb118, 2, none⟩ = some (.bool a0_2) := (blk_cell BK118.out 2).trans rfl; have hfz4_0 := blk_frozen BK118.out 0; have hfz4_1 := blk_frozen BK118.out 1; have hfz4_2 := blk_frozen BK118.out 2))
    go_ret
    exact ⟨by first | rfl | (simp [errW_none, errW_some] <;> rfl) | (simp [*, errW_none, errW_some] <;> rfl), by repeat (first | (with_reducible first | exact HB.out | apply below_alloc | apply pw_below_drewN | apply below_drew1 | refine below_set ?_ GE118.out) | exact HB.out)⟩
  · rw [if_neg c2] at H
    have c2b0 : decide (1 ≤ a0_1) = false := decide_eq_false c2
    clear c2
    obtain rfl := Option.some.inj H
    go_enter Try.func22, Try.ntmps22
    go_wp2_with (first | ((with_reducible refine gate_dst (N := 1) rfl ?_); refine box_event ?hg (N := 1) ?hd (cs := #[.int .u8 a0_0, .int .u32 a0_1, .bool a0_2]) (t := 40) ?hr ?_; (case hd => rfl); (case hg => rfl); (case hr => first | (go_simp; done) | (go_simp; rfl)); intro gb118 hg w5 hbox hb; have n0_ := Aside0.mk (below_step (by repeat (first | (with_reducible first | exact HB.out | apply below_alloc | apply pw_below_drewN | apply below_drew1) | exact HB.out)) hb); have n1_ := Aside0.mk (hbox); have n2_ := Aside0.mk ((by rw [hg]; exact (below_size (by repeat (first | (with_reducible first | exact HB.out | apply below_alloc | apply pw_below_drewN | apply below_drew1) | exact HB.out))) : w.heap.size ≤ gb118)); have n3_ := Aside0.mk ((by rw [hg]; exact (below_size (by repeat (first | (with_reducible first | exact HB.out | apply below_alloc | apply pw_below_drewN | apply below_drew1) | exact HB.out))) : w.heap.size ≤ gb118)); clear HB; have HB := n0_; have BK118 := n1_; have GW118 := n2_; have GE118 := n3_; clear n0_ n1_ n2_ n3_; clear hb hbox hg; have hcz6_0 : w5.cell? ⟨gb118, 0, none⟩ = some (.int .u8 a0_0) := (blk_cell BK118.out 0).trans rfl; have hcz6_1 : w5.cell? ⟨gb118, 1, none⟩ = some (.int .u32 a0_1) := (blk_cell BK118.out 1).trans rfl; have hcz6_2 : w5.cell? ⟨gb118, 2, none⟩ = some (.bool a0_2) := (blk_cell BK118.out 2).trans rfl; have hfz6_0 := blk_frozen BK118.out 0; have hfz6_1 := blk_frozen BK118.out 1; have hfz6_2 := blk_frozen BK118.out 2))
    go_ret
    exact ⟨by first | rfl | (simp [errW_none, errW_some] <;> rfl) | (simp [*, errW_none, errW_some] <;> rfl), by repeat (first | (with_reducible first | exact HB.out | apply below_alloc | apply pw_below_drewN | apply below_drew1 | refine below_set ?_ GE118.out) | exact HB.out)⟩

/-! ### ids_Group: function 33 -/
def ids_Group.f (a0 : Int) : Option (Bool) := some ((Go.bits .and .u64 (a0 / 1099511627776) 1) == 1)
set_option maxHeartbeats 8000000 in
set_option maxRecDepth 100000 in
theorem ids_Group.calls (a0 : Int) (r : Bool) (w : World) (h : ids_Group.f a0 = some r) :
    Calls Try.prog 33 #[.int .u64 a0] w fun e w' => e = .returned (.bool r) ∧ Drawn0 w w' := by
  have H : (some ((Go.bits .and .u64 (a0 / 1099511627776) 1) == 1)) = some r := h
  clear h
  obtain rfl := Option.some.inj H
  go_enter Try.func33, Try.ntmps33
  go_wp2
  go_ret
  exact ⟨by first | rfl | (simp; done) | (simp [*]; done), by repeat (first | exact Drawn0.refl _ | apply Drawn0.step)⟩

/-! ### ids_Right: function 34 -/
def ids_Right.f (a0 : Int) : Option (Bool) := if a0 > 0 then (if a0 ≤ 281474976710655 then ((ids_Group.f a0).bind fun t119 => (some (!t119))) else (some false)) else (some false)
set_option maxHeartbeats 8000000 in
set_option maxRecDepth 100000 in
theorem ids_Right.calls (a0 : Int) (r : Bool) (w : World) (h : ids_Right.f a0 = some r) :
    Calls Try.prog 34 #[.int .u64 a0] w fun e w' => e = .returned (.bool r) ∧ Drawn0 w w' := by
  have H : (if a0 > 0 then (if a0 ≤ 281474976710655 then ((ids_Group.f a0).bind fun t119 => (some (!t119))) else (some false)) else (some false)) = some r := h
  clear h
  by_cases c2 : a0 > 0
  · rw [if_pos c2] at H
    have c2b0 : decide (0 < a0) = true := decide_eq_true c2
    clear c2
    by_cases c3 : a0 ≤ 281474976710655
    · rw [if_pos c3] at H
      have c3b0 : decide (a0 ≤ 281474976710655) = true := decide_eq_true c3
      clear c3
      replace H := Option.bind_eq_some_iff.mp H
      obtain ⟨t119, A40, H⟩ := H
      replace H : (some (!t119)) = some r := H
      have A4 := Aside0.mk A40
      clear A40
      obtain rfl := Option.some.inj H
      go_enter Try.func34, Try.ntmps34
      go_wp2_with (first | (go_at_call 33; (with_reducible refine (ids_Group.calls a0 t119 _ A4.out).mono ?_); rintro e w' ⟨rfl, ⟨nd, rfl⟩⟩))
      go_ret
      exact ⟨by first | rfl | (simp; done) | (simp [*]; done), by repeat (first | exact Drawn0.refl _ | apply Drawn0.step)⟩
    · rw [if_neg c3] at H
      have c3b0 : decide (a0 ≤ 281474976710655) = false := decide_eq_false c3
      clear c3
      obtain rfl := Option.some.inj H
      go_enter Try.func34, Try.ntmps34
      go_wp2
      go_ret
      exact ⟨by first | rfl | (simp; done) | (simp [*]; done), by repeat (first | exact Drawn0.refl _ | apply Drawn0.step)⟩
  · rw [if_neg c2] at H
    have c2b0 : decide (0 < a0) = false := decide_eq_false c2
    clear c2
    obtain rfl := Option.some.inj H
    go_enter Try.func34, Try.ntmps34
    go_wp2
    go_ret
    exact ⟨by first | rfl | (simp; done) | (simp [*]; done), by repeat (first | exact Drawn0.refl _ | apply Drawn0.step)⟩

/-! ### conf_Check: function 19 -/
mutual
def conf_Check.j0 : Nat → Bool → Int → Int → Int → Int → Int → Int → Int → List (S40) → Option (Int)
  | 0, _, _, _, _, _, _, _, _, _ => none
  | k + 1, x10, x121000, x121001, x121002, x121003, x121004, x121005, x121006, x121007 => if x10 = true then (some 3) else (if (x121007.length : Int) = 0 then (some 8) else (if (x121007.length : Int) > 4 then (some 4) else (conf_Check.l0 k x121007 (x121007.length : Int) 0)))
def conf_Check.l0 : Nat → List (S40) → Int → Int → Option (Int)
  | 0, _, _, _ => none
  | k + 1, x33, x34, x35 => if x35 < x34 then (if 0 ≤ x35 then (if x35 < (x33.length : Int) then ((conf_Port.f ((rd_T40 x33 x35).f0) ((rd_T40 x33 x35).f1) ((rd_T40 x33 x35).f2)).bind fun t127 => (if t127 = true then (conf_Check.l0 k x33 x34 (wrap64 (x35 + 1))) else (some 3))) else (none)) else (none)) else (some 0)
end
def conf_Check.f (k : Nat) (a0_0 : Int) (a0_1 : Int) (a0_2 : Int) (a0_3 : Int) (a0_4 : Int) (a0_5 : Int) (a0_6 : Int) (l0_7 : List (S40)) : Option (Int) := (ids_Right.f a0_0).bind fun t121 => (if t121 = true then ((conf_Times.f a0_0 a0_1 a0_2 a0_3 a0_4 a0_5 a0_6 l0_7).bind fun t122 => (if t122 = true then ((conf_within.f a0_5 10 1000000).bind fun t123 => (if t123 = true then ((conf_within.f a0_6 0 64).bind fun t124 => (conf_Check.j0 k (!t124) a0_0 a0_1 a0_2 a0_3 a0_4 a0_5 a0_6 l0_7)) else (conf_Check.j0 k (!t123) a0_0 a0_1 a0_2 a0_3 a0_4 a0_5 a0_6 l0_7))) else (conf_Check.j0 k (!t122) a0_0 a0_1 a0_2 a0_3 a0_4 a0_5 a0_6 l0_7))) else (some 1))
theorem conf_Check.mono_l : ∀ k, (∀ y0 y1 y2 y3 y4 y5 y6 y7 y8, LeO (conf_Check.j0 k y0 y1 y2 y3 y4 y5 y6 y7 y8) (conf_Check.j0 (k + 1) y0 y1 y2 y3 y4 y5 y6 y7 y8)) ∧ (∀ y0 y1 y2, LeO (conf_Check.l0 k y0 y1 y2) (conf_Check.l0 (k + 1) y0 y1 y2))
  | 0 => ⟨fun _ _ _ _ _ _ _ _ _ r h => by simp [conf_Check.j0] at h, fun _ _ _ r h => by simp [conf_Check.l0] at h⟩
  | k + 1 => by
    obtain ⟨ih0, ih1⟩ := conf_Check.mono_l k
    refine ⟨?_, ?_⟩
    · intro y0 y1 y2 y3 y4 y5 y6 y7 y8
      unfold conf_Check.j0
      repeat' first
      | (with_reducible exact ih0 _ _ _ _ _ _ _ _ _)
      | (with_reducible exact ih1 _ _ _)
      | (with_reducible exact LeO.refl _)
      | (with_reducible exact LeO.none _)
      | (with_reducible refine LeO.ite ?_ ?_)
      | (with_reducible refine LeO.bind ?_ (fun _ => ?_))
      | exact ih0 _ _ _ _ _ _ _ _ _
      | exact ih1 _ _ _
      | exact LeO.none _
      | refine LeO.ite ?_ ?_
      | refine LeO.bind ?_ (fun _ => ?_)
    · intro y0 y1 y2
      unfold conf_Check.l0
      repeat' first
      | (with_reducible exact ih0 _ _ _ _ _ _ _ _ _)
      | (with_reducible exact ih1 _ _ _)
      | (with_reducible exact LeO.refl _)
      | (with_reducible exact LeO.none _)
      | (with_reducible refine LeO.ite ?_ ?_)
      | (with_reducible refine LeO.bind ?_ (fun _ => ?_))
      | exact ih0 _ _ _ _ _ _ _ _ _
      | exact ih1 _ _ _
      | exact LeO.none _
      | refine LeO.ite ?_ ?_
      | refine LeO.bind ?_ (fun _ => ?_)
theorem conf_Check.mono : ∀ a0 a1 a2 a3 a4 a5 a6 a7 k, LeO (conf_Check.f k a0 a1 a2 a3 a4 a5 a6 a7) (conf_Check.f (k + 1) a0 a1 a2 a3 a4 a5 a6 a7) := by
  intro a0 a1 a2 a3 a4 a5 a6 a7 k
  obtain ⟨ih0, ih1⟩ := conf_Check.mono_l k
  unfold conf_Check.f
  repeat' first
      | (with_reducible exact ih0 _ _ _ _ _ _ _ _ _)
      | (with_reducible exact ih1 _ _ _)
      | (with_reducible exact LeO.refl _)
      | (with_reducible exact LeO.none _)
      | (with_reducible refine LeO.ite ?_ ?_)
      | (with_reducible refine LeO.bind ?_ (fun _ => ?_))
      | exact ih0 _ _ _ _ _ _ _ _ _
      | exact ih1 _ _ _
      | exact LeO.none _
      | refine LeO.ite ?_ ?_
      | refine LeO.bind ?_ (fun _ => ?_)
set_option maxHeartbeats 8000000 in
set_option maxRecDepth 100000 in
theorem conf_Check.calls (k : Nat) (a0_0 : Int) (a0_1 : Int) (a0_2 : Int) (a0_3 : Int) (a0_4 : Int) (a0_5 : Int) (a0_6 : Int) (A0_7 : Option Addr) (c0_7 : Nat) (l0_7 : List (S40)) (r : Int) (w : World) (hr0_7 : Kd.C k40 w A0_7 l0_7.length l0_7) (hc0_7 : l0_7.length ≤ c0_7) (h : conf_Check.f k a0_0 a0_1 a0_2 a0_3 a0_4 a0_5 a0_6 l0_7 = some r) :
    Calls Try.prog 19 #[.agg #[.int .u64 a0_0, .int .u16 a0_1, .int .i64 a0_2, .int .i64 a0_3, .int .i64 a0_4, .int .i64 a0_5, .int .i64 a0_6, .slice A0_7 l0_7.length c0_7]] w fun e w' => e = .returned (.int .i64 r) ∧ Below w.heap.size w w' := by
  have hu27 := Try.underlying27
  have hu40 := Try.underlying40
  have HR0_7 := Aside0.mk hr0_7
  have HC0_7 := Aside0.mk hc0_7
  clear hr0_7 hc0_7
  have HB := Aside0.mk (Below.refl w.heap.size w)
  have H : ((ids_Right.f a0_0).bind fun t121 => (if t121 = true then ((conf_Times.f a0_0 a0_1 a0_2 a0_3 a0_4 a0_5 a0_6 l0_7).bind fun t122 => (if t122 = true then ((conf_within.f a0_5 10 1000000).bind fun t123 => (if t123 = true then ((conf_within.f a0_6 0 64).bind fun t124 => (conf_Check.j0 k (!t124) a0_0 a0_1 a0_2 a0_3 a0_4 a0_5 a0_6 l0_7)) else (conf_Check.j0 k (!t123) a0_0 a0_1 a0_2 a0_3 a0_4 a0_5 a0_6 l0_7))) else (conf_Check.j0 k (!t122) a0_0 a0_1 a0_2 a0_3 a0_4 a0_5 a0_6 l0_7))) else (some 1))) = some r := h
  clear h
  replace H := Option.bind_eq_some_iff.mp H
  obtain ⟨t121, A20, H⟩ := H
  replace H : (if t121 = true then ((conf_Times.f a0_0 a0_1 a0_2 a0_3 a0_4 a0_5 a0_6 l0_7).bind fun t122 => (if t122 = true then ((conf_within.f a0_5 10 1000000).bind fun t123 => (if t123 = true then ((conf_within.f a0_6 0 64).bind fun t124 => (conf_Check.j0 k (!t124) a0_0 a0_1 a0_2 a0_3 a0_4 a0_5 a0_6 l0_7)) else (conf_Check.j0 k (!t123) a0_0 a0_1 a0_2 a0_3 a0_4 a0_5 a0_6 l0_7))) else (conf_Check.j0 k (!t122) a0_0 a0_1 a0_2 a0_3 a0_4 a0_5 a0_6 l0_7))) else (some 1)) = some r := H
  have A2 := Aside0.mk A20
  clear A20
  by_cases c3 : t121 = true
  · subst c3
    have H1 : ((conf_Times.f a0_0 a0_1 a0_2 a0_3 a0_4 a0_5 a0_6 l0_7).bind fun t122 => (if t122 = true then ((conf_within.f a0_5 10 1000000).bind fun t123 => (if t123 = true then ((conf_within.f a0_6 0 64).bind fun t124 => (conf_Check.j0 k (!t124) a0_0 a0_1 a0_2 a0_3 a0_4 a0_5 a0_6 l0_7)) else (conf_Check.j0 k (!t123) a0_0 a0_1 a0_2 a0_3 a0_4 a0_5 a0_6 l0_7))) else (conf_Check.j0 k (!t122) a0_0 a0_1 a0_2 a0_3 a0_4 a0_5 a0_6 l0_7))) = some r := by rw [if_pos rfl] at H; exact H
    clear H
    have H := H1
    clear H1
    replace H := Option.bind_eq_some_iff.mp H
    obtain ⟨t122, A40, H⟩ := H
    replace H : (if t122 = true then ((conf_within.f a0_5 10 1000000).bind fun t123 => (if t123 = true then ((conf_within.f a0_6 0 64).bind fun t124 => (conf_Check.j0 k (!t124) a0_0 a0_1 a0_2 a0_3 a0_4 a0_5 a0_6 l0_7)) else (conf_Check.j0 k (!t123) a0_0 a0_1 a0_2 a0_3 a0_4 a0_5 a0_6 l0_7))) else (conf_Check.j0 k (!t122) a0_0 a0_1 a0_2 a0_3 a0_4 a0_5 a0_6 l0_7)) = some r := H
    have A4 := Aside0.mk A40
    clear A40
    have HC5 := Aside0.mk H
    clear H
    go_enter Try.func19, Try.ntmps19
    go_upto_if 10 with (first | ((with_reducible refine gate_dst (N := 1) rfl ?_); refine box_event ?hg (N := 1) ?hd (cs := #[.int .u64 a0_0, .int .u16 a0_1, .int .i64 a0_2, .int .i64 a0_3, .int .i64 a0_4, .int .i64 a0_5, .int .i64 a0_6, .slice A0_7 l0_7.length c0_7]) (t := 27) ?hr ?_; (case hd => rfl); (case hg => rfl); (case hr => first | (go_simp; done) | (go_simp; rfl)); intro gb120 hg w6 hbox hb; have n0_ := Aside0.mk (below_step (by repeat (first | (with_reducible first | exact HB.out | apply below_alloc | apply pw_below_drewN | apply below_drew1) | exact HB.out)) hb); have n1_ := Aside0.mk (hbox); have n2_ := Aside0.mk ((by rw [hg]; exact (below_size (by repeat (first | (with_reducible first | exact HB.out | apply below_alloc | apply pw_below_drewN | apply below_drew1) | exact HB.out))) : w.heap.size ≤ gb120)); have n3_ := Aside0.mk ((by rw [hg]; exact (below_size (by repeat (first | (with_reducible first | exact HB.out | apply below_alloc | apply pw_below_drewN | apply below_drew1) | exact HB.out))) : w.heap.size ≤ gb120)); clear HB; have HB := n0_; have BK120 := n1_; have GW120 := n2_; have GE120 := n3_; clear n0_ n1_ n2_ n3_; clear hb hbox hg; have hcz7_0 : w6.cell? ⟨gb120, 0, none⟩ = some (.int .u64 a0_0) := (blk_cell BK120.out 0).trans rfl; have hcz7_1 : w6.cell? ⟨gb120, 1, none⟩ = some (.int .u16 a0_1) := (blk_cell BK120.out 1).trans rfl; have hcz7_2 : w6.cell? ⟨gb120, 2, none⟩ = some (.int .i64 a0_2) := (blk_cell BK120.out 2).trans rfl; have hcz7_3 : w6.cell? ⟨gb120, 3, none⟩ = some (.int .i64 a0_3) := (blk_cell BK120.out 3).trans rfl; have hcz7_4 : w6.cell? ⟨gb120, 4, none⟩ = some (.int .i64 a0_4) := (blk_cell BK120.out 4).trans rfl; have hcz7_5 : w6.cell? ⟨gb120, 5, none⟩ = some (.int .i64 a0_5) := (blk_cell BK120.out 5).trans rfl; have hcz7_6 : w6.cell? ⟨gb120, 6, none⟩ = some (.int .i64 a0_6) := (blk_cell BK120.out 6).trans rfl; have hcz7_7 : w6.cell? ⟨gb120, 7, none⟩ = some (.slice A0_7 l0_7.length c0_7) := (blk_cell BK120.out 7).trans rfl; have hfz7_0 := blk_frozen BK120.out 0; have hfz7_1 := blk_frozen BK120.out 1; have hfz7_2 := blk_frozen BK120.out 2; have hfz7_3 := blk_frozen BK120.out 3; have hfz7_4 := blk_frozen BK120.out 4; have hfz7_5 := blk_frozen BK120.out 5; have hfz7_6 := blk_frozen BK120.out 6; have hfz7_7 := blk_frozen BK120.out 7) | ((with_reducible refine gate_callee (f := 34) rfl ?_); refine goesL_ (some 8) rfl rfl Try.func34 (by kernel_rfl) rfl #[.int .u64 a0_0] rfl (by (try simp only [List.map_toArray, List.map_cons, List.map_nil]); first | done | rfl | (simp only [List.length_drop, List.length_take]; rfl)) ?_; (with_reducible refine (ids_Right.calls a0_0 true _ A2.out).mono ?_); rintro e w' ⟨rfl, ⟨nd, rfl⟩⟩; refine ⟨_, rfl, ?_⟩) | ((with_reducible refine gate_callee (f := 14) rfl ?_); refine goesL_ (some 12) rfl rfl Try.func14 (by kernel_rfl) rfl #[.agg #[.int .u64 a0_0, .int .u16 a0_1, .int .i64 a0_2, .int .i64 a0_3, .int .i64 a0_4, .int .i64 a0_5, .int .i64 a0_6, .slice A0_7 l0_7.length c0_7]] rfl (by (try simp only [List.map_toArray, List.map_cons, List.map_nil]); first | done | rfl | (simp only [List.length_drop, List.length_take]; rfl)) ?_; (with_reducible refine (conf_Times.calls a0_0 a0_1 a0_2 a0_3 a0_4 a0_5 a0_6 _ _ l0_7 t122 _ ?side1 ?side2 A4.out).mono ?_); (case side1 => repeat (first | exact (Kd.C_below HR0_7.out (by repeat (first | (with_reducible first | exact HB.out | apply below_alloc | apply pw_below_drewN | apply below_drew1 | refine below_set ?_ GE120.out) | exact HB.out))) | (with_reducible refine Kd.C_alloc ?_ _) | (with_reducible refine Kd.C_drewN ?_ _) | (with_reducible refine Kd.C_drew ?_))); (case side2 => exact HC0_7.out); rintro e w8 ⟨rfl, hb⟩; refine ⟨_, rfl, ?_⟩; have n0_ := Aside0.mk (blk_below (g := gb120) (o := .cells #[.int .u64 a0_0, .int .u16 a0_1, .int .i64 a0_2, .int .i64 a0_3, .int .i64 a0_4, .int .i64 a0_5, .int .i64 a0_6, .slice A0_7 l0_7.length c0_7] 27 (0, 0)) (by (with_reducible repeat (first | refine blk_drewN ?_ _ | refine blk_drew ?_ | refine blk_alloc ?_ _)); exact BK120.out) hb); have n1_ := Aside0.mk (below_step (by repeat (first | (with_reducible first | exact HB.out | apply below_alloc | apply pw_below_drewN | apply below_drew1 | refine below_set ?_ GE120.out) | exact HB.out)) hb); clear BK120; clear HB; have BK120 := n0_; have HB := n1_; clear n0_ n1_; (try clear hb); (try clear hb2); (try clear hk); (try clear hi)))
    (try simp only [Act.put, List.setIfInBounds_toArray, List.set_cons_zero, List.set_cons_succ])
    go_cut [10] (fun v10 wc => ∃ (kq : Nat) (x10_4 : Bool), v10 = .bool x10_4 ∧ Aside0 (conf_Check.j0 kq x10_4 a0_0 a0_1 a0_2 a0_3 a0_4 a0_5 a0_6 l0_7 = some r) ∧ Aside0 (kq ≤ k) ∧ Aside0 (wc.heap[gb120]? = some (.cells #[.int .u64 a0_0, .int .u16 a0_1, .int .i64 a0_2, .int .i64 a0_3, .int .i64 a0_4, .int .i64 a0_5, .int .i64 a0_6, (.slice A0_7 l0_7.length c0_7)] 27 (0, 0))) ∧ Aside0 (Below w.heap.size w wc))
    case first =>
      have H := HC5.out
      clear HC5
      by_cases c9 : t122 = true
      · subst c9
        have H1 : ((conf_within.f a0_5 10 1000000).bind fun t123 => (if t123 = true then ((conf_within.f a0_6 0 64).bind fun t124 => (conf_Check.j0 k (!t124) a0_0 a0_1 a0_2 a0_3 a0_4 a0_5 a0_6 l0_7)) else (conf_Check.j0 k (!t123) a0_0 a0_1 a0_2 a0_3 a0_4 a0_5 a0_6 l0_7))) = some r := by rw [if_pos rfl] at H; exact H
        clear H
        have H := H1
        clear H1
        replace H := Option.bind_eq_some_iff.mp H
        obtain ⟨t123, A100, H⟩ := H
        replace H : (if t123 = true then ((conf_within.f a0_6 0 64).bind fun t124 => (conf_Check.j0 k (!t124) a0_0 a0_1 a0_2 a0_3 a0_4 a0_5 a0_6 l0_7)) else (conf_Check.j0 k (!t123) a0_0 a0_1 a0_2 a0_3 a0_4 a0_5 a0_6 l0_7)) = some r := H
        have A10 := Aside0.mk A100
        clear A100
        by_cases c11 : t123 = true
        · subst c11
          have H1 : ((conf_within.f a0_6 0 64).bind fun t124 => (conf_Check.j0 k (!t124) a0_0 a0_1 a0_2 a0_3 a0_4 a0_5 a0_6 l0_7)) = some r := by rw [if_pos rfl] at H; exact H
          clear H
          have H := H1
          clear H1
          replace H := Option.bind_eq_some_iff.mp H
          obtain ⟨t124, A120, H⟩ := H
          replace H : (conf_Check.j0 k (!t124) a0_0 a0_1 a0_2 a0_3 a0_4 a0_5 a0_6 l0_7) = some r := H
          have A12 := Aside0.mk A120
          clear A120
          have H' := Aside0.mk H
          clear H
          have hcz13_0 : w8.cell? ⟨gb120, 0, none⟩ = some (.int .u64 a0_0) := (blk_cell BK120.out 0).trans rfl
          have hcz13_1 : w8.cell? ⟨gb120, 1, none⟩ = some (.int .u16 a0_1) := (blk_cell BK120.out 1).trans rfl
          have hcz13_2 : w8.cell? ⟨gb120, 2, none⟩ = some (.int .i64 a0_2) := (blk_cell BK120.out 2).trans rfl
          have hcz13_3 : w8.cell? ⟨gb120, 3, none⟩ = some (.int .i64 a0_3) := (blk_cell BK120.out 3).trans rfl
          have hcz13_4 : w8.cell? ⟨gb120, 4, none⟩ = some (.int .i64 a0_4) := (blk_cell BK120.out 4).trans rfl
          have hcz13_5 : w8.cell? ⟨gb120, 5, none⟩ = some (.int .i64 a0_5) := (blk_cell BK120.out 5).trans rfl
          have hcz13_6 : w8.cell? ⟨gb120, 6, none⟩ = some (.int .i64 a0_6) := (blk_cell BK120.out 6).trans rfl
          have hcz13_7 : w8.cell? ⟨gb120, 7, none⟩ = some (.slice A0_7 l0_7.length c0_7) := (blk_cell BK120.out 7).trans rfl
          have hfz13_0 := blk_frozen BK120.out 0
          have hfz13_1 := blk_frozen BK120.out 1
          have hfz13_2 := blk_frozen BK120.out 2
          have hfz13_3 := blk_frozen BK120.out 3
          have hfz13_4 := blk_frozen BK120.out 4
          have hfz13_5 := blk_frozen BK120.out 5
          have hfz13_6 := blk_frozen BK120.out 6
          have hfz13_7 := blk_frozen BK120.out 7
          go_wp2_with (first | ((with_reducible refine gate_callee (f := 40) rfl ?_); refine goesL_ (some 16) rfl rfl Try.func40 (by kernel_rfl) rfl #[.int .i64 a0_5, .int .i64 10, .int .i64 1000000] rfl (by (try simp only [List.map_toArray, List.map_cons, List.map_nil]); first | done | rfl | (simp only [List.length_drop, List.length_take]; rfl)) ?_; (with_reducible refine (conf_within.calls a0_5 10 1000000 true _ A10.out).mono ?_); rintro e w' ⟨rfl, ⟨nd, rfl⟩⟩; refine ⟨_, rfl, ?_⟩) | ((with_reducible refine gate_callee (f := 40) rfl ?_); refine goesL_ (some 20) rfl rfl Try.func40 (by kernel_rfl) rfl #[.int .i64 a0_6, .int .i64 0, .int .i64 64] rfl (by (try simp only [List.map_toArray, List.map_cons, List.map_nil]); first | done | rfl | (simp only [List.length_drop, List.length_take]; rfl)) ?_; (with_reducible refine (conf_within.calls a0_6 0 64 t124 _ A12.out).mono ?_); rintro e w' ⟨rfl, ⟨nd, rfl⟩⟩; refine ⟨_, rfl, ?_⟩) | (go_at_call 40; (with_reducible refine (conf_within.calls a0_5 10 1000000 true _ A10.out).mono ?_); rintro e w' ⟨rfl, ⟨nd, rfl⟩⟩) | (go_at_call 40; (with_reducible refine (conf_within.calls a0_6 0 64 t124 _ A12.out).mono ?_); rintro e w' ⟨rfl, ⟨nd, rfl⟩⟩))
          go_meet
          case rel => exact ⟨_, (!t124), (by first | rfl | (simp; done) | (simp [*]; done)), H', ⟨by first | omega | exact Nat.le_refl _⟩, ⟨by (with_reducible repeat (first | refine blk_drewN ?_ _ | refine blk_drew ?_ | refine blk_alloc ?_ _)); exact BK120.out⟩, ⟨by repeat (first | (with_reducible first | exact HB.out | apply below_alloc | apply pw_below_drewN | apply below_drew1 | refine below_set ?_ GE120.out) | exact HB.out)⟩⟩
        · replace c11 := Bool.eq_false_iff.mpr c11
          subst c11
          have H1 : (conf_Check.j0 k (!false) a0_0 a0_1 a0_2 a0_3 a0_4 a0_5 a0_6 l0_7) = some r := by rw [if_neg (show ¬ (false = true) by decide)] at H; exact H
          clear H
          have H := H1
          clear H1
          have H' := Aside0.mk H
          clear H
          have hcz14_0 : w8.cell? ⟨gb120, 0, none⟩ = some (.int .u64 a0_0) := (blk_cell BK120.out 0).trans rfl
          have hcz14_1 : w8.cell? ⟨gb120, 1, none⟩ = some (.int .u16 a0_1) := (blk_cell BK120.out 1).trans rfl
          have hcz14_2 : w8.cell? ⟨gb120, 2, none⟩ = some (.int .i64 a0_2) := (blk_cell BK120.out 2).trans rfl
          have hcz14_3 : w8.cell? ⟨gb120, 3, none⟩ = some (.int .i64 a0_3) := (blk_cell BK120.out 3).trans rfl
          have hcz14_4 : w8.cell? ⟨gb120, 4, none⟩ = some (.int .i64 a0_4) := (blk_cell BK120.out 4).trans rfl
          have hcz14_5 : w8.cell? ⟨gb120, 5, none⟩ = some (.int .i64 a0_5) := (blk_cell BK120.out 5).trans rfl
          have hcz14_6 : w8.cell? ⟨gb120, 6, none⟩ = some (.int .i64 a0_6) := (blk_cell BK120.out 6).trans rfl
          have hcz14_7 : w8.cell? ⟨gb120, 7, none⟩ = some (.slice A0_7 l0_7.length c0_7) := (blk_cell BK120.out 7).trans rfl
          have hfz14_0 := blk_frozen BK120.out 0
          have hfz14_1 := blk_frozen BK120.out 1
          have hfz14_2 := blk_frozen BK120.out 2
          have hfz14_3 := blk_frozen BK120.out 3
          have hfz14_4 := blk_frozen BK120.out 4
          have hfz14_5 := blk_frozen BK120.out 5
          have hfz14_6 := blk_frozen BK120.out 6
          have hfz14_7 := blk_frozen BK120.out 7
          go_wp2_with (first | ((with_reducible refine gate_callee (f := 40) rfl ?_); refine goesL_ (some 16) rfl rfl Try.func40 (by kernel_rfl) rfl #[.int .i64 a0_5, .int .i64 10, .int .i64 1000000] rfl (by (try simp only [List.map_toArray, List.map_cons, List.map_nil]); first | done | rfl | (simp only [List.length_drop, List.length_take]; rfl)) ?_; (with_reducible refine (conf_within.calls a0_5 10 1000000 false _ A10.out).mono ?_); rintro e w' ⟨rfl, ⟨nd, rfl⟩⟩; refine ⟨_, rfl, ?_⟩) | (go_at_call 40; (with_reducible refine (conf_within.calls a0_5 10 1000000 false _ A10.out).mono ?_); rintro e w' ⟨rfl, ⟨nd, rfl⟩⟩))
          go_meet
          case rel => exact ⟨_, (!false), (by first | rfl | (simp; done) | (simp [*]; done)), H', ⟨by first | omega | exact Nat.le_refl _⟩, ⟨by (with_reducible repeat (first | refine blk_drewN ?_ _ | refine blk_drew ?_ | refine blk_alloc ?_ _)); exact BK120.out⟩, ⟨by repeat (first | (with_reducible first | exact HB.out | apply below_alloc | apply pw_below_drewN | apply below_drew1 | refine below_set ?_ GE120.out) | exact HB.out)⟩⟩
      · replace c9 := Bool.eq_false_iff.mpr c9
        subst c9
        have H1 : (conf_Check.j0 k (!false) a0_0 a0_1 a0_2 a0_3 a0_4 a0_5 a0_6 l0_7) = some r := by rw [if_neg (show ¬ (false = true) by decide)] at H; exact H
        clear H
        have H := H1
        clear H1
        have H' := Aside0.mk H
        clear H
        go_wp2
        go_meet
        case rel => exact ⟨_, (!false), (by first | rfl | (simp; done) | (simp [*]; done)), H', ⟨by first | omega | exact Nat.le_refl _⟩, ⟨by (with_reducible repeat (first | refine blk_drewN ?_ _ | refine blk_drew ?_ | refine blk_alloc ?_ _)); exact BK120.out⟩, ⟨by repeat (first | (with_reducible first | exact HB.out | apply below_alloc | apply pw_below_drewN | apply below_drew1 | refine below_set ?_ GE120.out) | exact HB.out)⟩⟩
    case rest =>
      clear HC5
      try clear c1
      try clear p2
      try clear c3
      try clear c4
      try clear c9
      try clear c11
      try clear c14
      try clear hcz13_0
      try clear hcz13_1
      try clear hcz13_2
      try clear hcz13_3
      try clear hcz13_4
      try clear hcz13_5
      try clear hcz13_6
      try clear hcz13_7
      try clear hcz14_0
      try clear hcz14_1
      try clear hcz14_2
      try clear hcz14_3
      try clear hcz14_4
      try clear hcz14_5
      try clear hcz14_6
      try clear hcz14_7
      try clear hcz7_0
      try clear hcz7_1
      try clear hcz7_2
      try clear hcz7_3
      try clear hcz7_4
      try clear hcz7_5
      try clear hcz7_6
      try clear hcz7_7
      try clear hfz13_0
      try clear hfz13_1
      try clear hfz13_2
      try clear hfz13_3
      try clear hfz13_4
      try clear hfz13_5
      try clear hfz13_6
      try clear hfz13_7
      try clear hfz14_0
      try clear hfz14_1
      try clear hfz14_2
      try clear hfz14_3
      try clear hfz14_4
      try clear hfz14_5
      try clear hfz14_6
      try clear hfz14_7
      try clear hfz7_0
      try clear hfz7_1
      try clear hfz7_2
      try clear hfz7_3
      try clear hfz7_4
      try clear hfz7_5
      try clear hfz7_6
      try clear hfz7_7
      obtain ⟨kq, x10_4, rfl, HA, HJ4, BK120, HB⟩ := hcut
      cases kq with
      | zero => exact absurd HA.out (by simp [conf_Check.j0])
      | succ kj4 =>
        have H := HA.out
        clear HA
        simp only [conf_Check.j0] at H
        by_cases c15 : x10_4 = true
        · subst c15
          have H1 : (some 3) = some r := by rw [if_pos rfl] at H; exact H
          clear H
          have H := H1
          clear H1
          obtain rfl := Option.some.inj H
          go_wp2
          go_ret
          exact ⟨by first | rfl | (simp [errW_none, errW_some] <;> rfl) | (simp [*, errW_none, errW_some] <;> rfl), by repeat (first | (with_reducible first | exact HB.out | apply below_alloc | apply pw_below_drewN | apply below_drew1 | refine below_set ?_ GE120.out) | exact HB.out)⟩
        · replace c15 := Bool.eq_false_iff.mpr c15
          subst c15
          have H1 : (if (l0_7.length : Int) = 0 then (some 8) else (if (l0_7.length : Int) > 4 then (some 4) else (conf_Check.l0 kj4 l0_7 (l0_7.length : Int) 0))) = some r := by rw [if_neg (show ¬ (false = true) by decide)] at H; exact H
          clear H
          have H := H1
          clear H1
          by_cases c16 : (l0_7.length : Int) = 0
          · rw [if_pos c16] at H
            have c16b0 : ((l0_7.length : Int) == 0) = true := beq_iff_eq.mpr c16
            have c16b1 : ((l0_7.length : Int) != 0) = false := bne_eq_false_iff_eq.mpr c16
            clear c16
            obtain rfl := Option.some.inj H
            have hcz17_0 : wc.cell? ⟨gb120, 0, none⟩ = some (.int .u64 a0_0) := (blk_cell BK120.out 0).trans rfl
            have hcz17_1 : wc.cell? ⟨gb120, 1, none⟩ = some (.int .u16 a0_1) := (blk_cell BK120.out 1).trans rfl
            have hcz17_2 : wc.cell? ⟨gb120, 2, none⟩ = some (.int .i64 a0_2) := (blk_cell BK120.out 2).trans rfl
            have hcz17_3 : wc.cell? ⟨gb120, 3, none⟩ = some (.int .i64 a0_3) := (blk_cell BK120.out 3).trans rfl
            have hcz17_4 : wc.cell? ⟨gb120, 4, none⟩ = some (.int .i64 a0_4) := (blk_cell BK120.out 4).trans rfl
            have hcz17_5 : wc.cell? ⟨gb120, 5, none⟩ = some (.int .i64 a0_5) := (blk_cell BK120.out 5).trans rfl
            have hcz17_6 : wc.cell? ⟨gb120, 6, none⟩ = some (.int .i64 a0_6) := (blk_cell BK120.out 6).trans rfl
            have hcz17_7 : wc.cell? ⟨gb120, 7, none⟩ = some (.slice A0_7 l0_7.length c0_7) := (blk_cell BK120.out 7).trans rfl
            have hfz17_0 := blk_frozen BK120.out 0
            have hfz17_1 := blk_frozen BK120.out 1
            have hfz17_2 := blk_frozen BK120.out 2
            have hfz17_3 := blk_frozen BK120.out 3
            have hfz17_4 := blk_frozen BK120.out 4
            have hfz17_5 := blk_frozen BK120.out 5
            have hfz17_6 := blk_frozen BK120.out 6
            have hfz17_7 := blk_frozen BK120.out 7
            go_wp2
            go_ret
            exact ⟨by first | rfl | (simp [errW_none, errW_some] <;> rfl) | (simp [*, errW_none, errW_some] <;> rfl), by repeat (first | (with_reducible first | exact HB.out | apply below_alloc | apply pw_below_drewN | apply below_drew1 | refine below_set ?_ GE120.out) | exact HB.out)⟩
          · rw [if_neg c16] at H
            have c16b0 : ((l0_7.length : Int) == 0) = false := beq_eq_false_iff_ne.mpr c16
            have c16b1 : ((l0_7.length : Int) != 0) = true := bne_iff_ne.mpr c16
            have c16b2 : ¬ (l0_7 = []) := fun h_ => c16 (by rw [h_]; rfl)
            by_cases c18 : (l0_7.length : Int) > 4
            · rw [if_pos c18] at H
              have c18b0 : decide (4 < (l0_7.length : Int)) = true := decide_eq_true c18
              have c18b1 : decide (4 < l0_7.length) = true := decide_eq_true (by omega)
              clear c18
              obtain rfl := Option.some.inj H
              have hcz19_0 : wc.cell? ⟨gb120, 0, none⟩ = some (.int .u64 a0_0) := (blk_cell BK120.out 0).trans rfl
              have hcz19_1 : wc.cell? ⟨gb120, 1, none⟩ = some (.int .u16 a0_1) := (blk_cell BK120.out 1).trans rfl
              have hcz19_2 : wc.cell? ⟨gb120, 2, none⟩ = some (.int .i64 a0_2) := (blk_cell BK120.out 2).trans rfl
              have hcz19_3 : wc.cell? ⟨gb120, 3, none⟩ = some (.int .i64 a0_3) := (blk_cell BK120.out 3).trans rfl
              have hcz19_4 : wc.cell? ⟨gb120, 4, none⟩ = some (.int .i64 a0_4) := (blk_cell BK120.out 4).trans rfl
              have hcz19_5 : wc.cell? ⟨gb120, 5, none⟩ = some (.int .i64 a0_5) := (blk_cell BK120.out 5).trans rfl
              have hcz19_6 : wc.cell? ⟨gb120, 6, none⟩ = some (.int .i64 a0_6) := (blk_cell BK120.out 6).trans rfl
              have hcz19_7 : wc.cell? ⟨gb120, 7, none⟩ = some (.slice A0_7 l0_7.length c0_7) := (blk_cell BK120.out 7).trans rfl
              have hfz19_0 := blk_frozen BK120.out 0
              have hfz19_1 := blk_frozen BK120.out 1
              have hfz19_2 := blk_frozen BK120.out 2
              have hfz19_3 := blk_frozen BK120.out 3
              have hfz19_4 := blk_frozen BK120.out 4
              have hfz19_5 := blk_frozen BK120.out 5
              have hfz19_6 := blk_frozen BK120.out 6
              have hfz19_7 := blk_frozen BK120.out 7
              go_wp2
              go_ret
              exact ⟨by first | rfl | (simp [errW_none, errW_some] <;> rfl) | (simp [*, errW_none, errW_some] <;> rfl), by repeat (first | (with_reducible first | exact HB.out | apply below_alloc | apply pw_below_drewN | apply below_drew1 | refine below_set ?_ GE120.out) | exact HB.out)⟩
            · rw [if_neg c18] at H
              have c18b0 : decide (4 < (l0_7.length : Int)) = false := decide_eq_false c18
              have c18b1 : decide (4 < l0_7.length) = false := decide_eq_false (by omega)
              clear c18
              have H' := Aside0.mk H
              clear H
              have hcz20_0 : wc.cell? ⟨gb120, 0, none⟩ = some (.int .u64 a0_0) := (blk_cell BK120.out 0).trans rfl
              have hcz20_1 : wc.cell? ⟨gb120, 1, none⟩ = some (.int .u16 a0_1) := (blk_cell BK120.out 1).trans rfl
              have hcz20_2 : wc.cell? ⟨gb120, 2, none⟩ = some (.int .i64 a0_2) := (blk_cell BK120.out 2).trans rfl
              have hcz20_3 : wc.cell? ⟨gb120, 3, none⟩ = some (.int .i64 a0_3) := (blk_cell BK120.out 3).trans rfl
              have hcz20_4 : wc.cell? ⟨gb120, 4, none⟩ = some (.int .i64 a0_4) := (blk_cell BK120.out 4).trans rfl
              have hcz20_5 : wc.cell? ⟨gb120, 5, none⟩ = some (.int .i64 a0_5) := (blk_cell BK120.out 5).trans rfl
              have hcz20_6 : wc.cell? ⟨gb120, 6, none⟩ = some (.int .i64 a0_6) := (blk_cell BK120.out 6).trans rfl
              have hcz20_7 : wc.cell? ⟨gb120, 7, none⟩ = some (.slice A0_7 l0_7.length c0_7) := (blk_cell BK120.out 7).trans rfl
              have hfz20_0 := blk_frozen BK120.out 0
              have hfz20_1 := blk_frozen BK120.out 1
              have hfz20_2 := blk_frozen BK120.out 2
              have hfz20_3 := blk_frozen BK120.out 3
              have hfz20_4 := blk_frozen BK120.out 4
              have hfz20_5 := blk_frozen BK120.out 5
              have hfz20_6 := blk_frozen BK120.out 6
              have hfz20_7 := blk_frozen BK120.out 7
              go_wp2
              go_loopg [35] kj4 (fun kq v35 w' => ∃ (x35_2 : Int), v35 = .int .i64 x35_2 ∧ Aside0 (conf_Check.l0 kq l0_7 (l0_7.length : Int) x35_2 = some r) ∧ Aside0 (kq ≤ kj4) ∧ Aside0 (w'.heap[gb120]? = some (.cells #[.int .u64 a0_0, .int .u16 a0_1, .int .i64 a0_2, .int .i64 a0_3, .int .i64 a0_4, .int .i64 a0_5, .int .i64 a0_6, (.slice A0_7 l0_7.length c0_7)] 27 (0, 0))) ∧ Aside0 (Below w.heap.size w w'))
              case atStart => exact ⟨(0), (by first | rfl | (simp; done) | (simp [*]; done)), H', ⟨Nat.le_refl _⟩, ⟨by (with_reducible repeat (first | refine blk_drewN ?_ _ | refine blk_drew ?_ | refine blk_alloc ?_ _)); exact BK120.out⟩, ⟨by repeat (first | (with_reducible first | exact HB.out | apply below_alloc | apply pw_below_drewN | apply below_drew1 | refine below_set ?_ GE120.out) | exact HB.out)⟩⟩
              case round =>
                clear H'
                try clear c1
                try clear p2
                try clear c3
                try clear c4
                try clear c9
                try clear c11
                try clear c14
                try clear c15
                try clear c16
                try clear c16b0
                try clear c16b1
                try clear c16b2
                try clear c18
                try clear c18b0
                try clear c18b1
                try clear c19
                try clear hcz13_0
                try clear hcz13_1
                try clear hcz13_2
                try clear hcz13_3
                try clear hcz13_4
                try clear hcz13_5
                try clear hcz13_6
                try clear hcz13_7
                try clear hcz14_0
                try clear hcz14_1
                try clear hcz14_2
                try clear hcz14_3
                try clear hcz14_4
                try clear hcz14_5
                try clear hcz14_6
                try clear hcz14_7
                try clear hcz17_0
                try clear hcz17_1
                try clear hcz17_2
                try clear hcz17_3
                try clear hcz17_4
                try clear hcz17_5
                try clear hcz17_6
                try clear hcz17_7
                try clear hcz19_0
                try clear hcz19_1
                try clear hcz19_2
                try clear hcz19_3
                try clear hcz19_4
                try clear hcz19_5
                try clear hcz19_6
                try clear hcz19_7
                try clear hcz20_0
                try clear hcz20_1
                try clear hcz20_2
                try clear hcz20_3
                try clear hcz20_4
                try clear hcz20_5
                try clear hcz20_6
                try clear hcz20_7
                try clear hcz7_0
                try clear hcz7_1
                try clear hcz7_2
                try clear hcz7_3
                try clear hcz7_4
                try clear hcz7_5
                try clear hcz7_6
                try clear hcz7_7
                try clear hfz13_0
                try clear hfz13_1
                try clear hfz13_2
                try clear hfz13_3
                try clear hfz13_4
                try clear hfz13_5
                try clear hfz13_6
                try clear hfz13_7
                try clear hfz14_0
                try clear hfz14_1
                try clear hfz14_2
                try clear hfz14_3
                try clear hfz14_4
                try clear hfz14_5
                try clear hfz14_6
                try clear hfz14_7
                try clear hfz17_0
                try clear hfz17_1
                try clear hfz17_2
                try clear hfz17_3
                try clear hfz17_4
                try clear hfz17_5
                try clear hfz17_6
                try clear hfz17_7
                try clear hfz19_0
                try clear hfz19_1
                try clear hfz19_2
                try clear hfz19_3
                try clear hfz19_4
                try clear hfz19_5
                try clear hfz19_6
                try clear hfz19_7
                try clear hfz20_0
                try clear hfz20_1
                try clear hfz20_2
                try clear hfz20_3
                try clear hfz20_4
                try clear hfz20_5
                try clear hfz20_6
                try clear hfz20_7
                try clear hfz7_0
                try clear hfz7_1
                try clear hfz7_2
                try clear hfz7_3
                try clear hfz7_4
                try clear hfz7_5
                try clear hfz7_6
                try clear hfz7_7
                try clear p2
                obtain ⟨x35_2, rfl, HA, HK2, BK120, HB⟩ := hrel
                cases gk with
                | zero => exact absurd HA.out (by simp [conf_Check.l0])
                | succ k2 =>
                  have H := HA.out
                  clear HA
                  simp only [conf_Check.l0] at H
                  by_cases c21 : x35_2 < (l0_7.length : Int)
                  · rw [if_pos c21] at H
                    have c21b0 : decide (x35_2 < (l0_7.length : Int)) = true := decide_eq_true c21
                    clear c21
                    by_cases c22 : 0 ≤ x35_2
                    · rw [if_pos c22] at H
                      have c22b0 : decide (0 ≤ x35_2) = true := decide_eq_true c22
                      clear c22
                      by_cases c23 : x35_2 < (l0_7.length : Int)
                      · rw [if_pos c23] at H
                        have c23b0 : decide (x35_2 < (l0_7.length : Int)) = true := decide_eq_true c23
                        clear c23
                        replace H := Option.bind_eq_some_iff.mp H
                        obtain ⟨t127, A240, H⟩ := H
                        replace H : (if t127 = true then (conf_Check.l0 k2 l0_7 (l0_7.length : Int) (wrap64 (x35_2 + 1))) else (some 3)) = some r := H
                        have A24 := Aside0.mk A240
                        clear A240
                        by_cases c25 : t127 = true
                        · subst c25
                          have H1 : (conf_Check.l0 k2 l0_7 (l0_7.length : Int) (wrap64 (x35_2 + 1))) = some r := by rw [if_pos rfl] at H; exact H
                          clear H
                          have H := H1
                          clear H1
                          have H' := Aside0.mk H
                          clear H
                          have p125 : 0 ≤ (x35_2 : Int) := of_decide_eq_true (by first | (with_reducible assumption) | assumption)
                          have q125 : x35_2 < (l0_7.length : Int) := of_decide_eq_true (by first | (with_reducible assumption) | assumption)
                          obtain ⟨ad125, e125, hx125_0, hx125_1, hx125_2⟩ := at_T40 HR0_7.out x35_2 p125 q125
                          cases e125
                          replace hx125_0 := (HB.out.cell (World.block_lt_of_cell? w _ hx125_0)).trans hx125_0
                          replace hx125_1 := (HB.out.cell (World.block_lt_of_cell? w _ hx125_1)).trans hx125_1
                          replace hx125_2 := (HB.out.cell (World.block_lt_of_cell? w _ hx125_2)).trans hx125_2
                          replace p125 := eq_true p125
                          replace q125 := eq_true q125
                          go_wp2_with (first | ((with_reducible refine gate_dst (N := 4) rfl ?_); refine box_event ?hg (N := 4) ?hd (cs := #[.int .u8 0, .int .u32 0, .bool false]) (t := 40) ?hr ?_; (case hd => rfl); (case hg => rfl); (case hr => first | (go_simp; done) | (go_simp; rfl)); intro gb126 hg w26 hbox hb; have n0_ := Aside0.mk (blk_below (g := gb120) (o := .cells #[.int .u64 a0_0, .int .u16 a0_1, .int .i64 a0_2, .int .i64 a0_3, .int .i64 a0_4, .int .i64 a0_5, .int .i64 a0_6, .slice (some ad125) l0_7.length c0_7] 27 (0, 0)) (by (with_reducible repeat (first | refine blk_drewN ?_ _ | refine blk_drew ?_ | refine blk_alloc ?_ _)); exact BK120.out) hb); have n1_ := Aside0.mk (below_step (by repeat (first | (with_reducible first | exact HB.out | apply below_alloc | apply pw_below_drewN | apply below_drew1 | refine below_set ?_ GE120.out) | exact HB.out)) hb); have n2_ := Aside0.mk (hbox); have n3_ := Aside0.mk ((by rw [hg]; exact (below_size (by repeat (first | (with_reducible first | exact HB.out | apply below_alloc | apply pw_below_drewN | apply below_drew1 | refine below_set ?_ GE120.out) | exact HB.out))) : w.heap.size ≤ gb126)); have n4_ := Aside0.mk ((by rw [hg]; exact (below_size (by repeat (first | (with_reducible first | exact HB.out | apply below_alloc | apply pw_below_drewN | apply below_drew1 | refine below_set ?_ GE120.out) | exact HB.out))) : w.heap.size ≤ gb126)); have n5_ := Aside0.mk ((by rw [hg]; exact Nat.ne_of_lt (blk_lt (g := gb120) (o := .cells #[.int .u64 a0_0, .int .u16 a0_1, .int .i64 a0_2, .int .i64 a0_3, .int .i64 a0_4, .int .i64 a0_5, .int .i64 a0_6, .slice (some ad125) l0_7.length c0_7] 27 (0, 0)) (by (with_reducible repeat (first | refine blk_drewN ?_ _ | refine blk_drew ?_ | refine blk_alloc ?_ _)); exact BK120.out)) : gb120 ≠ gb126)); have n6_ := Aside0.mk ((by rw [hg]; exact Nat.ne_of_gt (blk_lt (g := gb120) (o := .cells #[.int .u64 a0_0, .int .u16 a0_1, .int .i64 a0_2, .int .i64 a0_3, .int .i64 a0_4, .int .i64 a0_5, .int .i64 a0_6, .slice (some ad125) l0_7.length c0_7] 27 (0, 0)) (by (with_reducible repeat (first | refine blk_drewN ?_ _ | refine blk_drew ?_ | refine blk_alloc ?_ _)); exact BK120.out)) : gb126 ≠ gb120)); clear BK120; clear HB; have BK120 := n0_; have HB := n1_; have BK126 := n2_; have GW126 := n3_; have GE126 := n4_; have NB120_126 := n5_; have NB126_120 := n6_; clear n0_ n1_ n2_ n3_ n4_ n5_ n6_; clear hb hbox hg; have hnb27 := NB126_120.out; have hnc27 := NB120_126.out; have hcz28_0 : w26.cell? ⟨gb126, 0, none⟩ = some (.int .u8 0) := (blk_cell BK126.out 0).trans rfl; have hcz28_1 : w26.cell? ⟨gb126, 1, none⟩ = some (.int .u32 0) := (blk_cell BK126.out 1).trans rfl; have hcz28_2 : w26.cell? ⟨gb126, 2, none⟩ = some (.bool false) := (blk_cell BK126.out 2).trans rfl; have hfz28_0 := blk_frozen BK126.out 0; have hfz28_1 := blk_frozen BK126.out 1; have hfz28_2 := blk_frozen BK126.out 2) | ((with_reducible refine gate_callee (f := 22) rfl ?_); refine goesL_ (some 40) rfl rfl Try.func22 (by kernel_rfl) rfl #[.agg #[.int .u8 ((rd_T40 l0_7 x35_2).f0), .int .u32 ((rd_T40 l0_7 x35_2).f1), .bool ((rd_T40 l0_7 x35_2).f2)]] rfl (by (try simp only [List.map_toArray, List.map_cons, List.map_nil]); first | done | rfl | (simp only [List.length_drop, List.length_take]; rfl)) ?_; (with_reducible refine (conf_Port.calls ((rd_T40 l0_7 x35_2).f0) ((rd_T40 l0_7 x35_2).f1) ((rd_T40 l0_7 x35_2).f2) true _ A24.out).mono ?_); rintro e w29 ⟨rfl, hb⟩; refine ⟨_, rfl, ?_⟩; have n0_ := Aside0.mk (blk_below (g := gb120) (o := .cells #[.int .u64 a0_0, .int .u16 a0_1, .int .i64 a0_2, .int .i64 a0_3, .int .i64 a0_4, .int .i64 a0_5, .int .i64 a0_6, .slice (some ad125) l0_7.length c0_7] 27 (0, 0)) (by (with_reducible repeat (first | refine blk_drewN ?_ _ | refine blk_drew ?_ | refine blk_alloc ?_ _)); refine blk_far ?_ NB120_126.out _; (with_reducible repeat (first | refine blk_drewN ?_ _ | refine blk_drew ?_ | refine blk_alloc ?_ _)); refine blk_far ?_ NB120_126.out _; (with_reducible repeat (first | refine blk_drewN ?_ _ | refine blk_drew ?_ | refine blk_alloc ?_ _)); refine blk_far ?_ NB120_126.out _; (with_reducible repeat (first | refine blk_drewN ?_ _ | refine blk_drew ?_ | refine blk_alloc ?_ _)); exact BK120.out) hb); have n1_ := Aside0.mk (blk_below (g := gb126) (o := .cells #[.int .u8 ((rd_T40 l0_7 x35_2).f0), .int .u32 ((rd_T40 l0_7 x35_2).f1), .bool ((rd_T40 l0_7 x35_2).f2)] 40 (0, 0)) (by (with_reducible repeat (first | refine blk_drewN ?_ _ | refine blk_drew ?_ | refine blk_alloc ?_ _)); refine blk_put (cs := #[.int .u8 ((rd_T40 l0_7 x35_2).f0), .int .u32 ((rd_T40 l0_7 x35_2).f1), .bool false]) ?_ 2 _ rfl; (with_reducible repeat (first | refine blk_drewN ?_ _ | refine blk_drew ?_ | refine blk_alloc ?_ _)); refine blk_put (cs := #[.int .u8 ((rd_T40 l0_7 x35_2).f0), .int .u32 0, .bool false]) ?_ 1 _ rfl; (with_reducible repeat (first | refine blk_drewN ?_ _ | refine blk_drew ?_ | refine blk_alloc ?_ _)); refine blk_put (cs := #[.int .u8 0, .int .u32 0, .bool false]) ?_ 0 _ rfl; (with_reducible repeat (first | refine blk_drewN ?_ _ | refine blk_drew ?_ | refine blk_alloc ?_ _)); exact BK126.out) hb); have n2_ := Aside0.mk (below_step (by repeat (first | (with_reducible first | exact HB.out | apply below_alloc | apply pw_below_drewN | apply below_drew1 | refine below_set ?_ GE120.out | refine below_set ?_ GE126.out) | exact HB.out)) hb); clear BK120; clear BK126; clear HB; have BK120 := n0_; have BK126 := n1_; have HB := n2_; clear n0_ n1_ n2_; (try clear hb); (try clear hb2); (try clear hk); (try clear hi)) | (go_at_call 22; (with_reducible refine (conf_Port.calls ((rd_T40 l0_7 x35_2).f0) ((rd_T40 l0_7 x35_2).f1) ((rd_T40 l0_7 x35_2).f2) true _ A24.out).mono ?_); rintro e w29 ⟨rfl, hb⟩; have n0_ := Aside0.mk (blk_below (g := gb120) (o := .cells #[.int .u64 a0_0, .int .u16 a0_1, .int .i64 a0_2, .int .i64 a0_3, .int .i64 a0_4, .int .i64 a0_5, .int .i64 a0_6, .slice (some ad125) l0_7.length c0_7] 27 (0, 0)) (by (with_reducible repeat (first | refine blk_drewN ?_ _ | refine blk_drew ?_ | refine blk_alloc ?_ _)); refine blk_far ?_ NB120_126.out _; (with_reducible repeat (first | refine blk_drewN ?_ _ | refine blk_drew ?_ | refine blk_alloc ?_ _)); refine blk_far ?_ NB120_126.out _; (with_reducible repeat (first | refine blk_drewN ?_ _ | refine blk_drew ?_ | refine blk_alloc ?_ _)); refine blk_far ?_ NB120_126.out _; (with_reducible repeat (first | refine blk_drewN ?_ _ | refine blk_drew ?_ | refine blk_alloc ?_ _)); exact BK120.out) hb); have n1_ := Aside0.mk (blk_below (g := gb126) (o := .cells #[.int .u8 ((rd_T40 l0_7 x35_2).f0), .int .u32 ((rd_T40 l0_7 x35_2).f1), .bool ((rd_T40 l0_7 x35_2).f2)] 40 (0, 0)) (by (with_reducible repeat (first | refine blk_drewN ?_ _ | refine blk_drew ?_ | refine blk_alloc ?_ _)); refine blk_put (cs := #[.int .u8 ((rd_T40 l0_7 x35_2).f0), .int .u32 ((rd_T40 l0_7 x35_2).f1), .bool false]) ?_ 2 _ rfl; (with_reducible repeat (first | refine blk_drewN ?_ _ | refine blk_drew ?_ | refine blk_alloc ?_ _)); refine blk_put (cs := #[.int .u8 ((rd_T40 l0_7 x35_2).f0), .int .u32 0, .bool false]) ?_ 1 _ rfl; (with_reducible repeat (first | refine blk_drewN ?_ _ | refine blk_drew ?_ | refine blk_alloc ?_ _)); refine blk_put (cs := #[.int .u8 0, .int .u32 0, .bool false]) ?_ 0 _ rfl; (with_reducible repeat (first | refine blk_drewN ?_ _ | refine blk_drew ?_ | refine blk_alloc ?_ _)); exact BK126.out) hb); have n2_ := Aside0.mk (below_step (by repeat (first | (with_reducible first | exact HB.out | apply below_alloc | apply pw_below_drewN | apply below_drew1 | refine below_set ?_ GE120.out | refine below_set ?_ GE126.out) | exact HB.out)) hb); clear BK120; clear BK126; clear HB; have BK120 := n0_; have BK126 := n1_; have HB := n2_; clear n0_ n1_ n2_; (try clear hb); (try clear hb2); (try clear hk); (try clear hi)))
                          go_roundg k2
                          case measure => have := HJ4.out; have := HK2.out; omega
                          case rel => exact ⟨(wrap64 (x35_2 + 1)), (by first | rfl | (simp; done) | (simp [*]; done)), H', ⟨by have := HJ4.out; have := HK2.out; omega⟩, ⟨by (with_reducible repeat (first | refine blk_drewN ?_ _ | refine blk_drew ?_ | refine blk_alloc ?_ _)); exact BK120.out⟩, ⟨by repeat (first | (with_reducible first | exact HB.out | apply below_alloc | apply pw_below_drewN | apply below_drew1 | refine below_set ?_ GE120.out | refine below_set ?_ GE126.out) | exact HB.out)⟩⟩
                        · replace c25 := Bool.eq_false_iff.mpr c25
                          subst c25
                          have H1 : (some 3) = some r := by rw [if_neg (show ¬ (false = true) by decide)] at H; exact H
                          clear H
                          have H := H1
                          clear H1
                          obtain rfl := Option.some.inj H
                          have p125 : 0 ≤ (x35_2 : Int) := of_decide_eq_true (by first | (with_reducible assumption) | assumption)
                          have q125 : x35_2 < (l0_7.length : Int) := of_decide_eq_true (by first | (with_reducible assumption) | assumption)
                          obtain ⟨ad125, e125, hx125_0, hx125_1, hx125_2⟩ := at_T40 HR0_7.out x35_2 p125 q125
                          cases e125
                          replace hx125_0 := (HB.out.cell (World.block_lt_of_cell? w _ hx125_0)).trans hx125_0
                          replace hx125_1 := (HB.out.cell (World.block_lt_of_cell? w _ hx125_1)).trans hx125_1
                          replace hx125_2 := (HB.out.cell (World.block_lt_of_cell? w _ hx125_2)).trans hx125_2
                          replace p125 := eq_true p125
                          replace q125 := eq_true q125
                          go_wp2_with (first | ((with_reducible refine gate_dst (N := 4) rfl ?_); refine box_event ?hg (N := 4) ?hd (cs := #[.int .u8 0, .int .u32 0, .bool false]) (t := 40) ?hr ?_; (case hd => rfl); (case hg => rfl); (case hr => first | (go_simp; done) | (go_simp; rfl)); intro gb126 hg w30 hbox hb; have n0_ := Aside0.mk (blk_below (g := gb120) (o := .cells #[.int .u64 a0_0, .int .u16 a0_1, .int .i64 a0_2, .int .i64 a0_3, .int .i64 a0_4, .int .i64 a0_5, .int .i64 a0_6, .slice (some ad125) l0_7.length c0_7] 27 (0, 0)) (by (with_reducible repeat (first | refine blk_drewN ?_ _ | refine blk_drew ?_ | refine blk_alloc ?_ _)); exact BK120.out) hb); have n1_ := Aside0.mk (below_step (by repeat (first | (with_reducible first | exact HB.out | apply below_alloc | apply pw_below_drewN | apply below_drew1 | refine below_set ?_ GE120.out) | exact HB.out)) hb); have n2_ := Aside0.mk (hbox); have n3_ := Aside0.mk ((by rw [hg]; exact (below_size (by repeat (first | (with_reducible first | exact HB.out | apply below_alloc | apply pw_below_drewN | apply below_drew1 | refine below_set ?_ GE120.out) | exact HB.out))) : w.heap.size ≤ gb126)); have n4_ := Aside0.mk ((by rw [hg]; exact (below_size (by repeat (first | (with_reducible first | exact HB.out | apply below_alloc | apply pw_below_drewN | apply below_drew1 | refine below_set ?_ GE120.out) | exact HB.out))) : w.heap.size ≤ gb126)); have n5_ := Aside0.mk ((by rw [hg]; exact Nat.ne_of_lt (blk_lt (g := gb120) (o := .cells #[.int .u64 a0_0, .int .u16 a0_1, .int .i64 a0_2, .int .i64 a0_3, .int .i64 a0_4, .int .i64 a0_5, .int .i64 a0_6, .slice (some ad125) l0_7.length c0_7] 27 (0, 0)) (by (with_reducible repeat (first | refine blk_drewN ?_ _ | refine blk_drew ?_ | refine blk_alloc ?_ _)); exact BK120.out)) : gb120 ≠ gb126)); have n6_ := Aside0.mk ((by rw [hg]; exact Nat.ne_of_gt (blk_lt (g := gb120) (o := .cells #[.int .u64 a0_0, .int .u16 a0_1, .int .i64 a0_2, .int .i64 a0_3, .int .i64 a0_4, .int .i64 a0_5, .int .i64 a0_6, .slice (some ad125) l0_7.length c0_7] 27 (0, 0)) (by (with_reducible repeat (first | refine blk_drewN ?_ _ | refine blk_drew ?_ | refine blk_alloc ?_ _)); exact BK120.out)) : gb126 ≠ gb120)); clear BK120; clear HB; have BK120 := n0_; have HB := n1_; have BK126 := n2_; have GW126 := n3_; have GE126 := n4_; have NB120_126 := n5_; have NB126_120 := n6_; clear n0_ n1_ n2_ n3_ n4_ n5_ n6_; clear hb hbox hg; have hnb31 := NB126_120.out; have hnc31 := NB120_126.out; have hcz32_0 : w30.cell? ⟨gb126, 0, none⟩ = some (.int .u8 0) := (blk_cell BK126.out 0).trans rfl; have hcz32_1 : w30.cell? ⟨gb126, 1, none⟩ = some (.int .u32 0) := (blk_cell BK126.out 1).trans rfl; have hcz32_2 : w30.cell? ⟨gb126, 2, none⟩ = some (.bool false) := (blk_cell BK126.out 2).trans rfl; have hfz32_0 := blk_frozen BK126.out 0; have hfz32_1 := blk_frozen BK126.out 1; have hfz32_2 := blk_frozen BK126.out 2) | ((with_reducible refine gate_callee (f := 22) rfl ?_); refine goesL_ (some 40) rfl rfl Try.func22 (by kernel_rfl) rfl #[.agg #[.int .u8 ((rd_T40 l0_7 x35_2).f0), .int .u32 ((rd_T40 l0_7 x35_2).f1), .bool ((rd_T40 l0_7 x35_2).f2)]] rfl (by (try simp only [List.map_toArray, List.map_cons, List.map_nil]); first | done | rfl | (simp only [List.length_drop, List.length_take]; rfl)) ?_; (with_reducible refine (conf_Port.calls ((rd_T40 l0_7 x35_2).f0) ((rd_T40 l0_7 x35_2).f1) ((rd_T40 l0_7 x35_2).f2) false _ A24.out).mono ?_); rintro e w33 ⟨rfl, hb⟩; refine ⟨_, rfl, ?_⟩; have n0_ := Aside0.mk (blk_below (g := gb120) (o := .cells #[.int .u64 a0_0, .int .u16 a0_1, .int .i64 a0_2, .int .i64 a0_3, .int .i64 a0_4, .int .i64 a0_5, .int .i64 a0_6, .slice (some ad125) l0_7.length c0_7] 27 (0, 0)) (by (with_reducible repeat (first | refine blk_drewN ?_ _ | refine blk_drew ?_ | refine blk_alloc ?_ _)); refine blk_far ?_ NB120_126.out _; (with_reducible repeat (first | refine blk_drewN ?_ _ | refine blk_drew ?_ | refine blk_alloc ?_ _)); refine blk_far ?_ NB120_126.out _; (with_reducible repeat (first | refine blk_drewN ?_ _ | refine blk_drew ?_ | refine blk_alloc ?_ _)); refine blk_far ?_ NB120_126.out _; (with_reducible repeat (first | refine blk_drewN ?_ _ | refine blk_drew ?_ | refine blk_alloc ?_ _)); exact BK120.out) hb); have n1_ := Aside0.mk (blk_below (g := gb126) (o := .cells #[.int .u8 ((rd_T40 l0_7 x35_2).f0), .int .u32 ((rd_T40 l0_7 x35_2).f1), .bool ((rd_T40 l0_7 x35_2).f2)] 40 (0, 0)) (by (with_reducible repeat (first | refine blk_drewN ?_ _ | refine blk_drew ?_ | refine blk_alloc ?_ _)); refine blk_put (cs := #[.int .u8 ((rd_T40 l0_7 x35_2).f0), .int .u32 ((rd_T40 l0_7 x35_2).f1), .bool false]) ?_ 2 _ rfl; (with_reducible repeat (first | refine blk_drewN ?_ _ | refine blk_drew ?_ | refine blk_alloc ?_ _)); refine blk_put (cs := #[.int .u8 ((rd_T40 l0_7 x35_2).f0), .int .u32 0, .bool false]) ?_ 1 _ rfl; (with_reducible repeat (first | refine blk_drewN ?_ _ | refine blk_drew ?_ | refine blk_alloc ?_ _)); refine blk_put (cs := #[.int .u8 0, .int .u32 0, .bool false]) ?_ 0 _ rfl; (with_reducible repeat (first | refine blk_drewN ?_ _ | refine blk_drew ?_ | refine blk_alloc ?_ _)); exact BK126.out) hb); have n2_ := Aside0.mk (below_step (by repeat (first | (with_reducible first | exact HB.out | apply below_alloc | apply pw_below_drewN | apply below_drew1 | refine below_set ?_ GE120.out | refine below_set ?_ GE126.out) | exact HB.out)) hb); clear BK120; clear BK126; clear HB; have BK120 := n0_; have BK126 := n1_; have HB := n2_; clear n0_ n1_ n2_; (try clear hb); (try clear hb2); (try clear hk); (try clear hi)) | (go_at_call 22; (with_reducible refine (conf_Port.calls ((rd_T40 l0_7 x35_2).f0) ((rd_T40 l0_7 x35_2).f1) ((rd_T40 l0_7 x35_2).f2) false _ A24.out).mono ?_); rintro e w33 ⟨rfl, hb⟩; have n0_ := Aside0.mk (blk_below (g := gb120) (o := .cells #[.int .u64 a0_0, .int .u16 a0_1, .int .i64 a0_2, .int .i64 a0_3, .int .i64 a0_4, .int .i64 a0_5, .int .i64 a0_6, .slice (some ad125) l0_7.length c0_7] 27 (0, 0)) (by (with_reducible repeat (first | refine blk_drewN ?_ _ | refine blk_drew ?_ | refine blk_alloc ?_ _)); refine blk_far ?_ NB120_126.out _; (with_reducible repeat (first | refine blk_drewN ?_ _ | refine blk_drew ?_ | refine blk_alloc ?_ _)); refine blk_far ?_ NB120_126.out _; (with_reducible repeat (first | refine blk_drewN ?_ _ | refine blk_drew ?_ | refine blk_alloc ?_ _)); refine blk_far ?_ NB120_126.out _; (with_reducible repeat (first | refine blk_drewN ?_ _ | refine blk_drew ?_ | refine blk_alloc ?_ _)); exact BK120.out) hb); have n1_ := Aside0.mk (blk_below (g := gb126) (o := .cells #[.int .u8 ((rd_T40 l0_7 x35_2).f0), .int .u32 ((rd_T40 l0_7 x35_2).f1), .bool ((rd_T40 l0_7 x35_2).f2)] 40 (0, 0)) (by (with_reducible repeat (first | refine blk_drewN ?_ _ | refine blk_drew ?_ | refine blk_alloc ?_ _)); refine blk_put (cs := #[.int .u8 ((rd_T40 l0_7 x35_2).f0), .int .u32 ((rd_T40 l0_7 x35_2).f1), .bool false]) ?_ 2 _ rfl; (with_reducible repeat (first | refine blk_drewN ?_ _ | refine blk_drew ?_ | refine blk_alloc ?_ _)); refine blk_put (cs := #[.int .u8 ((rd_T40 l0_7 x35_2).f0), .int .u32 0, .bool false]) ?_ 1 _ rfl; (with_reducible repeat (first | refine blk_drewN ?_ _ | refine blk_drew ?_ | refine blk_alloc ?_ _)); refine blk_put (cs := #[.int .u8 0, .int .u32 0, .bool false]) ?_ 0 _ rfl; (with_reducible repeat (first | refine blk_drewN ?_ _ | refine blk_drew ?_ | refine blk_alloc ?_ _)); exact BK126.out) hb); have n2_ := Aside0.mk (below_step (by repeat (first | (with_reducible first | exact HB.out | apply below_alloc | apply pw_below_drewN | apply below_drew1 | refine below_set ?_ GE120.out | refine below_set ?_ GE126.out) | exact HB.out)) hb); clear BK120; clear BK126; clear HB; have BK120 := n0_; have BK126 := n1_; have HB := n2_; clear n0_ n1_ n2_; (try clear hb); (try clear hb2); (try clear hk); (try clear hi)))
                          go_ret
                          exact ⟨by first | rfl | (simp [errW_none, errW_some] <;> rfl) | (simp [*, errW_none, errW_some] <;> rfl), by repeat (first | (with_reducible first | exact HB.out | apply below_alloc | apply pw_below_drewN | apply below_drew1 | refine below_set ?_ GE120.out | refine below_set ?_ GE126.out) | exact HB.out)⟩
                      · rw [if_neg c23] at H
                        exact absurd H (by simp)
                    · rw [if_neg c22] at H
                      exact absurd H (by simp)
                  · rw [if_neg c21] at H
                    have c21b0 : decide (x35_2 < (l0_7.length : Int)) = false := decide_eq_false c21
                    clear c21
                    obtain rfl := Option.some.inj H
                    go_wp2
                    go_ret
                    exact ⟨by first | rfl | (simp [errW_none, errW_some] <;> rfl) | (simp [*, errW_none, errW_some] <;> rfl), by repeat (first | (with_reducible first | exact HB.out | apply below_alloc | apply pw_below_drewN | apply below_drew1 | refine below_set ?_ GE120.out) | exact HB.out)⟩
  · replace c3 := Bool.eq_false_iff.mpr c3
    subst c3
    have H1 : (some 1) = some r := by rw [if_neg (show ¬ (false = true) by decide)] at H; exact H
    clear H
    have H := H1
    clear H1
    obtain rfl := Option.some.inj H
    go_enter Try.func19, Try.ntmps19
    go_wp2_with (first | ((with_reducible refine gate_dst (N := 1) rfl ?_); refine box_event ?hg (N := 1) ?hd (cs := #[.int .u64 a0_0, .int .u16 a0_1, .int .i64 a0_2, .int .i64 a0_3, .int .i64 a0_4, .int .i64 a0_5, .int .i64 a0_6, .slice A0_7 l0_7.length c0_7]) (t := 27) ?hr ?_; (case hd => rfl); (case hg => rfl); (case hr => first | (go_simp; done) | (go_simp; rfl)); intro gb120 hg w34 hbox hb; have n0_ := Aside0.mk (below_step (by repeat (first | (with_reducible first | exact HB.out | apply below_alloc | apply pw_below_drewN | apply below_drew1) | exact HB.out)) hb); have n1_ := Aside0.mk (hbox); have n2_ := Aside0.mk ((by rw [hg]; exact (below_size (by repeat (first | (with_reducible first | exact HB.out | apply below_alloc | apply pw_below_drewN | apply below_drew1) | exact HB.out))) : w.heap.size ≤ gb120)); have n3_ := Aside0.mk ((by rw [hg]; exact (below_size (by repeat (first | (with_reducible first | exact HB.out | apply below_alloc | apply pw_below_drewN | apply below_drew1) | exact HB.out))) : w.heap.size ≤ gb120)); clear HB; have HB := n0_; have BK120 := n1_; have GW120 := n2_; have GE120 := n3_; clear n0_ n1_ n2_ n3_; clear hb hbox hg; have hcz35_0 : w34.cell? ⟨gb120, 0, none⟩ = some (.int .u64 a0_0) := (blk_cell BK120.out 0).trans rfl; have hcz35_1 : w34.cell? ⟨gb120, 1, none⟩ = some (.int .u16 a0_1) := (blk_cell BK120.out 1).trans rfl; have hcz35_2 : w34.cell? ⟨gb120, 2, none⟩ = some (.int .i64 a0_2) := (blk_cell BK120.out 2).trans rfl; have hcz35_3 : w34.cell? ⟨gb120, 3, none⟩ = some (.int .i64 a0_3) := (blk_cell BK120.out 3).trans rfl; have hcz35_4 : w34.cell? ⟨gb120, 4, none⟩ = some (.int .i64 a0_4) := (blk_cell BK120.out 4).trans rfl; have hcz35_5 : w34.cell? ⟨gb120, 5, none⟩ = some (.int .i64 a0_5) := (blk_cell BK120.out 5).trans rfl; have hcz35_6 : w34.cell? ⟨gb120, 6, none⟩ = some (.int .i64 a0_6) := (blk_cell BK120.out 6).trans rfl; have hcz35_7 : w34.cell? ⟨gb120, 7, none⟩ = some (.slice A0_7 l0_7.length c0_7) := (blk_cell BK120.out 7).trans rfl; have hfz35_0 := blk_frozen BK120.out 0; have hfz35_1 := blk_frozen BK120.out 1; have hfz35_2 := blk_frozen BK120.out 2; have hfz35_3 := blk_frozen BK120.out 3; have hfz35_4 := blk_frozen BK120.out 4; have hfz35_5 := blk_frozen BK120.out 5; have hfz35_6 := blk_frozen BK120.out 6; have hfz35_7 := blk_frozen BK120.out 7) | ((with_reducible refine gate_callee (f := 34) rfl ?_); refine goesL_ (some 8) rfl rfl Try.func34 (by kernel_rfl) rfl #[.int .u64 a0_0] rfl (by (try simp only [List.map_toArray, List.map_cons, List.map_nil]); first | done | rfl | (simp only [List.length_drop, List.length_take]; rfl)) ?_; (with_reducible refine (ids_Right.calls a0_0 false _ A2.out).mono ?_); rintro e w' ⟨rfl, ⟨nd, rfl⟩⟩; refine ⟨_, rfl, ?_⟩) | (go_at_call 34; (with_reducible refine (ids_Right.calls a0_0 false _ A2.out).mono ?_); rintro e w' ⟨rfl, ⟨nd, rfl⟩⟩))
    go_ret
    exact ⟨by first | rfl | (simp [errW_none, errW_some] <;> rfl) | (simp [*, errW_none, errW_some] <;> rfl), by repeat (first | (with_reducible first | exact HB.out | apply below_alloc | apply pw_below_drewN | apply below_drew1 | refine below_set ?_ GE120.out) | exact HB.out)⟩

end Go.Proofs.Ytahhlbbgjjhncaa.PConfCopies
