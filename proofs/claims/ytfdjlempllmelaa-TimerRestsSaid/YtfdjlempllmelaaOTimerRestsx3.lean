/- What Go functions that the law TimerRests uses come to, and why: part 3. Made out of the kit's print by a program of this session (wip/tools/mend.py), with more rows. -/
import Derived.Test.YtfdjlempllmelaaPTimerRestsx0
import Derived.Test.YtfdjlempllmelaaOTimerRestsx1
import Derived.Test.YtfdjlempllmelaaOTimerRestsx2
namespace Go.Proofs.Ytfdjlempllmelaa.PTimerRests
open Go.RowKit Go.Proofs.YtfdjlempllmelaaW.PrintWords Go.Proofs.YtfdjlempllmelaaW.PrintLast Go.Proofs.YtfdjlempllmelaaW.PrintMore
attribute [local go_sem] max2_int min2_int max_two min_two max_three min_three max_four min_four   -- for this text's walks alone
set_option linter.unusedVariables false
set_option linter.unusedSimpArgs false

attribute [local go_sem high] eqA39
/-! ### treelinelaw09_TimerRests: function 10 -/
def treelinelaw09_TimerRests.l0 : Nat → Int → Int → Int → Bool → Int → Option (Bool)
  | 0, _, _, _, _, _ => none
  | k + 1, x0, x1, x6, x128000, x128001 => if x6 < (wrap64 (x1)) then ((timer_Fire.f x128000 x128001 x0).bind fun bt128 => (if bt128.2.2 = true then (some false) else (if (!(bt128.1 == x128000) || (!(bt128.2.1 == x128001))) = true then (some false) else ((timer_Over.f x128000 x128001 x0).bind fun t132 => (if t132 = true then (some false) else ((timer_Tick.f x128000 x128001).bind fun bt133 => (if (!(bt133.1 == x128000) || (!(bt133.2 == x128001))) = true then (some false) else (treelinelaw09_TimerRests.l0 k x0 x1 (wrap64 (x6 + 1)) bt128.1 bt128.2.1)))))))) else (if x128000 = true then (some false) else (some (x128001 == 0)))
def treelinelaw09_TimerRests.f (k : Nat) (a0 : Int) (a1 : Int) : Option (Bool) := (treelinelaw09_awake.f).bind fun t124 => (if t124 = true then ((timer_Stop.f).bind fun bt125 => (treelinelaw09_TimerRests.l0 k a0 a1 0 bt125.1 bt125.2)) else (some false))
theorem treelinelaw09_TimerRests.mono_l : ∀ k, (∀ y0 y1 y2 y3 y4, LeO (treelinelaw09_TimerRests.l0 k y0 y1 y2 y3 y4) (treelinelaw09_TimerRests.l0 (k + 1) y0 y1 y2 y3 y4))
  | 0 => fun _ _ _ _ _ r h => by simp [treelinelaw09_TimerRests.l0] at h
  | k + 1 => by
    have ih0 := treelinelaw09_TimerRests.mono_l k
    · intro y0 y1 y2 y3 y4
      unfold treelinelaw09_TimerRests.l0
      repeat' first
      | (with_reducible exact ih0 _ _ _ _ _)
      | (with_reducible exact LeO.refl _)
      | (with_reducible exact LeO.none _)
      | (with_reducible refine LeO.ite ?_ ?_)
      | (with_reducible refine LeO.bind ?_ (fun _ => ?_))
      | exact ih0 _ _ _ _ _
      | exact LeO.none _
      | refine LeO.ite ?_ ?_
      | refine LeO.bind ?_ (fun _ => ?_)
theorem treelinelaw09_TimerRests.mono : ∀ a0 a1 k, LeO (treelinelaw09_TimerRests.f k a0 a1) (treelinelaw09_TimerRests.f (k + 1) a0 a1) := by
  intro a0 a1 k
  have ih0 := treelinelaw09_TimerRests.mono_l k
  unfold treelinelaw09_TimerRests.f
  repeat' first
      | (with_reducible exact ih0 _ _ _ _ _)
      | (with_reducible exact LeO.refl _)
      | (with_reducible exact LeO.none _)
      | (with_reducible refine LeO.ite ?_ ?_)
      | (with_reducible refine LeO.bind ?_ (fun _ => ?_))
      | exact ih0 _ _ _ _ _
      | exact LeO.none _
      | refine LeO.ite ?_ ?_
      | refine LeO.bind ?_ (fun _ => ?_)
def treelinelaw09_TimerRests.T8 : Bool × List (List Nat × List Nat) := (true, [([], []), ([0], [0]), ([1], [1]), ([1], [1]), ([2, 3, 1], [1, 2, 3]), ([1, 4], [1, 4]), ([5, 1], [5]), ([6], [6]), ([6], [6]), ([7, 8, 6, 6], [6, 7, 8]), ([6, 9], [6, 9]), ([10, 9], [10]), ([11], [11]), ([12, 11, 11], [11, 12]), ([11], [11]), ([13, 14, 11], [11, 13, 14]), ([11, 15], [11, 15])])
def treelinelaw09_TimerRests.B8 : List Nat := [0, 1, 3, 3, 15, 31, 63, 127, 127, 511, 1023, 2047, 4095, 8191, 4095, 32767, 65535]
theorem treelinelaw09_TimerRests.tab8 : rtab .any (opsOf Try.f10 8) = treelinelaw09_TimerRests.T8 := by kernel_rfl
theorem treelinelaw09_TimerRests.bits8 : waitsOk treelinelaw09_TimerRests.T8.2 treelinelaw09_TimerRests.B8 = true := by kernel_rfl
set_option maxHeartbeats 8000000 in
set_option maxRecDepth 100000 in
theorem treelinelaw09_TimerRests.calls (k : Nat) (a0 : Int) (a1 : Int) (r : Bool) (w : World) (h : treelinelaw09_TimerRests.f k a0 a1 = some r) (LRT : Aside0 (r = true)) :
    Calls Try.prog 10 #[.int .i64 a0, .int .u8 a1] w fun e w' => e = .returned (.bool r) ∧ Below w.heap.size w w' := by
  have hu39 := Try.underlying39
  have HB := Aside0.mk (Below.refl w.heap.size w)
  have H : ((treelinelaw09_awake.f).bind fun t124 => (if t124 = true then ((timer_Stop.f).bind fun bt125 => (treelinelaw09_TimerRests.l0 k a0 a1 0 bt125.1 bt125.2)) else (some false))) = some r := h
  clear h
  replace H := Option.bind_eq_some_iff.mp H
  obtain ⟨t124, A30, H⟩ := H
  replace H : (if t124 = true then ((timer_Stop.f).bind fun bt125 => (treelinelaw09_TimerRests.l0 k a0 a1 0 bt125.1 bt125.2)) else (some false)) = some r := H
  have A3 := Aside0.mk A30
  clear A30
  by_cases c4 : t124 = true
  · subst c4
    have H1 : ((timer_Stop.f).bind fun bt125 => (treelinelaw09_TimerRests.l0 k a0 a1 0 bt125.1 bt125.2)) = some r := by rw [if_pos rfl] at H; exact H
    clear H
    have H := H1
    clear H1
    replace H := Option.bind_eq_some_iff.mp H
    obtain ⟨⟨t125, t126⟩, A50, H⟩ := H
    replace H : (treelinelaw09_TimerRests.l0 k a0 a1 0 t125 t126) = some r := H
    have A5 := Aside0.mk A50
    clear A50
    have H' := Aside0.mk H
    clear H
    go_enter Try.func10, Try.ntmps10
    go_wp2_with (first | ((with_reducible refine gate_callee (f := 22) rfl ?_); refine goesL_ (some 9) rfl rfl Try.func22 (by kernel_rfl) rfl #[] rfl (by (try simp only [List.map_toArray, List.map_cons, List.map_nil]); first | done | rfl | (simp only [List.length_drop, List.length_take]; rfl)) ?_; (with_reducible refine (treelinelaw09_awake.calls  true _ A3.out).mono ?_); rintro e w6 ⟨rfl, hb⟩; refine ⟨_, rfl, ?_⟩; have n0_ := Aside0.mk (below_step (by repeat (first | (with_reducible first | exact HB.out | apply below_alloc | apply pw_below_drewN | apply below_drew1) | exact HB.out)) hb); clear HB; have HB := n0_; clear n0_; (try clear hb); (try clear hb2); (try clear hk); (try clear hi)) | ((with_reducible refine gate_callee (f := 23) rfl ?_); refine goesL_ (some 11) rfl rfl Try.func23 (by kernel_rfl) rfl #[] rfl (by (try simp only [List.map_toArray, List.map_cons, List.map_nil]); first | done | rfl | (simp only [List.length_drop, List.length_take]; rfl)) ?_; (with_reducible refine (timer_Stop.calls  t125 t126 _ A5.out).mono ?_); rintro e w7 ⟨rfl, hb⟩; refine ⟨_, rfl, ?_⟩; have n0_ := Aside0.mk (below_step (by repeat (first | (with_reducible first | exact HB.out | apply below_alloc | apply pw_below_drewN | apply below_drew1) | exact HB.out)) hb); clear HB; have HB := n0_; clear n0_; (try clear hb); (try clear hb2); (try clear hk); (try clear hi)) | ((with_reducible refine gate_dst (N := 5) rfl ?_); refine box_event ?hg (N := 5) ?hd (cs := #[.bool false, .int .i64 0]) (t := 39) ?hr ?_; (case hd => rfl); (case hg => rfl); (case hr => first | (go_simp; done) | (go_simp; rfl)); intro gb127 hg w8 hbox hb; have n0_ := Aside0.mk (below_step (by repeat (first | (with_reducible first | exact HB.out | apply below_alloc | apply pw_below_drewN | apply below_drew1) | exact HB.out)) hb); have n1_ := Aside0.mk (hbox); have n2_ := Aside0.mk ((by rw [hg]; exact (below_size (by repeat (first | (with_reducible first | exact HB.out | apply below_alloc | apply pw_below_drewN | apply below_drew1) | exact HB.out))) : w.heap.size ≤ gb127)); have n3_ := Aside0.mk ((by rw [hg]; exact (below_size (by repeat (first | (with_reducible first | exact HB.out | apply below_alloc | apply pw_below_drewN | apply below_drew1) | exact HB.out))) : w.heap.size ≤ gb127)); clear HB; have HB := n0_; have BK127 := n1_; have GW127 := n2_; have GE127 := n3_; clear n0_ n1_ n2_ n3_; clear hb hbox hg; have hcz9_0 : w8.cell? ⟨gb127, 0, none⟩ = some (.bool false) := (blk_cell BK127.out 0).trans rfl; have hcz9_1 : w8.cell? ⟨gb127, 1, none⟩ = some (.int .i64 0) := (blk_cell BK127.out 1).trans rfl; have hfz9_0 := blk_frozen BK127.out 0; have hfz9_1 := blk_frozen BK127.out 1) | (go_at_call 22; (with_reducible refine (treelinelaw09_awake.calls  true _ A3.out).mono ?_); rintro e w6 ⟨rfl, hb⟩; have n0_ := Aside0.mk (below_step (by repeat (first | (with_reducible first | exact HB.out | apply below_alloc | apply pw_below_drewN | apply below_drew1) | exact HB.out)) hb); clear HB; have HB := n0_; clear n0_; (try clear hb); (try clear hb2); (try clear hk); (try clear hi)) | (go_at_call 23; (with_reducible refine (timer_Stop.calls  t125 t126 _ A5.out).mono ?_); rintro e w7 ⟨rfl, hb⟩; have n0_ := Aside0.mk (below_step (by repeat (first | (with_reducible first | exact HB.out | apply below_alloc | apply pw_below_drewN | apply below_drew1) | exact HB.out)) hb); clear HB; have HB := n0_; clear n0_; (try clear hb); (try clear hb2); (try clear hk); (try clear hi)))
    go_loopg [6] k (fun kq v6 w' => ∃ (x6_1 : Int) (x128000_1 : Bool) (x128001_1 : Int), v6 = .int .i64 x6_1 ∧ Aside0 (treelinelaw09_TimerRests.l0 kq a0 a1 x6_1 x128000_1 x128001_1 = some r) ∧ Aside0 (kq ≤ k) ∧ Aside0 (w'.heap[gb127]? = some (.cells #[.bool x128000_1, .int .i64 x128001_1] 39 (0, 0))) ∧ Aside0 (Below w.heap.size w w'))
    case atStart => exact ⟨(0), (t125), (t126), (by first | rfl | (simp; done) | (simp [*]; done)), H', ⟨Nat.le_refl _⟩, ⟨by (with_reducible repeat (first | refine blk_drewN ?_ _ | refine blk_drew ?_ | refine blk_alloc ?_ _)); refine blk_put (cs := #[.bool t125, .int .i64 0]) ?_ 1 _ rfl; (with_reducible repeat (first | refine blk_drewN ?_ _ | refine blk_drew ?_ | refine blk_alloc ?_ _)); refine blk_put (cs := #[.bool false, .int .i64 0]) ?_ 0 _ rfl; (with_reducible repeat (first | refine blk_drewN ?_ _ | refine blk_drew ?_ | refine blk_alloc ?_ _)); exact BK127.out⟩, ⟨by repeat (first | (with_reducible first | exact HB.out | apply below_alloc | apply pw_below_drewN | apply below_drew1 | refine below_set ?_ GE127.out) | exact HB.out)⟩⟩
    case round =>
      clear H'
      try clear c1
      try clear c2
      try clear p2
      try clear c4
      try clear hcz9_0
      try clear hcz9_1
      try clear hfz9_0
      try clear hfz9_1
      obtain ⟨x6_1, x128000_1, x128001_1, rfl, HA, HK1, BK127, HB⟩ := hrel
      cases gk with
      | zero => exact absurd HA.out (by simp [treelinelaw09_TimerRests.l0])
      | succ k1 =>
        have H := HA.out
        clear HA
        simp only [treelinelaw09_TimerRests.l0] at H
        by_cases c10 : x6_1 < (wrap64 (a1))
        · rw [if_pos c10] at H
          have c10b0 : decide (x6_1 < (wrap64 (a1))) = true := decide_eq_true c10
          clear c10
          replace H := Option.bind_eq_some_iff.mp H
          obtain ⟨⟨t128, t129, t130⟩, A110, H⟩ := H
          replace H : (if t130 = true then (some false) else (if (!(t128 == x128000_1) || (!(t129 == x128001_1))) = true then (some false) else ((timer_Over.f x128000_1 x128001_1 a0).bind fun t132 => (if t132 = true then (some false) else ((timer_Tick.f x128000_1 x128001_1).bind fun bt133 => (if (!(bt133.1 == x128000_1) || (!(bt133.2 == x128001_1))) = true then (some false) else (treelinelaw09_TimerRests.l0 k1 a0 a1 (wrap64 (x6_1 + 1)) t128 t129))))))) = some r := H
          have A11 := Aside0.mk A110
          clear A110
          by_cases c12 : t130 = true
          · subst c12
            have H1 : (some false) = some r := by rw [if_pos rfl] at H; exact H
            clear H
            have H := H1
            clear H1
            exact absurd ((Option.some.inj H).trans LRT.out) (by decide)
          · replace c12 := Bool.eq_false_iff.mpr c12
            subst c12
            have H1 : (if (!(t128 == x128000_1) || (!(t129 == x128001_1))) = true then (some false) else ((timer_Over.f x128000_1 x128001_1 a0).bind fun t132 => (if t132 = true then (some false) else ((timer_Tick.f x128000_1 x128001_1).bind fun bt133 => (if (!(bt133.1 == x128000_1) || (!(bt133.2 == x128001_1))) = true then (some false) else (treelinelaw09_TimerRests.l0 k1 a0 a1 (wrap64 (x6_1 + 1)) t128 t129)))))) = some r := by rw [if_neg (show ¬ (false = true) by decide)] at H; exact H
            clear H
            have H := H1
            clear H1
            by_cases c20 : (!(t128 == x128000_1) || (!(t129 == x128001_1))) = true
            · rw [if_pos c20] at H
              have c20b0 : (!(t128 == x128000_1) || (!(t129 == x128001_1))) = true := c20
              clear c20
              exact absurd ((Option.some.inj H).trans LRT.out) (by decide)
            · rw [if_neg c20] at H
              have c20b0 : (!(t128 == x128000_1) || (!(t129 == x128001_1))) = false := by simpa using c20
              clear c20
              replace H := Option.bind_eq_some_iff.mp H
              obtain ⟨t132, A280, H⟩ := H
              replace H : (if t132 = true then (some false) else ((timer_Tick.f x128000_1 x128001_1).bind fun bt133 => (if (!(bt133.1 == x128000_1) || (!(bt133.2 == x128001_1))) = true then (some false) else (treelinelaw09_TimerRests.l0 k1 a0 a1 (wrap64 (x6_1 + 1)) t128 t129)))) = some r := H
              have A28 := Aside0.mk A280
              clear A280
              by_cases c29 : t132 = true
              · subst c29
                have H1 : (some false) = some r := by rw [if_pos rfl] at H; exact H
                clear H
                have H := H1
                clear H1
                exact absurd ((Option.some.inj H).trans LRT.out) (by decide)
              · replace c29 := Bool.eq_false_iff.mpr c29
                subst c29
                have H1 : ((timer_Tick.f x128000_1 x128001_1).bind fun bt133 => (if (!(bt133.1 == x128000_1) || (!(bt133.2 == x128001_1))) = true then (some false) else (treelinelaw09_TimerRests.l0 k1 a0 a1 (wrap64 (x6_1 + 1)) t128 t129))) = some r := by rw [if_neg (show ¬ (false = true) by decide)] at H; exact H
                clear H
                have H := H1
                clear H1
                replace H := Option.bind_eq_some_iff.mp H
                obtain ⟨⟨t133, t134⟩, A380, H⟩ := H
                replace H : (if (!(t133 == x128000_1) || (!(t134 == x128001_1))) = true then (some false) else (treelinelaw09_TimerRests.l0 k1 a0 a1 (wrap64 (x6_1 + 1)) t128 t129)) = some r := H
                have A38 := Aside0.mk A380
                clear A380
                by_cases c39 : (!(t133 == x128000_1) || (!(t134 == x128001_1))) = true
                · rw [if_pos c39] at H
                  have c39b0 : (!(t133 == x128000_1) || (!(t134 == x128001_1))) = true := c39
                  clear c39
                  exact absurd ((Option.some.inj H).trans LRT.out) (by decide)
                · rw [if_neg c39] at H
                  have c39b0 : (!(t133 == x128000_1) || (!(t134 == x128001_1))) = false := by simpa using c39
                  clear c39
                  have H' := Aside0.mk H
                  clear H
                  have hcz49_0 : wr.cell? ⟨gb127, 0, none⟩ = some (.bool x128000_1) := (blk_cell BK127.out 0).trans rfl
                  have hcz49_1 : wr.cell? ⟨gb127, 1, none⟩ = some (.int .i64 x128001_1) := (blk_cell BK127.out 1).trans rfl
                  have hfz49_0 := blk_frozen BK127.out 0
                  have hfz49_1 := blk_frozen BK127.out 1
                  try go_wp2_with (first | ((with_reducible refine gate_callee (f := 30) rfl ?_); refine goesL_ (some 21) rfl rfl Try.func30 (by kernel_rfl) rfl #[.agg #[.bool x128000_1, .int .i64 x128001_1], .int .i64 a0] rfl (by (try simp only [List.map_toArray, List.map_cons, List.map_nil]); first | done | rfl | (simp only [List.length_drop, List.length_take]; rfl)) ?_; (with_reducible refine (timer_Fire.calls x128000_1 x128001_1 a0 t128 t129 false _ A11.out).mono ?_); rintro e w50 ⟨rfl, hb⟩; refine ⟨_, rfl, ?_⟩; have n0_ := Aside0.mk (blk_below (g := gb127) (o := .cells #[.bool x128000_1, .int .i64 x128001_1] 39 (0, 0)) (by (with_reducible repeat (first | refine blk_drewN ?_ _ | refine blk_drew ?_ | refine blk_alloc ?_ _)); exact BK127.out) hb); have n1_ := Aside0.mk (below_step (by repeat (first | (with_reducible first | exact HB.out | apply below_alloc | apply pw_below_drewN | apply below_drew1 | refine below_set ?_ GE127.out) | exact HB.out)) hb); clear BK127; clear HB; have BK127 := n0_; have HB := n1_; clear n0_ n1_; (try clear hb); (try clear hb2); (try clear hk); (try clear hi)) | ((with_reducible refine gate_dst (N := 7) rfl ?_); refine box_event ?hg (N := 7) ?hd (cs := #[.bool false, .int .i64 0]) (t := 39) ?hr ?_; (case hd => rfl); (case hg => rfl); (case hr => first | (go_simp; done) | (go_simp; rfl)); intro gb131 hg w51 hbox hb; have n0_ := Aside0.mk (blk_below (g := gb127) (o := .cells #[.bool x128000_1, .int .i64 x128001_1] 39 (0, 0)) (by (with_reducible repeat (first | refine blk_drewN ?_ _ | refine blk_drew ?_ | refine blk_alloc ?_ _)); exact BK127.out) hb); have n1_ := Aside0.mk (below_step (by repeat (first | (with_reducible first | exact HB.out | apply below_alloc | apply pw_below_drewN | apply below_drew1 | refine below_set ?_ GE127.out) | exact HB.out)) hb); have n2_ := Aside0.mk (hbox); have n3_ := Aside0.mk ((by rw [hg]; exact (below_size (by repeat (first | (with_reducible first | exact HB.out | apply below_alloc | apply pw_below_drewN | apply below_drew1 | refine below_set ?_ GE127.out) | exact HB.out))) : w.heap.size ≤ gb131)); have n4_ := Aside0.mk ((by rw [hg]; exact (below_size (by repeat (first | (with_reducible first | exact HB.out | apply below_alloc | apply pw_below_drewN | apply below_drew1 | refine below_set ?_ GE127.out) | exact HB.out))) : w.heap.size ≤ gb131)); have n5_ := Aside0.mk ((by rw [hg]; exact Nat.ne_of_lt (blk_lt (g := gb127) (o := .cells #[.bool x128000_1, .int .i64 x128001_1] 39 (0, 0)) (by (with_reducible repeat (first | refine blk_drewN ?_ _ | refine blk_drew ?_ | refine blk_alloc ?_ _)); exact BK127.out)) : gb127 ≠ gb131)); have n6_ := Aside0.mk ((by rw [hg]; exact Nat.ne_of_gt (blk_lt (g := gb127) (o := .cells #[.bool x128000_1, .int .i64 x128001_1] 39 (0, 0)) (by (with_reducible repeat (first | refine blk_drewN ?_ _ | refine blk_drew ?_ | refine blk_alloc ?_ _)); exact BK127.out)) : gb131 ≠ gb127)); clear BK127; clear HB; have BK127 := n0_; have HB := n1_; have BK131 := n2_; have GW131 := n3_; have GE131 := n4_; have NB127_131 := n5_; have NB131_127 := n6_; clear n0_ n1_ n2_ n3_ n4_ n5_ n6_; clear hb hbox hg; have hnb52 := NB131_127.out; have hnc52 := NB127_131.out; have hcz53_0 : w51.cell? ⟨gb131, 0, none⟩ = some (.bool false) := (blk_cell BK131.out 0).trans rfl; have hcz53_1 : w51.cell? ⟨gb131, 1, none⟩ = some (.int .i64 0) := (blk_cell BK131.out 1).trans rfl; have hfz53_0 := blk_frozen BK131.out 0; have hfz53_1 := blk_frozen BK131.out 1))
                  have n0_ : Aside0 (((w51.setCell ⟨gb131, 0, none⟩ (.bool t128)).setCell ⟨gb131, 1, none⟩ (.int .i64 t129)).heap[gb127]? = some (.cells #[.bool x128000_1, .int .i64 x128001_1] 39 (0, 0))) := ⟨by (with_reducible repeat (first | refine blk_drewN ?_ _ | refine blk_drew ?_ | refine blk_alloc ?_ _)); refine blk_far ?_ NB127_131.out _; (with_reducible repeat (first | refine blk_drewN ?_ _ | refine blk_drew ?_ | refine blk_alloc ?_ _)); refine blk_far ?_ NB127_131.out _; (with_reducible repeat (first | refine blk_drewN ?_ _ | refine blk_drew ?_ | refine blk_alloc ?_ _)); exact BK127.out⟩
                  have n1_ : Aside0 (((w51.setCell ⟨gb131, 0, none⟩ (.bool t128)).setCell ⟨gb131, 1, none⟩ (.int .i64 t129)).heap[gb131]? = some (.cells #[.bool t128, .int .i64 t129] 39 (0, 0))) := ⟨by (with_reducible repeat (first | refine blk_drewN ?_ _ | refine blk_drew ?_ | refine blk_alloc ?_ _)); refine blk_put (cs := #[.bool t128, .int .i64 0]) ?_ 1 _ rfl; (with_reducible repeat (first | refine blk_drewN ?_ _ | refine blk_drew ?_ | refine blk_alloc ?_ _)); refine blk_put (cs := #[.bool false, .int .i64 0]) ?_ 0 _ rfl; (with_reducible repeat (first | refine blk_drewN ?_ _ | refine blk_drew ?_ | refine blk_alloc ?_ _)); exact BK131.out⟩
                  have n2_ : Aside0 (Below w.heap.size w ((w51.setCell ⟨gb131, 0, none⟩ (.bool t128)).setCell ⟨gb131, 1, none⟩ (.int .i64 t129))) := ⟨by repeat (first | (with_reducible first | exact HB.out | apply below_alloc | apply pw_below_drewN | apply below_drew1 | refine below_set ?_ GE127.out | refine below_set ?_ GE131.out) | exact HB.out)⟩
                  (try clear BK127)
                  (try clear BK131)
                  (try clear HB)
                  generalize ((w51.setCell ⟨gb131, 0, none⟩ (.bool t128)).setCell ⟨gb131, 1, none⟩ (.int .i64 t129)) = w54 at n0_ n1_ n2_ ⊢
                  have BK127 := n0_
                  have BK131 := n1_
                  have HB := n2_
                  clear n0_ n1_ n2_
                  have n0_ := Aside0.mk (blk_drew BK127.out)
                  have n1_ := Aside0.mk (blk_drew BK131.out)
                  have n2_ := Aside0.mk (below_drew1 HB.out)
                  clear BK127
                  clear BK131
                  clear HB
                  have BK127 := n0_
                  have BK131 := n1_
                  have HB := n2_
                  clear n0_ n1_ n2_
                  refine start_ (n := 17) (S := fun w' => w'.cell? ⟨gb131, 0, none⟩ = some (.bool t128) ∧ w'.cell? ⟨gb131, 1, none⟩ = some (.int .i64 t129) ∧ w'.cell? ⟨gb127, 0, none⟩ = some (.bool x128000_1) ∧ w'.cell? ⟨gb127, 1, none⟩ = some (.int .i64 x128001_1)) (ds := []) #[false, false, false, false, false, false, false, false, false, false, false, false, false, false, false, false, false] (by kernel_rfl) rfl rfl ⟨(blk_cell BK131.out 0).trans rfl, (blk_cell BK131.out 1).trans rfl, (blk_cell BK127.out 0).trans rfl, (blk_cell BK127.out 1).trans rfl⟩ (fun hHeld => ?_); refine with_tabW treelinelaw09_TimerRests.tab8 treelinelaw09_TimerRests.bits8 (fun HT_ HW_ => ?_)
                  generalize w54.drew = w55 at BK127 BK131 HB hHeld ⊢
                  refine pure_ (i := 0) (N := some 24) (v := ?_) (a' := ?_) #[true, false, false, false, false, false, false, false, false, false, false, false, false, false, false, false, false] rfl rfl (any_of HT_.out (by kernel_rfl)) (fun _ _ _ h => h) (Or.inl ⟨by rfl, ?_⟩) ?_ ?_
                  rotate_left
                  · intro w'
                    go_simp
                    with_reducible rfl
                  rotate_left
                  · simp only [Act.put, List.setIfInBounds_toArray, List.set_cons_zero, List.set_cons_succ, i64_w, i32_w]
                    rfl
                  refine pure_ (i := 1) (N := some 25) (v := ?_) (a' := ?_) #[true, true, false, false, false, false, false, false, false, false, false, false, false, false, false, false, false] rfl rfl (any_of HT_.out (by kernel_rfl)) (fun _ _ _ h => h) (Or.inl ⟨by rfl, ?_⟩) ?_ ?_
                  rotate_left
                  · intro w'
                    go_simp
                    with_reducible rfl
                  rotate_left
                  · simp only [Act.put, List.setIfInBounds_toArray, List.set_cons_zero, List.set_cons_succ, i64_w, i32_w]
                    rfl
                  refine take_ (i := 2) (N := some 26) (v := ?_) (a' := ?_) #[true, true, true, false, false, false, false, false, false, false, false, false, false, false, false, false, false] rfl rfl (take_ofW HT_.out HW_.out (by kernel_rfl)) (fun _ _ _ h => h) (Or.inl ⟨by rfl, ?_⟩) hHeld ?_ ?_
                  rotate_left
                  · rintro w' ⟨s0, s1, s2, s3⟩
                    go_simp
                    with_reducible rfl
                  rotate_left
                  · simp only [Act.put, List.setIfInBounds_toArray, List.set_cons_zero, List.set_cons_succ, i64_w, i32_w]
                    rfl
                  refine take_ (i := 3) (N := some 27) (v := ?_) (a' := ?_) #[true, true, true, true, false, false, false, false, false, false, false, false, false, false, false, false, false] rfl rfl (take_ofW HT_.out HW_.out (by kernel_rfl)) (fun _ _ _ h => h) (Or.inl ⟨by rfl, ?_⟩) hHeld ?_ ?_
                  rotate_left
                  · rintro w' ⟨s0, s1, s2, s3⟩
                    go_simp
                    with_reducible rfl
                  rotate_left
                  · simp only [Act.put, List.setIfInBounds_toArray, List.set_cons_zero, List.set_cons_succ, i64_w, i32_w]
                    rfl
                  refine pure_ (i := 4) (N := some 28) (v := ?_) (a' := ?_) #[true, true, true, true, true, false, false, false, false, false, false, false, false, false, false, false, false] rfl rfl (any_of HT_.out (by kernel_rfl)) (fun _ _ _ h => h) (Or.inl ⟨by rfl, ?_⟩) ?_ ?_
                  rotate_left
                  · intro w'
                    go_simp
                    with_reducible rfl
                  rotate_left
                  · simp only [Act.put, List.setIfInBounds_toArray, List.set_cons_zero, List.set_cons_succ, i64_w, i32_w]
                    rfl
                  refine pure_ (i := 5) (N := some 29) (v := ?_) (a' := ?_) #[true, true, true, true, true, true, false, false, false, false, false, false, false, false, false, false, false] rfl rfl (any_of HT_.out (by kernel_rfl)) (fun _ _ _ h => h) (Or.inl ⟨by rfl, ?_⟩) ?_ ?_
                  rotate_left
                  · intro w'
                    go_simp
                    with_reducible rfl
                  rotate_left
                  · simp only [Act.put, List.setIfInBounds_toArray, List.set_cons_zero, List.set_cons_succ, i64_w, i32_w]
                    rfl
                  refine pure_ (i := 6) (N := some 30) (v := ?_) (a' := ?_) #[true, true, true, true, true, true, true, false, false, false, false, false, false, false, false, false, false] rfl rfl (any_of HT_.out (by kernel_rfl)) (fun _ _ _ h => h) (Or.inl ⟨by rfl, ?_⟩) ?_ ?_
                  rotate_left
                  · intro w'
                    go_simp
                    with_reducible rfl
                  rotate_left
                  · simp only [Act.put, List.setIfInBounds_toArray, List.set_cons_zero, List.set_cons_succ, i64_w, i32_w]
                    rfl
                  refine pure_ (i := 8) (N := some 32) (v := ?_) (a' := ?_) #[true, true, true, true, true, true, true, false, true, false, false, false, false, false, false, false, false] rfl rfl (any_of HT_.out (by kernel_rfl)) (fun _ _ _ h => h) (Or.inl ⟨by rfl, ?_⟩) ?_ ?_
                  rotate_left
                  · intro w'
                    go_simp
                    with_reducible rfl
                  rotate_left
                  · simp only [Act.put, List.setIfInBounds_toArray, List.set_cons_zero, List.set_cons_succ, i64_w, i32_w]
                    rfl
                  refine take_ (i := 7) (N := some 31) (v := ?_) (a' := ?_) #[true, true, true, true, true, true, true, true, true, false, false, false, false, false, false, false, false] rfl rfl (take_ofW HT_.out HW_.out (by kernel_rfl)) (fun _ _ _ h => h) (Or.inl ⟨by rfl, ?_⟩) hHeld ?_ ?_
                  rotate_left
                  · rintro w' ⟨s0, s1, s2, s3⟩
                    go_simp
                    with_reducible rfl
                  rotate_left
                  · simp only [Act.put, List.setIfInBounds_toArray, List.set_cons_zero, List.set_cons_succ, i64_w, i32_w]
                    rfl
                  refine one_ (i := 9) (N := some 33) #[true, true, true, true, true, true, true, true, true, true, false, false, false, false, false, false, false] rfl rfl (one_of HT_.out (by kernel_rfl)) (by decide) (fun K hK => ?_)
                  refine goes_ Try.func26 (by kernel_rfl) rfl #[.agg #[.bool x128000_1, .int .i64 x128001_1], .int .i64 a0] (by rfl) rfl rfl (by (try simp only [List.map_toArray, List.map_cons, List.map_nil]); first | done | rfl | (simp only [List.length_drop, List.length_take]; rfl)) ?_
                  with_reducible refine (timer_Over.calls x128000_1 x128001_1 a0 false _ A28.out).mono ?_
                  rintro e w56 ⟨rfl, hb⟩
                  refine ⟨_, rfl, ?_⟩
                  have n0_ := Aside0.mk (blk_below (g := gb127) (o := .cells #[.bool x128000_1, .int .i64 x128001_1] 39 (0, 0)) (by (with_reducible repeat (first | refine blk_drewN ?_ _ | refine blk_drew ?_ | refine blk_alloc ?_ _)); exact BK127.out) hb)
                  have n1_ := Aside0.mk (blk_below (g := gb131) (o := .cells #[.bool t128, .int .i64 t129] 39 (0, 0)) (by (with_reducible repeat (first | refine blk_drewN ?_ _ | refine blk_drew ?_ | refine blk_alloc ?_ _)); exact BK131.out) hb)
                  have n2_ := Aside0.mk (below_step (by repeat (first | (with_reducible first | exact HB.out | apply below_alloc | apply pw_below_drewN | apply below_drew1 | refine below_set ?_ GE127.out | refine below_set ?_ GE131.out) | exact HB.out)) hb)
                  clear BK127
                  clear BK131
                  clear HB
                  have BK127 := n0_
                  have BK131 := n1_
                  have HB := n2_
                  clear n0_ n1_ n2_
                  (try clear hb)
                  (try clear hb2)
                  (try clear hk)
                  (try clear hi)
                  refine hK.out _ _ ⟨(blk_cell BK131.out 0).trans rfl, (blk_cell BK131.out 1).trans rfl, (blk_cell BK127.out 0).trans rfl, (blk_cell BK127.out 1).trans rfl⟩ (fun hHeld => ?_)
                  clear hK K
                  refine norm_ (a' := ?_) ?_ ?_
                  rotate_left
                  · show Act.put _ (some 33) _ = _
                    simp only [Act.put, List.setIfInBounds_toArray, List.set_cons_zero, List.set_cons_succ, i64_w, i32_w]
                    rfl
                  refine pure_ (i := 10) (N := some 34) (v := ?_) (a' := ?_) #[true, true, true, true, true, true, true, true, true, true, true, false, false, false, false, false, false] rfl rfl (any_of HT_.out (by kernel_rfl)) (fun _ _ _ h => h) (Or.inl ⟨by rfl, ?_⟩) ?_ ?_
                  rotate_left
                  · intro w'
                    go_simp
                    with_reducible rfl
                  rotate_left
                  · simp only [Act.put, List.setIfInBounds_toArray, List.set_cons_zero, List.set_cons_succ, i64_w, i32_w]
                    rfl
                  refine pure_ (i := 11) (N := some 35) (v := ?_) (a' := ?_) #[true, true, true, true, true, true, true, true, true, true, true, true, false, false, false, false, false] rfl rfl (any_of HT_.out (by kernel_rfl)) (fun _ _ _ h => h) (Or.inl ⟨by rfl, ?_⟩) ?_ ?_
                  rotate_left
                  · intro w'
                    go_simp
                    with_reducible rfl
                  rotate_left
                  · simp only [Act.put, List.setIfInBounds_toArray, List.set_cons_zero, List.set_cons_succ, i64_w, i32_w]
                    rfl
                  refine take_ (i := 12) (N := some 36) (v := ?_) (a' := ?_) #[true, true, true, true, true, true, true, true, true, true, true, true, true, false, false, false, false] rfl rfl (take_ofW HT_.out HW_.out (by kernel_rfl)) (fun _ _ _ h => h) (Or.inl ⟨by rfl, ?_⟩) hHeld ?_ ?_
                  rotate_left
                  · rintro w' ⟨s0, s1, s2, s3⟩
                    go_simp
                    with_reducible rfl
                  rotate_left
                  · simp only [Act.put, List.setIfInBounds_toArray, List.set_cons_zero, List.set_cons_succ, i64_w, i32_w]
                    rfl
                  refine take_ (i := 14) (N := some 38) (v := ?_) (a' := ?_) #[true, true, true, true, true, true, true, true, true, true, true, true, true, false, true, false, false] rfl rfl (take_ofW HT_.out HW_.out (by kernel_rfl)) (fun _ _ _ h => h) (Or.inl ⟨by rfl, ?_⟩) hHeld ?_ ?_
                  rotate_left
                  · rintro w' ⟨s0, s1, s2, s3⟩
                    go_simp
                    with_reducible rfl
                  rotate_left
                  · simp only [Act.put, List.setIfInBounds_toArray, List.set_cons_zero, List.set_cons_succ, i64_w, i32_w]
                    rfl
                  refine one_ (i := 13) (N := some 37) #[true, true, true, true, true, true, true, true, true, true, true, true, true, true, true, false, false] rfl rfl (one_of HT_.out (by kernel_rfl)) (by decide) (fun K hK => ?_)
                  refine goes_ Try.func28 (by kernel_rfl) rfl #[.agg #[.bool x128000_1, .int .i64 x128001_1]] (by rfl) rfl rfl (by (try simp only [List.map_toArray, List.map_cons, List.map_nil]); first | done | rfl | (simp only [List.length_drop, List.length_take]; rfl)) ?_
                  with_reducible refine (timer_Tick.calls x128000_1 x128001_1 t133 t134 _ A38.out).mono ?_
                  rintro e w57 ⟨rfl, hb⟩
                  refine ⟨_, rfl, ?_⟩
                  have n0_ := Aside0.mk (blk_below (g := gb127) (o := .cells #[.bool x128000_1, .int .i64 x128001_1] 39 (0, 0)) (by (with_reducible repeat (first | refine blk_drewN ?_ _ | refine blk_drew ?_ | refine blk_alloc ?_ _)); exact BK127.out) hb)
                  have n1_ := Aside0.mk (blk_below (g := gb131) (o := .cells #[.bool t128, .int .i64 t129] 39 (0, 0)) (by (with_reducible repeat (first | refine blk_drewN ?_ _ | refine blk_drew ?_ | refine blk_alloc ?_ _)); exact BK131.out) hb)
                  have n2_ := Aside0.mk (below_step (by repeat (first | (with_reducible first | exact HB.out | apply below_alloc | apply pw_below_drewN | apply below_drew1 | refine below_set ?_ GE127.out | refine below_set ?_ GE131.out) | exact HB.out)) hb)
                  clear BK127
                  clear BK131
                  clear HB
                  have BK127 := n0_
                  have BK131 := n1_
                  have HB := n2_
                  clear n0_ n1_ n2_
                  (try clear hb)
                  (try clear hb2)
                  (try clear hk)
                  (try clear hi)
                  refine hK.out _ _ ⟨(blk_cell BK131.out 0).trans rfl, (blk_cell BK131.out 1).trans rfl, (blk_cell BK127.out 0).trans rfl, (blk_cell BK127.out 1).trans rfl⟩ (fun hHeld => ?_)
                  clear hK K
                  refine norm_ (a' := ?_) ?_ ?_
                  rotate_left
                  · show Act.put _ (some 37) _ = _
                    simp only [Act.put, List.setIfInBounds_toArray, List.set_cons_zero, List.set_cons_succ, i64_w, i32_w]
                    rfl
                  refine pure_ (i := 15) (N := some 39) (v := ?_) (a' := ?_) #[true, true, true, true, true, true, true, true, true, true, true, true, true, true, true, true, false] rfl rfl (any_of HT_.out (by kernel_rfl)) (fun _ _ _ h => h) (Or.inl ⟨by rfl, ?_⟩) ?_ ?_
                  rotate_left
                  · intro w'
                    go_simp
                    with_reducible rfl
                  rotate_left
                  · simp only [Act.put, List.setIfInBounds_toArray, List.set_cons_zero, List.set_cons_succ, i64_w, i32_w]
                    rfl
                  refine pure_ (i := 16) (N := some 40) (v := ?_) (a' := ?_) #[true, true, true, true, true, true, true, true, true, true, true, true, true, true, true, true, true] rfl rfl (any_of HT_.out (by kernel_rfl)) (fun _ _ _ h => h) (Or.inl ⟨by rfl, ?_⟩) ?_ ?_
                  rotate_left
                  · intro w'
                    go_simp
                    with_reducible rfl
                  rotate_left
                  · simp only [Act.put, List.setIfInBounds_toArray, List.set_cons_zero, List.set_cons_succ, i64_w, i32_w]
                    rfl
                  refine done_ (done_of HT_.out (by kernel_rfl)) ?_
                  have hcz58_0 : w57.cell? ⟨gb131, 0, none⟩ = some (.bool t128) := (blk_cell BK131.out 0).trans rfl
                  have hcz58_1 : w57.cell? ⟨gb131, 1, none⟩ = some (.int .i64 t129) := (blk_cell BK131.out 1).trans rfl
                  have hfz58_0 := blk_frozen BK131.out 0
                  have hfz58_1 := blk_frozen BK131.out 1
                  have hcz59_0 : w57.cell? ⟨gb127, 0, none⟩ = some (.bool x128000_1) := (blk_cell BK127.out 0).trans rfl
                  have hcz59_1 : w57.cell? ⟨gb127, 1, none⟩ = some (.int .i64 x128001_1) := (blk_cell BK127.out 1).trans rfl
                  have hfz59_0 := blk_frozen BK127.out 0
                  have hfz59_1 := blk_frozen BK127.out 1
                  try go_wp2
                  go_roundg k1
                  case measure => have := HK1.out; omega
                  case rel => exact ⟨(wrap64 (x6_1 + 1)), (t128), (t129), (by first | rfl | (simp; done) | (simp [*]; done)), H', ⟨by have := HK1.out; omega⟩, ⟨by (with_reducible repeat (first | refine blk_drewN ?_ _ | refine blk_drew ?_ | refine blk_alloc ?_ _)); refine blk_put (cs := #[.bool t128, .int .i64 x128001_1]) ?_ 1 _ rfl; (with_reducible repeat (first | refine blk_drewN ?_ _ | refine blk_drew ?_ | refine blk_alloc ?_ _)); refine blk_put (cs := #[.bool x128000_1, .int .i64 x128001_1]) ?_ 0 _ rfl; (with_reducible repeat (first | refine blk_drewN ?_ _ | refine blk_drew ?_ | refine blk_alloc ?_ _)); exact BK127.out⟩, ⟨by repeat (first | (with_reducible first | exact HB.out | apply below_alloc | apply pw_below_drewN | apply below_drew1 | refine below_set ?_ GE127.out | refine below_set ?_ GE131.out) | exact HB.out)⟩⟩
        · rw [if_neg c10] at H
          have c10b0 : decide (x6_1 < (wrap64 (a1))) = false := decide_eq_false c10
          clear c10
          by_cases c60 : x128000_1 = true
          · subst c60
            have H1 : (some false) = some r := by rw [if_pos rfl] at H; exact H
            clear H
            have H := H1
            clear H1
            exact absurd ((Option.some.inj H).trans LRT.out) (by decide)
          · replace c60 := Bool.eq_false_iff.mpr c60
            subst c60
            have H1 : (some (x128001_1 == 0)) = some r := by rw [if_neg (show ¬ (false = true) by decide)] at H; exact H
            clear H
            have H := H1
            clear H1
            obtain rfl := Option.some.inj H
            (try exact absurd LRT.out (by decide))
            all_goals
              have hcz62_0 : wr.cell? ⟨gb127, 0, none⟩ = some (.bool false) := (blk_cell BK127.out 0).trans rfl
              have hcz62_1 : wr.cell? ⟨gb127, 1, none⟩ = some (.int .i64 x128001_1) := (blk_cell BK127.out 1).trans rfl
              have hfz62_0 := blk_frozen BK127.out 0
              have hfz62_1 := blk_frozen BK127.out 1
              go_wp2
              go_ret
              exact ⟨by first | rfl | (simp [errW_none, errW_some] <;> rfl) | (simp [*, errW_none, errW_some] <;> rfl), by repeat (first | (with_reducible first | exact HB.out | apply below_alloc | apply pw_below_drewN | apply below_drew1 | refine below_set ?_ GE127.out) | exact HB.out)⟩
  · replace c4 := Bool.eq_false_iff.mpr c4
    subst c4
    have H1 : (some false) = some r := by rw [if_neg (show ¬ (false = true) by decide)] at H; exact H
    clear H
    have H := H1
    clear H1
    exact absurd ((Option.some.inj H).trans LRT.out) (by decide)
/-- THE ONE PURE STATEMENT of treelinelaw09_TimerRests: yours. -/
def treelinelaw09_TimerRests.Pure : Prop := ∀ (a0 : Int) (a1 : Int), (Lit.int .i64 a0).wf = true → (Lit.int .u8 a1).wf = true → ∃ k, treelinelaw09_TimerRests.f k a0 a1 = some true
theorem treelinelaw09_TimerRests.walk (P : treelinelaw09_TimerRests.Pure) (a0 : Int) (a1 : Int) (w : World) (w0 : (Lit.int .i64 a0).wf = true) (w1 : (Lit.int .u8 a1).wf = true) :
    Calls Try.prog 10 #[.int .i64 a0, .int .u8 a1] w fun e w' => e = .returned (.bool true) ∧ Below w.heap.size w w' := by
  obtain ⟨k, h⟩ := P a0 a1 w0 w1
  refine (treelinelaw09_TimerRests.calls k a0 a1 true w h ⟨rfl⟩).mono ?_
  rintro e w' ⟨rfl, hd⟩
  exact ⟨rfl, hd⟩

end Go.Proofs.Ytfdjlempllmelaa.PTimerRests
