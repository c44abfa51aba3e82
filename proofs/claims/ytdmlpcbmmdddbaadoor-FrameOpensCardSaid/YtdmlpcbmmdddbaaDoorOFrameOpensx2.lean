/- What Go functions that the law FrameOpens uses come to, and why: part 2. Made out of the kit's print by a program of this session (wip/tools/mend.py), with more rows. -/
import Derived.Test.YtdmlpcbmmdddbaaDoorPFrameOpensx0
import Derived.Test.YtdmlpcbmmdddbaaDoorOFrameOpensx1
namespace Go.Proofs.YtdmlpcbmmdddbaaDoor.PFrameOpens
open Go.RowKit Go.Proofs.YtdmlpcbmmdddbaaDoorW.PrintWords Go.Proofs.YtdmlpcbmmdddbaaDoorW.PrintLast Go.Proofs.YtdmlpcbmmdddbaaDoorW.PrintMore
attribute [local go_sem] max2_int min2_int max_two min_two max_three min_three max_four min_four   -- for this text's walks alone
set_option linter.unusedVariables false
set_option linter.unusedSimpArgs false

/-! ### frame_Put: function 9 -/
def frame_Put.f (k : Nat) (a0_0 : Int) (a0_1 : Int) (a0_2 : Int) (l0_3 : List Int) : Option (List Int × Int) := (frame_Check.f k a0_0 a0_1 a0_2 l0_3).bind fun t119 => (if t119 = 0 then ((ids_Put.f k a0_0).bind fun t120 => ((ids_Put.f k a0_1).bind fun t123 => (if t120.length + t123.length < 140737488355328 then ((wire_Put_uint16.f k (t120 ++ t123) a0_2 2).bind fun t129 => (if t129.length + l0_3.length < 140737488355328 then (some ((t129 ++ l0_3), 0)) else (none))) else (none)))) else (some (([] : List Int), t119)))
theorem frame_Put.mono : ∀ a0 a1 a2 a3 k, LeO (frame_Put.f k a0 a1 a2 a3) (frame_Put.f (k + 1) a0 a1 a2 a3) := by
  intro a0 a1 a2 a3 k
  unfold frame_Put.f
  repeat' first
      | (with_reducible exact frame_Check.mono _ _ _ _ _)
      | (with_reducible exact ids_Put.mono _ _)
      | (with_reducible exact wire_Put_uint16.mono _ _ _ _)
      | (with_reducible exact LeO.refl _)
      | (with_reducible exact LeO.none _)
      | (with_reducible refine LeO.ite ?_ ?_)
      | (with_reducible refine LeO.bind ?_ (fun _ => ?_))
      | exact frame_Check.mono _ _ _ _ _
      | exact ids_Put.mono _ _
      | exact wire_Put_uint16.mono _ _ _ _
      | exact LeO.none _
      | refine LeO.ite ?_ ?_
      | refine LeO.bind ?_ (fun _ => ?_)
def frame_Put.T4 : Bool × List (List Nat × List Nat) := (true, [([], []), ([0], [0]), ([1], [1]), ([], []), ([3], [3]), ([4, 2], [4]), ([2, 5, 5], [2, 5]), ([6, 6, 0, 1, 2, 3, 4, 5, 6], [6])])
def frame_Put.B4 : List Nat := [0, 1, 3, 0, 8, 31, 63, 127]
theorem frame_Put.tab4 : rtab .any (opsOf Tryd.f9 4) = frame_Put.T4 := by kernel_rfl
theorem frame_Put.bits4 : waitsOk frame_Put.T4.2 frame_Put.B4 = true := by kernel_rfl
def frame_Put.T5 : Bool × List (List Nat × List Nat) := (true, [([], []), ([], []), ([1], [1]), ([0, 2], [0, 2]), ([], []), ([4], [4]), ([3, 5, 3], [3, 5]), ([6, 6, 0, 1, 2, 3, 4, 5, 6], [6]), ([7, 0, 1, 2, 3, 4, 5, 6, 7], [])])
def frame_Put.B5 : List Nat := [0, 0, 2, 7, 0, 16, 63, 127, 255]
theorem frame_Put.tab5 : rtab .any (opsOf Tryd.f9 5) = frame_Put.T5 := by kernel_rfl
theorem frame_Put.bits5 : waitsOk frame_Put.T5.2 frame_Put.B5 = true := by kernel_rfl
set_option maxHeartbeats 8000000 in
set_option maxRecDepth 100000 in
theorem frame_Put.calls (k : Nat) (a0_0 : Int) (a0_1 : Int) (a0_2 : Int) (A0_3 : Option Addr) (c0_3 : Nat) (l0_3 : List Int) (r1 : List Int) (r2 : Int) (w : World) (hr0_3 : Kd.C (Kd.int .u8) w A0_3 l0_3.length l0_3) (hc0_3 : l0_3.length ≤ c0_3) (h : frame_Put.f k a0_0 a0_1 a0_2 l0_3 = some (r1, r2)) :
    Calls Tryd.prog 9 #[.agg #[.int .u64 a0_0, .int .u64 a0_1, .int .u16 a0_2, .slice A0_3 l0_3.length c0_3]] w fun e w' => ∃ v0_ : Value, e = .returned (.tuple #[v0_, .int .i64 r2]) ∧ Kd.R (Kd.int .u8) 5 w' w.heap.size (fun _ => True) v0_ r1 ∧ Below w.heap.size w w' := by
  have hu27 := Tryd.underlying27
  have HR0_3 := Aside0.mk hr0_3
  have HC0_3 := Aside0.mk hc0_3
  clear hr0_3 hc0_3
  have HB := Aside0.mk (Below.refl w.heap.size w)
  have H : ((frame_Check.f k a0_0 a0_1 a0_2 l0_3).bind fun t119 => (if t119 = 0 then ((ids_Put.f k a0_0).bind fun t120 => ((ids_Put.f k a0_1).bind fun t123 => (if t120.length + t123.length < 140737488355328 then ((wire_Put_uint16.f k (t120 ++ t123) a0_2 2).bind fun t129 => (if t129.length + l0_3.length < 140737488355328 then (some ((t129 ++ l0_3), 0)) else (none))) else (none)))) else (some (([] : List Int), t119)))) = some (r1, r2) := h
  clear h
  replace H := Option.bind_eq_some_iff.mp H
  obtain ⟨t119, A20, H⟩ := H
  replace H : (if t119 = 0 then ((ids_Put.f k a0_0).bind fun t120 => ((ids_Put.f k a0_1).bind fun t123 => (if t120.length + t123.length < 140737488355328 then ((wire_Put_uint16.f k (t120 ++ t123) a0_2 2).bind fun t129 => (if t129.length + l0_3.length < 140737488355328 then (some ((t129 ++ l0_3), 0)) else (none))) else (none)))) else (some (([] : List Int), t119))) = some (r1, r2) := H
  have A2 := Aside0.mk A20
  clear A20
  by_cases c3 : t119 = 0
  · rw [if_pos c3] at H
    have c3b0 : (t119 == 0) = true := beq_iff_eq.mpr c3
    have c3b1 : (t119 != 0) = false := bne_eq_false_iff_eq.mpr c3
    clear c3
    replace H := Option.bind_eq_some_iff.mp H
    obtain ⟨t120, A40, H⟩ := H
    replace H : ((ids_Put.f k a0_1).bind fun t123 => (if t120.length + t123.length < 140737488355328 then ((wire_Put_uint16.f k (t120 ++ t123) a0_2 2).bind fun t129 => (if t129.length + l0_3.length < 140737488355328 then (some ((t129 ++ l0_3), 0)) else (none))) else (none))) = some (r1, r2) := H
    have A4 := Aside0.mk A40
    clear A40
    replace H := Option.bind_eq_some_iff.mp H
    obtain ⟨t123, A50, H⟩ := H
    replace H : (if t120.length + t123.length < 140737488355328 then ((wire_Put_uint16.f k (t120 ++ t123) a0_2 2).bind fun t129 => (if t129.length + l0_3.length < 140737488355328 then (some ((t129 ++ l0_3), 0)) else (none))) else (none)) = some (r1, r2) := H
    have A5 := Aside0.mk A50
    clear A50
    by_cases c6 : t120.length + t123.length < 140737488355328
    · rw [if_pos c6] at H
      have LMc6 := Aside0.mk c6
      clear c6
      obtain ⟨y126, hy126⟩ : ∃ y_ : List Int, y_ = (t120 ++ t123) := ⟨_, rfl⟩
      replace H : ((wire_Put_uint16.f k y126 a0_2 2).bind fun t129 => (if t129.length + l0_3.length < 140737488355328 then (some ((t129 ++ l0_3), 0)) else (none))) = some (r1, r2) := by first | (rw [hy126]; with_reducible exact H) | (have H2_ := (Option.bind_some _ _).symm.trans H; rw [hy126]; with_reducible exact H2_) | (have H2_ := (Option.bind_some _ _).symm.trans H; with_reducible exact H2_) | with_reducible exact H | (rw [hy126]; exact H) | exact H
      have Ny126 := Aside0.mk hy126
      clear hy126
      replace H := Option.bind_eq_some_iff.mp H
      obtain ⟨t129, A70, H⟩ := H
      replace H : (if t129.length + l0_3.length < 140737488355328 then (some ((t129 ++ l0_3), 0)) else (none)) = some (r1, r2) := H
      have A7 := Aside0.mk A70
      clear A70
      by_cases c8 : t129.length + l0_3.length < 140737488355328
      · rw [if_pos c8] at H
        have LMc8 := Aside0.mk c8
        clear c8
        obtain ⟨y132, hy132⟩ : ∃ y_ : List Int, y_ = (t129 ++ l0_3) := ⟨_, rfl⟩
        replace H : (some (y132, 0)) = some (r1, r2) := by first | (rw [hy132]; with_reducible exact H) | (have H2_ := (Option.bind_some _ _).symm.trans H; rw [hy132]; with_reducible exact H2_) | (have H2_ := (Option.bind_some _ _).symm.trans H; with_reducible exact H2_) | with_reducible exact H | (rw [hy132]; exact H) | exact H
        have Ny132 := Aside0.mk hy132
        clear hy132
        simp only [Option.some.injEq, Prod.mk.injEq] at H
        obtain ⟨rfl, rfl⟩ := H
        go_enter Tryd.func9, Tryd.ntmps9
        try go_wp2_with (first | ((with_reducible refine gate_dst (N := 1) rfl ?_); refine box_event ?hg (N := 1) ?hd (cs := #[.int .u64 a0_0, .int .u64 a0_1, .int .u16 a0_2, .slice A0_3 l0_3.length c0_3]) (t := 27) ?hr ?_; (case hd => rfl); (case hg => rfl); (case hr => first | (go_simp; done) | (go_simp; rfl)); intro gb118 hg w9 hbox hb; have n0_ := Aside0.mk (below_step (by repeat (first | (with_reducible first | exact HB.out | apply below_alloc | apply pw_below_drewN | apply below_drew1) | exact HB.out)) hb); have n1_ := Aside0.mk (hbox); have n2_ := Aside0.mk ((by rw [hg]; exact (below_size (by repeat (first | (with_reducible first | exact HB.out | apply below_alloc | apply pw_below_drewN | apply below_drew1) | exact HB.out))) : w.heap.size ≤ gb118)); have n3_ := Aside0.mk ((by rw [hg]; exact (below_size (by repeat (first | (with_reducible first | exact HB.out | apply below_alloc | apply pw_below_drewN | apply below_drew1) | exact HB.out))) : w.heap.size ≤ gb118)); clear HB; have HB := n0_; have BK118 := n1_; have GW118 := n2_; have GE118 := n3_; clear n0_ n1_ n2_ n3_; clear hb hbox hg; have hcz10_0 : w9.cell? ⟨gb118, 0, none⟩ = some (.int .u64 a0_0) := (blk_cell BK118.out 0).trans rfl; have hcz10_1 : w9.cell? ⟨gb118, 1, none⟩ = some (.int .u64 a0_1) := (blk_cell BK118.out 1).trans rfl; have hcz10_2 : w9.cell? ⟨gb118, 2, none⟩ = some (.int .u16 a0_2) := (blk_cell BK118.out 2).trans rfl; have hcz10_3 : w9.cell? ⟨gb118, 3, none⟩ = some (.slice A0_3 l0_3.length c0_3) := (blk_cell BK118.out 3).trans rfl; have hfz10_0 := blk_frozen BK118.out 0; have hfz10_1 := blk_frozen BK118.out 1; have hfz10_2 := blk_frozen BK118.out 2; have hfz10_3 := blk_frozen BK118.out 3) | ((with_reducible refine gate_callee (f := 8) rfl ?_); refine goesL_ (some 7) rfl rfl Tryd.func8 (by kernel_rfl) rfl #[.agg #[.int .u64 a0_0, .int .u64 a0_1, .int .u16 a0_2, .slice A0_3 l0_3.length c0_3]] rfl (by (try simp only [List.map_toArray, List.map_cons, List.map_nil]); first | done | rfl | (simp only [List.length_drop, List.length_take]; rfl)) ?_; (with_reducible refine (frame_Check.calls k a0_0 a0_1 a0_2 _ _ l0_3 t119 _ ?side1 ?side2 A2.out).mono ?_); (case side1 => repeat (first | exact (Kd.C_below HR0_3.out HB.out) | (with_reducible refine Kd.C_alloc ?_ _) | (with_reducible refine Kd.C_drewN ?_ _) | (with_reducible refine Kd.C_drew ?_))); (case side2 => exact HC0_3.out); rintro e w11 ⟨rfl, hb⟩; refine ⟨_, rfl, ?_⟩; have n0_ := Aside0.mk (blk_below (g := gb118) (o := .cells #[.int .u64 a0_0, .int .u64 a0_1, .int .u16 a0_2, .slice A0_3 l0_3.length c0_3] 27 (0, 0)) (by (with_reducible repeat (first | refine blk_drewN ?_ _ | refine blk_drew ?_ | refine blk_alloc ?_ _)); exact BK118.out) hb); have n1_ := Aside0.mk (below_step (by repeat (first | (with_reducible first | exact HB.out | apply below_alloc | apply pw_below_drewN | apply below_drew1 | refine below_set ?_ GE118.out) | exact HB.out)) hb); clear BK118; clear HB; have BK118 := n0_; have HB := n1_; clear n0_ n1_; (try clear hb); (try clear hb2); (try clear hk); (try clear hi)))
        have n0_ := Aside0.mk (blk_drew BK118.out)
        have n1_ := Aside0.mk (below_drew1 HB.out)
        clear BK118
        clear HB
        have BK118 := n0_
        have HB := n1_
        clear n0_ n1_
        refine start_ (n := 8) (S := fun w' => w'.cell? ⟨gb118, 0, none⟩ = some (.int .u64 a0_0) ∧ w'.cell? ⟨gb118, 1, none⟩ = some (.int .u64 a0_1) ∧ w'.cell? ⟨gb118, 2, none⟩ = some (.int .u16 a0_2) ∧ w'.cell? ⟨gb118, 3, none⟩ = some (.slice A0_3 l0_3.length c0_3)) (ds := []) #[false, false, false, false, false, false, false, false] (by kernel_rfl) rfl rfl ⟨(blk_cell BK118.out 0).trans rfl, (blk_cell BK118.out 1).trans rfl, (blk_cell BK118.out 2).trans rfl, (blk_cell BK118.out 3).trans rfl⟩ (fun hHeld => ?_); refine with_tabW frame_Put.tab4 frame_Put.bits4 (fun HT_ HW_ => ?_)
        generalize w11.drew = w12 at BK118 HB hHeld ⊢
        refine pure_ (i := 0) (N := some 11) (v := ?_) (a' := ?_) #[true, false, false, false, false, false, false, false] rfl rfl (any_of HT_.out (by kernel_rfl)) (fun _ _ _ h => h) (Or.inl ⟨by rfl, ?_⟩) ?_ ?_
        rotate_left
        · intro w'
          go_simp
          with_reducible rfl
        rotate_left
        · simp only [Act.put, List.setIfInBounds_toArray, List.set_cons_zero, List.set_cons_succ, i64_w, i32_w]
          rfl
        refine pure_ (i := 3) (N := some 14) (v := ?_) (a' := ?_) #[true, false, false, true, false, false, false, false] rfl rfl (any_of HT_.out (by kernel_rfl)) (fun _ _ _ h => h) (Or.inl ⟨by rfl, ?_⟩) ?_ ?_
        rotate_left
        · intro w'
          go_simp
          with_reducible rfl
        rotate_left
        · simp only [Act.put, List.setIfInBounds_toArray, List.set_cons_zero, List.set_cons_succ, i64_w, i32_w]
          rfl
        refine take_ (i := 1) (N := some 12) (v := ?_) (a' := ?_) #[true, true, false, true, false, false, false, false] rfl rfl (take_ofW HT_.out HW_.out (by kernel_rfl)) (fun _ _ _ h => h) (Or.inl ⟨by rfl, ?_⟩) hHeld ?_ ?_
        rotate_left
        · rintro w' ⟨s0, s1, s2, s3⟩
          go_simp
          with_reducible rfl
        rotate_left
        · simp only [Act.put, List.setIfInBounds_toArray, List.set_cons_zero, List.set_cons_succ, i64_w, i32_w]
          rfl
        refine take_ (i := 4) (N := some 15) (v := ?_) (a' := ?_) #[true, true, false, true, true, false, false, false] rfl rfl (take_ofW HT_.out HW_.out (by kernel_rfl)) (fun _ _ _ h => h) (Or.inl ⟨by rfl, ?_⟩) hHeld ?_ ?_
        rotate_left
        · rintro w' ⟨s0, s1, s2, s3⟩
          go_simp
          with_reducible rfl
        rotate_left
        · simp only [Act.put, List.setIfInBounds_toArray, List.set_cons_zero, List.set_cons_succ, i64_w, i32_w]
          rfl
        refine one_ (i := 2) (N := some 13) #[true, true, true, true, true, false, false, false] rfl rfl (one_of HT_.out (by kernel_rfl)) (by decide) (fun K hK => ?_)
        refine goes_ Tryd.func10 (by kernel_rfl) rfl #[.int .u64 a0_0] (by rfl) rfl rfl (by (try simp only [List.map_toArray, List.map_cons, List.map_nil]); first | done | rfl | (simp only [List.length_drop, List.length_take]; rfl)) ?_
        with_reducible refine (ids_Put.calls k a0_0 t120 _ A4.out).mono ?_
        rintro e w13 ⟨v121, rfl, ho0, hb⟩
        refine ⟨_, rfl, ?_⟩
        have n0_ := Aside0.mk (Kd.R_lower ho0 (below_size (by repeat (first | (with_reducible first | exact HB.out | apply below_alloc | apply pw_below_drewN | apply below_drew1 | refine below_set ?_ GE118.out) | exact HB.out))))
        have n1_ := Aside0.mk (blk_below (g := gb118) (o := .cells #[.int .u64 a0_0, .int .u64 a0_1, .int .u16 a0_2, .slice A0_3 l0_3.length c0_3] 27 (0, 0)) (by (with_reducible repeat (first | refine blk_drewN ?_ _ | refine blk_drew ?_ | refine blk_alloc ?_ _)); exact BK118.out) hb)
        have n2_ := Aside0.mk (below_step (by repeat (first | (with_reducible first | exact HB.out | apply below_alloc | apply pw_below_drewN | apply below_drew1 | refine below_set ?_ GE118.out) | exact HB.out)) hb)
        clear BK118
        clear HB
        have HO122 := n0_
        have BK118 := n1_
        have HB := n2_
        clear n0_ n1_ n2_
        (try clear hb)
        (try clear hb2)
        (try clear hk)
        (try clear hi)
        (try clear ho0)
        refine hK.out _ _ ⟨(blk_cell BK118.out 0).trans rfl, (blk_cell BK118.out 1).trans rfl, (blk_cell BK118.out 2).trans rfl, (blk_cell BK118.out 3).trans rfl⟩ (fun hHeld => ?_)
        clear hK K
        refine norm_ (a' := ?_) ?_ ?_
        rotate_left
        · show Act.put _ (some 13) _ = _
          simp only [Act.put, List.setIfInBounds_toArray, List.set_cons_zero, List.set_cons_succ, i64_w, i32_w]
          rfl
        refine one_ (i := 5) (N := some 16) #[true, true, true, true, true, true, false, false] rfl rfl (one_of HT_.out (by kernel_rfl)) (by decide) (fun K hK => ?_)
        refine goes_ Tryd.func10 (by kernel_rfl) rfl #[.int .u64 a0_1] (by rfl) rfl rfl (by (try simp only [List.map_toArray, List.map_cons, List.map_nil]); first | done | rfl | (simp only [List.length_drop, List.length_take]; rfl)) ?_
        with_reducible refine (ids_Put.calls k a0_1 t123 _ A5.out).mono ?_
        rintro e w14 ⟨v124, rfl, ho0, hb⟩
        refine ⟨_, rfl, ?_⟩
        have n0_ := Aside0.mk (Kd.R_elder' (by (with_reducible repeat (first | apply Kd.R_alloc | apply Kd.R_drewN | apply Kd.R_drew)); exact HO122.out) (Kd.R_base ho0) hb)
        have n1_ := Aside0.mk (Kd.R_lower (Kd.R_new' ho0 (Kd.R_lt (by (with_reducible repeat (first | apply Kd.R_alloc | apply Kd.R_drewN | apply Kd.R_drew)); exact HO122.out))) (below_size (by repeat (first | (with_reducible first | exact HB.out | apply below_alloc | apply pw_below_drewN | apply below_drew1 | refine below_set ?_ GE118.out) | exact HB.out))))
        have n2_ := Aside0.mk (blk_below (g := gb118) (o := .cells #[.int .u64 a0_0, .int .u64 a0_1, .int .u16 a0_2, .slice A0_3 l0_3.length c0_3] 27 (0, 0)) (by (with_reducible repeat (first | refine blk_drewN ?_ _ | refine blk_drew ?_ | refine blk_alloc ?_ _)); exact BK118.out) hb)
        have n3_ := Aside0.mk (below_step (by repeat (first | (with_reducible first | exact HB.out | apply below_alloc | apply pw_below_drewN | apply below_drew1 | refine below_set ?_ GE118.out) | exact HB.out)) hb)
        clear HO122
        clear BK118
        clear HB
        have HO122 := n0_
        have HO125 := n1_
        have BK118 := n2_
        have HB := n3_
        clear n0_ n1_ n2_ n3_
        (try clear hb)
        (try clear hb2)
        (try clear hk)
        (try clear hi)
        (try clear ho0)
        obtain ⟨Ao16, co16, eo16⟩ := Kd.R_slice HO125.out
        (first | subst eo16 | (injection eo16 with f1_ f2_ f3_; have f4_ := f1_.symm; have f5_ := f3_.symm; clear f1_ f2_ f3_; subst f4_; subst f5_))
        refine hK.out _ _ ⟨(blk_cell BK118.out 0).trans rfl, (blk_cell BK118.out 1).trans rfl, (blk_cell BK118.out 2).trans rfl, (blk_cell BK118.out 3).trans rfl⟩ (fun hHeld => ?_)
        clear hK K
        refine norm_ (a' := ?_) ?_ ?_
        rotate_left
        · show Act.put _ (some 16) _ = _
          simp only [Act.put, List.setIfInBounds_toArray, List.set_cons_zero, List.set_cons_succ, i64_w, i32_w]
          rfl
        refine one_ (i := 6) (N := some 17) #[true, true, true, true, true, true, true, false] rfl rfl (one_of HT_.out (by kernel_rfl)) (by decide) (fun K hK => ?_)
        refine Kd.R_append_rows_step (Kd.int .u8) (w0 := w) w.heap.size (by rfl) (.tmp 13) (.tmp 16) 25 5 (.int .u8 0) 1 rfl Tryd.underlying25 info5 rfl (by decide) (by omega) v121 t120 t123 _ _ _ (fun k_ => some k_ ≠ (.slice Ao16 t123.length co16 : Value).ownBlock) (fun _ => False) rfl rfl ?aO ?aR (fun _ _ h => h) (fun _ h => h.elim) ?aF ?aB ?aS ?aL ?_
        (case aR => repeat (first | exact (Kd.R_reads' HO125.out).2.2 | (with_reducible refine Kd.C_alloc ?_ _) | (with_reducible refine Kd.C_drewN ?_ _) | (with_reducible refine Kd.C_drew ?_)))
        (case aB => exact (by repeat (first | (with_reducible first | exact HB.out | apply below_alloc | apply pw_below_drewN | apply below_drew1 | refine below_set ?_ GE118.out) | exact HB.out)))
        (case aF => exact (fun k_ hk => Kd.fresh' (Kd.R_lt (by (with_reducible repeat (first | apply Kd.R_alloc | apply Kd.R_drewN | apply Kd.R_drew)); exact HO125.out)) k_ hk))
        (case aO => exact (by (with_reducible repeat (first | apply Kd.R_alloc | apply Kd.R_drewN | apply Kd.R_drew)); exact Kd.R_mono HO122.out (fun _ hk => hk.2)))
        (case aS => exact (below_size (by repeat (first | (with_reducible first | exact HB.out | apply below_alloc | apply pw_below_drewN | apply below_drew1 | refine below_set ?_ GE118.out) | exact HB.out))))
        (case aL => have := LMc6.out; omega)
        intro v127 w15 ho hb hg hat
        rw [← Ny126.out] at ho
        have n0_ := Aside0.mk (blk_grown (g := gb118) (o := .cells #[.int .u64 a0_0, .int .u64 a0_1, .int .u16 a0_2, .slice A0_3 l0_3.length c0_3] 27 (0, 0)) (by (with_reducible repeat (first | refine blk_drewN ?_ _ | refine blk_drew ?_ | refine blk_alloc ?_ _)); exact BK118.out) hg (Kd.R_ne HO122.out BK118.out (by decide)))
        have n1_ := Aside0.mk (Kd.R_after (ok := (fun _ => True)) (by (with_reducible repeat (first | apply Kd.R_alloc | apply Kd.R_drewN | apply Kd.R_drew)); exact HO125.out) hg hat)
        have n2_ := Aside0.mk (hb)
        have n3_ := Aside0.mk (ho)
        clear BK118
        clear HO125
        clear HB
        clear HO122
        have BK118 := n0_
        have HO125 := n1_
        have HB := n2_
        have HO128 := n3_
        clear n0_ n1_ n2_ n3_
        clear ho hb hg hat
        refine hK.out _ _ ⟨(blk_cell BK118.out 0).trans rfl, (blk_cell BK118.out 1).trans rfl, (blk_cell BK118.out 2).trans rfl, (blk_cell BK118.out 3).trans rfl⟩ (fun hHeld => ?_)
        clear hK K
        refine norm_ (a' := ?_) ?_ ?_
        rotate_left
        · show Act.put _ (some 17) _ = _
          simp only [Act.put, List.setIfInBounds_toArray, List.set_cons_zero, List.set_cons_succ, i64_w, i32_w]
          rfl
        refine pure_ (i := 7) (N := some 5) (v := ?_) (a' := ?_) #[true, true, true, true, true, true, true, true] rfl rfl (any_of HT_.out (by kernel_rfl)) (fun _ _ _ h => h) (Or.inl ⟨by rfl, ?_⟩) ?_ ?_
        rotate_left
        · intro w'
          go_simp
          with_reducible rfl
        rotate_left
        · simp only [Act.put, List.setIfInBounds_toArray, List.set_cons_zero, List.set_cons_succ, i64_w, i32_w]
          rfl
        refine done_ (done_of HT_.out (by kernel_rfl)) ?_
        try go_wp2
        have n0_ := Aside0.mk (Kd.R_drew HO125.out)
        have n1_ := Aside0.mk (Kd.R_drew HO128.out)
        have n2_ := Aside0.mk (blk_drew BK118.out)
        have n3_ := Aside0.mk (below_drew1 HB.out)
        clear HO125
        clear HO128
        clear BK118
        clear HB
        have HO125 := n0_
        have HO128 := n1_
        have BK118 := n2_
        have HB := n3_
        clear n0_ n1_ n2_ n3_
        obtain ⟨Ao18, co18, eo18⟩ := Kd.R_slice HO128.out
        (first | subst eo18 | (injection eo18 with f1_ f2_ f3_; have f4_ := f1_.symm; have f5_ := f3_.symm; clear f1_ f2_ f3_; subst f4_; subst f5_))
        refine start_ (n := 9) (S := fun w' => w'.cell? ⟨gb118, 0, none⟩ = some (.int .u64 a0_0) ∧ w'.cell? ⟨gb118, 1, none⟩ = some (.int .u64 a0_1) ∧ w'.cell? ⟨gb118, 2, none⟩ = some (.int .u16 a0_2) ∧ w'.cell? ⟨gb118, 3, none⟩ = some (.slice A0_3 l0_3.length c0_3)) (ds := []) #[false, false, false, false, false, false, false, false, false] (by kernel_rfl) rfl rfl ⟨(blk_cell BK118.out 0).trans rfl, (blk_cell BK118.out 1).trans rfl, (blk_cell BK118.out 2).trans rfl, (blk_cell BK118.out 3).trans rfl⟩ (fun hHeld => ?_); refine with_tabW frame_Put.tab5 frame_Put.bits5 (fun HT_ HW_ => ?_)
        generalize w15.drew = w17 at HO125 HO128 BK118 HB hHeld ⊢
        refine pure_ (i := 0) (N := some 18) (v := ?_) (a' := ?_) #[true, false, false, false, false, false, false, false, false] rfl rfl (any_of HT_.out (by kernel_rfl)) (fun _ _ _ h => h) (Or.inl ⟨by rfl, ?_⟩) ?_ ?_
        rotate_left
        · intro w'
          go_simp
          with_reducible rfl
        rotate_left
        · simp only [Act.put, List.setIfInBounds_toArray, List.set_cons_zero, List.set_cons_succ, i64_w, i32_w]
          rfl
        refine pure_ (i := 1) (N := some 19) (v := ?_) (a' := ?_) #[true, true, false, false, false, false, false, false, false] rfl rfl (any_of HT_.out (by kernel_rfl)) (fun _ _ _ h => h) (Or.inl ⟨by rfl, ?_⟩) ?_ ?_
        rotate_left
        · intro w'
          go_simp
          with_reducible rfl
        rotate_left
        · simp only [Act.put, List.setIfInBounds_toArray, List.set_cons_zero, List.set_cons_succ, i64_w, i32_w]
          rfl
        refine pure_ (i := 4) (N := some 22) (v := ?_) (a' := ?_) #[true, true, false, false, true, false, false, false, false] rfl rfl (any_of HT_.out (by kernel_rfl)) (fun _ _ _ h => h) (Or.inl ⟨by rfl, ?_⟩) ?_ ?_
        rotate_left
        · intro w'
          go_simp
          with_reducible rfl
        rotate_left
        · simp only [Act.put, List.setIfInBounds_toArray, List.set_cons_zero, List.set_cons_succ, i64_w, i32_w]
          rfl
        refine take_ (i := 2) (N := some 20) (v := ?_) (a' := ?_) #[true, true, true, false, true, false, false, false, false] rfl rfl (take_ofW HT_.out HW_.out (by kernel_rfl)) (fun _ _ _ h => h) (Or.inl ⟨by rfl, ?_⟩) hHeld ?_ ?_
        rotate_left
        · rintro w' ⟨s0, s1, s2, s3⟩
          go_simp
          with_reducible rfl
        rotate_left
        · simp only [Act.put, List.setIfInBounds_toArray, List.set_cons_zero, List.set_cons_succ, i64_w, i32_w]
          rfl
        refine take_ (i := 5) (N := some 23) (v := ?_) (a' := ?_) #[true, true, true, false, true, true, false, false, false] rfl rfl (take_ofW HT_.out HW_.out (by kernel_rfl)) (fun _ _ _ h => h) (Or.inl ⟨by rfl, ?_⟩) hHeld ?_ ?_
        rotate_left
        · rintro w' ⟨s0, s1, s2, s3⟩
          go_simp
          with_reducible rfl
        rotate_left
        · simp only [Act.put, List.setIfInBounds_toArray, List.set_cons_zero, List.set_cons_succ, i64_w, i32_w]
          rfl
        refine one_ (i := 3) (N := some 21) #[true, true, true, true, true, true, false, false, false] rfl rfl (one_of HT_.out (by kernel_rfl)) (by decide) (fun K hK => ?_)
        refine goes_ Tryd.func11 (by kernel_rfl) rfl #[.slice Ao18 y126.length co18, .int .u16 a0_2, .int .i64 2] (by rfl) rfl rfl (by (try simp only [List.map_toArray, List.map_cons, List.map_nil]); first | done | rfl | (simp only [List.length_drop, List.length_take]; rfl)) ?_
        with_reducible refine (wire_Put_uint16.calls k _ _ y126 a0_2 2 t129 _ ?side1 ?side2 A7.out).mono ?_
        (case side1 => repeat (first | exact (Kd.R_reads' HO128.out).2.2 | (with_reducible refine Kd.C_alloc ?_ _) | (with_reducible refine Kd.C_drewN ?_ _) | (with_reducible refine Kd.C_drew ?_)))
        (case side2 => exact (Kd.R_reads' HO128.out).2.1)
        rintro e w19 ⟨v130, rfl, ho0, hb⟩
        refine ⟨_, rfl, ?_⟩
        have n0_ := Aside0.mk (Kd.R_elder' (by (with_reducible repeat (first | apply Kd.R_alloc | apply Kd.R_drewN | apply Kd.R_drew)); exact HO125.out) (Kd.R_base ho0) hb)
        have n1_ := Aside0.mk (Kd.R_elder' (by (with_reducible repeat (first | apply Kd.R_alloc | apply Kd.R_drewN | apply Kd.R_drew)); exact HO128.out) (Kd.R_base ho0) hb)
        have n2_ := Aside0.mk (Kd.R_lower (Kd.R_new' (Kd.R_new' ho0 (Kd.R_lt (by (with_reducible repeat (first | apply Kd.R_alloc | apply Kd.R_drewN | apply Kd.R_drew)); exact HO125.out))) (Kd.R_lt (by (with_reducible repeat (first | apply Kd.R_alloc | apply Kd.R_drewN | apply Kd.R_drew)); exact HO128.out))) (below_size (by repeat (first | (with_reducible first | exact HB.out | apply below_alloc | apply pw_below_drewN | apply below_drew1 | refine below_set ?_ GE118.out) | exact HB.out))))
        have n3_ := Aside0.mk (blk_below (g := gb118) (o := .cells #[.int .u64 a0_0, .int .u64 a0_1, .int .u16 a0_2, .slice A0_3 l0_3.length c0_3] 27 (0, 0)) (by (with_reducible repeat (first | refine blk_drewN ?_ _ | refine blk_drew ?_ | refine blk_alloc ?_ _)); exact BK118.out) hb)
        have n4_ := Aside0.mk (below_step (by repeat (first | (with_reducible first | exact HB.out | apply below_alloc | apply pw_below_drewN | apply below_drew1 | refine below_set ?_ GE118.out) | exact HB.out)) hb)
        clear HO125
        clear HO128
        clear BK118
        clear HB
        have HO125 := n0_
        have HO128 := n1_
        have HO131 := n2_
        have BK118 := n3_
        have HB := n4_
        clear n0_ n1_ n2_ n3_ n4_
        (try clear hb)
        (try clear hb2)
        (try clear hk)
        (try clear hi)
        (try clear ho0)
        refine hK.out _ _ ⟨(blk_cell BK118.out 0).trans rfl, (blk_cell BK118.out 1).trans rfl, (blk_cell BK118.out 2).trans rfl, (blk_cell BK118.out 3).trans rfl⟩ (fun hHeld => ?_)
        clear hK K
        refine norm_ (a' := ?_) ?_ ?_
        rotate_left
        · show Act.put _ (some 21) _ = _
          simp only [Act.put, List.setIfInBounds_toArray, List.set_cons_zero, List.set_cons_succ, i64_w, i32_w]
          rfl
        refine one_ (i := 6) (N := some 24) #[true, true, true, true, true, true, true, false, false] rfl rfl (one_of HT_.out (by kernel_rfl)) (by decide) (fun K hK => ?_)
        refine Kd.R_append_rows_step (Kd.int .u8) (w0 := w) w.heap.size (by rfl) (.tmp 21) (.tmp 23) 25 5 (.int .u8 0) 1 rfl Tryd.underlying25 info5 rfl (by decide) (by omega) v130 t129 l0_3 _ _ _ (fun k_ => some k_ ≠ (.slice Ao16 t123.length co16 : Value).ownBlock ∧ some k_ ≠ (.slice Ao18 y126.length co18 : Value).ownBlock) (fun _ => False) rfl rfl ?aO ?aR (fun _ _ h => h) (fun _ h => h.elim) ?aF ?aB ?aS ?aL ?_
        (case aR => repeat (first | exact (Kd.C_below HR0_3.out HB.out) | (with_reducible refine Kd.C_alloc ?_ _) | (with_reducible refine Kd.C_drewN ?_ _) | (with_reducible refine Kd.C_drew ?_)))
        (case aB => exact (by repeat (first | (with_reducible first | exact HB.out | apply below_alloc | apply pw_below_drewN | apply below_drew1 | refine below_set ?_ GE118.out) | exact HB.out)))
        (case aF => exact (fun k_ hk => ⟨Kd.fresh' (Kd.R_lt (by (with_reducible repeat (first | apply Kd.R_alloc | apply Kd.R_drewN | apply Kd.R_drew)); exact HO125.out)) k_ hk, Kd.fresh' (Kd.R_lt (by (with_reducible repeat (first | apply Kd.R_alloc | apply Kd.R_drewN | apply Kd.R_drew)); exact HO128.out)) k_ hk⟩))
        (case aO => exact (by (with_reducible repeat (first | apply Kd.R_alloc | apply Kd.R_drewN | apply Kd.R_drew)); exact Kd.R_mono HO131.out (fun _ hk => ⟨hk.1.2, hk.2⟩)))
        (case aS => exact (below_size (by repeat (first | (with_reducible first | exact HB.out | apply below_alloc | apply pw_below_drewN | apply below_drew1 | refine below_set ?_ GE118.out) | exact HB.out))))
        (case aL => have := LMc8.out; omega)
        intro v133 w20 ho hb hg hat
        rw [← Ny132.out] at ho
        have n0_ := Aside0.mk (blk_grown (g := gb118) (o := .cells #[.int .u64 a0_0, .int .u64 a0_1, .int .u16 a0_2, .slice A0_3 l0_3.length c0_3] 27 (0, 0)) (by (with_reducible repeat (first | refine blk_drewN ?_ _ | refine blk_drew ?_ | refine blk_alloc ?_ _)); exact BK118.out) hg (Kd.R_ne HO131.out BK118.out (by decide)))
        have n1_ := Aside0.mk (Kd.R_after (ok := (fun k_ => some k_ ≠ (.slice Ao18 y126.length co18 : Value).ownBlock)) (by (with_reducible repeat (first | apply Kd.R_alloc | apply Kd.R_drewN | apply Kd.R_drew)); exact Kd.R_mono HO125.out (fun _ hk => ⟨hk.1.2, hk.2⟩)) hg hat)
        have n2_ := Aside0.mk (Kd.R_after (ok := (fun k_ => some k_ ≠ (.slice Ao16 t123.length co16 : Value).ownBlock)) (by (with_reducible repeat (first | apply Kd.R_alloc | apply Kd.R_drewN | apply Kd.R_drew)); exact HO128.out) hg hat)
        have n3_ := Aside0.mk (hb)
        have n4_ := Aside0.mk (ho)
        clear BK118
        clear HO125
        clear HO128
        clear HB
        clear HO131
        have BK118 := n0_
        have HO125 := n1_
        have HO128 := n2_
        have HB := n3_
        have HO134 := n4_
        clear n0_ n1_ n2_ n3_ n4_
        clear ho hb hg hat
        refine hK.out _ _ ⟨(blk_cell BK118.out 0).trans rfl, (blk_cell BK118.out 1).trans rfl, (blk_cell BK118.out 2).trans rfl, (blk_cell BK118.out 3).trans rfl⟩ (fun hHeld => ?_)
        clear hK K
        refine norm_ (a' := ?_) ?_ ?_
        rotate_left
        · show Act.put _ (some 24) _ = _
          simp only [Act.put, List.setIfInBounds_toArray, List.set_cons_zero, List.set_cons_succ, i64_w, i32_w]
          rfl
        refine pure_ (i := 7) (N := some 2) (v := ?_) (a' := ?_) #[true, true, true, true, true, true, true, true, false] rfl rfl (any_of HT_.out (by kernel_rfl)) (fun _ _ _ h => h) (Or.inl ⟨by rfl, ?_⟩) ?_ ?_
        rotate_left
        · intro w'
          go_simp
          with_reducible rfl
        rotate_left
        · simp only [Act.put, List.setIfInBounds_toArray, List.set_cons_zero, List.set_cons_succ, i64_w, i32_w]
          rfl
        refine pure_ (i := 8) (N := some 3) (v := ?_) (a' := ?_) #[true, true, true, true, true, true, true, true, true] rfl rfl (any_of HT_.out (by kernel_rfl)) (fun _ _ _ h => h) (Or.inl ⟨by rfl, ?_⟩) ?_ ?_
        rotate_left
        · intro w'
          go_simp
          with_reducible rfl
        rotate_left
        · simp only [Act.put, List.setIfInBounds_toArray, List.set_cons_zero, List.set_cons_succ, i64_w, i32_w]
          rfl
        refine done_ (done_of HT_.out (by kernel_rfl)) ?_
        try go_wp2
        go_ret2
        exact ⟨_, by first | rfl | (simp [errW_none, errW_some] <;> rfl) | (simp [*, errW_none, errW_some] <;> rfl), by (with_reducible repeat (first | apply Kd.R_alloc | apply Kd.R_drewN | apply Kd.R_drew)); exact Kd.R_mono HO134.out (fun _ hk => trivial), by repeat (first | (with_reducible first | exact HB.out | apply below_alloc | apply pw_below_drewN | apply below_drew1 | refine below_set ?_ GE118.out) | exact HB.out)⟩
      · rw [if_neg c8] at H
        exact absurd H (by simp)
    · rw [if_neg c6] at H
      exact absurd H (by simp)
  · rw [if_neg c3] at H
    have c3b0 : (t119 == 0) = false := beq_eq_false_iff_ne.mpr c3
    have c3b1 : (t119 != 0) = true := bne_iff_ne.mpr c3
    simp only [Option.some.injEq, Prod.mk.injEq] at H
    obtain ⟨rfl, rfl⟩ := H
    go_enter Tryd.func9, Tryd.ntmps9
    go_wp2_with (first | ((with_reducible refine gate_dst (N := 1) rfl ?_); refine box_event ?hg (N := 1) ?hd (cs := #[.int .u64 a0_0, .int .u64 a0_1, .int .u16 a0_2, .slice A0_3 l0_3.length c0_3]) (t := 27) ?hr ?_; (case hd => rfl); (case hg => rfl); (case hr => first | (go_simp; done) | (go_simp; rfl)); intro gb118 hg w21 hbox hb; have n0_ := Aside0.mk (below_step (by repeat (first | (with_reducible first | exact HB.out | apply below_alloc | apply pw_below_drewN | apply below_drew1) | exact HB.out)) hb); have n1_ := Aside0.mk (hbox); have n2_ := Aside0.mk ((by rw [hg]; exact (below_size (by repeat (first | (with_reducible first | exact HB.out | apply below_alloc | apply pw_below_drewN | apply below_drew1) | exact HB.out))) : w.heap.size ≤ gb118)); have n3_ := Aside0.mk ((by rw [hg]; exact (below_size (by repeat (first | (with_reducible first | exact HB.out | apply below_alloc | apply pw_below_drewN | apply below_drew1) | exact HB.out))) : w.heap.size ≤ gb118)); clear HB; have HB := n0_; have BK118 := n1_; have GW118 := n2_; have GE118 := n3_; clear n0_ n1_ n2_ n3_; clear hb hbox hg; have hcz22_0 : w21.cell? ⟨gb118, 0, none⟩ = some (.int .u64 a0_0) := (blk_cell BK118.out 0).trans rfl; have hcz22_1 : w21.cell? ⟨gb118, 1, none⟩ = some (.int .u64 a0_1) := (blk_cell BK118.out 1).trans rfl; have hcz22_2 : w21.cell? ⟨gb118, 2, none⟩ = some (.int .u16 a0_2) := (blk_cell BK118.out 2).trans rfl; have hcz22_3 : w21.cell? ⟨gb118, 3, none⟩ = some (.slice A0_3 l0_3.length c0_3) := (blk_cell BK118.out 3).trans rfl; have hfz22_0 := blk_frozen BK118.out 0; have hfz22_1 := blk_frozen BK118.out 1; have hfz22_2 := blk_frozen BK118.out 2; have hfz22_3 := blk_frozen BK118.out 3) | ((with_reducible refine gate_callee (f := 8) rfl ?_); refine goesL_ (some 7) rfl rfl Tryd.func8 (by kernel_rfl) rfl #[.agg #[.int .u64 a0_0, .int .u64 a0_1, .int .u16 a0_2, .slice A0_3 l0_3.length c0_3]] rfl (by (try simp only [List.map_toArray, List.map_cons, List.map_nil]); first | done | rfl | (simp only [List.length_drop, List.length_take]; rfl)) ?_; (with_reducible refine (frame_Check.calls k a0_0 a0_1 a0_2 _ _ l0_3 t119 _ ?side1 ?side2 A2.out).mono ?_); (case side1 => repeat (first | exact (Kd.C_below HR0_3.out HB.out) | (with_reducible refine Kd.C_alloc ?_ _) | (with_reducible refine Kd.C_drewN ?_ _) | (with_reducible refine Kd.C_drew ?_))); (case side2 => exact HC0_3.out); rintro e w23 ⟨rfl, hb⟩; refine ⟨_, rfl, ?_⟩; have n0_ := Aside0.mk (blk_below (g := gb118) (o := .cells #[.int .u64 a0_0, .int .u64 a0_1, .int .u16 a0_2, .slice A0_3 l0_3.length c0_3] 27 (0, 0)) (by (with_reducible repeat (first | refine blk_drewN ?_ _ | refine blk_drew ?_ | refine blk_alloc ?_ _)); exact BK118.out) hb); have n1_ := Aside0.mk (below_step (by repeat (first | (with_reducible first | exact HB.out | apply below_alloc | apply pw_below_drewN | apply below_drew1 | refine below_set ?_ GE118.out) | exact HB.out)) hb); clear BK118; clear HB; have BK118 := n0_; have HB := n1_; clear n0_ n1_; (try clear hb); (try clear hb2); (try clear hk); (try clear hi)) | (go_at_call 8; (with_reducible refine (frame_Check.calls k a0_0 a0_1 a0_2 _ _ l0_3 t119 _ ?side1 ?side2 A2.out).mono ?_); (case side1 => repeat (first | exact (Kd.C_below HR0_3.out HB.out) | (with_reducible refine Kd.C_alloc ?_ _) | (with_reducible refine Kd.C_drewN ?_ _) | (with_reducible refine Kd.C_drew ?_))); (case side2 => exact HC0_3.out); rintro e w23 ⟨rfl, hb⟩; have n0_ := Aside0.mk (blk_below (g := gb118) (o := .cells #[.int .u64 a0_0, .int .u64 a0_1, .int .u16 a0_2, .slice A0_3 l0_3.length c0_3] 27 (0, 0)) (by (with_reducible repeat (first | refine blk_drewN ?_ _ | refine blk_drew ?_ | refine blk_alloc ?_ _)); exact BK118.out) hb); have n1_ := Aside0.mk (below_step (by repeat (first | (with_reducible first | exact HB.out | apply below_alloc | apply pw_below_drewN | apply below_drew1 | refine below_set ?_ GE118.out) | exact HB.out)) hb); clear BK118; clear HB; have BK118 := n0_; have HB := n1_; clear n0_ n1_; (try clear hb); (try clear hb2); (try clear hk); (try clear hi)))
    go_ret2
    exact ⟨_, by first | rfl | (simp [errW_none, errW_some] <;> rfl) | (simp [*, errW_none, errW_some] <;> rfl), by first | exact Kd.R_nil _ _ _ _ _ | exact Kd.N_nil _ _ _ _ _ | exact Kd.V_nil _ _ _ _ _ | exact Kd.Q_nil _ _ _ _ _ | exact Kd.S_nil _ _ _ _ _, by repeat (first | (with_reducible first | exact HB.out | apply below_alloc | apply pw_below_drewN | apply below_drew1 | refine below_set ?_ GE118.out) | exact HB.out)⟩

/-! ### treelinelaw04_awake: function 4 -/
def treelinelaw04_awake.f (k : Nat)  : Option (Bool) := (frame_Put.f k 1 2 0 ([] : List Int)).bind fun bt135 => (if bt135.2 = 0 then (some ((strOfNums bt135.1).toList == ([0, 0, 0, 0, 0, 1, 0, 0, 0, 0, 0, 2, 0, 0] : List UInt8))) else (some false))
theorem treelinelaw04_awake.mono : ∀ k, LeO (treelinelaw04_awake.f k ) (treelinelaw04_awake.f (k + 1) ) := by
  intro  k
  unfold treelinelaw04_awake.f
  repeat' first
      | (with_reducible exact frame_Put.mono _ _ _ _ _)
      | (with_reducible exact LeO.refl _)
      | (with_reducible exact LeO.none _)
      | (with_reducible refine LeO.ite ?_ ?_)
      | (with_reducible refine LeO.bind ?_ (fun _ => ?_))
      | exact frame_Put.mono _ _ _ _ _
      | exact LeO.none _
      | refine LeO.ite ?_ ?_
      | refine LeO.bind ?_ (fun _ => ?_)
set_option maxHeartbeats 8000000 in
set_option maxRecDepth 100000 in
theorem treelinelaw04_awake.calls (k : Nat)  (r : Bool) (w : World) (h : treelinelaw04_awake.f k  = some r) :
    Calls Tryd.prog 4 #[] w fun e w' => e = .returned (.bool r) ∧ Below w.heap.size w w' := by
  have hu27 := Tryd.underlying27
  have HB := Aside0.mk (Below.refl w.heap.size w)
  have H : ((frame_Put.f k 1 2 0 ([] : List Int)).bind fun bt135 => (if bt135.2 = 0 then (some ((strOfNums bt135.1).toList == ([0, 0, 0, 0, 0, 1, 0, 0, 0, 0, 0, 2, 0, 0] : List UInt8))) else (some false))) = some r := h
  clear h
  replace H := Option.bind_eq_some_iff.mp H
  obtain ⟨⟨t135, t138⟩, A10, H⟩ := H
  replace H : (if t138 = 0 then (some ((strOfNums t135).toList == ([0, 0, 0, 0, 0, 1, 0, 0, 0, 0, 0, 2, 0, 0] : List UInt8))) else (some false)) = some r := H
  have A1 := Aside0.mk A10
  clear A10
  by_cases c2 : t138 = 0
  · rw [if_pos c2] at H
    have c2b0 : (t138 == 0) = true := beq_iff_eq.mpr c2
    have c2b1 : (t138 != 0) = false := bne_eq_false_iff_eq.mpr c2
    clear c2
    obtain rfl := Option.some.inj H
    go_enter Tryd.func4, Tryd.ntmps4
    go_wp2_with (first | ((with_reducible refine gate_callee (f := 9) rfl ?_); refine goesL_ (some 5) rfl rfl Tryd.func9 (by kernel_rfl) rfl #[.agg #[.int .u64 1, .int .u64 2, .int .u16 0, .slice none 0 0]] rfl (by (try simp only [List.map_toArray, List.map_cons, List.map_nil]); first | done | rfl | (simp only [List.length_drop, List.length_take]; rfl)) ?_; (refine (frame_Put.calls k 1 2 0 _ _ ([] : List Int) t135 t138 _ ?side1 ?side2 A1.out).mono ?_); (case side1 => exact Kd.C_nil _ _); (case side2 => exact Nat.le_refl _); rintro e w3 ⟨v136, rfl, ho0, hb⟩; refine ⟨_, rfl, ?_⟩; have n0_ := Aside0.mk (Kd.R_lower ho0 (below_size (by repeat (first | (with_reducible first | exact HB.out | apply below_alloc | apply pw_below_drewN | apply below_drew1) | exact HB.out)))); have n1_ := Aside0.mk (below_step (by repeat (first | (with_reducible first | exact HB.out | apply below_alloc | apply pw_below_drewN | apply below_drew1) | exact HB.out)) hb); clear HB; have HO137 := n0_; have HB := n1_; clear n0_ n1_; (try clear hb); (try clear hb2); (try clear hk); (try clear hi); (try clear ho0); have hcv4 := own_string (P := Tryd.prog) Tryd.underlying25 Tryd.underlying5 Tryd.underlying9 (Kd.own_of_R HO137.out)))
    go_ret
    exact ⟨by first | rfl | (simp [errW_none, errW_some] <;> rfl) | (simp [*, errW_none, errW_some] <;> rfl), by repeat (first | (with_reducible first | exact HB.out | apply below_alloc | apply pw_below_drewN | apply below_drew1) | exact HB.out)⟩
  · rw [if_neg c2] at H
    have c2b0 : (t138 == 0) = false := beq_eq_false_iff_ne.mpr c2
    have c2b1 : (t138 != 0) = true := bne_iff_ne.mpr c2
    obtain rfl := Option.some.inj H
    go_enter Tryd.func4, Tryd.ntmps4
    go_wp2_with (first | ((with_reducible refine gate_callee (f := 9) rfl ?_); refine goesL_ (some 5) rfl rfl Tryd.func9 (by kernel_rfl) rfl #[.agg #[.int .u64 1, .int .u64 2, .int .u16 0, .slice none 0 0]] rfl (by (try simp only [List.map_toArray, List.map_cons, List.map_nil]); first | done | rfl | (simp only [List.length_drop, List.length_take]; rfl)) ?_; (refine (frame_Put.calls k 1 2 0 _ _ ([] : List Int) t135 t138 _ ?side1 ?side2 A1.out).mono ?_); (case side1 => exact Kd.C_nil _ _); (case side2 => exact Nat.le_refl _); rintro e w5 ⟨v136, rfl, ho0, hb⟩; refine ⟨_, rfl, ?_⟩; have n0_ := Aside0.mk (Kd.R_lower ho0 (below_size (by repeat (first | (with_reducible first | exact HB.out | apply below_alloc | apply pw_below_drewN | apply below_drew1) | exact HB.out)))); have n1_ := Aside0.mk (below_step (by repeat (first | (with_reducible first | exact HB.out | apply below_alloc | apply pw_below_drewN | apply below_drew1) | exact HB.out)) hb); clear HB; have HO137 := n0_; have HB := n1_; clear n0_ n1_; (try clear hb); (try clear hb2); (try clear hk); (try clear hi); (try clear ho0)))
    go_ret
    exact ⟨by first | rfl | (simp [errW_none, errW_some] <;> rfl) | (simp [*, errW_none, errW_some] <;> rfl), by repeat (first | (with_reducible first | exact HB.out | apply below_alloc | apply pw_below_drewN | apply below_drew1) | exact HB.out)⟩

-- NOT PRINTED: function 5 (frame_Open)

/-! ### treelineref04_Open: function 6 -/
def treelineref04_Open.f (a0_0 : Int) (a0_1 : Int) (a0_2 : Int) (l0_3 : List Int) : Option (List Int × Int) := if a0_0 = 1652522221568 then (if a0_2 > 1500 then (some (([] : List Int), 0)) else (if (l0_3.length : Int) < 3 then (some (([] : List Int), 0)) else (if 0 < (l0_3.length : Int) then (if (rd l0_3 0) = 66 then (if 1 < (l0_3.length : Int) then (if (rd l0_3 1) = 66 then (if 2 < (l0_3.length : Int) then (if (rd l0_3 2) = 3 then (if 3 ≤ (l0_3.length : Int) then (some ((l0_3.drop (3 : Int).toNat), 1)) else (none)) else (some (([] : List Int), 0))) else (none)) else (some (([] : List Int), 0))) else (none)) else (some (([] : List Int), 0))) else (none)))) else (some (([] : List Int), 0))
set_option maxHeartbeats 8000000 in
set_option maxRecDepth 100000 in
theorem treelineref04_Open.calls (a0_0 : Int) (a0_1 : Int) (a0_2 : Int) (P0_3_ : Nat → Prop) (u9000_ : Value) (l0_3 : List Int) (r1 : List Int) (r2 : Int) (w0 w : World) (hB : Below w0.heap.size w0 w) (ho0_3 : Kd.R (Kd.int .u8) 5 w w0.heap.size P0_3_ u9000_ l0_3) (h : treelineref04_Open.f a0_0 a0_1 a0_2 l0_3 = some (r1, r2)) :
    Calls Tryd.prog 6 #[.agg #[.int .u64 a0_0, .int .u64 a0_1, .int .u16 a0_2, u9000_]] w fun e w' => ∃ v0_ : Value, e = .returned (.tuple #[v0_, .int .i64 r2]) ∧ Kd.Q (Kd.int .u8) 5 w' w0.heap.size (fun k_ => (P0_3_ k_ ∨ w.heap.size ≤ k_)) v0_ r1 ∧ Below w0.heap.size w0 w' ∧ Kept w w' (fun k_ => P0_3_ k_) := by
  have hu27 := Tryd.underlying27
  have HO0_3 := Aside0.mk (show Kd.R (Kd.int .u8) 5 w w0.heap.size (fun k_ => (P0_3_ k_ ∨ w.heap.size ≤ k_)) u9000_ l0_3 from Kd.R_mono ho0_3 (fun k_ hk => (.inl hk)))
  have HK := Aside0.mk (Kept.refl w (fun k_ => P0_3_ k_))
  have HW0 := Aside0.mk hB.size
  have HB := Aside0.mk hB
  clear hB
  have H : (if a0_0 = 1652522221568 then (if a0_2 > 1500 then (some (([] : List Int), 0)) else (if (l0_3.length : Int) < 3 then (some (([] : List Int), 0)) else (if 0 < (l0_3.length : Int) then (if (rd l0_3 0) = 66 then (if 1 < (l0_3.length : Int) then (if (rd l0_3 1) = 66 then (if 2 < (l0_3.length : Int) then (if (rd l0_3 2) = 3 then (if 3 ≤ (l0_3.length : Int) then (some ((l0_3.drop (3 : Int).toNat), 1)) else (none)) else (some (([] : List Int), 0))) else (none)) else (some (([] : List Int), 0))) else (none)) else (some (([] : List Int), 0))) else (none)))) else (some (([] : List Int), 0))) = some (r1, r2) := h
  clear h
  by_cases c2 : a0_0 = 1652522221568
  · rw [if_pos c2] at H
    have c2b0 : (a0_0 == 1652522221568) = true := beq_iff_eq.mpr c2
    have c2b1 : (a0_0 != 1652522221568) = false := bne_eq_false_iff_eq.mpr c2
    clear c2
    by_cases c3 : a0_2 > 1500
    · rw [if_pos c3] at H
      have c3b0 : decide (1500 < a0_2) = true := decide_eq_true c3
      clear c3
      simp only [Option.some.injEq, Prod.mk.injEq] at H
      obtain ⟨rfl, rfl⟩ := H
      obtain ⟨Ao4, co4, eo4⟩ := Kd.R_slice HO0_3.out
      subst eo4
      go_enter Tryd.func6, Tryd.ntmps6
      go_wp2_with (first | ((with_reducible refine gate_dst (N := 1) rfl ?_); (try (refine gate_guard (by rfl) ?_; dsimp only)); refine box_event ?hg (N := 1) ?hd (cs := #[.int .u64 a0_0, .int .u64 a0_1, .int .u16 a0_2, .slice Ao4 l0_3.length co4]) (t := 27) ?hr ?_; (case hd => rfl); (case hg => rfl); (case hr => first | (go_simp; done) | (go_simp; rfl)); intro gb141 hg w5 hbox hb; have n0_ := Aside0.mk (Kd.R_below (by (with_reducible repeat (first | apply Kd.R_alloc | apply Kd.R_drewN | apply Kd.R_drew)); exact HO0_3.out) hb); have n1_ := Aside0.mk (Kept.below (S := (fun k_ => P0_3_ k_)) (by repeat (first | (with_reducible first | exact HK.out | apply Kept.alloc | apply Kept.drewN | apply Kept.drew) | exact HK.out)) hb); have n2_ := Aside0.mk (below_step (by repeat (first | (with_reducible first | exact HB.out | apply below_alloc | apply pw_below_drewN | apply below_drew1) | exact HB.out)) hb); have n3_ := Aside0.mk (hbox); have n4_ := Aside0.mk ((by rw [hg]; exact (by first | exact HK.out.1 | exact (show Kept w _ (fun k_ => P0_3_ k_) from by repeat (first | (with_reducible first | exact HK.out | apply Kept.alloc | apply Kept.drewN | apply Kept.drew) | exact HK.out)).1) : w.heap.size ≤ gb141)); have n5_ := Aside0.mk ((by rw [hg]; exact (below_size (by repeat (first | (with_reducible first | exact HB.out | apply below_alloc | apply pw_below_drewN | apply below_drew1) | exact HB.out))) : w0.heap.size ≤ gb141)); clear HO0_3; clear HK; clear HB; have HO0_3 := n0_; have HK := n1_; have HB := n2_; have BK141 := n3_; have GW141 := n4_; have GE141 := n5_; clear n0_ n1_ n2_ n3_ n4_ n5_; clear hb hbox hg; have hcz6_0 : w5.cell? ⟨gb141, 0, none⟩ = some (.int .u64 a0_0) := (blk_cell BK141.out 0).trans rfl; have hcz6_1 : w5.cell? ⟨gb141, 1, none⟩ = some (.int .u64 a0_1) := (blk_cell BK141.out 1).trans rfl; have hcz6_2 : w5.cell? ⟨gb141, 2, none⟩ = some (.int .u16 a0_2) := (blk_cell BK141.out 2).trans rfl; have hcz6_3 : w5.cell? ⟨gb141, 3, none⟩ = some (.slice Ao4 l0_3.length co4) := (blk_cell BK141.out 3).trans rfl; have hfz6_0 := blk_frozen BK141.out 0; have hfz6_1 := blk_frozen BK141.out 1; have hfz6_2 := blk_frozen BK141.out 2; have hfz6_3 := blk_frozen BK141.out 3))
      go_ret2
      exact ⟨_, by first | rfl | (simp [errW_none, errW_some] <;> rfl) | (simp [*, errW_none, errW_some] <;> rfl), Kd.Q_of_R (by first | exact Kd.R_nil _ _ _ _ _ | exact Kd.N_nil _ _ _ _ _ | exact Kd.V_nil _ _ _ _ _ | exact Kd.Q_nil _ _ _ _ _ | exact Kd.S_nil _ _ _ _ _), by repeat (first | (with_reducible first | exact HB.out | apply below_alloc | apply pw_below_drewN | apply below_drew1 | refine below_set ?_ GE141.out) | exact HB.out), by repeat (first | (with_reducible first | exact HK.out | apply Kept.alloc | apply Kept.drewN | apply Kept.drew | refine Kept.setCell ?_ (.inr GW141.out) _) | exact HK.out)⟩
    · rw [if_neg c3] at H
      have c3b0 : decide (1500 < a0_2) = false := decide_eq_false c3
      clear c3
      by_cases c7 : (l0_3.length : Int) < 3
      · rw [if_pos c7] at H
        have c7b0 : decide ((l0_3.length : Int) < 3) = true := decide_eq_true c7
        have c7b1 : decide (l0_3.length < 3) = true := decide_eq_true (by omega)
        clear c7
        simp only [Option.some.injEq, Prod.mk.injEq] at H
        obtain ⟨rfl, rfl⟩ := H
        obtain ⟨Ao8, co8, eo8⟩ := Kd.R_slice HO0_3.out
        subst eo8
        go_enter Tryd.func6, Tryd.ntmps6
        go_wp2_with (first | ((with_reducible refine gate_dst (N := 1) rfl ?_); (try (refine gate_guard (by rfl) ?_; dsimp only)); refine box_event ?hg (N := 1) ?hd (cs := #[.int .u64 a0_0, .int .u64 a0_1, .int .u16 a0_2, .slice Ao8 l0_3.length co8]) (t := 27) ?hr ?_; (case hd => rfl); (case hg => rfl); (case hr => first | (go_simp; done) | (go_simp; rfl)); intro gb141 hg w9 hbox hb; have n0_ := Aside0.mk (Kd.R_below (by (with_reducible repeat (first | apply Kd.R_alloc | apply Kd.R_drewN | apply Kd.R_drew)); exact HO0_3.out) hb); have n1_ := Aside0.mk (Kept.below (S := (fun k_ => P0_3_ k_)) (by repeat (first | (with_reducible first | exact HK.out | apply Kept.alloc | apply Kept.drewN | apply Kept.drew) | exact HK.out)) hb); have n2_ := Aside0.mk (below_step (by repeat (first | (with_reducible first | exact HB.out | apply below_alloc | apply pw_below_drewN | apply below_drew1) | exact HB.out)) hb); have n3_ := Aside0.mk (hbox); have n4_ := Aside0.mk ((by rw [hg]; exact (by first | exact HK.out.1 | exact (show Kept w _ (fun k_ => P0_3_ k_) from by repeat (first | (with_reducible first | exact HK.out | apply Kept.alloc | apply Kept.drewN | apply Kept.drew) | exact HK.out)).1) : w.heap.size ≤ gb141)); have n5_ := Aside0.mk ((by rw [hg]; exact (below_size (by repeat (first | (with_reducible first | exact HB.out | apply below_alloc | apply pw_below_drewN | apply below_drew1) | exact HB.out))) : w0.heap.size ≤ gb141)); clear HO0_3; clear HK; clear HB; have HO0_3 := n0_; have HK := n1_; have HB := n2_; have BK141 := n3_; have GW141 := n4_; have GE141 := n5_; clear n0_ n1_ n2_ n3_ n4_ n5_; clear hb hbox hg; have hcz10_0 : w9.cell? ⟨gb141, 0, none⟩ = some (.int .u64 a0_0) := (blk_cell BK141.out 0).trans rfl; have hcz10_1 : w9.cell? ⟨gb141, 1, none⟩ = some (.int .u64 a0_1) := (blk_cell BK141.out 1).trans rfl; have hcz10_2 : w9.cell? ⟨gb141, 2, none⟩ = some (.int .u16 a0_2) := (blk_cell BK141.out 2).trans rfl; have hcz10_3 : w9.cell? ⟨gb141, 3, none⟩ = some (.slice Ao8 l0_3.length co8) := (blk_cell BK141.out 3).trans rfl; have hfz10_0 := blk_frozen BK141.out 0; have hfz10_1 := blk_frozen BK141.out 1; have hfz10_2 := blk_frozen BK141.out 2; have hfz10_3 := blk_frozen BK141.out 3))
        go_ret2
        exact ⟨_, by first | rfl | (simp [errW_none, errW_some] <;> rfl) | (simp [*, errW_none, errW_some] <;> rfl), Kd.Q_of_R (by first | exact Kd.R_nil _ _ _ _ _ | exact Kd.N_nil _ _ _ _ _ | exact Kd.V_nil _ _ _ _ _ | exact Kd.Q_nil _ _ _ _ _ | exact Kd.S_nil _ _ _ _ _), by repeat (first | (with_reducible first | exact HB.out | apply below_alloc | apply pw_below_drewN | apply below_drew1 | refine below_set ?_ GE141.out) | exact HB.out), by repeat (first | (with_reducible first | exact HK.out | apply Kept.alloc | apply Kept.drewN | apply Kept.drew | refine Kept.setCell ?_ (.inr GW141.out) _) | exact HK.out)⟩
      · rw [if_neg c7] at H
        have c7b0 : decide ((l0_3.length : Int) < 3) = false := decide_eq_false c7
        have c7b1 : decide (l0_3.length < 3) = false := decide_eq_false (by omega)
        clear c7
        by_cases c11 : 0 < (l0_3.length : Int)
        · rw [if_pos c11] at H
          have c11b0 : decide (0 < (l0_3.length : Int)) = true := decide_eq_true c11
          have c11b1 : decide (0 < l0_3.length) = true := decide_eq_true (by omega)
          clear c11
          by_cases c12 : (rd l0_3 0) = 66
          · rw [if_pos c12] at H
            have c12b0 : ((rd l0_3 0) == 66) = true := beq_iff_eq.mpr c12
            have c12b1 : ((rd l0_3 0) != 66) = false := bne_eq_false_iff_eq.mpr c12
            clear c12
            by_cases c13 : 1 < (l0_3.length : Int)
            · rw [if_pos c13] at H
              have c13b0 : decide (1 < (l0_3.length : Int)) = true := decide_eq_true c13
              have c13b1 : decide (1 < l0_3.length) = true := decide_eq_true (by omega)
              clear c13
              by_cases c14 : (rd l0_3 1) = 66
              · rw [if_pos c14] at H
                have c14b0 : ((rd l0_3 1) == 66) = true := beq_iff_eq.mpr c14
                have c14b1 : ((rd l0_3 1) != 66) = false := bne_eq_false_iff_eq.mpr c14
                clear c14
                by_cases c15 : 2 < (l0_3.length : Int)
                · rw [if_pos c15] at H
                  have c15b0 : decide (2 < (l0_3.length : Int)) = true := decide_eq_true c15
                  have c15b1 : decide (2 < l0_3.length) = true := decide_eq_true (by omega)
                  clear c15
                  by_cases c16 : (rd l0_3 2) = 3
                  · rw [if_pos c16] at H
                    have c16b0 : ((rd l0_3 2) == 3) = true := beq_iff_eq.mpr c16
                    have c16b1 : ((rd l0_3 2) != 3) = false := bne_eq_false_iff_eq.mpr c16
                    clear c16
                    by_cases c17 : 3 ≤ (l0_3.length : Int)
                    · rw [if_pos c17] at H
                      have c17b0 := eq_true c17
                      have c17b1 : decide (3 ≤ (l0_3.length : Int)) = true := decide_eq_true c17
                      clear c17
                      obtain ⟨y145, hy145⟩ : ∃ y_ : List Int, y_ = (l0_3.drop (3 : Int).toNat) := ⟨_, rfl⟩
                      replace H : (some (y145, 1)) = some (r1, r2) := by first | (rw [hy145]; with_reducible exact H) | (have H2_ := (Option.bind_some _ _).symm.trans H; rw [hy145]; with_reducible exact H2_) | (have H2_ := (Option.bind_some _ _).symm.trans H; with_reducible exact H2_) | with_reducible exact H | (rw [hy145]; exact H) | exact H
                      have Ny145 := Aside0.mk hy145
                      clear hy145
                      simp only [Option.some.injEq, Prod.mk.injEq] at H
                      obtain ⟨rfl, rfl⟩ := H
                      obtain ⟨Ao18, co18, eo18⟩ := Kd.R_slice HO0_3.out
                      subst eo18
                      go_enter Tryd.func6, Tryd.ntmps6
                      go_wp2_with (first | ((with_reducible refine gate_dst (N := 1) rfl ?_); (try (refine gate_guard (by rfl) ?_; dsimp only)); refine box_event ?hg (N := 1) ?hd (cs := #[.int .u64 a0_0, .int .u64 a0_1, .int .u16 a0_2, .slice Ao18 l0_3.length co18]) (t := 27) ?hr ?_; (case hd => rfl); (case hg => rfl); (case hr => first | (go_simp; done) | (go_simp; rfl)); intro gb141 hg w19 hbox hb; have n0_ := Aside0.mk (Kd.R_below (by (with_reducible repeat (first | apply Kd.R_alloc | apply Kd.R_drewN | apply Kd.R_drew)); exact HO0_3.out) hb); have n1_ := Aside0.mk (Kept.below (S := (fun k_ => P0_3_ k_)) (by repeat (first | (with_reducible first | exact HK.out | apply Kept.alloc | apply Kept.drewN | apply Kept.drew) | exact HK.out)) hb); have n2_ := Aside0.mk (below_step (by repeat (first | (with_reducible first | exact HB.out | apply below_alloc | apply pw_below_drewN | apply below_drew1) | exact HB.out)) hb); have n3_ := Aside0.mk (hbox); have n4_ := Aside0.mk ((by rw [hg]; exact (by first | exact HK.out.1 | exact (show Kept w _ (fun k_ => P0_3_ k_) from by repeat (first | (with_reducible first | exact HK.out | apply Kept.alloc | apply Kept.drewN | apply Kept.drew) | exact HK.out)).1) : w.heap.size ≤ gb141)); have n5_ := Aside0.mk ((by rw [hg]; exact (below_size (by repeat (first | (with_reducible first | exact HB.out | apply below_alloc | apply pw_below_drewN | apply below_drew1) | exact HB.out))) : w0.heap.size ≤ gb141)); clear HO0_3; clear HK; clear HB; have HO0_3 := n0_; have HK := n1_; have HB := n2_; have BK141 := n3_; have GW141 := n4_; have GE141 := n5_; clear n0_ n1_ n2_ n3_ n4_ n5_; clear hb hbox hg; have hcz20_0 : w19.cell? ⟨gb141, 0, none⟩ = some (.int .u64 a0_0) := (blk_cell BK141.out 0).trans rfl; have hcz20_1 : w19.cell? ⟨gb141, 1, none⟩ = some (.int .u64 a0_1) := (blk_cell BK141.out 1).trans rfl; have hcz20_2 : w19.cell? ⟨gb141, 2, none⟩ = some (.int .u16 a0_2) := (blk_cell BK141.out 2).trans rfl; have hcz20_3 : w19.cell? ⟨gb141, 3, none⟩ = some (.slice Ao18 l0_3.length co18) := (blk_cell BK141.out 3).trans rfl; have hfz20_0 := blk_frozen BK141.out 0; have hfz20_1 := blk_frozen BK141.out 1; have hfz20_2 := blk_frozen BK141.out 2; have hfz20_3 := blk_frozen BK141.out 3; have p142 : 0 ≤ (0 : Int) := (by omega); have q142 : 0 < (l0_3.length : Int) := of_decide_eq_true (by first | (with_reducible assumption) | assumption); obtain ⟨ad142, e142, hx142_0⟩ := Kd.at_int (Kd.R_reads' HO0_3.out).2.2 0 p142 q142; cases e142; have qi142 : (0 < l0_3.length) = True := eq_true (by omega); (try rw [show ((0 : Int)).toNat = 0 from rfl] at hx142_0); (try rw [Addr.add_zero'] at hx142_0); replace p142 := eq_true p142; replace q142 := eq_true q142; have p143 : 0 ≤ (1 : Int) := (by omega); have q143 : 1 < (l0_3.length : Int) := of_decide_eq_true (by first | (with_reducible assumption) | assumption); obtain ⟨ad143, e143, hx143_0⟩ := Kd.at_int (Kd.R_reads' HO0_3.out).2.2 1 p143 q143; obtain rfl : ad142 = ad143 := (by injection e143); (try simp only [show (1 : Int).toNat = 1 from rfl, Nat.reduceMul, Nat.reduceEqDiff, Go.Addr.add, ↓reduceIte] at hx143_0); have qi143 : (1 < l0_3.length) = True := eq_true (by omega); (try rw [show ((1 : Int)).toNat = 1 from rfl] at hx143_0); replace p143 := eq_true p143; replace q143 := eq_true q143; have p144 : 0 ≤ (2 : Int) := (by omega); have q144 : 2 < (l0_3.length : Int) := of_decide_eq_true (by first | (with_reducible assumption) | assumption); obtain ⟨ad144, e144, hx144_0⟩ := Kd.at_int (Kd.R_reads' HO0_3.out).2.2 2 p144 q144; obtain rfl : ad142 = ad144 := (by injection e144); (try simp only [show (2 : Int).toNat = 2 from rfl, Nat.reduceMul, Nat.reduceEqDiff, Go.Addr.add, ↓reduceIte] at hx144_0); have qi144 : (2 < l0_3.length) = True := eq_true (by omega); (try rw [show ((2 : Int)).toNat = 2 from rfl] at hx144_0); replace p144 := eq_true p144; replace q144 := eq_true q144; have q21 : (3 : Int) ≤ ((l0_3.length : Int) : Int) := of_decide_eq_true (by first | (with_reducible assumption) | assumption); obtain ⟨i021, hi021, _, hsz21, _⟩ := info_parts info5; have hcut21 := cut_from (P := Tryd.prog) 25 5 .i64 Tryd.underlying25 hi021 1 hsz21 (some ad142) l0_3.length co18 3 (by omega) q21; have hr21 := Kd.Q_drop (k := (3 : Int).toNat) (Kd.Q_of_R HO0_3.out) (by omega); obtain ⟨A21, hA21⟩ : ∃ A1, A1 = (if co18 = (3 : Int).toNat then (some ad142) else ((some ad142) : Option Addr).map (·.add ((3 : Int).toNat * 1))) := ⟨_, rfl⟩; obtain ⟨c21, hc21⟩ : ∃ c1, c1 = co18 - (3 : Int).toNat := ⟨_, rfl⟩; have hy21 : y145.length = l0_3.length - (3 : Int).toNat := (by rw [Ny145.out, List.length_drop]); rw [← Ny145.out] at hr21; rw [← hy21, ← hA21, ← hc21] at hcut21; replace hr21 : Kd.Q (Kd.int .u8) 5 w19 w0.heap.size (fun k_ => (P0_3_ k_ ∨ w.heap.size ≤ k_)) (.slice A21 y145.length c21) y145 := (by rw [hA21, hc21, hy21]; exact hr21); have HE21 : Aside0 ((Value.slice A21 y145.length c21).ownBlock = (.slice (some ad142) l0_3.length co18 : Value).ownBlock) := ⟨by rw [hA21]; split <;> (cases ((some ad142) : Option Addr) <;> rfl)⟩; clear hy21 hi021 hsz21 HO0_3 hA21 hc21; have HO147 := Aside0.mk hr21; clear hr21; replace q21 := eq_true q21))
                      go_ret2
                      exact ⟨_, by first | rfl | (simp [errW_none, errW_some] <;> rfl) | (simp [*, errW_none, errW_some] <;> rfl), by (with_reducible repeat (first | apply Kd.Q_alloc | apply Kd.Q_drewN | apply Kd.Q_drew)); exact HO147.out, by repeat (first | (with_reducible first | exact HB.out | apply below_alloc | apply pw_below_drewN | apply below_drew1 | refine below_set ?_ GE141.out) | exact HB.out), by repeat (first | (with_reducible first | exact HK.out | apply Kept.alloc | apply Kept.drewN | apply Kept.drew | refine Kept.setCell ?_ (.inr GW141.out) _) | exact HK.out)⟩
                    · rw [if_neg c17] at H
                      exact absurd H (by simp)
                  · rw [if_neg c16] at H
                    have c16b0 : ((rd l0_3 2) == 3) = false := beq_eq_false_iff_ne.mpr c16
                    have c16b1 : ((rd l0_3 2) != 3) = true := bne_iff_ne.mpr c16
                    simp only [Option.some.injEq, Prod.mk.injEq] at H
                    obtain ⟨rfl, rfl⟩ := H
                    obtain ⟨Ao22, co22, eo22⟩ := Kd.R_slice HO0_3.out
                    subst eo22
                    go_enter Tryd.func6, Tryd.ntmps6
                    go_wp2_with (first | ((with_reducible refine gate_dst (N := 1) rfl ?_); (try (refine gate_guard (by rfl) ?_; dsimp only)); refine box_event ?hg (N := 1) ?hd (cs := #[.int .u64 a0_0, .int .u64 a0_1, .int .u16 a0_2, .slice Ao22 l0_3.length co22]) (t := 27) ?hr ?_; (case hd => rfl); (case hg => rfl); (case hr => first | (go_simp; done) | (go_simp; rfl)); intro gb141 hg w23 hbox hb; have n0_ := Aside0.mk (Kd.R_below (by (with_reducible repeat (first | apply Kd.R_alloc | apply Kd.R_drewN | apply Kd.R_drew)); exact HO0_3.out) hb); have n1_ := Aside0.mk (Kept.below (S := (fun k_ => P0_3_ k_)) (by repeat (first | (with_reducible first | exact HK.out | apply Kept.alloc | apply Kept.drewN | apply Kept.drew) | exact HK.out)) hb); have n2_ := Aside0.mk (below_step (by repeat (first | (with_reducible first | exact HB.out | apply below_alloc | apply pw_below_drewN | apply below_drew1) | exact HB.out)) hb); have n3_ := Aside0.mk (hbox); have n4_ := Aside0.mk ((by rw [hg]; exact (by first | exact HK.out.1 | exact (show Kept w _ (fun k_ => P0_3_ k_) from by repeat (first | (with_reducible first | exact HK.out | apply Kept.alloc | apply Kept.drewN | apply Kept.drew) | exact HK.out)).1) : w.heap.size ≤ gb141)); have n5_ := Aside0.mk ((by rw [hg]; exact (below_size (by repeat (first | (with_reducible first | exact HB.out | apply below_alloc | apply pw_below_drewN | apply below_drew1) | exact HB.out))) : w0.heap.size ≤ gb141)); clear HO0_3; clear HK; clear HB; have HO0_3 := n0_; have HK := n1_; have HB := n2_; have BK141 := n3_; have GW141 := n4_; have GE141 := n5_; clear n0_ n1_ n2_ n3_ n4_ n5_; clear hb hbox hg; have hcz24_0 : w23.cell? ⟨gb141, 0, none⟩ = some (.int .u64 a0_0) := (blk_cell BK141.out 0).trans rfl; have hcz24_1 : w23.cell? ⟨gb141, 1, none⟩ = some (.int .u64 a0_1) := (blk_cell BK141.out 1).trans rfl; have hcz24_2 : w23.cell? ⟨gb141, 2, none⟩ = some (.int .u16 a0_2) := (blk_cell BK141.out 2).trans rfl; have hcz24_3 : w23.cell? ⟨gb141, 3, none⟩ = some (.slice Ao22 l0_3.length co22) := (blk_cell BK141.out 3).trans rfl; have hfz24_0 := blk_frozen BK141.out 0; have hfz24_1 := blk_frozen BK141.out 1; have hfz24_2 := blk_frozen BK141.out 2; have hfz24_3 := blk_frozen BK141.out 3; have p142 : 0 ≤ (0 : Int) := (by omega); have q142 : 0 < (l0_3.length : Int) := of_decide_eq_true (by first | (with_reducible assumption) | assumption); obtain ⟨ad142, e142, hx142_0⟩ := Kd.at_int (Kd.R_reads' HO0_3.out).2.2 0 p142 q142; cases e142; have qi142 : (0 < l0_3.length) = True := eq_true (by omega); (try rw [show ((0 : Int)).toNat = 0 from rfl] at hx142_0); (try rw [Addr.add_zero'] at hx142_0); replace p142 := eq_true p142; replace q142 := eq_true q142; have p143 : 0 ≤ (1 : Int) := (by omega); have q143 : 1 < (l0_3.length : Int) := of_decide_eq_true (by first | (with_reducible assumption) | assumption); obtain ⟨ad143, e143, hx143_0⟩ := Kd.at_int (Kd.R_reads' HO0_3.out).2.2 1 p143 q143; obtain rfl : ad142 = ad143 := (by injection e143); (try simp only [show (1 : Int).toNat = 1 from rfl, Nat.reduceMul, Nat.reduceEqDiff, Go.Addr.add, ↓reduceIte] at hx143_0); have qi143 : (1 < l0_3.length) = True := eq_true (by omega); (try rw [show ((1 : Int)).toNat = 1 from rfl] at hx143_0); replace p143 := eq_true p143; replace q143 := eq_true q143; have p144 : 0 ≤ (2 : Int) := (by omega); have q144 : 2 < (l0_3.length : Int) := of_decide_eq_true (by first | (with_reducible assumption) | assumption); obtain ⟨ad144, e144, hx144_0⟩ := Kd.at_int (Kd.R_reads' HO0_3.out).2.2 2 p144 q144; obtain rfl : ad142 = ad144 := (by injection e144); (try simp only [show (2 : Int).toNat = 2 from rfl, Nat.reduceMul, Nat.reduceEqDiff, Go.Addr.add, ↓reduceIte] at hx144_0); have qi144 : (2 < l0_3.length) = True := eq_true (by omega); (try rw [show ((2 : Int)).toNat = 2 from rfl] at hx144_0); replace p144 := eq_true p144; replace q144 := eq_true q144))
                    go_ret2
                    exact ⟨_, by first | rfl | (simp [errW_none, errW_some] <;> rfl) | (simp [*, errW_none, errW_some] <;> rfl), Kd.Q_of_R (by first | exact Kd.R_nil _ _ _ _ _ | exact Kd.N_nil _ _ _ _ _ | exact Kd.V_nil _ _ _ _ _ | exact Kd.Q_nil _ _ _ _ _ | exact Kd.S_nil _ _ _ _ _), by repeat (first | (with_reducible first | exact HB.out | apply below_alloc | apply pw_below_drewN | apply below_drew1 | refine below_set ?_ GE141.out) | exact HB.out), by repeat (first | (with_reducible first | exact HK.out | apply Kept.alloc | apply Kept.drewN | apply Kept.drew | refine Kept.setCell ?_ (.inr GW141.out) _) | exact HK.out)⟩
                · rw [if_neg c15] at H
                  exact absurd H (by simp)
              · rw [if_neg c14] at H
                have c14b0 : ((rd l0_3 1) == 66) = false := beq_eq_false_iff_ne.mpr c14
                have c14b1 : ((rd l0_3 1) != 66) = true := bne_iff_ne.mpr c14
                simp only [Option.some.injEq, Prod.mk.injEq] at H
                obtain ⟨rfl, rfl⟩ := H
                obtain ⟨Ao25, co25, eo25⟩ := Kd.R_slice HO0_3.out
                subst eo25
                go_enter Tryd.func6, Tryd.ntmps6
                go_wp2_with (first | ((with_reducible refine gate_dst (N := 1) rfl ?_); (try (refine gate_guard (by rfl) ?_; dsimp only)); refine box_event ?hg (N := 1) ?hd (cs := #[.int .u64 a0_0, .int .u64 a0_1, .int .u16 a0_2, .slice Ao25 l0_3.length co25]) (t := 27) ?hr ?_; (case hd => rfl); (case hg => rfl); (case hr => first | (go_simp; done) | (go_simp; rfl)); intro gb141 hg w26 hbox hb; have n0_ := Aside0.mk (Kd.R_below (by (with_reducible repeat (first | apply Kd.R_alloc | apply Kd.R_drewN | apply Kd.R_drew)); exact HO0_3.out) hb); have n1_ := Aside0.mk (Kept.below (S := (fun k_ => P0_3_ k_)) (by repeat (first | (with_reducible first | exact HK.out | apply Kept.alloc | apply Kept.drewN | apply Kept.drew) | exact HK.out)) hb); have n2_ := Aside0.mk (below_step (by repeat (first | (with_reducible first | exact HB.out | apply below_alloc | apply pw_below_drewN | apply below_drew1) | exact HB.out)) hb); have n3_ := Aside0.mk (hbox); have n4_ := Aside0.mk ((by rw [hg]; exact (by first | exact HK.out.1 | exact (show Kept w _ (fun k_ => P0_3_ k_) from by repeat (first | (with_reducible first | exact HK.out | apply Kept.alloc | apply Kept.drewN | apply Kept.drew) | exact HK.out)).1) : w.heap.size ≤ gb141)); have n5_ := Aside0.mk ((by rw [hg]; exact (below_size (by repeat (first | (with_reducible first | exact HB.out | apply below_alloc | apply pw_below_drewN | apply below_drew1) | exact HB.out))) : w0.heap.size ≤ gb141)); clear HO0_3; clear HK; clear HB; have HO0_3 := n0_; have HK := n1_; have HB := n2_; have BK141 := n3_; have GW141 := n4_; have GE141 := n5_; clear n0_ n1_ n2_ n3_ n4_ n5_; clear hb hbox hg; have hcz27_0 : w26.cell? ⟨gb141, 0, none⟩ = some (.int .u64 a0_0) := (blk_cell BK141.out 0).trans rfl; have hcz27_1 : w26.cell? ⟨gb141, 1, none⟩ = some (.int .u64 a0_1) := (blk_cell BK141.out 1).trans rfl; have hcz27_2 : w26.cell? ⟨gb141, 2, none⟩ = some (.int .u16 a0_2) := (blk_cell BK141.out 2).trans rfl; have hcz27_3 : w26.cell? ⟨gb141, 3, none⟩ = some (.slice Ao25 l0_3.length co25) := (blk_cell BK141.out 3).trans rfl; have hfz27_0 := blk_frozen BK141.out 0; have hfz27_1 := blk_frozen BK141.out 1; have hfz27_2 := blk_frozen BK141.out 2; have hfz27_3 := blk_frozen BK141.out 3; have p142 : 0 ≤ (0 : Int) := (by omega); have q142 : 0 < (l0_3.length : Int) := of_decide_eq_true (by first | (with_reducible assumption) | assumption); obtain ⟨ad142, e142, hx142_0⟩ := Kd.at_int (Kd.R_reads' HO0_3.out).2.2 0 p142 q142; cases e142; have qi142 : (0 < l0_3.length) = True := eq_true (by omega); (try rw [show ((0 : Int)).toNat = 0 from rfl] at hx142_0); (try rw [Addr.add_zero'] at hx142_0); replace p142 := eq_true p142; replace q142 := eq_true q142; have p143 : 0 ≤ (1 : Int) := (by omega); have q143 : 1 < (l0_3.length : Int) := of_decide_eq_true (by first | (with_reducible assumption) | assumption); obtain ⟨ad143, e143, hx143_0⟩ := Kd.at_int (Kd.R_reads' HO0_3.out).2.2 1 p143 q143; obtain rfl : ad142 = ad143 := (by injection e143); (try simp only [show (1 : Int).toNat = 1 from rfl, Nat.reduceMul, Nat.reduceEqDiff, Go.Addr.add, ↓reduceIte] at hx143_0); have qi143 : (1 < l0_3.length) = True := eq_true (by omega); (try rw [show ((1 : Int)).toNat = 1 from rfl] at hx143_0); replace p143 := eq_true p143; replace q143 := eq_true q143))
                go_ret2
                exact ⟨_, by first | rfl | (simp [errW_none, errW_some] <;> rfl) | (simp [*, errW_none, errW_some] <;> rfl), Kd.Q_of_R (by first | exact Kd.R_nil _ _ _ _ _ | exact Kd.N_nil _ _ _ _ _ | exact Kd.V_nil _ _ _ _ _ | exact Kd.Q_nil _ _ _ _ _ | exact Kd.S_nil _ _ _ _ _), by repeat (first | (with_reducible first | exact HB.out | apply below_alloc | apply pw_below_drewN | apply below_drew1 | refine below_set ?_ GE141.out) | exact HB.out), by repeat (first | (with_reducible first | exact HK.out | apply Kept.alloc | apply Kept.drewN | apply Kept.drew | refine Kept.setCell ?_ (.inr GW141.out) _) | exact HK.out)⟩
            · rw [if_neg c13] at H
              exact absurd H (by simp)
          · rw [if_neg c12] at H
            have c12b0 : ((rd l0_3 0) == 66) = false := beq_eq_false_iff_ne.mpr c12
            have c12b1 : ((rd l0_3 0) != 66) = true := bne_iff_ne.mpr c12
            simp only [Option.some.injEq, Prod.mk.injEq] at H
            obtain ⟨rfl, rfl⟩ := H
            obtain ⟨Ao28, co28, eo28⟩ := Kd.R_slice HO0_3.out
            subst eo28
            go_enter Tryd.func6, Tryd.ntmps6
            go_wp2_with (first | ((with_reducible refine gate_dst (N := 1) rfl ?_); (try (refine gate_guard (by rfl) ?_; dsimp only)); refine box_event ?hg (N := 1) ?hd (cs := #[.int .u64 a0_0, .int .u64 a0_1, .int .u16 a0_2, .slice Ao28 l0_3.length co28]) (t := 27) ?hr ?_; (case hd => rfl); (case hg => rfl); (case hr => first | (go_simp; done) | (go_simp; rfl)); intro gb141 hg w29 hbox hb; have n0_ := Aside0.mk (Kd.R_below (by (with_reducible repeat (first | apply Kd.R_alloc | apply Kd.R_drewN | apply Kd.R_drew)); exact HO0_3.out) hb); have n1_ := Aside0.mk (Kept.below (S := (fun k_ => P0_3_ k_)) (by repeat (first | (with_reducible first | exact HK.out | apply Kept.alloc | apply Kept.drewN | apply Kept.drew) | exact HK.out)) hb); have n2_ := Aside0.mk (below_step (by repeat (first | (with_reducible first | exact HB.out | apply below_alloc | apply pw_below_drewN | apply below_drew1) | exact HB.out)) hb); have n3_ := Aside0.mk (hbox); have n4_ := Aside0.mk ((by rw [hg]; exact (by first | exact HK.out.1 | exact (show Kept w _ (fun k_ => P0_3_ k_) from by repeat (first | (with_reducible first | exact HK.out | apply Kept.alloc | apply Kept.drewN | apply Kept.drew) | exact HK.out)).1) : w.heap.size ≤ gb141)); have n5_ := Aside0.mk ((by rw [hg]; exact (below_size (by repeat (first | (with_reducible first | exact HB.out | apply below_alloc | apply pw_below_drewN | apply below_drew1) | exact HB.out))) : w0.heap.size ≤ gb141)); clear HO0_3; clear HK; clear HB; have HO0_3 := n0_; have HK := n1_; have HB := n2_; have BK141 := n3_; have GW141 := n4_; have GE141 := n5_; clear n0_ n1_ n2_ n3_ n4_ n5_; clear hb hbox hg; have hcz30_0 : w29.cell? ⟨gb141, 0, none⟩ = some (.int .u64 a0_0) := (blk_cell BK141.out 0).trans rfl; have hcz30_1 : w29.cell? ⟨gb141, 1, none⟩ = some (.int .u64 a0_1) := (blk_cell BK141.out 1).trans rfl; have hcz30_2 : w29.cell? ⟨gb141, 2, none⟩ = some (.int .u16 a0_2) := (blk_cell BK141.out 2).trans rfl; have hcz30_3 : w29.cell? ⟨gb141, 3, none⟩ = some (.slice Ao28 l0_3.length co28) := (blk_cell BK141.out 3).trans rfl; have hfz30_0 := blk_frozen BK141.out 0; have hfz30_1 := blk_frozen BK141.out 1; have hfz30_2 := blk_frozen BK141.out 2; have hfz30_3 := blk_frozen BK141.out 3; have p142 : 0 ≤ (0 : Int) := (by omega); have q142 : 0 < (l0_3.length : Int) := of_decide_eq_true (by first | (with_reducible assumption) | assumption); obtain ⟨ad142, e142, hx142_0⟩ := Kd.at_int (Kd.R_reads' HO0_3.out).2.2 0 p142 q142; cases e142; have qi142 : (0 < l0_3.length) = True := eq_true (by omega); (try rw [show ((0 : Int)).toNat = 0 from rfl] at hx142_0); (try rw [Addr.add_zero'] at hx142_0); replace p142 := eq_true p142; replace q142 := eq_true q142))
            go_ret2
            exact ⟨_, by first | rfl | (simp [errW_none, errW_some] <;> rfl) | (simp [*, errW_none, errW_some] <;> rfl), Kd.Q_of_R (by first | exact Kd.R_nil _ _ _ _ _ | exact Kd.N_nil _ _ _ _ _ | exact Kd.V_nil _ _ _ _ _ | exact Kd.Q_nil _ _ _ _ _ | exact Kd.S_nil _ _ _ _ _), by repeat (first | (with_reducible first | exact HB.out | apply below_alloc | apply pw_below_drewN | apply below_drew1 | refine below_set ?_ GE141.out) | exact HB.out), by repeat (first | (with_reducible first | exact HK.out | apply Kept.alloc | apply Kept.drewN | apply Kept.drew | refine Kept.setCell ?_ (.inr GW141.out) _) | exact HK.out)⟩
        · rw [if_neg c11] at H
          exact absurd H (by simp)
  · rw [if_neg c2] at H
    have c2b0 : (a0_0 == 1652522221568) = false := beq_eq_false_iff_ne.mpr c2
    have c2b1 : (a0_0 != 1652522221568) = true := bne_iff_ne.mpr c2
    simp only [Option.some.injEq, Prod.mk.injEq] at H
    obtain ⟨rfl, rfl⟩ := H
    obtain ⟨Ao31, co31, eo31⟩ := Kd.R_slice HO0_3.out
    subst eo31
    go_enter Tryd.func6, Tryd.ntmps6
    go_wp2_with (first | ((with_reducible refine gate_dst (N := 1) rfl ?_); (try (refine gate_guard (by rfl) ?_; dsimp only)); refine box_event ?hg (N := 1) ?hd (cs := #[.int .u64 a0_0, .int .u64 a0_1, .int .u16 a0_2, .slice Ao31 l0_3.length co31]) (t := 27) ?hr ?_; (case hd => rfl); (case hg => rfl); (case hr => first | (go_simp; done) | (go_simp; rfl)); intro gb141 hg w32 hbox hb; have n0_ := Aside0.mk (Kd.R_below (by (with_reducible repeat (first | apply Kd.R_alloc | apply Kd.R_drewN | apply Kd.R_drew)); exact HO0_3.out) hb); have n1_ := Aside0.mk (Kept.below (S := (fun k_ => P0_3_ k_)) (by repeat (first | (with_reducible first | exact HK.out | apply Kept.alloc | apply Kept.drewN | apply Kept.drew) | exact HK.out)) hb); have n2_ := Aside0.mk (below_step (by repeat (first | (with_reducible first | exact HB.out | apply below_alloc | apply pw_below_drewN | apply below_drew1) | exact HB.out)) hb); have n3_ := Aside0.mk (hbox); have n4_ := Aside0.mk ((by rw [hg]; exact (by first | exact HK.out.1 | exact (show Kept w _ (fun k_ => P0_3_ k_) from by repeat (first | (with_reducible first | exact HK.out | apply Kept.alloc | apply Kept.drewN | apply Kept.drew) | exact HK.out)).1) : w.heap.size ≤ gb141)); have n5_ := Aside0.mk ((by rw [hg]; exact (below_size (by repeat (first | (with_reducible first | exact HB.out | apply below_alloc | apply pw_below_drewN | apply below_drew1) | exact HB.out))) : w0.heap.size ≤ gb141)); clear HO0_3; clear HK; clear HB; have HO0_3 := n0_; have HK := n1_; have HB := n2_; have BK141 := n3_; have GW141 := n4_; have GE141 := n5_; clear n0_ n1_ n2_ n3_ n4_ n5_; clear hb hbox hg; have hcz33_0 : w32.cell? ⟨gb141, 0, none⟩ = some (.int .u64 a0_0) := (blk_cell BK141.out 0).trans rfl; have hcz33_1 : w32.cell? ⟨gb141, 1, none⟩ = some (.int .u64 a0_1) := (blk_cell BK141.out 1).trans rfl; have hcz33_2 : w32.cell? ⟨gb141, 2, none⟩ = some (.int .u16 a0_2) := (blk_cell BK141.out 2).trans rfl; have hcz33_3 : w32.cell? ⟨gb141, 3, none⟩ = some (.slice Ao31 l0_3.length co31) := (blk_cell BK141.out 3).trans rfl; have hfz33_0 := blk_frozen BK141.out 0; have hfz33_1 := blk_frozen BK141.out 1; have hfz33_2 := blk_frozen BK141.out 2; have hfz33_3 := blk_frozen BK141.out 3))
    go_ret2
    exact ⟨_, by first | rfl | (simp [errW_none, errW_some] <;> rfl) | (simp [*, errW_none, errW_some] <;> rfl), Kd.Q_of_R (by first | exact Kd.R_nil _ _ _ _ _ | exact Kd.N_nil _ _ _ _ _ | exact Kd.V_nil _ _ _ _ _ | exact Kd.Q_nil _ _ _ _ _ | exact Kd.S_nil _ _ _ _ _), by repeat (first | (with_reducible first | exact HB.out | apply below_alloc | apply pw_below_drewN | apply below_drew1 | refine below_set ?_ GE141.out) | exact HB.out), by repeat (first | (with_reducible first | exact HK.out | apply Kept.alloc | apply Kept.drewN | apply Kept.drew | refine Kept.setCell ?_ (.inr GW141.out) _) | exact HK.out)⟩

-- NOT PRINTED: function 7 (frame_Wrap)

-- NOT PRINTED: function 3 (treelinelaw04_FrameOpens)

end Go.Proofs.YtdmlpcbmmdddbaaDoor.PFrameOpens
