/- What Go functions that the law ScriptReads uses come to, and why: part 9. Made out of the kit's print by a program of this session (wip/tools/stub.py, splice.py), functions that it does not take told by hand. -/
import Derived.Test.YtiikllgppmmiaaaDoorOScriptReadsx8
namespace Go.Proofs.YtiikllgppmmiaaaDoor.OScriptReads
open Go.RowKit Go.Proofs.YtiikllgppmmiaaaDoorW.PrintWords Go.Proofs.YtiikllgppmmiaaaDoorW.PrintLast Go.Proofs.YtiikllgppmmiaaaDoorW.PrintMore
attribute [local go_sem] max2_int min2_int max_two min_two max_three min_three max_four min_four   -- for this text's walks alone
set_option linter.unusedVariables false
set_option linter.unusedSimpArgs false

/-! ### frame_Put: function 32 -/
def frame_Put.f (k : Nat) (a0_0 : Int) (a0_1 : Int) (a0_2 : Int) (l0_3 : List Int) : Option (List Int × Int) := (frame_Check.f k a0_0 a0_1 a0_2 l0_3).bind fun t213 => (if t213 = 0 then ((ids_Put.f k a0_0).bind fun t214 => ((ids_Put.f k a0_1).bind fun t217 => (if t214.length + t217.length < 140737488355328 then ((wire_Put_uint16.f k (t214 ++ t217) a0_2 2).bind fun t223 => (if t223.length + l0_3.length < 140737488355328 then (some ((t223 ++ l0_3), 0)) else (none))) else (none)))) else (some (([] : List Int), t213)))
theorem frame_Put.mono : ∀ a0 a1 a2 a3 k, LeO (frame_Put.f k a0 a1 a2 a3) (frame_Put.f (k + 1) a0 a1 a2 a3) := by
  intro a0 a1 a2 a3 k
  unfold frame_Put.f
  repeat' first
      | (with_reducible apply frame_Check.mono)
      | (with_reducible apply ids_Put.mono)
      | (with_reducible apply wire_Put_uint16.mono)
      | (with_reducible exact LeO.refl _)
      | (with_reducible exact LeO.none _)
      | (with_reducible refine LeO.ite ?_ ?_)
      | (with_reducible refine LeO.bind ?_ (fun _ => ?_))
      | exact frame_Check.mono _ _ _ _ _
      | exact ids_Put.mono _ _
      | exact wire_Put_uint16.mono _ _ _ _
      | exact LeO.none _
      | refine LeO.ite ?_ ?_
      | refine LeO.bind ?_ (fun _ => ?_)
def frame_Put.T4 : Bool × List (List Nat × List Nat) := (true, [([], []), ([0], [0]), ([1], [1]), ([], []), ([3], [3]), ([4, 2], [4]), ([2, 5, 5], [2, 5]), ([6, 6, 0, 1, 2, 3, 4, 5, 6], [6])])
def frame_Put.B4 : List Nat := [0, 1, 3, 0, 8, 31, 63, 127]
theorem frame_Put.tab4 : rtab .any (opsOf Tryd.f32 4) = frame_Put.T4 := by kernel_rfl
theorem frame_Put.bits4 : waitsOk frame_Put.T4.2 frame_Put.B4 = true := by kernel_rfl
def frame_Put.T5 : Bool × List (List Nat × List Nat) := (true, [([], []), ([], []), ([1], [1]), ([0, 2], [0, 2]), ([], []), ([4], [4]), ([3, 5, 3], [3, 5]), ([6, 6, 0, 1, 2, 3, 4, 5, 6], [6]), ([7, 0, 1, 2, 3, 4, 5, 6, 7], [])])
def frame_Put.B5 : List Nat := [0, 0, 2, 7, 0, 16, 63, 127, 255]
theorem frame_Put.tab5 : rtab .any (opsOf Tryd.f32 5) = frame_Put.T5 := by kernel_rfl
theorem frame_Put.bits5 : waitsOk frame_Put.T5.2 frame_Put.B5 = true := by kernel_rfl
set_option maxHeartbeats 8000000 in
set_option maxRecDepth 100000 in
theorem frame_Put.calls (k : Nat) (a0_0 : Int) (a0_1 : Int) (a0_2 : Int) (A0_3 : Option Addr) (c0_3 : Nat) (l0_3 : List Int) (r1 : List Int) (r2 : Int) (w : World) (hr0_3 : Kd.C (Kd.int .u8) w A0_3 l0_3.length l0_3) (hc0_3 : l0_3.length ≤ c0_3) (h : frame_Put.f k a0_0 a0_1 a0_2 l0_3 = some (r1, r2)) :
  Calls Tryd.prog 32 #[.agg #[.int .u64 a0_0, .int .u64 a0_1, .int .u16 a0_2, .slice A0_3 l0_3.length c0_3]] w fun e w' => ∃ v0_ : Value, e = .returned (.tuple #[v0_, .int .i64 r2]) ∧ Kd.R (Kd.int .u8) 5 w' w.heap.size (fun _ => True) v0_ r1 ∧ Below w.heap.size w w' := by
 have hu43 := Tryd.underlying43
 have HR0_3 := Aside0.mk hr0_3
 have HC0_3 := Aside0.mk hc0_3
 clear hr0_3 hc0_3
 have HB := Aside0.mk (Below.refl w.heap.size w)
 have H : ((frame_Check.f k a0_0 a0_1 a0_2 l0_3).bind fun t213 => (if t213 = 0 then ((ids_Put.f k a0_0).bind fun t214 => ((ids_Put.f k a0_1).bind fun t217 => (if t214.length + t217.length < 140737488355328 then ((wire_Put_uint16.f k (t214 ++ t217) a0_2 2).bind fun t223 => (if t223.length + l0_3.length < 140737488355328 then (some ((t223 ++ l0_3), 0)) else (none))) else (none)))) else (some (([] : List Int), t213)))) = some (r1, r2) := h
 clear h
 replace H := Option.bind_eq_some_iff.mp H
 obtain ⟨t213, A20, H⟩ := H
 (try dsimp only at H)
 have A2 := Aside0.mk A20
 clear A20
 by_cases c3 : t213 = 0
 rotate_left
 ·rw [if_neg c3] at H
  have c3b0 : (t213 == 0) = false := beq_eq_false_iff_ne.mpr c3
  have c3b1 : (t213 != 0) = true := bne_iff_ne.mpr c3
  simp only [Option.some.injEq, Prod.mk.injEq] at H
  obtain ⟨rfl, rfl⟩ := H
  go_enter Tryd.func32, Tryd.ntmps32
  go_wp2_with (first | ((with_reducible refine gate_dst (N := 1) rfl ?_); refine box_event ?hg (N := 1) ?hd (cs := #[.int .u64 a0_0, .int .u64 a0_1, .int .u16 a0_2, .slice A0_3 l0_3.length c0_3]) (t := 43) ?hr ?_; (case hd => rfl); (case hg => rfl); (case hr => first | (go_simp; done) | (go_simp; rfl)); intro gb212 hg w21 hbox hb; have BK212 := Aside0.mk (hbox); have GW212 := Aside0.mk ((by rw [hg]; exact (below_size bB) : w.heap.size ≤ gb212)); have GE212 := Aside0.mk ((by rw [hg]; exact (below_size bB) : w.heap.size ≤ gb212)); replace HB := Aside0.mk (below_step bB hb); clear hb hbox hg; obtain ⟨hcz22_0, hcz22_1, hcz22_2, hcz22_3⟩ := cZ4 BK212.out; obtain ⟨hfz22_0, hfz22_1, hfz22_2, hfz22_3⟩ := fZ4 BK212.out) | ((with_reducible refine gate_callee (f := 27) rfl ?_); refine gL (some 7) Tryd.func27 #[.agg #[.int .u64 a0_0, .int .u64 a0_1, .int .u16 a0_2, .slice A0_3 l0_3.length c0_3]] ?_; (with_reducible refine (frame_Check.calls k a0_0 a0_1 a0_2 _ _ l0_3 t213 _ ?side1 ?side2 A2.out).mono ?_); (case side1 => repeat (first | exact (Kd.C_below HR0_3.out HB.out) | (with_reducible refine Kd.C_alloc ?_ _) | (with_reducible refine Kd.C_drewN ?_ _) | (with_reducible refine Kd.C_drew ?_))); (case side2 => exact HC0_3.out); rintro e w23 ⟨rfl, hb⟩; refine ⟨_, rfl, ?_⟩; replace BK212 := Aside0.mk (blk_below (g := gb212) (o := .cells #[.int .u64 a0_0, .int .u64 a0_1, .int .u16 a0_2, .slice A0_3 l0_3.length c0_3] 43 (0, 0)) (bw BK212.out) hb); replace HB := Aside0.mk (below_step bB hb); (try clear hb); (try clear hb2); (try clear hk); (try clear hi)) | (go_at_call 27; (with_reducible refine (frame_Check.calls k a0_0 a0_1 a0_2 _ _ l0_3 t213 _ ?side1 ?side2 A2.out).mono ?_); (case side1 => repeat (first | exact (Kd.C_below HR0_3.out HB.out) | (with_reducible refine Kd.C_alloc ?_ _) | (with_reducible refine Kd.C_drewN ?_ _) | (with_reducible refine Kd.C_drew ?_))); (case side2 => exact HC0_3.out); rintro e w23 ⟨rfl, hb⟩; replace BK212 := Aside0.mk (blk_below (g := gb212) (o := .cells #[.int .u64 a0_0, .int .u64 a0_1, .int .u16 a0_2, .slice A0_3 l0_3.length c0_3] 43 (0, 0)) (bw BK212.out) hb); replace HB := Aside0.mk (below_step bB hb); (try clear hb); (try clear hb2); (try clear hk); (try clear hi)))
  go_ret2
  exact ⟨_, by first | rfl | (simp [errW_none, errW_some] <;> rfl) | (simp [*, errW_none, errW_some] <;> rfl), by first | exact Kd.R_nil _ _ _ _ _ | exact Kd.N_nil _ _ _ _ _ | exact Kd.V_nil _ _ _ _ _ | exact Kd.Q_nil _ _ _ _ _ | exact Kd.S_nil _ _ _ _ _, by exact bB⟩
 rw [if_pos c3] at H
 have c3b0 : (t213 == 0) = true := beq_iff_eq.mpr c3
 have c3b1 : (t213 != 0) = false := bne_eq_false_iff_eq.mpr c3
 clear c3
 replace H := Option.bind_eq_some_iff.mp H
 obtain ⟨t214, A40, H⟩ := H
 (try dsimp only at H)
 have A4 := Aside0.mk A40
 clear A40
 replace H := Option.bind_eq_some_iff.mp H
 obtain ⟨t217, A50, H⟩ := H
 (try dsimp only at H)
 have A5 := Aside0.mk A50
 clear A50
 by_cases c6 : t214.length + t217.length < 140737488355328
 rotate_left
 ·rw [if_neg c6] at H
  exact absurd H (by simp)
 rw [if_pos c6] at H
 have LMc6 := Aside0.mk c6
 clear c6
 obtain ⟨y220, hy220⟩ : ∃ y_ : List Int, y_ = (t214 ++ t217) := ⟨_, rfl⟩
 replace H : ((wire_Put_uint16.f k y220 a0_2 2).bind fun t223 => (if t223.length + l0_3.length < 140737488355328 then (some ((t223 ++ l0_3), 0)) else (none))) = some (r1, r2) := by first | (rw [hy220]; with_reducible exact H) | (have H2_ := (Option.bind_some _ _).symm.trans H; rw [hy220]; with_reducible exact H2_) | (have H2_ := (Option.bind_some _ _).symm.trans H; with_reducible exact H2_) | with_reducible exact H | (rw [hy220]; exact H) | exact H
 have Ny220 := Aside0.mk hy220
 clear hy220
 replace H := Option.bind_eq_some_iff.mp H
 obtain ⟨t223, A70, H⟩ := H
 (try dsimp only at H)
 have A7 := Aside0.mk A70
 clear A70
 by_cases c8 : t223.length + l0_3.length < 140737488355328
 rotate_left
 ·rw [if_neg c8] at H
  exact absurd H (by simp)
 rw [if_pos c8] at H
 have LMc8 := Aside0.mk c8
 clear c8
 obtain ⟨y226, hy226⟩ : ∃ y_ : List Int, y_ = (t223 ++ l0_3) := ⟨_, rfl⟩
 replace H : (some (y226, 0)) = some (r1, r2) := by first | (rw [hy226]; with_reducible exact H) | (have H2_ := (Option.bind_some _ _).symm.trans H; rw [hy226]; with_reducible exact H2_) | (have H2_ := (Option.bind_some _ _).symm.trans H; with_reducible exact H2_) | with_reducible exact H | (rw [hy226]; exact H) | exact H
 have Ny226 := Aside0.mk hy226
 clear hy226
 simp only [Option.some.injEq, Prod.mk.injEq] at H
 obtain ⟨rfl, rfl⟩ := H
 go_enter Tryd.func32, Tryd.ntmps32
 try go_wp2_with (first | ((with_reducible refine gate_dst (N := 1) rfl ?_); refine box_event ?hg (N := 1) ?hd (cs := #[.int .u64 a0_0, .int .u64 a0_1, .int .u16 a0_2, .slice A0_3 l0_3.length c0_3]) (t := 43) ?hr ?_; (case hd => rfl); (case hg => rfl); (case hr => first | (go_simp; done) | (go_simp; rfl)); intro gb212 hg w9 hbox hb; have BK212 := Aside0.mk (hbox); have GW212 := Aside0.mk ((by rw [hg]; exact (below_size bB) : w.heap.size ≤ gb212)); have GE212 := Aside0.mk ((by rw [hg]; exact (below_size bB) : w.heap.size ≤ gb212)); replace HB := Aside0.mk (below_step bB hb); clear hb hbox hg; obtain ⟨hcz10_0, hcz10_1, hcz10_2, hcz10_3⟩ := cZ4 BK212.out; obtain ⟨hfz10_0, hfz10_1, hfz10_2, hfz10_3⟩ := fZ4 BK212.out) | ((with_reducible refine gate_callee (f := 27) rfl ?_); refine gL (some 7) Tryd.func27 #[.agg #[.int .u64 a0_0, .int .u64 a0_1, .int .u16 a0_2, .slice A0_3 l0_3.length c0_3]] ?_; (with_reducible refine (frame_Check.calls k a0_0 a0_1 a0_2 _ _ l0_3 t213 _ ?side1 ?side2 A2.out).mono ?_); (case side1 => repeat (first | exact (Kd.C_below HR0_3.out HB.out) | (with_reducible refine Kd.C_alloc ?_ _) | (with_reducible refine Kd.C_drewN ?_ _) | (with_reducible refine Kd.C_drew ?_))); (case side2 => exact HC0_3.out); rintro e w11 ⟨rfl, hb⟩; refine ⟨_, rfl, ?_⟩; replace BK212 := Aside0.mk (blk_below (g := gb212) (o := .cells #[.int .u64 a0_0, .int .u64 a0_1, .int .u16 a0_2, .slice A0_3 l0_3.length c0_3] 43 (0, 0)) (bw BK212.out) hb); replace HB := Aside0.mk (below_step bB hb); (try clear hb); (try clear hb2); (try clear hk); (try clear hi)))
 replace BK212 := Aside0.mk (blk_drew BK212.out)
 replace HB := Aside0.mk (below_drew1 HB.out)
 refine start_ (n := 8) (S := fun w' => w'.cell? ⟨gb212, 0, none⟩ = some (.int .u64 a0_0) ∧ w'.cell? ⟨gb212, 1, none⟩ = some (.int .u64 a0_1) ∧ w'.cell? ⟨gb212, 2, none⟩ = some (.int .u16 a0_2) ∧ w'.cell? ⟨gb212, 3, none⟩ = some (.slice A0_3 l0_3.length c0_3)) (ds := []) #[false, false, false, false, false, false, false, false] (by kernel_rfl) rfl rfl ⟨(blk_cell BK212.out 0).trans rfl, (blk_cell BK212.out 1).trans rfl, (blk_cell BK212.out 2).trans rfl, (blk_cell BK212.out 3).trans rfl⟩ (fun hHeld => ?_); refine with_tabW frame_Put.tab4 frame_Put.bits4 (fun HT_ HW_ => ?_)
 generalize w11.drew = w12 at BK212 HB hHeld ⊢
 refine pS 0 11 HT_ ?_
 refine pS 3 14 HT_ ?_
 refine tS 1 12 HT_ HW_ hHeld ?_
 refine tS 4 15 HT_ HW_ hHeld ?_
 refine one_ (i := 2) (N := some 13) #[true, true, true, true, true, false, false, false] rfl rfl (one_of HT_.out (by kernel_rfl)) (by decide) (fun K hK => ?_)
 refine goes_ Tryd.func37 (by kernel_rfl) rfl #[.int .u64 a0_0] (by rfl) rfl rfl (by (try simp only [List.map_toArray, List.map_cons, List.map_nil]); first | done | rfl | (simp only [List.length_drop, List.length_take]; rfl)) ?_
 with_reducible refine (ids_Put.calls k a0_0 t214 _ A4.out).mono ?_
 rintro e w13 ⟨v215, rfl, ho0, hb⟩
 refine ⟨_, rfl, ?_⟩
 have HO216 := Aside0.mk (Kd.R_lower ho0 (below_size bB))
 replace BK212 := Aside0.mk (blk_below (g := gb212) (o := .cells #[.int .u64 a0_0, .int .u64 a0_1, .int .u16 a0_2, .slice A0_3 l0_3.length c0_3] 43 (0, 0)) (bw BK212.out) hb)
 replace HB := Aside0.mk (below_step bB hb)
 (try clear hb)
 (try clear hb2)
 (try clear hk)
 (try clear hi)
 (try clear ho0)
 refine hK.out _ _ ⟨(blk_cell BK212.out 0).trans rfl, (blk_cell BK212.out 1).trans rfl, (blk_cell BK212.out 2).trans rfl, (blk_cell BK212.out 3).trans rfl⟩ (fun hHeld => ?_)
 clear hK K
 refine nS 13 ?_
 refine one_ (i := 5) (N := some 16) #[true, true, true, true, true, true, false, false] rfl rfl (one_of HT_.out (by kernel_rfl)) (by decide) (fun K hK => ?_)
 refine goes_ Tryd.func37 (by kernel_rfl) rfl #[.int .u64 a0_1] (by rfl) rfl rfl (by (try simp only [List.map_toArray, List.map_cons, List.map_nil]); first | done | rfl | (simp only [List.length_drop, List.length_take]; rfl)) ?_
 with_reducible refine (ids_Put.calls k a0_1 t217 _ A5.out).mono ?_
 rintro e w14 ⟨v218, rfl, ho0, hb⟩
 refine ⟨_, rfl, ?_⟩
 have HO219 := Aside0.mk (Kd.R_lower (Kd.R_new' ho0 (Kd.R_lt (bN HO216.out))) (below_size bB))
 replace HO216 := Aside0.mk (Kd.R_elder' (bN HO216.out) (Kd.R_base ho0) hb)
 replace BK212 := Aside0.mk (blk_below (g := gb212) (o := .cells #[.int .u64 a0_0, .int .u64 a0_1, .int .u16 a0_2, .slice A0_3 l0_3.length c0_3] 43 (0, 0)) (bw BK212.out) hb)
 replace HB := Aside0.mk (below_step bB hb)
 (try clear hb)
 (try clear hb2)
 (try clear hk)
 (try clear hi)
 (try clear ho0)
 obtain ⟨Ao16, co16, eo16⟩ := Kd.R_slice HO219.out
 (first | subst eo16 | (injection eo16 with f1_ f2_ f3_; have f4_ := f1_.symm; have f5_ := f3_.symm; clear f1_ f2_ f3_; subst f4_; subst f5_))
 refine hK.out _ _ ⟨(blk_cell BK212.out 0).trans rfl, (blk_cell BK212.out 1).trans rfl, (blk_cell BK212.out 2).trans rfl, (blk_cell BK212.out 3).trans rfl⟩ (fun hHeld => ?_)
 clear hK K
 refine nS 16 ?_
 refine one_ (i := 6) (N := some 17) #[true, true, true, true, true, true, true, false] rfl rfl (one_of HT_.out (by kernel_rfl)) (by decide) (fun K hK => ?_)
 refine Kd.R_append_rows_step (Kd.int .u8) (w0 := w) w.heap.size (by rfl) (.tmp 13) (.tmp 16) 22 5 (.int .u8 0) 1 rfl Tryd.underlying22 info5 rfl (by decide) (by omega) v215 t214 t217 _ _ _ (fun k_ => some k_ ≠ (.slice Ao16 t217.length co16 : Value).ownBlock) (fun _ => False) rfl rfl ?aO ?aR (fun _ _ h => h) (fun _ h => h.elim) ?aF ?aB ?aS ?aL ?_
 (case aR => repeat (first | exact (Kd.R_reads' HO219.out).2.2 | (with_reducible refine Kd.C_alloc ?_ _) | (with_reducible refine Kd.C_drewN ?_ _) | (with_reducible refine Kd.C_drew ?_)))
 (case aB => exact bB)
 (case aF => exact (fun k_ hk => Kd.fresh' (Kd.R_lt (bN HO219.out)) k_ hk))
 (case aO => exact (by refine bN ?_; exact Kd.R_mono HO216.out (fun _ hk => hk.2)))
 (case aS => exact (below_size bB))
 (case aL => have := LMc6.out; omega)
 intro v221 w15 ho hb hg hat
 rw [← Ny220.out] at ho
 replace BK212 := Aside0.mk (blk_grown (g := gb212) (o := .cells #[.int .u64 a0_0, .int .u64 a0_1, .int .u16 a0_2, .slice A0_3 l0_3.length c0_3] 43 (0, 0)) (bw BK212.out) hg (Kd.R_ne HO216.out BK212.out (by decide)))
 replace HO219 := Aside0.mk (Kd.R_after (ok := (fun _ => True)) (bN HO219.out) hg hat)
 replace HB := Aside0.mk (hb)
 have HO222 := Aside0.mk (ho)
 clear HO216
 clear ho hb hg hat
 refine hK.out _ _ ⟨(blk_cell BK212.out 0).trans rfl, (blk_cell BK212.out 1).trans rfl, (blk_cell BK212.out 2).trans rfl, (blk_cell BK212.out 3).trans rfl⟩ (fun hHeld => ?_)
 clear hK K
 refine nS 17 ?_
 refine pS 7 5 HT_ ?_
 refine done_ (done_of HT_.out (by kernel_rfl)) ?_
 try go_wp2
 replace HO219 := Aside0.mk (Kd.R_drew HO219.out)
 replace HO222 := Aside0.mk (Kd.R_drew HO222.out)
 replace BK212 := Aside0.mk (blk_drew BK212.out)
 replace HB := Aside0.mk (below_drew1 HB.out)
 obtain ⟨Ao18, co18, eo18⟩ := Kd.R_slice HO222.out
 (first | subst eo18 | (injection eo18 with f1_ f2_ f3_; have f4_ := f1_.symm; have f5_ := f3_.symm; clear f1_ f2_ f3_; subst f4_; subst f5_))
 refine start_ (n := 9) (S := fun w' => w'.cell? ⟨gb212, 0, none⟩ = some (.int .u64 a0_0) ∧ w'.cell? ⟨gb212, 1, none⟩ = some (.int .u64 a0_1) ∧ w'.cell? ⟨gb212, 2, none⟩ = some (.int .u16 a0_2) ∧ w'.cell? ⟨gb212, 3, none⟩ = some (.slice A0_3 l0_3.length c0_3)) (ds := []) #[false, false, false, false, false, false, false, false, false] (by kernel_rfl) rfl rfl ⟨(blk_cell BK212.out 0).trans rfl, (blk_cell BK212.out 1).trans rfl, (blk_cell BK212.out 2).trans rfl, (blk_cell BK212.out 3).trans rfl⟩ (fun hHeld => ?_); refine with_tabW frame_Put.tab5 frame_Put.bits5 (fun HT_ HW_ => ?_)
 generalize w15.drew = w17 at HO219 HO222 BK212 HB hHeld ⊢
 refine pS 0 18 HT_ ?_
 refine pS 1 19 HT_ ?_
 refine pS 4 22 HT_ ?_
 refine tS 2 20 HT_ HW_ hHeld ?_
 refine tS 5 23 HT_ HW_ hHeld ?_
 refine one_ (i := 3) (N := some 21) #[true, true, true, true, true, true, false, false, false] rfl rfl (one_of HT_.out (by kernel_rfl)) (by decide) (fun K hK => ?_)
 refine goes_ Tryd.func38 (by kernel_rfl) rfl #[.slice Ao18 y220.length co18, .int .u16 a0_2, .int .i64 2] (by rfl) rfl rfl (by (try simp only [List.map_toArray, List.map_cons, List.map_nil]); first | done | rfl | (simp only [List.length_drop, List.length_take]; rfl)) ?_
 with_reducible refine (wire_Put_uint16.calls k _ _ y220 a0_2 2 t223 _ ?side1 ?side2 A7.out).mono ?_
 (case side1 => repeat (first | exact (Kd.R_reads' HO222.out).2.2 | (with_reducible refine Kd.C_alloc ?_ _) | (with_reducible refine Kd.C_drewN ?_ _) | (with_reducible refine Kd.C_drew ?_)))
 (case side2 => exact (Kd.R_reads' HO222.out).2.1)
 rintro e w19 ⟨v224, rfl, ho0, hb⟩
 refine ⟨_, rfl, ?_⟩
 have HO225 := Aside0.mk (Kd.R_lower (Kd.R_new' (Kd.R_new' ho0 (Kd.R_lt (bN HO219.out))) (Kd.R_lt (bN HO222.out))) (below_size bB))
 replace HO219 := Aside0.mk (Kd.R_elder' (bN HO219.out) (Kd.R_base ho0) hb)
 replace HO222 := Aside0.mk (Kd.R_elder' (bN HO222.out) (Kd.R_base ho0) hb)
 replace BK212 := Aside0.mk (blk_below (g := gb212) (o := .cells #[.int .u64 a0_0, .int .u64 a0_1, .int .u16 a0_2, .slice A0_3 l0_3.length c0_3] 43 (0, 0)) (bw BK212.out) hb)
 replace HB := Aside0.mk (below_step bB hb)
 (try clear hb)
 (try clear hb2)
 (try clear hk)
 (try clear hi)
 (try clear ho0)
 refine hK.out _ _ ⟨(blk_cell BK212.out 0).trans rfl, (blk_cell BK212.out 1).trans rfl, (blk_cell BK212.out 2).trans rfl, (blk_cell BK212.out 3).trans rfl⟩ (fun hHeld => ?_)
 clear hK K
 refine nS 21 ?_
 refine one_ (i := 6) (N := some 24) #[true, true, true, true, true, true, true, false, false] rfl rfl (one_of HT_.out (by kernel_rfl)) (by decide) (fun K hK => ?_)
 refine Kd.R_append_rows_step (Kd.int .u8) (w0 := w) w.heap.size (by rfl) (.tmp 21) (.tmp 23) 22 5 (.int .u8 0) 1 rfl Tryd.underlying22 info5 rfl (by decide) (by omega) v224 t223 l0_3 _ _ _ (fun k_ => some k_ ≠ (.slice Ao16 t217.length co16 : Value).ownBlock ∧ some k_ ≠ (.slice Ao18 y220.length co18 : Value).ownBlock) (fun _ => False) rfl rfl ?aO ?aR (fun _ _ h => h) (fun _ h => h.elim) ?aF ?aB ?aS ?aL ?_
 (case aR => repeat (first | exact (Kd.C_below HR0_3.out HB.out) | (with_reducible refine Kd.C_alloc ?_ _) | (with_reducible refine Kd.C_drewN ?_ _) | (with_reducible refine Kd.C_drew ?_)))
 (case aB => exact bB)
 (case aF => exact (fun k_ hk => ⟨Kd.fresh' (Kd.R_lt (bN HO219.out)) k_ hk, Kd.fresh' (Kd.R_lt (bN HO222.out)) k_ hk⟩))
 (case aO => exact (by refine bN ?_; exact Kd.R_mono HO225.out (fun _ hk => ⟨hk.1.2, hk.2⟩)))
 (case aS => exact (below_size bB))
 (case aL => have := LMc8.out; omega)
 intro v227 w20 ho hb hg hat
 rw [← Ny226.out] at ho
 replace BK212 := Aside0.mk (blk_grown (g := gb212) (o := .cells #[.int .u64 a0_0, .int .u64 a0_1, .int .u16 a0_2, .slice A0_3 l0_3.length c0_3] 43 (0, 0)) (bw BK212.out) hg (Kd.R_ne HO225.out BK212.out (by decide)))
 replace HO219 := Aside0.mk (Kd.R_after (ok := (fun k_ => some k_ ≠ (.slice Ao18 y220.length co18 : Value).ownBlock)) (by refine bN ?_; exact Kd.R_mono HO219.out (fun _ hk => ⟨hk.1.2, hk.2⟩)) hg hat)
 replace HO222 := Aside0.mk (Kd.R_after (ok := (fun k_ => some k_ ≠ (.slice Ao16 t217.length co16 : Value).ownBlock)) (bN HO222.out) hg hat)
 replace HB := Aside0.mk (hb)
 have HO228 := Aside0.mk (ho)
 clear HO225
 clear ho hb hg hat
 refine hK.out _ _ ⟨(blk_cell BK212.out 0).trans rfl, (blk_cell BK212.out 1).trans rfl, (blk_cell BK212.out 2).trans rfl, (blk_cell BK212.out 3).trans rfl⟩ (fun hHeld => ?_)
 clear hK K
 refine nS 24 ?_
 refine pS 7 2 HT_ ?_
 refine pS 8 3 HT_ ?_
 refine done_ (done_of HT_.out (by kernel_rfl)) ?_
 try go_wp2
 go_ret2
 exact ⟨_, by first | rfl | (simp [errW_none, errW_some] <;> rfl) | (simp [*, errW_none, errW_some] <;> rfl), by refine bN ?_; exact Kd.R_mono HO228.out (fun _ hk => trivial), by exact bB⟩
end Go.Proofs.YtiikllgppmmiaaaDoor.OScriptReads
