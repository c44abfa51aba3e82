/- What Go functions that the law ScriptReads uses come to, and why: part 17. Made out of the kit's print by a program of this session (wip/tools/stub.py, splice.py), functions that it does not take told by hand. -/
import Derived.Test.YtiikllgppmmiaaaDoorOScriptReadsx16
namespace Go.Proofs.YtiikllgppmmiaaaDoor.OScriptReads
open Go.RowKit Go.Proofs.YtiikllgppmmiaaaDoorW.PrintWords Go.Proofs.YtiikllgppmmiaaaDoorW.PrintLast Go.Proofs.YtiikllgppmmiaaaDoorW.PrintMore
attribute [local go_sem] max2_int min2_int max_two min_two max_three min_three max_four min_four   -- for this text's walks alone
set_option linter.unusedVariables false
set_option linter.unusedSimpArgs false

/-! ### treelineref04_Put: function 19 -/
def treelineref04_Put.f (k : Nat) (a0_0 : Int) (a0_1 : Int) (a0_2 : Int) (l0_3 : List Int) : Option (List Int) := (treelineref01_Put.f k a0_0).bind fun t334 => ((treelineref01_Put.f k a0_1).bind fun t337 => (if t334.length + t337.length < 140737488355328 then ((some (t334 ++ t337 : List Int)).bind fun y340 => ((some (([(IntKind.u16.wrap (Int.tdiv a0_2 256)) % 256, (Int.tmod a0_2 256) % 256] : List Int) : List Int)).bind fun y343 => (if y340.length + y343.length < 140737488355328 then ((some (y340 ++ y343 : List Int)).bind fun y346 => (if y346.length + l0_3.length < 140737488355328 then (some (y346 ++ l0_3)) else (none))) else (none)))) else (none)))
theorem treelineref04_Put.mono : ∀ a0 a1 a2 a3 k, LeO (treelineref04_Put.f k a0 a1 a2 a3) (treelineref04_Put.f (k + 1) a0 a1 a2 a3) := by
  intro a0 a1 a2 a3 k
  unfold treelineref04_Put.f
  repeat' first
      | (with_reducible apply treelineref01_Put.mono)
      | (with_reducible exact LeO.refl _)
      | (with_reducible exact LeO.none _)
      | (with_reducible refine LeO.ite ?_ ?_)
      | (with_reducible refine LeO.bind ?_ (fun _ => ?_))
      | exact treelineref01_Put.mono _ _
      | exact LeO.none _
      | refine LeO.ite ?_ ?_
      | refine LeO.bind ?_ (fun _ => ?_)
def treelineref04_Put.T1 : Bool × List (List Nat × List Nat) := (true, [([], []), ([0], [0]), ([1], [1]), ([], []), ([3], [3]), ([4, 2], [4]), ([2, 5, 5], [2, 5]), ([6, 6, 0, 1, 2, 3, 4, 5, 6], [6])])
def treelineref04_Put.B1 : List Nat := [0, 1, 3, 0, 8, 31, 63, 127]
theorem treelineref04_Put.tab1 : rtab .any (opsOf Tryd.f19 1) = treelineref04_Put.T1 := by kernel_rfl
theorem treelineref04_Put.bits1 : waitsOk treelineref04_Put.T1.2 treelineref04_Put.B1 = true := by kernel_rfl
set_option maxHeartbeats 8000000 in
set_option maxRecDepth 100000 in
theorem treelineref04_Put.calls (k : Nat) (a0_0 : Int) (a0_1 : Int) (a0_2 : Int) (A0_3 : Option Addr) (c0_3 : Nat) (l0_3 : List Int) (r : List Int) (w : World) (hr0_3 : Kd.C (Kd.int .u8) w A0_3 l0_3.length l0_3) (hc0_3 : l0_3.length ≤ c0_3) (h : treelineref04_Put.f k a0_0 a0_1 a0_2 l0_3 = some r) :
  Calls Tryd.prog 19 #[.agg #[.int .u64 a0_0, .int .u64 a0_1, .int .u16 a0_2, .slice A0_3 l0_3.length c0_3]] w fun e w' => ∃ v0_ : Value, e = .returned (v0_) ∧ Kd.R (Kd.int .u8) 5 w' w.heap.size (fun _ => True) v0_ r ∧ Below w.heap.size w w' := by
 have hu43 := Tryd.underlying43
 have HR0_3 := Aside0.mk hr0_3
 have HC0_3 := Aside0.mk hc0_3
 clear hr0_3 hc0_3
 have HB := Aside0.mk (Below.refl w.heap.size w)
 have H : ((treelineref01_Put.f k a0_0).bind fun t334 => ((treelineref01_Put.f k a0_1).bind fun t337 => (if t334.length + t337.length < 140737488355328 then ((some (t334 ++ t337 : List Int)).bind fun y340 => ((some (([(IntKind.u16.wrap (Int.tdiv a0_2 256)) % 256, (Int.tmod a0_2 256) % 256] : List Int) : List Int)).bind fun y343 => (if y340.length + y343.length < 140737488355328 then ((some (y340 ++ y343 : List Int)).bind fun y346 => (if y346.length + l0_3.length < 140737488355328 then (some (y346 ++ l0_3)) else (none))) else (none)))) else (none)))) = some r := h
 clear h
 replace H := Option.bind_eq_some_iff.mp H
 obtain ⟨t334, A20, H⟩ := H
 (try dsimp only at H)
 have A2 := Aside0.mk A20
 clear A20
 replace H := Option.bind_eq_some_iff.mp H
 obtain ⟨t337, A30, H⟩ := H
 (try dsimp only at H)
 have A3 := Aside0.mk A30
 clear A30
 by_cases c4 : t334.length + t337.length < 140737488355328
 rotate_left
 ·rw [if_neg c4] at H
  exact absurd H (by simp)
 rw [if_pos c4] at H
 have LMc4 := Aside0.mk c4
 clear c4
 obtain ⟨y340, hy340⟩ : ∃ y_ : List Int, y_ = (t334 ++ t337) := ⟨_, rfl⟩
 replace H : ((some (([(IntKind.u16.wrap (Int.tdiv a0_2 256)) % 256, (Int.tmod a0_2 256) % 256] : List Int) : List Int)).bind fun y343 => (if y340.length + y343.length < 140737488355328 then ((some (y340 ++ y343 : List Int)).bind fun y346 => (if y346.length + l0_3.length < 140737488355328 then (some (y346 ++ l0_3)) else (none))) else (none))) = some r := by first | (rw [hy340]; with_reducible exact H) | (have H2_ := (Option.bind_some _ _).symm.trans H; rw [hy340]; with_reducible exact H2_) | (have H2_ := (Option.bind_some _ _).symm.trans H; with_reducible exact H2_) | with_reducible exact H | (rw [hy340]; exact H) | exact H
 have Ny340 := Aside0.mk hy340
 clear hy340
 obtain ⟨y343, hy343⟩ : ∃ y_ : List Int, y_ = (([(IntKind.u16.wrap (Int.tdiv a0_2 256)) % 256, (Int.tmod a0_2 256) % 256] : List Int)) := ⟨_, rfl⟩
 replace H : (if y340.length + y343.length < 140737488355328 then ((some (y340 ++ y343 : List Int)).bind fun y346 => (if y346.length + l0_3.length < 140737488355328 then (some (y346 ++ l0_3)) else (none))) else (none)) = some r := by first | (rw [hy343]; with_reducible exact H) | (have H2_ := (Option.bind_some _ _).symm.trans H; rw [hy343]; with_reducible exact H2_) | (have H2_ := (Option.bind_some _ _).symm.trans H; with_reducible exact H2_) | with_reducible exact H | (rw [hy343]; exact H) | exact H
 have Ny343 := Aside0.mk hy343
 clear hy343
 by_cases c5 : y340.length + y343.length < 140737488355328
 rotate_left
 ·rw [if_neg c5] at H
  exact absurd H (by simp)
 rw [if_pos c5] at H
 have LMc5 := Aside0.mk c5
 clear c5
 obtain ⟨y346, hy346⟩ : ∃ y_ : List Int, y_ = (y340 ++ y343) := ⟨_, rfl⟩
 replace H : (if y346.length + l0_3.length < 140737488355328 then (some (y346 ++ l0_3)) else (none)) = some r := by first | (rw [hy346]; with_reducible exact H) | (have H2_ := (Option.bind_some _ _).symm.trans H; rw [hy346]; with_reducible exact H2_) | (have H2_ := (Option.bind_some _ _).symm.trans H; with_reducible exact H2_) | with_reducible exact H | (rw [hy346]; exact H) | exact H
 have Ny346 := Aside0.mk hy346
 clear hy346
 by_cases c6 : y346.length + l0_3.length < 140737488355328
 rotate_left
 ·rw [if_neg c6] at H
  exact absurd H (by simp)
 rw [if_pos c6] at H
 have LMc6 := Aside0.mk c6
 clear c6
 obtain ⟨y349, hy349⟩ : ∃ y_ : List Int, y_ = (y346 ++ l0_3) := ⟨_, rfl⟩
 replace H : (some y349) = some r := by first | (rw [hy349]; with_reducible exact H) | (have H2_ := (Option.bind_some _ _).symm.trans H; rw [hy349]; with_reducible exact H2_) | (have H2_ := (Option.bind_some _ _).symm.trans H; with_reducible exact H2_) | with_reducible exact H | (rw [hy349]; exact H) | exact H
 have Ny349 := Aside0.mk hy349
 clear hy349
 obtain rfl := Option.some.inj H
 go_enter Tryd.func19, Tryd.ntmps19
 try go_wp2_with (first | ((with_reducible refine gate_dst (N := 1) rfl ?_); refine box_event ?hg (N := 1) ?hd (cs := #[.int .u64 a0_0, .int .u64 a0_1, .int .u16 a0_2, .slice A0_3 l0_3.length c0_3]) (t := 43) ?hr ?_; (case hd => rfl); (case hg => rfl); (case hr => first | (go_simp; done) | (go_simp; rfl)); intro gb333 hg w7 hbox hb; have BK333 := Aside0.mk (hbox); have GW333 := Aside0.mk ((by rw [hg]; exact (below_size bB) : w.heap.size ≤ gb333)); have GE333 := Aside0.mk ((by rw [hg]; exact (below_size bB) : w.heap.size ≤ gb333)); replace HB := Aside0.mk (below_step bB hb); clear hb hbox hg))
 replace BK333 := Aside0.mk (blk_drew BK333.out)
 replace HB := Aside0.mk (below_drew1 HB.out)
 refine start_ (n := 8) (S := fun w' => w'.cell? ⟨gb333, 0, none⟩ = some (.int .u64 a0_0) ∧ w'.cell? ⟨gb333, 1, none⟩ = some (.int .u64 a0_1) ∧ w'.cell? ⟨gb333, 2, none⟩ = some (.int .u16 a0_2) ∧ w'.cell? ⟨gb333, 3, none⟩ = some (.slice A0_3 l0_3.length c0_3)) (ds := []) #[false, false, false, false, false, false, false, false] (by kernel_rfl) rfl rfl ⟨(blk_cell BK333.out 0).trans rfl, (blk_cell BK333.out 1).trans rfl, (blk_cell BK333.out 2).trans rfl, (blk_cell BK333.out 3).trans rfl⟩ (fun hHeld => ?_); refine with_tabW treelineref04_Put.tab1 treelineref04_Put.bits1 (fun HT_ HW_ => ?_)
 generalize w7.drew = w8 at BK333 HB hHeld ⊢
 refine pure_ (i := 0) (N := some 4) (v := ?_) (a' := ?_) #[true, false, false, false, false, false, false, false] rfl rfl (any_of HT_.out (by kernel_rfl)) (fun _ _ _ h => h) (Or.inl ⟨by rfl, ?_⟩) ?_ ?_
 rotate_left
 ·intro w'
  go_simp
  with_reducible rfl
 rotate_left
 ·simp only [Act.put, List.setIfInBounds_toArray, List.set_cons_zero, List.set_cons_succ, i64_w, i32_w]
  rfl
 refine pure_ (i := 3) (N := some 7) (v := ?_) (a' := ?_) #[true, false, false, true, false, false, false, false] rfl rfl (any_of HT_.out (by kernel_rfl)) (fun _ _ _ h => h) (Or.inl ⟨by rfl, ?_⟩) ?_ ?_
 rotate_left
 ·intro w'
  go_simp
  with_reducible rfl
 rotate_left
 ·simp only [Act.put, List.setIfInBounds_toArray, List.set_cons_zero, List.set_cons_succ, i64_w, i32_w]
  rfl
 refine take_ (i := 1) (N := some 5) (v := ?_) (a' := ?_) #[true, true, false, true, false, false, false, false] rfl rfl (take_ofW HT_.out HW_.out (by kernel_rfl)) (fun _ _ _ h => h) (Or.inl ⟨by rfl, ?_⟩) hHeld ?_ ?_
 rotate_left
 ·rintro w' ⟨s0, s1, s2, s3⟩
  go_simp
  with_reducible rfl
 rotate_left
 ·simp only [Act.put, List.setIfInBounds_toArray, List.set_cons_zero, List.set_cons_succ, i64_w, i32_w]
  rfl
 refine take_ (i := 4) (N := some 8) (v := ?_) (a' := ?_) #[true, true, false, true, true, false, false, false] rfl rfl (take_ofW HT_.out HW_.out (by kernel_rfl)) (fun _ _ _ h => h) (Or.inl ⟨by rfl, ?_⟩) hHeld ?_ ?_
 rotate_left
 ·rintro w' ⟨s0, s1, s2, s3⟩
  go_simp
  with_reducible rfl
 rotate_left
 ·simp only [Act.put, List.setIfInBounds_toArray, List.set_cons_zero, List.set_cons_succ, i64_w, i32_w]
  rfl
 refine one_ (i := 2) (N := some 6) #[true, true, true, true, true, false, false, false] rfl rfl (one_of HT_.out (by kernel_rfl)) (by decide) (fun K hK => ?_)
 refine goes_ Tryd.func35 (by kernel_rfl) rfl #[.int .u64 a0_0] (by rfl) rfl rfl (by (try simp only [List.map_toArray, List.map_cons, List.map_nil]); first | done | rfl | (simp only [List.length_drop, List.length_take]; rfl)) ?_
 with_reducible refine (treelineref01_Put.calls k a0_0 t334 _ A2.out).mono ?_
 rintro e w9 ⟨v335, rfl, ho0, hb⟩
 refine ⟨_, rfl, ?_⟩
 have HO336 := Aside0.mk (Kd.R_lower ho0 (below_size bB))
 replace BK333 := Aside0.mk (blk_below (g := gb333) (o := .cells #[.int .u64 a0_0, .int .u64 a0_1, .int .u16 a0_2, .slice A0_3 l0_3.length c0_3] 43 (0, 0)) (bw BK333.out) hb)
 replace HB := Aside0.mk (below_step bB hb)
 (try clear hb)
 (try clear hb2)
 (try clear hk)
 (try clear hi)
 (try clear ho0)
 refine hK.out _ _ ⟨(blk_cell BK333.out 0).trans rfl, (blk_cell BK333.out 1).trans rfl, (blk_cell BK333.out 2).trans rfl, (blk_cell BK333.out 3).trans rfl⟩ (fun hHeld => ?_)
 clear hK K
 refine nS 6 ?_
 refine one_ (i := 5) (N := some 9) #[true, true, true, true, true, true, false, false] rfl rfl (one_of HT_.out (by kernel_rfl)) (by decide) (fun K hK => ?_)
 refine goes_ Tryd.func35 (by kernel_rfl) rfl #[.int .u64 a0_1] (by rfl) rfl rfl (by (try simp only [List.map_toArray, List.map_cons, List.map_nil]); first | done | rfl | (simp only [List.length_drop, List.length_take]; rfl)) ?_
 with_reducible refine (treelineref01_Put.calls k a0_1 t337 _ A3.out).mono ?_
 rintro e w10 ⟨v338, rfl, ho0, hb⟩
 refine ⟨_, rfl, ?_⟩
 have HO339 := Aside0.mk (Kd.R_lower (Kd.R_new' ho0 (Kd.R_lt (bN HO336.out))) (below_size bB))
 replace HO336 := Aside0.mk (Kd.R_elder' (bN HO336.out) (Kd.R_base ho0) hb)
 replace BK333 := Aside0.mk (blk_below (g := gb333) (o := .cells #[.int .u64 a0_0, .int .u64 a0_1, .int .u16 a0_2, .slice A0_3 l0_3.length c0_3] 43 (0, 0)) (bw BK333.out) hb)
 replace HB := Aside0.mk (below_step bB hb)
 (try clear hb)
 (try clear hb2)
 (try clear hk)
 (try clear hi)
 (try clear ho0)
 obtain ⟨Ao12, co12, eo12⟩ := Kd.R_slice HO339.out
 (first | subst eo12 | (injection eo12 with f1_ f2_ f3_; have f4_ := f1_.symm; have f5_ := f3_.symm; clear f1_ f2_ f3_; subst f4_; subst f5_))
 refine hK.out _ _ ⟨(blk_cell BK333.out 0).trans rfl, (blk_cell BK333.out 1).trans rfl, (blk_cell BK333.out 2).trans rfl, (blk_cell BK333.out 3).trans rfl⟩ (fun hHeld => ?_)
 clear hK K
 refine nS 9 ?_
 refine one_ (i := 6) (N := some 10) #[true, true, true, true, true, true, true, false] rfl rfl (one_of HT_.out (by kernel_rfl)) (by decide) (fun K hK => ?_)
 refine Kd.R_append_rows_step (Kd.int .u8) (w0 := w) w.heap.size (by rfl) (.tmp 6) (.tmp 9) 22 5 (.int .u8 0) 1 rfl Tryd.underlying22 info5 rfl (by decide) (by omega) v335 t334 t337 _ _ _ (fun k_ => some k_ ≠ (.slice Ao12 t337.length co12 : Value).ownBlock) (fun _ => False) rfl rfl ?aO ?aR (fun _ _ h => h) (fun _ h => h.elim) ?aF ?aB ?aS ?aL ?_
 (case aR => repeat (first | exact (Kd.R_reads' HO339.out).2.2 | (with_reducible refine Kd.C_alloc ?_ _) | (with_reducible refine Kd.C_drewN ?_ _) | (with_reducible refine Kd.C_drew ?_)))
 (case aB => exact bB)
 (case aF => exact (fun k_ hk => Kd.fresh' (Kd.R_lt (bN HO339.out)) k_ hk))
 (case aO => exact (by refine bN ?_; exact Kd.R_mono HO336.out (fun _ hk => hk.2)))
 (case aS => exact (below_size bB))
 (case aL => have := LMc4.out; omega)
 intro v341 w11 ho hb hg hat
 rw [← Ny340.out] at ho
 replace BK333 := Aside0.mk (blk_grown (g := gb333) (o := .cells #[.int .u64 a0_0, .int .u64 a0_1, .int .u16 a0_2, .slice A0_3 l0_3.length c0_3] 43 (0, 0)) (bw BK333.out) hg (Kd.R_ne HO336.out BK333.out (by decide)))
 replace HO339 := Aside0.mk (Kd.R_after (ok := (fun _ => True)) (bN HO339.out) hg hat)
 replace HB := Aside0.mk (hb)
 have HO342 := Aside0.mk (ho)
 clear HO336
 clear ho hb hg hat
 refine hK.out _ _ ⟨(blk_cell BK333.out 0).trans rfl, (blk_cell BK333.out 1).trans rfl, (blk_cell BK333.out 2).trans rfl, (blk_cell BK333.out 3).trans rfl⟩ (fun hHeld => ?_)
 clear hK K
 refine nS 10 ?_
 refine pure_ (i := 7) (N := some 3) (v := ?_) (a' := ?_) #[true, true, true, true, true, true, true, true] rfl rfl (any_of HT_.out (by kernel_rfl)) (fun _ _ _ h => h) (Or.inl ⟨by rfl, ?_⟩) ?_ ?_
 rotate_left
 ·intro w'
  go_simp
  with_reducible rfl
 rotate_left
 ·simp only [Act.put, List.setIfInBounds_toArray, List.set_cons_zero, List.set_cons_succ, i64_w, i32_w]
  rfl
 refine done_ (done_of HT_.out (by kernel_rfl)) ?_
 obtain ⟨hcz13_0, hcz13_1, hcz13_2, hcz13_3⟩ := cZ4 BK333.out
 obtain ⟨hfz13_0, hfz13_1, hfz13_2, hfz13_3⟩ := fZ4 BK333.out
 try go_wp2_with (first | ((with_reducible refine gate_dst (N := 20) rfl ?_); refine Kd.R_lit (Kd.int .u8) _ 5 ?hg (N := 20) ?hd (xs := ([(IntKind.u16.wrap (Int.tdiv a0_2 256)) % 256, (Int.tmod a0_2 256) % 256] : List Int)) (inner := [.int .u8 ((IntKind.u16.wrap (Int.tdiv a0_2 256)) % 256), .int .u8 ((Int.tmod a0_2 256) % 256)]) (ok := fun _ => True) (okp := fun _ => True) ?hr ?hp (fun _ hk => hk) trivial (Below.refl _ _) (Nat.le_refl _) (by simp) ?_; (case hd => rfl); (case hg => rfl); (case hr => first | (go_simp; done) | (go_simp; rfl)); (case hp => exact (Reps.one (show Kd.M (Kd.int .u8) _ _ _ ((IntKind.u16.wrap (Int.tdiv a0_2 256)) % 256) [.int .u8 ((IntKind.u16.wrap (Int.tdiv a0_2 256)) % 256)] from rfl) (Reps.one (show Kd.M (Kd.int .u8) _ _ _ ((Int.tmod a0_2 256) % 256) [.int .u8 ((Int.tmod a0_2 256) % 256)] from rfl) (Reps.none _ _)))); intro v344 w14 ho15 hb hg_ hnew_; clear hg_ hnew_; (first | rw [← Ny343.out] at ho15 | (simp only [Int.reduceToNat] at ho15; rw [← Ny343.out] at ho15)); have HO345 := Aside0.mk (Kd.R_lower (Kd.R_new' (Kd.R_new' ho15 (Kd.R_lt (bN HO339.out))) (Kd.R_lt (bN HO342.out))) (below_size bB)); replace HO339 := Aside0.mk (Kd.R_elder' (bN HO339.out) (Kd.R_base ho15) hb); replace HO342 := Aside0.mk (Kd.R_elder' (bN HO342.out) (Kd.R_base ho15) hb); replace BK333 := Aside0.mk (blk_below (g := gb333) (o := .cells #[.int .u64 a0_0, .int .u64 a0_1, .int .u16 a0_2, .slice A0_3 l0_3.length c0_3] 43 (0, 0)) (bw BK333.out) hb); replace HB := Aside0.mk (below_step bB hb); clear hb ho15; obtain ⟨Ao17, co17, eo17⟩ := Kd.R_slice HO345.out; subst eo17) | ((with_reducible refine gate_builtin (b := .append) (xs := #[.tmp 11, .tmp 20]) rfl ?_); at_builtin; refine Kd.R_append_rows (Kd.int .u8) (w0 := w) w.heap.size rfl (.tmp 11) (.tmp 20) 22 5 (.int .u8 0) 1 rfl Tryd.underlying22 info5 rfl (by decide) (by omega) v341 y340 y343 _ _ _ (fun k_ => some k_ ≠ (.slice Ao12 t337.length co12 : Value).ownBlock ∧ some k_ ≠ (.slice Ao17 y343.length co17 : Value).ownBlock) (fun _ => False) rfl rfl ?aO ?aR (fun _ _ h => h) (fun _ h => h.elim) ?aF ?aB ?aS ?aL ?_; (case aR => repeat (first | exact (Kd.R_reads' HO345.out).2.2 | (with_reducible refine Kd.C_alloc ?_ _) | (with_reducible refine Kd.C_drewN ?_ _) | (with_reducible refine Kd.C_drew ?_))); (case aB => exact bB); (case aF => exact (fun k_ hk => ⟨Kd.fresh' (Kd.R_lt (bN HO339.out)) k_ hk, Kd.fresh' (Kd.R_lt (bN HO345.out)) k_ hk⟩)); (case aO => exact (bN HO342.out)); (case aS => exact (below_size bB)); (case aL => have := LMc5.out; omega); intro v347 w16 ho hb hg hat; rw [← Ny346.out] at ho; replace BK333 := Aside0.mk (blk_grown (g := gb333) (o := .cells #[.int .u64 a0_0, .int .u64 a0_1, .int .u16 a0_2, .slice A0_3 l0_3.length c0_3] 43 (0, 0)) (bw BK333.out) hg (Kd.R_ne HO342.out BK333.out (by decide))); replace HO339 := Aside0.mk (Kd.R_after (ok := (fun k_ => some k_ ≠ (.slice Ao17 y343.length co17 : Value).ownBlock)) (by refine bN ?_; exact Kd.R_mono HO339.out (fun _ hk => ⟨hk.2, hk.1.2⟩)) hg hat); replace HO345 := Aside0.mk (Kd.R_after (ok := (fun k_ => some k_ ≠ (.slice Ao12 t337.length co12 : Value).ownBlock)) (by refine bN ?_; exact Kd.R_mono HO345.out (fun _ hk => ⟨hk.1.2, hk.2⟩)) hg hat); replace HB := Aside0.mk (hb); have HO348 := Aside0.mk (ho); clear HO342; clear ho hb hg hat; obtain ⟨hcz18_0, hcz18_1, hcz18_2, hcz18_3⟩ := cZ4 BK333.out; obtain ⟨hfz18_0, hfz18_1, hfz18_2, hfz18_3⟩ := fZ4 BK333.out) | ((with_reducible refine gate_builtin (b := .append) (xs := #[.tmp 22, .tmp 24]) rfl ?_); at_builtin; refine Kd.R_append_rows (Kd.int .u8) (w0 := w) w.heap.size rfl (.tmp 22) (.tmp 24) 22 5 (.int .u8 0) 1 rfl Tryd.underlying22 info5 rfl (by decide) (by omega) v347 y346 l0_3 _ _ _ (fun k_ => some k_ ≠ (.slice Ao12 t337.length co12 : Value).ownBlock ∧ some k_ ≠ (.slice Ao17 y343.length co17 : Value).ownBlock) (fun _ => False) rfl rfl ?aO ?aR (fun _ _ h => h) (fun _ h => h.elim) ?aF ?aB ?aS ?aL ?_; (case aR => repeat (first | exact (Kd.C_below HR0_3.out HB.out) | (with_reducible refine Kd.C_alloc ?_ _) | (with_reducible refine Kd.C_drewN ?_ _) | (with_reducible refine Kd.C_drew ?_))); (case aB => exact bB); (case aF => exact (fun k_ hk => ⟨Kd.fresh' (Kd.R_lt (bN HO339.out)) k_ hk, Kd.fresh' (Kd.R_lt (bN HO345.out)) k_ hk⟩)); (case aO => exact (bN HO348.out)); (case aS => exact (below_size bB)); (case aL => have := LMc6.out; omega); intro v350 w19 ho hb hg hat; rw [← Ny349.out] at ho; replace BK333 := Aside0.mk (blk_grown (g := gb333) (o := .cells #[.int .u64 a0_0, .int .u64 a0_1, .int .u16 a0_2, .slice A0_3 l0_3.length c0_3] 43 (0, 0)) (bw BK333.out) hg (Kd.R_ne HO348.out BK333.out (by decide))); replace HO339 := Aside0.mk (Kd.R_after (ok := (fun k_ => some k_ ≠ (.slice Ao17 y343.length co17 : Value).ownBlock)) (bN HO339.out) hg hat); replace HO345 := Aside0.mk (Kd.R_after (ok := (fun k_ => some k_ ≠ (.slice Ao12 t337.length co12 : Value).ownBlock)) (bN HO345.out) hg hat); replace HB := Aside0.mk (hb); have HO351 := Aside0.mk (ho); clear HO348; clear ho hb hg hat))
 go_ret
 exact ⟨_, by first | rfl | (simp [errW_none, errW_some] <;> rfl) | (simp [*, errW_none, errW_some] <;> rfl), by refine bN ?_; exact Kd.R_mono HO351.out (fun _ hk => trivial), by exact bB⟩
end Go.Proofs.YtiikllgppmmiaaaDoor.OScriptReads
