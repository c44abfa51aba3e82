/- What Go functions that the law ScriptMay uses come to, and why: part 16. Made out of the kit's print by a program of this session (wip/tools/stub.py, splice.py), functions that it does not take told by hand. -/
import Derived.Test.YtiikllgppmmiaaaDoorOScriptMayx15
namespace Go.Proofs.YtiikllgppmmiaaaDoor.OScriptMay
open Go.RowKit Go.Proofs.YtiikllgppmmiaaaDoorW.PrintWords Go.Proofs.YtiikllgppmmiaaaDoorW.PrintLast Go.Proofs.YtiikllgppmmiaaaDoorW.PrintMore
attribute [local go_sem] max2_int min2_int max_two min_two max_three min_three max_four min_four   -- for this text's walks alone
set_option linter.unusedVariables false
set_option linter.unusedSimpArgs false

/-! ### treelineref11_Check: function 20 -/
mutual
def treelineref11_Check.j0 : Nat → Bool → Int → Int → Int → Int → Int → Int → Int → List (S63) → Option (Int)
  | 0, _, _, _, _, _, _, _, _, _ => none
  | k + 1, x30, x308000, x308001, x308002, x308003, x308004, x308005, x308006, x308007 => if x30 = true then (some 3) else (if (x308007.length : Int) = 0 then (some 8) else (if (x308007.length : Int) > 4 then (some 4) else (treelineref11_Check.l0 k 0 x308000 x308001 x308002 x308003 x308004 x308005 x308006 x308007)))
def treelineref11_Check.l0 : Nat → Int → Int → Int → Int → Int → Int → Int → Int → List (S63) → Option (Int)
  | 0, _, _, _, _, _, _, _, _, _ => none
  | k + 1, x3, x308000, x308001, x308002, x308003, x308004, x308005, x308006, x308007 => if x3 < (x308007.length : Int) then (if 0 ≤ x3 then (if ((rd_T63 x308007 x3).f1) < 1 then (some 3) else (if ((rd_T63 x308007 x3).f1) > 65535 then (some 3) else (treelineref11_Check.l0 k (wrap64 (x3 + 1)) x308000 x308001 x308002 x308003 x308004 x308005 x308006 x308007))) else (none)) else (some 0)
end
def treelineref11_Check.f (k : Nat) (a0_0 : Int) (a0_1 : Int) (a0_2 : Int) (a0_3 : Int) (a0_4 : Int) (a0_5 : Int) (a0_6 : Int) (l0_7 : List (S63)) : Option (Int) := (treelineref01_Right.f a0_0).bind fun t308 => (if t308 = true then ((treelineref11_Times.f a0_0 a0_1 a0_2 a0_3 a0_4 a0_5 a0_6 l0_7).bind fun t309 => (if t309 = true then (if a0_5 < 10 then (treelineref11_Check.j0 k true a0_0 a0_1 a0_2 a0_3 a0_4 a0_5 a0_6 l0_7) else (if a0_5 > 1000000 then (treelineref11_Check.j0 k true a0_0 a0_1 a0_2 a0_3 a0_4 a0_5 a0_6 l0_7) else (if a0_6 < 0 then (treelineref11_Check.j0 k true a0_0 a0_1 a0_2 a0_3 a0_4 a0_5 a0_6 l0_7) else (treelineref11_Check.j0 k (decide (a0_6 > 64)) a0_0 a0_1 a0_2 a0_3 a0_4 a0_5 a0_6 l0_7)))) else (treelineref11_Check.j0 k true a0_0 a0_1 a0_2 a0_3 a0_4 a0_5 a0_6 l0_7))) else (some 1))
theorem treelineref11_Check.mono_l : ∀ k, (∀ y0 y1 y2 y3 y4 y5 y6 y7 y8, LeO (treelineref11_Check.j0 k y0 y1 y2 y3 y4 y5 y6 y7 y8) (treelineref11_Check.j0 (k + 1) y0 y1 y2 y3 y4 y5 y6 y7 y8)) ∧ (∀ y0 y1 y2 y3 y4 y5 y6 y7 y8, LeO (treelineref11_Check.l0 k y0 y1 y2 y3 y4 y5 y6 y7 y8) (treelineref11_Check.l0 (k + 1) y0 y1 y2 y3 y4 y5 y6 y7 y8))
  | 0 => ⟨fun _ _ _ _ _ _ _ _ _ r h => by simp [treelineref11_Check.j0] at h, fun _ _ _ _ _ _ _ _ _ r h => by simp [treelineref11_Check.l0] at h⟩
  | k + 1 => by
    obtain ⟨ih0, ih1⟩ := treelineref11_Check.mono_l k
    refine ⟨?_, ?_⟩
    · intro y0 y1 y2 y3 y4 y5 y6 y7 y8
      unfold treelineref11_Check.j0
      repeat' first
      | (with_reducible exact ih0 _ _ _ _ _ _ _ _ _)
      | (with_reducible exact ih1 _ _ _ _ _ _ _ _ _)
      | (with_reducible exact LeO.refl _)
      | (with_reducible exact LeO.none _)
      | (with_reducible refine LeO.ite ?_ ?_)
      | (with_reducible refine LeO.bind ?_ (fun _ => ?_))
      | exact ih0 _ _ _ _ _ _ _ _ _
      | exact ih1 _ _ _ _ _ _ _ _ _
      | exact LeO.none _
      | refine LeO.ite ?_ ?_
      | refine LeO.bind ?_ (fun _ => ?_)
    · intro y0 y1 y2 y3 y4 y5 y6 y7 y8
      unfold treelineref11_Check.l0
      repeat' first
      | (with_reducible exact ih0 _ _ _ _ _ _ _ _ _)
      | (with_reducible exact ih1 _ _ _ _ _ _ _ _ _)
      | (with_reducible exact LeO.refl _)
      | (with_reducible exact LeO.none _)
      | (with_reducible refine LeO.ite ?_ ?_)
      | (with_reducible refine LeO.bind ?_ (fun _ => ?_))
      | exact ih0 _ _ _ _ _ _ _ _ _
      | exact ih1 _ _ _ _ _ _ _ _ _
      | exact LeO.none _
      | refine LeO.ite ?_ ?_
      | refine LeO.bind ?_ (fun _ => ?_)
theorem treelineref11_Check.mono : ∀ a0 a1 a2 a3 a4 a5 a6 a7 k, LeO (treelineref11_Check.f k a0 a1 a2 a3 a4 a5 a6 a7) (treelineref11_Check.f (k + 1) a0 a1 a2 a3 a4 a5 a6 a7) := by
  intro a0 a1 a2 a3 a4 a5 a6 a7 k
  obtain ⟨ih0, ih1⟩ := treelineref11_Check.mono_l k
  unfold treelineref11_Check.f
  repeat' first
      | (with_reducible exact ih0 _ _ _ _ _ _ _ _ _)
      | (with_reducible exact ih1 _ _ _ _ _ _ _ _ _)
      | (with_reducible exact LeO.refl _)
      | (with_reducible exact LeO.none _)
      | (with_reducible refine LeO.ite ?_ ?_)
      | (with_reducible refine LeO.bind ?_ (fun _ => ?_))
      | exact ih0 _ _ _ _ _ _ _ _ _
      | exact ih1 _ _ _ _ _ _ _ _ _
      | exact LeO.none _
      | refine LeO.ite ?_ ?_
      | refine LeO.bind ?_ (fun _ => ?_)
set_option maxHeartbeats 8000000 in
set_option maxRecDepth 100000 in
theorem treelineref11_Check.calls (k : Nat) (a0_0 : Int) (a0_1 : Int) (a0_2 : Int) (a0_3 : Int) (a0_4 : Int) (a0_5 : Int) (a0_6 : Int) (A0_7 : Option Addr) (c0_7 : Nat) (l0_7 : List (S63)) (r : Int) (w : World) (hr0_7 : Kd.C k63 w A0_7 l0_7.length l0_7) (hc0_7 : l0_7.length ≤ c0_7) (h : treelineref11_Check.f k a0_0 a0_1 a0_2 a0_3 a0_4 a0_5 a0_6 l0_7 = some r) :
  Calls Tryd.prog 20 #[.agg #[.int .u64 a0_0, .int .u16 a0_1, .int .i64 a0_2, .int .i64 a0_3, .int .i64 a0_4, .int .i64 a0_5, .int .i64 a0_6, .slice A0_7 l0_7.length c0_7]] w fun e w' => e = .returned (.int .i64 r) ∧ Below w.heap.size w w' := by
 have hu51 := Tryd.underlying51
 have HR0_7 := Aside0.mk hr0_7
 have HC0_7 := Aside0.mk hc0_7
 clear hr0_7 hc0_7
 have HB := Aside0.mk (Below.refl w.heap.size w)
 have H : ((treelineref01_Right.f a0_0).bind fun t308 => (if t308 = true then ((treelineref11_Times.f a0_0 a0_1 a0_2 a0_3 a0_4 a0_5 a0_6 l0_7).bind fun t309 => (if t309 = true then (if a0_5 < 10 then (treelineref11_Check.j0 k true a0_0 a0_1 a0_2 a0_3 a0_4 a0_5 a0_6 l0_7) else (if a0_5 > 1000000 then (treelineref11_Check.j0 k true a0_0 a0_1 a0_2 a0_3 a0_4 a0_5 a0_6 l0_7) else (if a0_6 < 0 then (treelineref11_Check.j0 k true a0_0 a0_1 a0_2 a0_3 a0_4 a0_5 a0_6 l0_7) else (treelineref11_Check.j0 k (decide (a0_6 > 64)) a0_0 a0_1 a0_2 a0_3 a0_4 a0_5 a0_6 l0_7)))) else (treelineref11_Check.j0 k true a0_0 a0_1 a0_2 a0_3 a0_4 a0_5 a0_6 l0_7))) else (some 1))) = some r := h
 clear h
 replace H := Option.bind_eq_some_iff.mp H
 obtain ⟨t308, A20, H⟩ := H
 replace H : (if t308 = true then ((treelineref11_Times.f a0_0 a0_1 a0_2 a0_3 a0_4 a0_5 a0_6 l0_7).bind fun t309 => (if t309 = true then (if a0_5 < 10 then (treelineref11_Check.j0 k true a0_0 a0_1 a0_2 a0_3 a0_4 a0_5 a0_6 l0_7) else (if a0_5 > 1000000 then (treelineref11_Check.j0 k true a0_0 a0_1 a0_2 a0_3 a0_4 a0_5 a0_6 l0_7) else (if a0_6 < 0 then (treelineref11_Check.j0 k true a0_0 a0_1 a0_2 a0_3 a0_4 a0_5 a0_6 l0_7) else (treelineref11_Check.j0 k (decide (a0_6 > 64)) a0_0 a0_1 a0_2 a0_3 a0_4 a0_5 a0_6 l0_7)))) else (treelineref11_Check.j0 k true a0_0 a0_1 a0_2 a0_3 a0_4 a0_5 a0_6 l0_7))) else (some 1)) = some r := H
 have A2 := Aside0.mk A20
 clear A20
 by_cases c3 : t308 = true
 rotate_left
 ·replace c3 := Bool.eq_false_iff.mpr c3
  subst c3
  have H1 : (some 1) = some r := by rw [if_neg (show ¬ (false = true) by decide)] at H; exact H
  clear H
  have H := H1
  clear H1
  obtain rfl := Option.some.inj H
  go_enter Tryd.func20, Tryd.ntmps20
  go_wp2_with (first | ((with_reducible refine gate_dst (N := 1) rfl ?_); refine box_event ?hg (N := 1) ?hd (cs := #[.int .u64 a0_0, .int .u16 a0_1, .int .i64 a0_2, .int .i64 a0_3, .int .i64 a0_4, .int .i64 a0_5, .int .i64 a0_6, .slice A0_7 l0_7.length c0_7]) (t := 51) ?hr ?_; (case hd => rfl); (case hg => rfl); (case hr => first | (go_simp; done) | (go_simp; rfl)); intro gb307 hg w40 hbox hb; have n0_ := Aside0.mk (below_step (by repeat (first | (with_reducible first | exact HB.out | apply below_alloc | apply pw_below_drewN | apply below_drew1) | exact HB.out)) hb); have n1_ := Aside0.mk (hbox); have n2_ := Aside0.mk ((by rw [hg]; exact (below_size (by repeat (first | (with_reducible first | exact HB.out | apply below_alloc | apply pw_below_drewN | apply below_drew1) | exact HB.out))) : w.heap.size ≤ gb307)); have n3_ := Aside0.mk ((by rw [hg]; exact (below_size (by repeat (first | (with_reducible first | exact HB.out | apply below_alloc | apply pw_below_drewN | apply below_drew1) | exact HB.out))) : w.heap.size ≤ gb307)); clear HB; have HB := n0_; have BK307 := n1_; have GW307 := n2_; have GE307 := n3_; clear n0_ n1_ n2_ n3_; clear hb hbox hg; have hcz41_0 : w40.cell? ⟨gb307, 0, none⟩ = some (.int .u64 a0_0) := (blk_cell BK307.out 0).trans rfl; have hcz41_1 : w40.cell? ⟨gb307, 1, none⟩ = some (.int .u16 a0_1) := (blk_cell BK307.out 1).trans rfl; have hcz41_2 : w40.cell? ⟨gb307, 2, none⟩ = some (.int .i64 a0_2) := (blk_cell BK307.out 2).trans rfl; have hcz41_3 : w40.cell? ⟨gb307, 3, none⟩ = some (.int .i64 a0_3) := (blk_cell BK307.out 3).trans rfl; have hcz41_4 : w40.cell? ⟨gb307, 4, none⟩ = some (.int .i64 a0_4) := (blk_cell BK307.out 4).trans rfl; have hcz41_5 : w40.cell? ⟨gb307, 5, none⟩ = some (.int .i64 a0_5) := (blk_cell BK307.out 5).trans rfl; have hcz41_6 : w40.cell? ⟨gb307, 6, none⟩ = some (.int .i64 a0_6) := (blk_cell BK307.out 6).trans rfl; have hcz41_7 : w40.cell? ⟨gb307, 7, none⟩ = some (.slice A0_7 l0_7.length c0_7) := (blk_cell BK307.out 7).trans rfl; have hfz41_0 := blk_frozen BK307.out 0; have hfz41_1 := blk_frozen BK307.out 1; have hfz41_2 := blk_frozen BK307.out 2; have hfz41_3 := blk_frozen BK307.out 3; have hfz41_4 := blk_frozen BK307.out 4; have hfz41_5 := blk_frozen BK307.out 5; have hfz41_6 := blk_frozen BK307.out 6; have hfz41_7 := blk_frozen BK307.out 7) | ((with_reducible refine gate_callee (f := 21) rfl ?_); refine goesL_ (some 6) rfl rfl Tryd.func21 (by kernel_rfl) rfl #[.int .u64 a0_0] rfl (by (try simp only [List.map_toArray, List.map_cons, List.map_nil]); first | done | rfl | (simp only [List.length_drop, List.length_take]; rfl)) ?_; (with_reducible refine (treelineref01_Right.calls a0_0 false _ A2.out).mono ?_); rintro e w' ⟨rfl, ⟨nd, rfl⟩⟩; refine ⟨_, rfl, ?_⟩) | (go_at_call 21; (with_reducible refine (treelineref01_Right.calls a0_0 false _ A2.out).mono ?_); rintro e w' ⟨rfl, ⟨nd, rfl⟩⟩))
  go_ret
  exact ⟨by first | rfl | (simp [errW_none, errW_some] <;> rfl) | (simp [*, errW_none, errW_some] <;> rfl), by repeat (first | (with_reducible first | exact HB.out | apply below_alloc | apply pw_below_drewN | apply below_drew1 | refine below_set ?_ GE307.out) | exact HB.out)⟩
 subst c3
 have H1 : ((treelineref11_Times.f a0_0 a0_1 a0_2 a0_3 a0_4 a0_5 a0_6 l0_7).bind fun t309 => (if t309 = true then (if a0_5 < 10 then (treelineref11_Check.j0 k true a0_0 a0_1 a0_2 a0_3 a0_4 a0_5 a0_6 l0_7) else (if a0_5 > 1000000 then (treelineref11_Check.j0 k true a0_0 a0_1 a0_2 a0_3 a0_4 a0_5 a0_6 l0_7) else (if a0_6 < 0 then (treelineref11_Check.j0 k true a0_0 a0_1 a0_2 a0_3 a0_4 a0_5 a0_6 l0_7) else (treelineref11_Check.j0 k (decide (a0_6 > 64)) a0_0 a0_1 a0_2 a0_3 a0_4 a0_5 a0_6 l0_7)))) else (treelineref11_Check.j0 k true a0_0 a0_1 a0_2 a0_3 a0_4 a0_5 a0_6 l0_7))) = some r := by rw [if_pos rfl] at H; exact H
 clear H
 have H := H1
 clear H1
 have HC4 := Aside0.mk H
 clear H
 go_enter Tryd.func20, Tryd.ntmps20
 go_upto_region 3 with (first | ((with_reducible refine gate_dst (N := 1) rfl ?_); refine box_event ?hg (N := 1) ?hd (cs := #[.int .u64 a0_0, .int .u16 a0_1, .int .i64 a0_2, .int .i64 a0_3, .int .i64 a0_4, .int .i64 a0_5, .int .i64 a0_6, .slice A0_7 l0_7.length c0_7]) (t := 51) ?hr ?_; (case hd => rfl); (case hg => rfl); (case hr => first | (go_simp; done) | (go_simp; rfl)); intro gb307 hg w5 hbox hb; have n0_ := Aside0.mk (below_step (by repeat (first | (with_reducible first | exact HB.out | apply below_alloc | apply pw_below_drewN | apply below_drew1) | exact HB.out)) hb); have n1_ := Aside0.mk (hbox); have n2_ := Aside0.mk ((by rw [hg]; exact (below_size (by repeat (first | (with_reducible first | exact HB.out | apply below_alloc | apply pw_below_drewN | apply below_drew1) | exact HB.out))) : w.heap.size ≤ gb307)); have n3_ := Aside0.mk ((by rw [hg]; exact (below_size (by repeat (first | (with_reducible first | exact HB.out | apply below_alloc | apply pw_below_drewN | apply below_drew1) | exact HB.out))) : w.heap.size ≤ gb307)); clear HB; have HB := n0_; have BK307 := n1_; have GW307 := n2_; have GE307 := n3_; clear n0_ n1_ n2_ n3_; clear hb hbox hg; have hcz6_0 : w5.cell? ⟨gb307, 0, none⟩ = some (.int .u64 a0_0) := (blk_cell BK307.out 0).trans rfl; have hcz6_1 : w5.cell? ⟨gb307, 1, none⟩ = some (.int .u16 a0_1) := (blk_cell BK307.out 1).trans rfl; have hcz6_2 : w5.cell? ⟨gb307, 2, none⟩ = some (.int .i64 a0_2) := (blk_cell BK307.out 2).trans rfl; have hcz6_3 : w5.cell? ⟨gb307, 3, none⟩ = some (.int .i64 a0_3) := (blk_cell BK307.out 3).trans rfl; have hcz6_4 : w5.cell? ⟨gb307, 4, none⟩ = some (.int .i64 a0_4) := (blk_cell BK307.out 4).trans rfl; have hcz6_5 : w5.cell? ⟨gb307, 5, none⟩ = some (.int .i64 a0_5) := (blk_cell BK307.out 5).trans rfl; have hcz6_6 : w5.cell? ⟨gb307, 6, none⟩ = some (.int .i64 a0_6) := (blk_cell BK307.out 6).trans rfl; have hcz6_7 : w5.cell? ⟨gb307, 7, none⟩ = some (.slice A0_7 l0_7.length c0_7) := (blk_cell BK307.out 7).trans rfl; have hfz6_0 := blk_frozen BK307.out 0; have hfz6_1 := blk_frozen BK307.out 1; have hfz6_2 := blk_frozen BK307.out 2; have hfz6_3 := blk_frozen BK307.out 3; have hfz6_4 := blk_frozen BK307.out 4; have hfz6_5 := blk_frozen BK307.out 5; have hfz6_6 := blk_frozen BK307.out 6; have hfz6_7 := blk_frozen BK307.out 7) | ((with_reducible refine gate_callee (f := 21) rfl ?_); refine goesL_ (some 6) rfl rfl Tryd.func21 (by kernel_rfl) rfl #[.int .u64 a0_0] rfl (by (try simp only [List.map_toArray, List.map_cons, List.map_nil]); first | done | rfl | (simp only [List.length_drop, List.length_take]; rfl)) ?_; (with_reducible refine (treelineref01_Right.calls a0_0 true _ A2.out).mono ?_); rintro e w' ⟨rfl, ⟨nd, rfl⟩⟩; refine ⟨_, rfl, ?_⟩))
 (try simp only [Act.put, List.setIfInBounds_toArray, List.set_cons_zero, List.set_cons_succ])
 go_cut [30] (fun v30 wc => ∃ (kq : Nat) (x30_3 : Bool), v30 = .bool x30_3 ∧ Aside0 (treelineref11_Check.j0 kq x30_3 a0_0 a0_1 a0_2 a0_3 a0_4 a0_5 a0_6 l0_7 = some r) ∧ Aside0 (kq ≤ k) ∧ Aside0 (wc.heap[gb307]? = some (.cells #[.int .u64 a0_0, .int .u16 a0_1, .int .i64 a0_2, .int .i64 a0_3, .int .i64 a0_4, .int .i64 a0_5, .int .i64 a0_6, (.slice A0_7 l0_7.length c0_7)] 51 (0, 0))) ∧ Aside0 (Below w.heap.size w wc))
 case first =>
  have H := HC4.out
  clear HC4
  replace H := Option.bind_eq_some_iff.mp H
  obtain ⟨t309, A70, H⟩ := H
  replace H : (if t309 = true then (if a0_5 < 10 then (treelineref11_Check.j0 k true a0_0 a0_1 a0_2 a0_3 a0_4 a0_5 a0_6 l0_7) else (if a0_5 > 1000000 then (treelineref11_Check.j0 k true a0_0 a0_1 a0_2 a0_3 a0_4 a0_5 a0_6 l0_7) else (if a0_6 < 0 then (treelineref11_Check.j0 k true a0_0 a0_1 a0_2 a0_3 a0_4 a0_5 a0_6 l0_7) else (treelineref11_Check.j0 k (decide (a0_6 > 64)) a0_0 a0_1 a0_2 a0_3 a0_4 a0_5 a0_6 l0_7)))) else (treelineref11_Check.j0 k true a0_0 a0_1 a0_2 a0_3 a0_4 a0_5 a0_6 l0_7)) = some r := H
  have A7 := Aside0.mk A70
  clear A70
  by_cases c8 : t309 = true
  rotate_left
  ·replace c8 := Bool.eq_false_iff.mpr c8
   subst c8
   have H1 : (treelineref11_Check.j0 k true a0_0 a0_1 a0_2 a0_3 a0_4 a0_5 a0_6 l0_7) = some r := by rw [if_neg (show ¬ (false = true) by decide)] at H; exact H
   clear H
   have H := H1
   clear H1
   have H' := Aside0.mk H
   clear H
   have hcz24_0 : w5.cell? ⟨gb307, 0, none⟩ = some (.int .u64 a0_0) := (blk_cell BK307.out 0).trans rfl
   have hcz24_1 : w5.cell? ⟨gb307, 1, none⟩ = some (.int .u16 a0_1) := (blk_cell BK307.out 1).trans rfl
   have hcz24_2 : w5.cell? ⟨gb307, 2, none⟩ = some (.int .i64 a0_2) := (blk_cell BK307.out 2).trans rfl
   have hcz24_3 : w5.cell? ⟨gb307, 3, none⟩ = some (.int .i64 a0_3) := (blk_cell BK307.out 3).trans rfl
   have hcz24_4 : w5.cell? ⟨gb307, 4, none⟩ = some (.int .i64 a0_4) := (blk_cell BK307.out 4).trans rfl
   have hcz24_5 : w5.cell? ⟨gb307, 5, none⟩ = some (.int .i64 a0_5) := (blk_cell BK307.out 5).trans rfl
   have hcz24_6 : w5.cell? ⟨gb307, 6, none⟩ = some (.int .i64 a0_6) := (blk_cell BK307.out 6).trans rfl
   have hcz24_7 : w5.cell? ⟨gb307, 7, none⟩ = some (.slice A0_7 l0_7.length c0_7) := (blk_cell BK307.out 7).trans rfl
   have hfz24_0 := blk_frozen BK307.out 0
   have hfz24_1 := blk_frozen BK307.out 1
   have hfz24_2 := blk_frozen BK307.out 2
   have hfz24_3 := blk_frozen BK307.out 3
   have hfz24_4 := blk_frozen BK307.out 4
   have hfz24_5 := blk_frozen BK307.out 5
   have hfz24_6 := blk_frozen BK307.out 6
   have hfz24_7 := blk_frozen BK307.out 7
   go_wp2_with (first | ((with_reducible refine gate_callee (f := 36) rfl ?_); refine goesL_ (some 9) rfl rfl Tryd.func36 (by kernel_rfl) rfl #[.agg #[.int .u64 a0_0, .int .u16 a0_1, .int .i64 a0_2, .int .i64 a0_3, .int .i64 a0_4, .int .i64 a0_5, .int .i64 a0_6, .slice A0_7 l0_7.length c0_7]] rfl (by (try simp only [List.map_toArray, List.map_cons, List.map_nil]); first | done | rfl | (simp only [List.length_drop, List.length_take]; rfl)) ?_; (with_reducible refine (treelineref11_Times.calls a0_0 a0_1 a0_2 a0_3 a0_4 a0_5 a0_6 _ _ l0_7 false _ ?side1 ?side2 A7.out).mono ?_); (case side1 => repeat (first | exact (Kd.C_below HR0_7.out HB.out) | (with_reducible refine Kd.C_alloc ?_ _) | (with_reducible refine Kd.C_drewN ?_ _) | (with_reducible refine Kd.C_drew ?_))); (case side2 => exact HC0_7.out); rintro e w25 ⟨rfl, hb⟩; refine ⟨_, rfl, ?_⟩; have n0_ := Aside0.mk (blk_below (g := gb307) (o := .cells #[.int .u64 a0_0, .int .u16 a0_1, .int .i64 a0_2, .int .i64 a0_3, .int .i64 a0_4, .int .i64 a0_5, .int .i64 a0_6, .slice A0_7 l0_7.length c0_7] 51 (0, 0)) (by (with_reducible repeat (first | refine blk_drewN ?_ _ | refine blk_drew ?_ | refine blk_alloc ?_ _)); exact BK307.out) hb); have n1_ := Aside0.mk (below_step (by repeat (first | (with_reducible first | exact HB.out | apply below_alloc | apply pw_below_drewN | apply below_drew1 | refine below_set ?_ GE307.out) | exact HB.out)) hb); clear BK307; clear HB; have BK307 := n0_; have HB := n1_; clear n0_ n1_; (try clear hb); (try clear hb2); (try clear hk); (try clear hi)) | (go_at_call 36; (with_reducible refine (treelineref11_Times.calls a0_0 a0_1 a0_2 a0_3 a0_4 a0_5 a0_6 _ _ l0_7 false _ ?side1 ?side2 A7.out).mono ?_); (case side1 => repeat (first | exact (Kd.C_below HR0_7.out HB.out) | (with_reducible refine Kd.C_alloc ?_ _) | (with_reducible refine Kd.C_drewN ?_ _) | (with_reducible refine Kd.C_drew ?_))); (case side2 => exact HC0_7.out); rintro e w25 ⟨rfl, hb⟩; have n0_ := Aside0.mk (blk_below (g := gb307) (o := .cells #[.int .u64 a0_0, .int .u16 a0_1, .int .i64 a0_2, .int .i64 a0_3, .int .i64 a0_4, .int .i64 a0_5, .int .i64 a0_6, .slice A0_7 l0_7.length c0_7] 51 (0, 0)) (by (with_reducible repeat (first | refine blk_drewN ?_ _ | refine blk_drew ?_ | refine blk_alloc ?_ _)); exact BK307.out) hb); have n1_ := Aside0.mk (below_step (by repeat (first | (with_reducible first | exact HB.out | apply below_alloc | apply pw_below_drewN | apply below_drew1 | refine below_set ?_ GE307.out) | exact HB.out)) hb); clear BK307; clear HB; have BK307 := n0_; have HB := n1_; clear n0_ n1_; (try clear hb); (try clear hb2); (try clear hk); (try clear hi)))
   go_meet
   case rel => exact ⟨_, (true), (by first | rfl | (simp; done) | (simp [*]; done)), H', ⟨by first | omega | exact Nat.le_refl _⟩, ⟨by (with_reducible repeat (first | refine blk_drewN ?_ _ | refine blk_drew ?_ | refine blk_alloc ?_ _)); exact BK307.out⟩, ⟨by repeat (first | (with_reducible first | exact HB.out | apply below_alloc | apply pw_below_drewN | apply below_drew1 | refine below_set ?_ GE307.out) | exact HB.out)⟩⟩
  subst c8
  have H1 : (if a0_5 < 10 then (treelineref11_Check.j0 k true a0_0 a0_1 a0_2 a0_3 a0_4 a0_5 a0_6 l0_7) else (if a0_5 > 1000000 then (treelineref11_Check.j0 k true a0_0 a0_1 a0_2 a0_3 a0_4 a0_5 a0_6 l0_7) else (if a0_6 < 0 then (treelineref11_Check.j0 k true a0_0 a0_1 a0_2 a0_3 a0_4 a0_5 a0_6 l0_7) else (treelineref11_Check.j0 k (decide (a0_6 > 64)) a0_0 a0_1 a0_2 a0_3 a0_4 a0_5 a0_6 l0_7)))) = some r := by rw [if_pos rfl] at H; exact H
  clear H
  have H := H1
  clear H1
  by_cases c9 : a0_5 < 10
  ·rw [if_pos c9] at H
   have c9b0 : decide (a0_5 < 10) = true := decide_eq_true c9
   clear c9
   (first | rw [c9b0] | (simp only [i64_w, i32_w]; rw [c9b0]) | skip)
   have H' := Aside0.mk H
   clear H
   have hcz10_0 : w5.cell? ⟨gb307, 0, none⟩ = some (.int .u64 a0_0) := (blk_cell BK307.out 0).trans rfl
   have hcz10_1 : w5.cell? ⟨gb307, 1, none⟩ = some (.int .u16 a0_1) := (blk_cell BK307.out 1).trans rfl
   have hcz10_2 : w5.cell? ⟨gb307, 2, none⟩ = some (.int .i64 a0_2) := (blk_cell BK307.out 2).trans rfl
   have hcz10_3 : w5.cell? ⟨gb307, 3, none⟩ = some (.int .i64 a0_3) := (blk_cell BK307.out 3).trans rfl
   have hcz10_4 : w5.cell? ⟨gb307, 4, none⟩ = some (.int .i64 a0_4) := (blk_cell BK307.out 4).trans rfl
   have hcz10_5 : w5.cell? ⟨gb307, 5, none⟩ = some (.int .i64 a0_5) := (blk_cell BK307.out 5).trans rfl
   have hcz10_6 : w5.cell? ⟨gb307, 6, none⟩ = some (.int .i64 a0_6) := (blk_cell BK307.out 6).trans rfl
   have hcz10_7 : w5.cell? ⟨gb307, 7, none⟩ = some (.slice A0_7 l0_7.length c0_7) := (blk_cell BK307.out 7).trans rfl
   have hfz10_0 := blk_frozen BK307.out 0
   have hfz10_1 := blk_frozen BK307.out 1
   have hfz10_2 := blk_frozen BK307.out 2
   have hfz10_3 := blk_frozen BK307.out 3
   have hfz10_4 := blk_frozen BK307.out 4
   have hfz10_5 := blk_frozen BK307.out 5
   have hfz10_6 := blk_frozen BK307.out 6
   have hfz10_7 := blk_frozen BK307.out 7
   go_wp2_with (first | ((with_reducible refine gate_callee (f := 36) rfl ?_); refine goesL_ (some 9) rfl rfl Tryd.func36 (by kernel_rfl) rfl #[.agg #[.int .u64 a0_0, .int .u16 a0_1, .int .i64 a0_2, .int .i64 a0_3, .int .i64 a0_4, .int .i64 a0_5, .int .i64 a0_6, .slice A0_7 l0_7.length c0_7]] rfl (by (try simp only [List.map_toArray, List.map_cons, List.map_nil]); first | done | rfl | (simp only [List.length_drop, List.length_take]; rfl)) ?_; (with_reducible refine (treelineref11_Times.calls a0_0 a0_1 a0_2 a0_3 a0_4 a0_5 a0_6 _ _ l0_7 true _ ?side1 ?side2 A7.out).mono ?_); (case side1 => repeat (first | exact (Kd.C_below HR0_7.out HB.out) | (with_reducible refine Kd.C_alloc ?_ _) | (with_reducible refine Kd.C_drewN ?_ _) | (with_reducible refine Kd.C_drew ?_))); (case side2 => exact HC0_7.out); rintro e w11 ⟨rfl, hb⟩; refine ⟨_, rfl, ?_⟩; have n0_ := Aside0.mk (blk_below (g := gb307) (o := .cells #[.int .u64 a0_0, .int .u16 a0_1, .int .i64 a0_2, .int .i64 a0_3, .int .i64 a0_4, .int .i64 a0_5, .int .i64 a0_6, .slice A0_7 l0_7.length c0_7] 51 (0, 0)) (by (with_reducible repeat (first | refine blk_drewN ?_ _ | refine blk_drew ?_ | refine blk_alloc ?_ _)); exact BK307.out) hb); have n1_ := Aside0.mk (below_step (by repeat (first | (with_reducible first | exact HB.out | apply below_alloc | apply pw_below_drewN | apply below_drew1 | refine below_set ?_ GE307.out) | exact HB.out)) hb); clear BK307; clear HB; have BK307 := n0_; have HB := n1_; clear n0_ n1_; (try clear hb); (try clear hb2); (try clear hk); (try clear hi); have hcz12_0 : w11.cell? ⟨gb307, 0, none⟩ = some (.int .u64 a0_0) := (blk_cell BK307.out 0).trans rfl; have hcz12_1 : w11.cell? ⟨gb307, 1, none⟩ = some (.int .u16 a0_1) := (blk_cell BK307.out 1).trans rfl; have hcz12_2 : w11.cell? ⟨gb307, 2, none⟩ = some (.int .i64 a0_2) := (blk_cell BK307.out 2).trans rfl; have hcz12_3 : w11.cell? ⟨gb307, 3, none⟩ = some (.int .i64 a0_3) := (blk_cell BK307.out 3).trans rfl; have hcz12_4 : w11.cell? ⟨gb307, 4, none⟩ = some (.int .i64 a0_4) := (blk_cell BK307.out 4).trans rfl; have hcz12_5 : w11.cell? ⟨gb307, 5, none⟩ = some (.int .i64 a0_5) := (blk_cell BK307.out 5).trans rfl; have hcz12_6 : w11.cell? ⟨gb307, 6, none⟩ = some (.int .i64 a0_6) := (blk_cell BK307.out 6).trans rfl; have hcz12_7 : w11.cell? ⟨gb307, 7, none⟩ = some (.slice A0_7 l0_7.length c0_7) := (blk_cell BK307.out 7).trans rfl; have hfz12_0 := blk_frozen BK307.out 0; have hfz12_1 := blk_frozen BK307.out 1; have hfz12_2 := blk_frozen BK307.out 2; have hfz12_3 := blk_frozen BK307.out 3; have hfz12_4 := blk_frozen BK307.out 4; have hfz12_5 := blk_frozen BK307.out 5; have hfz12_6 := blk_frozen BK307.out 6; have hfz12_7 := blk_frozen BK307.out 7) | (go_at_call 36; (with_reducible refine (treelineref11_Times.calls a0_0 a0_1 a0_2 a0_3 a0_4 a0_5 a0_6 _ _ l0_7 true _ ?side1 ?side2 A7.out).mono ?_); (case side1 => repeat (first | exact (Kd.C_below HR0_7.out HB.out) | (with_reducible refine Kd.C_alloc ?_ _) | (with_reducible refine Kd.C_drewN ?_ _) | (with_reducible refine Kd.C_drew ?_))); (case side2 => exact HC0_7.out); rintro e w11 ⟨rfl, hb⟩; have n0_ := Aside0.mk (blk_below (g := gb307) (o := .cells #[.int .u64 a0_0, .int .u16 a0_1, .int .i64 a0_2, .int .i64 a0_3, .int .i64 a0_4, .int .i64 a0_5, .int .i64 a0_6, .slice A0_7 l0_7.length c0_7] 51 (0, 0)) (by (with_reducible repeat (first | refine blk_drewN ?_ _ | refine blk_drew ?_ | refine blk_alloc ?_ _)); exact BK307.out) hb); have n1_ := Aside0.mk (below_step (by repeat (first | (with_reducible first | exact HB.out | apply below_alloc | apply pw_below_drewN | apply below_drew1 | refine below_set ?_ GE307.out) | exact HB.out)) hb); clear BK307; clear HB; have BK307 := n0_; have HB := n1_; clear n0_ n1_; (try clear hb); (try clear hb2); (try clear hk); (try clear hi); have hcz12_0 : w11.cell? ⟨gb307, 0, none⟩ = some (.int .u64 a0_0) := (blk_cell BK307.out 0).trans rfl; have hcz12_1 : w11.cell? ⟨gb307, 1, none⟩ = some (.int .u16 a0_1) := (blk_cell BK307.out 1).trans rfl; have hcz12_2 : w11.cell? ⟨gb307, 2, none⟩ = some (.int .i64 a0_2) := (blk_cell BK307.out 2).trans rfl; have hcz12_3 : w11.cell? ⟨gb307, 3, none⟩ = some (.int .i64 a0_3) := (blk_cell BK307.out 3).trans rfl; have hcz12_4 : w11.cell? ⟨gb307, 4, none⟩ = some (.int .i64 a0_4) := (blk_cell BK307.out 4).trans rfl; have hcz12_5 : w11.cell? ⟨gb307, 5, none⟩ = some (.int .i64 a0_5) := (blk_cell BK307.out 5).trans rfl; have hcz12_6 : w11.cell? ⟨gb307, 6, none⟩ = some (.int .i64 a0_6) := (blk_cell BK307.out 6).trans rfl; have hcz12_7 : w11.cell? ⟨gb307, 7, none⟩ = some (.slice A0_7 l0_7.length c0_7) := (blk_cell BK307.out 7).trans rfl; have hfz12_0 := blk_frozen BK307.out 0; have hfz12_1 := blk_frozen BK307.out 1; have hfz12_2 := blk_frozen BK307.out 2; have hfz12_3 := blk_frozen BK307.out 3; have hfz12_4 := blk_frozen BK307.out 4; have hfz12_5 := blk_frozen BK307.out 5; have hfz12_6 := blk_frozen BK307.out 6; have hfz12_7 := blk_frozen BK307.out 7))
   go_meet
   case rel => exact ⟨_, (true), (by first | rfl | (simp; done) | (simp [*]; done)), H', ⟨by first | omega | exact Nat.le_refl _⟩, ⟨by (with_reducible repeat (first | refine blk_drewN ?_ _ | refine blk_drew ?_ | refine blk_alloc ?_ _)); exact BK307.out⟩, ⟨by repeat (first | (with_reducible first | exact HB.out | apply below_alloc | apply pw_below_drewN | apply below_drew1 | refine below_set ?_ GE307.out) | exact HB.out)⟩⟩
  rw [if_neg c9] at H
  have c9b0 : decide (a0_5 < 10) = false := decide_eq_false c9
  clear c9
  (first | rw [c9b0] | (simp only [i64_w, i32_w]; rw [c9b0]) | skip)
  by_cases c13 : a0_5 > 1000000
  ·rw [if_pos c13] at H
   have c13b0 : decide (1000000 < a0_5) = true := decide_eq_true c13
   clear c13
   have H' := Aside0.mk H
   clear H
   have hcz14_0 : w5.cell? ⟨gb307, 0, none⟩ = some (.int .u64 a0_0) := (blk_cell BK307.out 0).trans rfl
   have hcz14_1 : w5.cell? ⟨gb307, 1, none⟩ = some (.int .u16 a0_1) := (blk_cell BK307.out 1).trans rfl
   have hcz14_2 : w5.cell? ⟨gb307, 2, none⟩ = some (.int .i64 a0_2) := (blk_cell BK307.out 2).trans rfl
   have hcz14_3 : w5.cell? ⟨gb307, 3, none⟩ = some (.int .i64 a0_3) := (blk_cell BK307.out 3).trans rfl
   have hcz14_4 : w5.cell? ⟨gb307, 4, none⟩ = some (.int .i64 a0_4) := (blk_cell BK307.out 4).trans rfl
   have hcz14_5 : w5.cell? ⟨gb307, 5, none⟩ = some (.int .i64 a0_5) := (blk_cell BK307.out 5).trans rfl
   have hcz14_6 : w5.cell? ⟨gb307, 6, none⟩ = some (.int .i64 a0_6) := (blk_cell BK307.out 6).trans rfl
   have hcz14_7 : w5.cell? ⟨gb307, 7, none⟩ = some (.slice A0_7 l0_7.length c0_7) := (blk_cell BK307.out 7).trans rfl
   have hfz14_0 := blk_frozen BK307.out 0
   have hfz14_1 := blk_frozen BK307.out 1
   have hfz14_2 := blk_frozen BK307.out 2
   have hfz14_3 := blk_frozen BK307.out 3
   have hfz14_4 := blk_frozen BK307.out 4
   have hfz14_5 := blk_frozen BK307.out 5
   have hfz14_6 := blk_frozen BK307.out 6
   have hfz14_7 := blk_frozen BK307.out 7
   go_wp2_with (first | ((with_reducible refine gate_callee (f := 36) rfl ?_); refine goesL_ (some 9) rfl rfl Tryd.func36 (by kernel_rfl) rfl #[.agg #[.int .u64 a0_0, .int .u16 a0_1, .int .i64 a0_2, .int .i64 a0_3, .int .i64 a0_4, .int .i64 a0_5, .int .i64 a0_6, .slice A0_7 l0_7.length c0_7]] rfl (by (try simp only [List.map_toArray, List.map_cons, List.map_nil]); first | done | rfl | (simp only [List.length_drop, List.length_take]; rfl)) ?_; (with_reducible refine (treelineref11_Times.calls a0_0 a0_1 a0_2 a0_3 a0_4 a0_5 a0_6 _ _ l0_7 true _ ?side1 ?side2 A7.out).mono ?_); (case side1 => repeat (first | exact (Kd.C_below HR0_7.out HB.out) | (with_reducible refine Kd.C_alloc ?_ _) | (with_reducible refine Kd.C_drewN ?_ _) | (with_reducible refine Kd.C_drew ?_))); (case side2 => exact HC0_7.out); rintro e w15 ⟨rfl, hb⟩; refine ⟨_, rfl, ?_⟩; have n0_ := Aside0.mk (blk_below (g := gb307) (o := .cells #[.int .u64 a0_0, .int .u16 a0_1, .int .i64 a0_2, .int .i64 a0_3, .int .i64 a0_4, .int .i64 a0_5, .int .i64 a0_6, .slice A0_7 l0_7.length c0_7] 51 (0, 0)) (by (with_reducible repeat (first | refine blk_drewN ?_ _ | refine blk_drew ?_ | refine blk_alloc ?_ _)); exact BK307.out) hb); have n1_ := Aside0.mk (below_step (by repeat (first | (with_reducible first | exact HB.out | apply below_alloc | apply pw_below_drewN | apply below_drew1 | refine below_set ?_ GE307.out) | exact HB.out)) hb); clear BK307; clear HB; have BK307 := n0_; have HB := n1_; clear n0_ n1_; (try clear hb); (try clear hb2); (try clear hk); (try clear hi); have hcz16_0 : w15.cell? ⟨gb307, 0, none⟩ = some (.int .u64 a0_0) := (blk_cell BK307.out 0).trans rfl; have hcz16_1 : w15.cell? ⟨gb307, 1, none⟩ = some (.int .u16 a0_1) := (blk_cell BK307.out 1).trans rfl; have hcz16_2 : w15.cell? ⟨gb307, 2, none⟩ = some (.int .i64 a0_2) := (blk_cell BK307.out 2).trans rfl; have hcz16_3 : w15.cell? ⟨gb307, 3, none⟩ = some (.int .i64 a0_3) := (blk_cell BK307.out 3).trans rfl; have hcz16_4 : w15.cell? ⟨gb307, 4, none⟩ = some (.int .i64 a0_4) := (blk_cell BK307.out 4).trans rfl; have hcz16_5 : w15.cell? ⟨gb307, 5, none⟩ = some (.int .i64 a0_5) := (blk_cell BK307.out 5).trans rfl; have hcz16_6 : w15.cell? ⟨gb307, 6, none⟩ = some (.int .i64 a0_6) := (blk_cell BK307.out 6).trans rfl; have hcz16_7 : w15.cell? ⟨gb307, 7, none⟩ = some (.slice A0_7 l0_7.length c0_7) := (blk_cell BK307.out 7).trans rfl; have hfz16_0 := blk_frozen BK307.out 0; have hfz16_1 := blk_frozen BK307.out 1; have hfz16_2 := blk_frozen BK307.out 2; have hfz16_3 := blk_frozen BK307.out 3; have hfz16_4 := blk_frozen BK307.out 4; have hfz16_5 := blk_frozen BK307.out 5; have hfz16_6 := blk_frozen BK307.out 6; have hfz16_7 := blk_frozen BK307.out 7) | (go_at_call 36; (with_reducible refine (treelineref11_Times.calls a0_0 a0_1 a0_2 a0_3 a0_4 a0_5 a0_6 _ _ l0_7 true _ ?side1 ?side2 A7.out).mono ?_); (case side1 => repeat (first | exact (Kd.C_below HR0_7.out HB.out) | (with_reducible refine Kd.C_alloc ?_ _) | (with_reducible refine Kd.C_drewN ?_ _) | (with_reducible refine Kd.C_drew ?_))); (case side2 => exact HC0_7.out); rintro e w15 ⟨rfl, hb⟩; have n0_ := Aside0.mk (blk_below (g := gb307) (o := .cells #[.int .u64 a0_0, .int .u16 a0_1, .int .i64 a0_2, .int .i64 a0_3, .int .i64 a0_4, .int .i64 a0_5, .int .i64 a0_6, .slice A0_7 l0_7.length c0_7] 51 (0, 0)) (by (with_reducible repeat (first | refine blk_drewN ?_ _ | refine blk_drew ?_ | refine blk_alloc ?_ _)); exact BK307.out) hb); have n1_ := Aside0.mk (below_step (by repeat (first | (with_reducible first | exact HB.out | apply below_alloc | apply pw_below_drewN | apply below_drew1 | refine below_set ?_ GE307.out) | exact HB.out)) hb); clear BK307; clear HB; have BK307 := n0_; have HB := n1_; clear n0_ n1_; (try clear hb); (try clear hb2); (try clear hk); (try clear hi); have hcz16_0 : w15.cell? ⟨gb307, 0, none⟩ = some (.int .u64 a0_0) := (blk_cell BK307.out 0).trans rfl; have hcz16_1 : w15.cell? ⟨gb307, 1, none⟩ = some (.int .u16 a0_1) := (blk_cell BK307.out 1).trans rfl; have hcz16_2 : w15.cell? ⟨gb307, 2, none⟩ = some (.int .i64 a0_2) := (blk_cell BK307.out 2).trans rfl; have hcz16_3 : w15.cell? ⟨gb307, 3, none⟩ = some (.int .i64 a0_3) := (blk_cell BK307.out 3).trans rfl; have hcz16_4 : w15.cell? ⟨gb307, 4, none⟩ = some (.int .i64 a0_4) := (blk_cell BK307.out 4).trans rfl; have hcz16_5 : w15.cell? ⟨gb307, 5, none⟩ = some (.int .i64 a0_5) := (blk_cell BK307.out 5).trans rfl; have hcz16_6 : w15.cell? ⟨gb307, 6, none⟩ = some (.int .i64 a0_6) := (blk_cell BK307.out 6).trans rfl; have hcz16_7 : w15.cell? ⟨gb307, 7, none⟩ = some (.slice A0_7 l0_7.length c0_7) := (blk_cell BK307.out 7).trans rfl; have hfz16_0 := blk_frozen BK307.out 0; have hfz16_1 := blk_frozen BK307.out 1; have hfz16_2 := blk_frozen BK307.out 2; have hfz16_3 := blk_frozen BK307.out 3; have hfz16_4 := blk_frozen BK307.out 4; have hfz16_5 := blk_frozen BK307.out 5; have hfz16_6 := blk_frozen BK307.out 6; have hfz16_7 := blk_frozen BK307.out 7))
   go_meet
   case rel => exact ⟨_, (true), (by first | rfl | (simp; done) | (simp [*]; done)), H', ⟨by first | omega | exact Nat.le_refl _⟩, ⟨by (with_reducible repeat (first | refine blk_drewN ?_ _ | refine blk_drew ?_ | refine blk_alloc ?_ _)); exact BK307.out⟩, ⟨by repeat (first | (with_reducible first | exact HB.out | apply below_alloc | apply pw_below_drewN | apply below_drew1 | refine below_set ?_ GE307.out) | exact HB.out)⟩⟩
  rw [if_neg c13] at H
  have c13b0 : decide (1000000 < a0_5) = false := decide_eq_false c13
  clear c13
  by_cases c17 : a0_6 < 0
  ·rw [if_pos c17] at H
   have c17b0 : decide (a0_6 < 0) = true := decide_eq_true c17
   clear c17
   have H' := Aside0.mk H
   clear H
   have hcz18_0 : w5.cell? ⟨gb307, 0, none⟩ = some (.int .u64 a0_0) := (blk_cell BK307.out 0).trans rfl
   have hcz18_1 : w5.cell? ⟨gb307, 1, none⟩ = some (.int .u16 a0_1) := (blk_cell BK307.out 1).trans rfl
   have hcz18_2 : w5.cell? ⟨gb307, 2, none⟩ = some (.int .i64 a0_2) := (blk_cell BK307.out 2).trans rfl
   have hcz18_3 : w5.cell? ⟨gb307, 3, none⟩ = some (.int .i64 a0_3) := (blk_cell BK307.out 3).trans rfl
   have hcz18_4 : w5.cell? ⟨gb307, 4, none⟩ = some (.int .i64 a0_4) := (blk_cell BK307.out 4).trans rfl
   have hcz18_5 : w5.cell? ⟨gb307, 5, none⟩ = some (.int .i64 a0_5) := (blk_cell BK307.out 5).trans rfl
   have hcz18_6 : w5.cell? ⟨gb307, 6, none⟩ = some (.int .i64 a0_6) := (blk_cell BK307.out 6).trans rfl
   have hcz18_7 : w5.cell? ⟨gb307, 7, none⟩ = some (.slice A0_7 l0_7.length c0_7) := (blk_cell BK307.out 7).trans rfl
   have hfz18_0 := blk_frozen BK307.out 0
   have hfz18_1 := blk_frozen BK307.out 1
   have hfz18_2 := blk_frozen BK307.out 2
   have hfz18_3 := blk_frozen BK307.out 3
   have hfz18_4 := blk_frozen BK307.out 4
   have hfz18_5 := blk_frozen BK307.out 5
   have hfz18_6 := blk_frozen BK307.out 6
   have hfz18_7 := blk_frozen BK307.out 7
   go_wp2_with (first | ((with_reducible refine gate_callee (f := 36) rfl ?_); refine goesL_ (some 9) rfl rfl Tryd.func36 (by kernel_rfl) rfl #[.agg #[.int .u64 a0_0, .int .u16 a0_1, .int .i64 a0_2, .int .i64 a0_3, .int .i64 a0_4, .int .i64 a0_5, .int .i64 a0_6, .slice A0_7 l0_7.length c0_7]] rfl (by (try simp only [List.map_toArray, List.map_cons, List.map_nil]); first | done | rfl | (simp only [List.length_drop, List.length_take]; rfl)) ?_; (with_reducible refine (treelineref11_Times.calls a0_0 a0_1 a0_2 a0_3 a0_4 a0_5 a0_6 _ _ l0_7 true _ ?side1 ?side2 A7.out).mono ?_); (case side1 => repeat (first | exact (Kd.C_below HR0_7.out HB.out) | (with_reducible refine Kd.C_alloc ?_ _) | (with_reducible refine Kd.C_drewN ?_ _) | (with_reducible refine Kd.C_drew ?_))); (case side2 => exact HC0_7.out); rintro e w19 ⟨rfl, hb⟩; refine ⟨_, rfl, ?_⟩; have n0_ := Aside0.mk (blk_below (g := gb307) (o := .cells #[.int .u64 a0_0, .int .u16 a0_1, .int .i64 a0_2, .int .i64 a0_3, .int .i64 a0_4, .int .i64 a0_5, .int .i64 a0_6, .slice A0_7 l0_7.length c0_7] 51 (0, 0)) (by (with_reducible repeat (first | refine blk_drewN ?_ _ | refine blk_drew ?_ | refine blk_alloc ?_ _)); exact BK307.out) hb); have n1_ := Aside0.mk (below_step (by repeat (first | (with_reducible first | exact HB.out | apply below_alloc | apply pw_below_drewN | apply below_drew1 | refine below_set ?_ GE307.out) | exact HB.out)) hb); clear BK307; clear HB; have BK307 := n0_; have HB := n1_; clear n0_ n1_; (try clear hb); (try clear hb2); (try clear hk); (try clear hi); have hcz20_0 : w19.cell? ⟨gb307, 0, none⟩ = some (.int .u64 a0_0) := (blk_cell BK307.out 0).trans rfl; have hcz20_1 : w19.cell? ⟨gb307, 1, none⟩ = some (.int .u16 a0_1) := (blk_cell BK307.out 1).trans rfl; have hcz20_2 : w19.cell? ⟨gb307, 2, none⟩ = some (.int .i64 a0_2) := (blk_cell BK307.out 2).trans rfl; have hcz20_3 : w19.cell? ⟨gb307, 3, none⟩ = some (.int .i64 a0_3) := (blk_cell BK307.out 3).trans rfl; have hcz20_4 : w19.cell? ⟨gb307, 4, none⟩ = some (.int .i64 a0_4) := (blk_cell BK307.out 4).trans rfl; have hcz20_5 : w19.cell? ⟨gb307, 5, none⟩ = some (.int .i64 a0_5) := (blk_cell BK307.out 5).trans rfl; have hcz20_6 : w19.cell? ⟨gb307, 6, none⟩ = some (.int .i64 a0_6) := (blk_cell BK307.out 6).trans rfl; have hcz20_7 : w19.cell? ⟨gb307, 7, none⟩ = some (.slice A0_7 l0_7.length c0_7) := (blk_cell BK307.out 7).trans rfl; have hfz20_0 := blk_frozen BK307.out 0; have hfz20_1 := blk_frozen BK307.out 1; have hfz20_2 := blk_frozen BK307.out 2; have hfz20_3 := blk_frozen BK307.out 3; have hfz20_4 := blk_frozen BK307.out 4; have hfz20_5 := blk_frozen BK307.out 5; have hfz20_6 := blk_frozen BK307.out 6; have hfz20_7 := blk_frozen BK307.out 7) | (go_at_call 36; (with_reducible refine (treelineref11_Times.calls a0_0 a0_1 a0_2 a0_3 a0_4 a0_5 a0_6 _ _ l0_7 true _ ?side1 ?side2 A7.out).mono ?_); (case side1 => repeat (first | exact (Kd.C_below HR0_7.out HB.out) | (with_reducible refine Kd.C_alloc ?_ _) | (with_reducible refine Kd.C_drewN ?_ _) | (with_reducible refine Kd.C_drew ?_))); (case side2 => exact HC0_7.out); rintro e w19 ⟨rfl, hb⟩; have n0_ := Aside0.mk (blk_below (g := gb307) (o := .cells #[.int .u64 a0_0, .int .u16 a0_1, .int .i64 a0_2, .int .i64 a0_3, .int .i64 a0_4, .int .i64 a0_5, .int .i64 a0_6, .slice A0_7 l0_7.length c0_7] 51 (0, 0)) (by (with_reducible repeat (first | refine blk_drewN ?_ _ | refine blk_drew ?_ | refine blk_alloc ?_ _)); exact BK307.out) hb); have n1_ := Aside0.mk (below_step (by repeat (first | (with_reducible first | exact HB.out | apply below_alloc | apply pw_below_drewN | apply below_drew1 | refine below_set ?_ GE307.out) | exact HB.out)) hb); clear BK307; clear HB; have BK307 := n0_; have HB := n1_; clear n0_ n1_; (try clear hb); (try clear hb2); (try clear hk); (try clear hi); have hcz20_0 : w19.cell? ⟨gb307, 0, none⟩ = some (.int .u64 a0_0) := (blk_cell BK307.out 0).trans rfl; have hcz20_1 : w19.cell? ⟨gb307, 1, none⟩ = some (.int .u16 a0_1) := (blk_cell BK307.out 1).trans rfl; have hcz20_2 : w19.cell? ⟨gb307, 2, none⟩ = some (.int .i64 a0_2) := (blk_cell BK307.out 2).trans rfl; have hcz20_3 : w19.cell? ⟨gb307, 3, none⟩ = some (.int .i64 a0_3) := (blk_cell BK307.out 3).trans rfl; have hcz20_4 : w19.cell? ⟨gb307, 4, none⟩ = some (.int .i64 a0_4) := (blk_cell BK307.out 4).trans rfl; have hcz20_5 : w19.cell? ⟨gb307, 5, none⟩ = some (.int .i64 a0_5) := (blk_cell BK307.out 5).trans rfl; have hcz20_6 : w19.cell? ⟨gb307, 6, none⟩ = some (.int .i64 a0_6) := (blk_cell BK307.out 6).trans rfl; have hcz20_7 : w19.cell? ⟨gb307, 7, none⟩ = some (.slice A0_7 l0_7.length c0_7) := (blk_cell BK307.out 7).trans rfl; have hfz20_0 := blk_frozen BK307.out 0; have hfz20_1 := blk_frozen BK307.out 1; have hfz20_2 := blk_frozen BK307.out 2; have hfz20_3 := blk_frozen BK307.out 3; have hfz20_4 := blk_frozen BK307.out 4; have hfz20_5 := blk_frozen BK307.out 5; have hfz20_6 := blk_frozen BK307.out 6; have hfz20_7 := blk_frozen BK307.out 7))
   go_meet
   case rel => exact ⟨_, (true), (by first | rfl | (simp; done) | (simp [*]; done)), H', ⟨by first | omega | exact Nat.le_refl _⟩, ⟨by (with_reducible repeat (first | refine blk_drewN ?_ _ | refine blk_drew ?_ | refine blk_alloc ?_ _)); exact BK307.out⟩, ⟨by repeat (first | (with_reducible first | exact HB.out | apply below_alloc | apply pw_below_drewN | apply below_drew1 | refine below_set ?_ GE307.out) | exact HB.out)⟩⟩
  rw [if_neg c17] at H
  have c17b0 : decide (a0_6 < 0) = false := decide_eq_false c17
  clear c17
  have H' := Aside0.mk H
  clear H
  have hcz21_0 : w5.cell? ⟨gb307, 0, none⟩ = some (.int .u64 a0_0) := (blk_cell BK307.out 0).trans rfl
  have hcz21_1 : w5.cell? ⟨gb307, 1, none⟩ = some (.int .u16 a0_1) := (blk_cell BK307.out 1).trans rfl
  have hcz21_2 : w5.cell? ⟨gb307, 2, none⟩ = some (.int .i64 a0_2) := (blk_cell BK307.out 2).trans rfl
  have hcz21_3 : w5.cell? ⟨gb307, 3, none⟩ = some (.int .i64 a0_3) := (blk_cell BK307.out 3).trans rfl
  have hcz21_4 : w5.cell? ⟨gb307, 4, none⟩ = some (.int .i64 a0_4) := (blk_cell BK307.out 4).trans rfl
  have hcz21_5 : w5.cell? ⟨gb307, 5, none⟩ = some (.int .i64 a0_5) := (blk_cell BK307.out 5).trans rfl
  have hcz21_6 : w5.cell? ⟨gb307, 6, none⟩ = some (.int .i64 a0_6) := (blk_cell BK307.out 6).trans rfl
  have hcz21_7 : w5.cell? ⟨gb307, 7, none⟩ = some (.slice A0_7 l0_7.length c0_7) := (blk_cell BK307.out 7).trans rfl
  have hfz21_0 := blk_frozen BK307.out 0
  have hfz21_1 := blk_frozen BK307.out 1
  have hfz21_2 := blk_frozen BK307.out 2
  have hfz21_3 := blk_frozen BK307.out 3
  have hfz21_4 := blk_frozen BK307.out 4
  have hfz21_5 := blk_frozen BK307.out 5
  have hfz21_6 := blk_frozen BK307.out 6
  have hfz21_7 := blk_frozen BK307.out 7
  go_wp2_with (first | ((with_reducible refine gate_callee (f := 36) rfl ?_); refine goesL_ (some 9) rfl rfl Tryd.func36 (by kernel_rfl) rfl #[.agg #[.int .u64 a0_0, .int .u16 a0_1, .int .i64 a0_2, .int .i64 a0_3, .int .i64 a0_4, .int .i64 a0_5, .int .i64 a0_6, .slice A0_7 l0_7.length c0_7]] rfl (by (try simp only [List.map_toArray, List.map_cons, List.map_nil]); first | done | rfl | (simp only [List.length_drop, List.length_take]; rfl)) ?_; (with_reducible refine (treelineref11_Times.calls a0_0 a0_1 a0_2 a0_3 a0_4 a0_5 a0_6 _ _ l0_7 true _ ?side1 ?side2 A7.out).mono ?_); (case side1 => repeat (first | exact (Kd.C_below HR0_7.out HB.out) | (with_reducible refine Kd.C_alloc ?_ _) | (with_reducible refine Kd.C_drewN ?_ _) | (with_reducible refine Kd.C_drew ?_))); (case side2 => exact HC0_7.out); rintro e w22 ⟨rfl, hb⟩; refine ⟨_, rfl, ?_⟩; have n0_ := Aside0.mk (blk_below (g := gb307) (o := .cells #[.int .u64 a0_0, .int .u16 a0_1, .int .i64 a0_2, .int .i64 a0_3, .int .i64 a0_4, .int .i64 a0_5, .int .i64 a0_6, .slice A0_7 l0_7.length c0_7] 51 (0, 0)) (by (with_reducible repeat (first | refine blk_drewN ?_ _ | refine blk_drew ?_ | refine blk_alloc ?_ _)); exact BK307.out) hb); have n1_ := Aside0.mk (below_step (by repeat (first | (with_reducible first | exact HB.out | apply below_alloc | apply pw_below_drewN | apply below_drew1 | refine below_set ?_ GE307.out) | exact HB.out)) hb); clear BK307; clear HB; have BK307 := n0_; have HB := n1_; clear n0_ n1_; (try clear hb); (try clear hb2); (try clear hk); (try clear hi); have hcz23_0 : w22.cell? ⟨gb307, 0, none⟩ = some (.int .u64 a0_0) := (blk_cell BK307.out 0).trans rfl; have hcz23_1 : w22.cell? ⟨gb307, 1, none⟩ = some (.int .u16 a0_1) := (blk_cell BK307.out 1).trans rfl; have hcz23_2 : w22.cell? ⟨gb307, 2, none⟩ = some (.int .i64 a0_2) := (blk_cell BK307.out 2).trans rfl; have hcz23_3 : w22.cell? ⟨gb307, 3, none⟩ = some (.int .i64 a0_3) := (blk_cell BK307.out 3).trans rfl; have hcz23_4 : w22.cell? ⟨gb307, 4, none⟩ = some (.int .i64 a0_4) := (blk_cell BK307.out 4).trans rfl; have hcz23_5 : w22.cell? ⟨gb307, 5, none⟩ = some (.int .i64 a0_5) := (blk_cell BK307.out 5).trans rfl; have hcz23_6 : w22.cell? ⟨gb307, 6, none⟩ = some (.int .i64 a0_6) := (blk_cell BK307.out 6).trans rfl; have hcz23_7 : w22.cell? ⟨gb307, 7, none⟩ = some (.slice A0_7 l0_7.length c0_7) := (blk_cell BK307.out 7).trans rfl; have hfz23_0 := blk_frozen BK307.out 0; have hfz23_1 := blk_frozen BK307.out 1; have hfz23_2 := blk_frozen BK307.out 2; have hfz23_3 := blk_frozen BK307.out 3; have hfz23_4 := blk_frozen BK307.out 4; have hfz23_5 := blk_frozen BK307.out 5; have hfz23_6 := blk_frozen BK307.out 6; have hfz23_7 := blk_frozen BK307.out 7) | (go_at_call 36; (with_reducible refine (treelineref11_Times.calls a0_0 a0_1 a0_2 a0_3 a0_4 a0_5 a0_6 _ _ l0_7 true _ ?side1 ?side2 A7.out).mono ?_); (case side1 => repeat (first | exact (Kd.C_below HR0_7.out HB.out) | (with_reducible refine Kd.C_alloc ?_ _) | (with_reducible refine Kd.C_drewN ?_ _) | (with_reducible refine Kd.C_drew ?_))); (case side2 => exact HC0_7.out); rintro e w22 ⟨rfl, hb⟩; have n0_ := Aside0.mk (blk_below (g := gb307) (o := .cells #[.int .u64 a0_0, .int .u16 a0_1, .int .i64 a0_2, .int .i64 a0_3, .int .i64 a0_4, .int .i64 a0_5, .int .i64 a0_6, .slice A0_7 l0_7.length c0_7] 51 (0, 0)) (by (with_reducible repeat (first | refine blk_drewN ?_ _ | refine blk_drew ?_ | refine blk_alloc ?_ _)); exact BK307.out) hb); have n1_ := Aside0.mk (below_step (by repeat (first | (with_reducible first | exact HB.out | apply below_alloc | apply pw_below_drewN | apply below_drew1 | refine below_set ?_ GE307.out) | exact HB.out)) hb); clear BK307; clear HB; have BK307 := n0_; have HB := n1_; clear n0_ n1_; (try clear hb); (try clear hb2); (try clear hk); (try clear hi); have hcz23_0 : w22.cell? ⟨gb307, 0, none⟩ = some (.int .u64 a0_0) := (blk_cell BK307.out 0).trans rfl; have hcz23_1 : w22.cell? ⟨gb307, 1, none⟩ = some (.int .u16 a0_1) := (blk_cell BK307.out 1).trans rfl; have hcz23_2 : w22.cell? ⟨gb307, 2, none⟩ = some (.int .i64 a0_2) := (blk_cell BK307.out 2).trans rfl; have hcz23_3 : w22.cell? ⟨gb307, 3, none⟩ = some (.int .i64 a0_3) := (blk_cell BK307.out 3).trans rfl; have hcz23_4 : w22.cell? ⟨gb307, 4, none⟩ = some (.int .i64 a0_4) := (blk_cell BK307.out 4).trans rfl; have hcz23_5 : w22.cell? ⟨gb307, 5, none⟩ = some (.int .i64 a0_5) := (blk_cell BK307.out 5).trans rfl; have hcz23_6 : w22.cell? ⟨gb307, 6, none⟩ = some (.int .i64 a0_6) := (blk_cell BK307.out 6).trans rfl; have hcz23_7 : w22.cell? ⟨gb307, 7, none⟩ = some (.slice A0_7 l0_7.length c0_7) := (blk_cell BK307.out 7).trans rfl; have hfz23_0 := blk_frozen BK307.out 0; have hfz23_1 := blk_frozen BK307.out 1; have hfz23_2 := blk_frozen BK307.out 2; have hfz23_3 := blk_frozen BK307.out 3; have hfz23_4 := blk_frozen BK307.out 4; have hfz23_5 := blk_frozen BK307.out 5; have hfz23_6 := blk_frozen BK307.out 6; have hfz23_7 := blk_frozen BK307.out 7))
  go_meet
  case rel => exact ⟨_, (decide (a0_6 > 64)), (by first | rfl | (simp; done) | (simp [*]; done)), H', ⟨by first | omega | exact Nat.le_refl _⟩, ⟨by (with_reducible repeat (first | refine blk_drewN ?_ _ | refine blk_drew ?_ | refine blk_alloc ?_ _)); exact BK307.out⟩, ⟨by repeat (first | (with_reducible first | exact HB.out | apply below_alloc | apply pw_below_drewN | apply below_drew1 | refine below_set ?_ GE307.out) | exact HB.out)⟩⟩
 clear HC4
 try clear c1
 try clear c2
 try clear p2
 try clear c3
 try clear c8
 try clear c9
 try clear c9b0
 try clear c13
 try clear c13b0
 try clear c17
 try clear c17b0
 try clear c20
 try clear c21
 try clear hcz10_0
 try clear hcz10_1
 try clear hcz10_2
 try clear hcz10_3
 try clear hcz10_4
 try clear hcz10_5
 try clear hcz10_6
 try clear hcz10_7
 try clear hcz12_0
 try clear hcz12_1
 try clear hcz12_2
 try clear hcz12_3
 try clear hcz12_4
 try clear hcz12_5
 try clear hcz12_6
 try clear hcz12_7
 try clear hcz14_0
 try clear hcz14_1
 try clear hcz14_2
 try clear hcz14_3
 try clear hcz14_4
 try clear hcz14_5
 try clear hcz14_6
 try clear hcz14_7
 try clear hcz16_0
 try clear hcz16_1
 try clear hcz16_2
 try clear hcz16_3
 try clear hcz16_4
 try clear hcz16_5
 try clear hcz16_6
 try clear hcz16_7
 try clear hcz18_0
 try clear hcz18_1
 try clear hcz18_2
 try clear hcz18_3
 try clear hcz18_4
 try clear hcz18_5
 try clear hcz18_6
 try clear hcz18_7
 try clear hcz20_0
 try clear hcz20_1
 try clear hcz20_2
 try clear hcz20_3
 try clear hcz20_4
 try clear hcz20_5
 try clear hcz20_6
 try clear hcz20_7
 try clear hcz21_0
 try clear hcz21_1
 try clear hcz21_2
 try clear hcz21_3
 try clear hcz21_4
 try clear hcz21_5
 try clear hcz21_6
 try clear hcz21_7
 try clear hcz23_0
 try clear hcz23_1
 try clear hcz23_2
 try clear hcz23_3
 try clear hcz23_4
 try clear hcz23_5
 try clear hcz23_6
 try clear hcz23_7
 try clear hcz24_0
 try clear hcz24_1
 try clear hcz24_2
 try clear hcz24_3
 try clear hcz24_4
 try clear hcz24_5
 try clear hcz24_6
 try clear hcz24_7
 try clear hcz6_0
 try clear hcz6_1
 try clear hcz6_2
 try clear hcz6_3
 try clear hcz6_4
 try clear hcz6_5
 try clear hcz6_6
 try clear hcz6_7
 try clear hfz10_0
 try clear hfz10_1
 try clear hfz10_2
 try clear hfz10_3
 try clear hfz10_4
 try clear hfz10_5
 try clear hfz10_6
 try clear hfz10_7
 try clear hfz12_0
 try clear hfz12_1
 try clear hfz12_2
 try clear hfz12_3
 try clear hfz12_4
 try clear hfz12_5
 try clear hfz12_6
 try clear hfz12_7
 try clear hfz14_0
 try clear hfz14_1
 try clear hfz14_2
 try clear hfz14_3
 try clear hfz14_4
 try clear hfz14_5
 try clear hfz14_6
 try clear hfz14_7
 try clear hfz16_0
 try clear hfz16_1
 try clear hfz16_2
 try clear hfz16_3
 try clear hfz16_4
 try clear hfz16_5
 try clear hfz16_6
 try clear hfz16_7
 try clear hfz18_0
 try clear hfz18_1
 try clear hfz18_2
 try clear hfz18_3
 try clear hfz18_4
 try clear hfz18_5
 try clear hfz18_6
 try clear hfz18_7
 try clear hfz20_0
 try clear hfz20_1
 try clear hfz20_2
 try clear hfz20_3
 try clear hfz20_4
 try clear hfz20_5
 try clear hfz20_6
 try clear hfz20_7
 try clear hfz21_0
 try clear hfz21_1
 try clear hfz21_2
 try clear hfz21_3
 try clear hfz21_4
 try clear hfz21_5
 try clear hfz21_6
 try clear hfz21_7
 try clear hfz23_0
 try clear hfz23_1
 try clear hfz23_2
 try clear hfz23_3
 try clear hfz23_4
 try clear hfz23_5
 try clear hfz23_6
 try clear hfz23_7
 try clear hfz24_0
 try clear hfz24_1
 try clear hfz24_2
 try clear hfz24_3
 try clear hfz24_4
 try clear hfz24_5
 try clear hfz24_6
 try clear hfz24_7
 try clear hfz6_0
 try clear hfz6_1
 try clear hfz6_2
 try clear hfz6_3
 try clear hfz6_4
 try clear hfz6_5
 try clear hfz6_6
 try clear hfz6_7
 obtain ⟨kq, x30_3, rfl, HA, HJ3, BK307, HB⟩ := hcut
 cases kq with
 | zero => exact absurd HA.out (by simp [treelineref11_Check.j0])
 | succ kj3 => ?_
 have H := HA.out
 clear HA
 simp only [treelineref11_Check.j0] at H
 by_cases c26 : x30_3 = true
 ·subst c26
  have H1 : (some 3) = some r := by rw [if_pos rfl] at H; exact H
  clear H
  have H := H1
  clear H1
  obtain rfl := Option.some.inj H
  go_wp2
  go_ret
  exact ⟨by first | rfl | (simp [errW_none, errW_some] <;> rfl) | (simp [*, errW_none, errW_some] <;> rfl), by repeat (first | (with_reducible first | exact HB.out | apply below_alloc | apply pw_below_drewN | apply below_drew1 | refine below_set ?_ GE307.out) | exact HB.out)⟩
 replace c26 := Bool.eq_false_iff.mpr c26
 subst c26
 have H1 : (if (l0_7.length : Int) = 0 then (some 8) else (if (l0_7.length : Int) > 4 then (some 4) else (treelineref11_Check.l0 kj3 0 a0_0 a0_1 a0_2 a0_3 a0_4 a0_5 a0_6 l0_7))) = some r := by rw [if_neg (show ¬ (false = true) by decide)] at H; exact H
 clear H
 have H := H1
 clear H1
 by_cases c27 : (l0_7.length : Int) = 0
 ·rw [if_pos c27] at H
  have c27b0 : ((l0_7.length : Int) == 0) = true := beq_iff_eq.mpr c27
  have c27b1 : ((l0_7.length : Int) != 0) = false := bne_eq_false_iff_eq.mpr c27
  clear c27
  obtain rfl := Option.some.inj H
  have hcz28_0 : wc.cell? ⟨gb307, 0, none⟩ = some (.int .u64 a0_0) := (blk_cell BK307.out 0).trans rfl
  have hcz28_1 : wc.cell? ⟨gb307, 1, none⟩ = some (.int .u16 a0_1) := (blk_cell BK307.out 1).trans rfl
  have hcz28_2 : wc.cell? ⟨gb307, 2, none⟩ = some (.int .i64 a0_2) := (blk_cell BK307.out 2).trans rfl
  have hcz28_3 : wc.cell? ⟨gb307, 3, none⟩ = some (.int .i64 a0_3) := (blk_cell BK307.out 3).trans rfl
  have hcz28_4 : wc.cell? ⟨gb307, 4, none⟩ = some (.int .i64 a0_4) := (blk_cell BK307.out 4).trans rfl
  have hcz28_5 : wc.cell? ⟨gb307, 5, none⟩ = some (.int .i64 a0_5) := (blk_cell BK307.out 5).trans rfl
  have hcz28_6 : wc.cell? ⟨gb307, 6, none⟩ = some (.int .i64 a0_6) := (blk_cell BK307.out 6).trans rfl
  have hcz28_7 : wc.cell? ⟨gb307, 7, none⟩ = some (.slice A0_7 l0_7.length c0_7) := (blk_cell BK307.out 7).trans rfl
  have hfz28_0 := blk_frozen BK307.out 0
  have hfz28_1 := blk_frozen BK307.out 1
  have hfz28_2 := blk_frozen BK307.out 2
  have hfz28_3 := blk_frozen BK307.out 3
  have hfz28_4 := blk_frozen BK307.out 4
  have hfz28_5 := blk_frozen BK307.out 5
  have hfz28_6 := blk_frozen BK307.out 6
  have hfz28_7 := blk_frozen BK307.out 7
  go_wp2
  go_ret
  exact ⟨by first | rfl | (simp [errW_none, errW_some] <;> rfl) | (simp [*, errW_none, errW_some] <;> rfl), by repeat (first | (with_reducible first | exact HB.out | apply below_alloc | apply pw_below_drewN | apply below_drew1 | refine below_set ?_ GE307.out) | exact HB.out)⟩
 rw [if_neg c27] at H
 have c27b0 : ((l0_7.length : Int) == 0) = false := beq_eq_false_iff_ne.mpr c27
 have c27b1 : ((l0_7.length : Int) != 0) = true := bne_iff_ne.mpr c27
 have c27b2 : ¬ (l0_7 = []) := fun h_ => c27 (by rw [h_]; rfl)
 by_cases c29 : (l0_7.length : Int) > 4
 ·rw [if_pos c29] at H
  have c29b0 : decide (4 < (l0_7.length : Int)) = true := decide_eq_true c29
  have c29b1 : decide (4 < l0_7.length) = true := decide_eq_true (by omega)
  clear c29
  obtain rfl := Option.some.inj H
  have hcz30_0 : wc.cell? ⟨gb307, 0, none⟩ = some (.int .u64 a0_0) := (blk_cell BK307.out 0).trans rfl
  have hcz30_1 : wc.cell? ⟨gb307, 1, none⟩ = some (.int .u16 a0_1) := (blk_cell BK307.out 1).trans rfl
  have hcz30_2 : wc.cell? ⟨gb307, 2, none⟩ = some (.int .i64 a0_2) := (blk_cell BK307.out 2).trans rfl
  have hcz30_3 : wc.cell? ⟨gb307, 3, none⟩ = some (.int .i64 a0_3) := (blk_cell BK307.out 3).trans rfl
  have hcz30_4 : wc.cell? ⟨gb307, 4, none⟩ = some (.int .i64 a0_4) := (blk_cell BK307.out 4).trans rfl
  have hcz30_5 : wc.cell? ⟨gb307, 5, none⟩ = some (.int .i64 a0_5) := (blk_cell BK307.out 5).trans rfl
  have hcz30_6 : wc.cell? ⟨gb307, 6, none⟩ = some (.int .i64 a0_6) := (blk_cell BK307.out 6).trans rfl
  have hcz30_7 : wc.cell? ⟨gb307, 7, none⟩ = some (.slice A0_7 l0_7.length c0_7) := (blk_cell BK307.out 7).trans rfl
  have hfz30_0 := blk_frozen BK307.out 0
  have hfz30_1 := blk_frozen BK307.out 1
  have hfz30_2 := blk_frozen BK307.out 2
  have hfz30_3 := blk_frozen BK307.out 3
  have hfz30_4 := blk_frozen BK307.out 4
  have hfz30_5 := blk_frozen BK307.out 5
  have hfz30_6 := blk_frozen BK307.out 6
  have hfz30_7 := blk_frozen BK307.out 7
  go_wp2
  go_ret
  exact ⟨by first | rfl | (simp [errW_none, errW_some] <;> rfl) | (simp [*, errW_none, errW_some] <;> rfl), by repeat (first | (with_reducible first | exact HB.out | apply below_alloc | apply pw_below_drewN | apply below_drew1 | refine below_set ?_ GE307.out) | exact HB.out)⟩
 rw [if_neg c29] at H
 have c29b0 : decide (4 < (l0_7.length : Int)) = false := decide_eq_false c29
 have c29b1 : decide (4 < l0_7.length) = false := decide_eq_false (by omega)
 clear c29
 have H' := Aside0.mk H
 clear H
 have hcz31_0 : wc.cell? ⟨gb307, 0, none⟩ = some (.int .u64 a0_0) := (blk_cell BK307.out 0).trans rfl
 have hcz31_1 : wc.cell? ⟨gb307, 1, none⟩ = some (.int .u16 a0_1) := (blk_cell BK307.out 1).trans rfl
 have hcz31_2 : wc.cell? ⟨gb307, 2, none⟩ = some (.int .i64 a0_2) := (blk_cell BK307.out 2).trans rfl
 have hcz31_3 : wc.cell? ⟨gb307, 3, none⟩ = some (.int .i64 a0_3) := (blk_cell BK307.out 3).trans rfl
 have hcz31_4 : wc.cell? ⟨gb307, 4, none⟩ = some (.int .i64 a0_4) := (blk_cell BK307.out 4).trans rfl
 have hcz31_5 : wc.cell? ⟨gb307, 5, none⟩ = some (.int .i64 a0_5) := (blk_cell BK307.out 5).trans rfl
 have hcz31_6 : wc.cell? ⟨gb307, 6, none⟩ = some (.int .i64 a0_6) := (blk_cell BK307.out 6).trans rfl
 have hcz31_7 : wc.cell? ⟨gb307, 7, none⟩ = some (.slice A0_7 l0_7.length c0_7) := (blk_cell BK307.out 7).trans rfl
 have hfz31_0 := blk_frozen BK307.out 0
 have hfz31_1 := blk_frozen BK307.out 1
 have hfz31_2 := blk_frozen BK307.out 2
 have hfz31_3 := blk_frozen BK307.out 3
 have hfz31_4 := blk_frozen BK307.out 4
 have hfz31_5 := blk_frozen BK307.out 5
 have hfz31_6 := blk_frozen BK307.out 6
 have hfz31_7 := blk_frozen BK307.out 7
 go_wp2
 go_loopg [3] kj3 (fun kq v3 w' => ∃ (x3_2 : Int), v3 = .int .i64 x3_2 ∧ Aside0 (treelineref11_Check.l0 kq x3_2 a0_0 a0_1 a0_2 a0_3 a0_4 a0_5 a0_6 l0_7 = some r) ∧ Aside0 (kq ≤ kj3) ∧ Aside0 (w'.heap[gb307]? = some (.cells #[.int .u64 a0_0, .int .u16 a0_1, .int .i64 a0_2, .int .i64 a0_3, .int .i64 a0_4, .int .i64 a0_5, .int .i64 a0_6, (.slice A0_7 l0_7.length c0_7)] 51 (0, 0))) ∧ Aside0 (Below w.heap.size w w'))
 case atStart => exact ⟨(0), (by first | rfl | (simp; done) | (simp [*]; done)), H', ⟨Nat.le_refl _⟩, ⟨by (with_reducible repeat (first | refine blk_drewN ?_ _ | refine blk_drew ?_ | refine blk_alloc ?_ _)); exact BK307.out⟩, ⟨by repeat (first | (with_reducible first | exact HB.out | apply below_alloc | apply pw_below_drewN | apply below_drew1 | refine below_set ?_ GE307.out) | exact HB.out)⟩⟩
 clear H'
 try clear c1
 try clear c2
 try clear p2
 try clear c3
 try clear c8
 try clear c9
 try clear c9b0
 try clear c13
 try clear c13b0
 try clear c17
 try clear c17b0
 try clear c20
 try clear c21
 try clear c26
 try clear c27
 try clear c27b0
 try clear c27b1
 try clear c27b2
 try clear c29
 try clear c29b0
 try clear c29b1
 try clear hcz10_0
 try clear hcz10_1
 try clear hcz10_2
 try clear hcz10_3
 try clear hcz10_4
 try clear hcz10_5
 try clear hcz10_6
 try clear hcz10_7
 try clear hcz12_0
 try clear hcz12_1
 try clear hcz12_2
 try clear hcz12_3
 try clear hcz12_4
 try clear hcz12_5
 try clear hcz12_6
 try clear hcz12_7
 try clear hcz14_0
 try clear hcz14_1
 try clear hcz14_2
 try clear hcz14_3
 try clear hcz14_4
 try clear hcz14_5
 try clear hcz14_6
 try clear hcz14_7
 try clear hcz16_0
 try clear hcz16_1
 try clear hcz16_2
 try clear hcz16_3
 try clear hcz16_4
 try clear hcz16_5
 try clear hcz16_6
 try clear hcz16_7
 try clear hcz18_0
 try clear hcz18_1
 try clear hcz18_2
 try clear hcz18_3
 try clear hcz18_4
 try clear hcz18_5
 try clear hcz18_6
 try clear hcz18_7
 try clear hcz20_0
 try clear hcz20_1
 try clear hcz20_2
 try clear hcz20_3
 try clear hcz20_4
 try clear hcz20_5
 try clear hcz20_6
 try clear hcz20_7
 try clear hcz21_0
 try clear hcz21_1
 try clear hcz21_2
 try clear hcz21_3
 try clear hcz21_4
 try clear hcz21_5
 try clear hcz21_6
 try clear hcz21_7
 try clear hcz23_0
 try clear hcz23_1
 try clear hcz23_2
 try clear hcz23_3
 try clear hcz23_4
 try clear hcz23_5
 try clear hcz23_6
 try clear hcz23_7
 try clear hcz24_0
 try clear hcz24_1
 try clear hcz24_2
 try clear hcz24_3
 try clear hcz24_4
 try clear hcz24_5
 try clear hcz24_6
 try clear hcz24_7
 try clear hcz28_0
 try clear hcz28_1
 try clear hcz28_2
 try clear hcz28_3
 try clear hcz28_4
 try clear hcz28_5
 try clear hcz28_6
 try clear hcz28_7
 try clear hcz30_0
 try clear hcz30_1
 try clear hcz30_2
 try clear hcz30_3
 try clear hcz30_4
 try clear hcz30_5
 try clear hcz30_6
 try clear hcz30_7
 try clear hcz31_0
 try clear hcz31_1
 try clear hcz31_2
 try clear hcz31_3
 try clear hcz31_4
 try clear hcz31_5
 try clear hcz31_6
 try clear hcz31_7
 try clear hcz6_0
 try clear hcz6_1
 try clear hcz6_2
 try clear hcz6_3
 try clear hcz6_4
 try clear hcz6_5
 try clear hcz6_6
 try clear hcz6_7
 try clear hfz10_0
 try clear hfz10_1
 try clear hfz10_2
 try clear hfz10_3
 try clear hfz10_4
 try clear hfz10_5
 try clear hfz10_6
 try clear hfz10_7
 try clear hfz12_0
 try clear hfz12_1
 try clear hfz12_2
 try clear hfz12_3
 try clear hfz12_4
 try clear hfz12_5
 try clear hfz12_6
 try clear hfz12_7
 try clear hfz14_0
 try clear hfz14_1
 try clear hfz14_2
 try clear hfz14_3
 try clear hfz14_4
 try clear hfz14_5
 try clear hfz14_6
 try clear hfz14_7
 try clear hfz16_0
 try clear hfz16_1
 try clear hfz16_2
 try clear hfz16_3
 try clear hfz16_4
 try clear hfz16_5
 try clear hfz16_6
 try clear hfz16_7
 try clear hfz18_0
 try clear hfz18_1
 try clear hfz18_2
 try clear hfz18_3
 try clear hfz18_4
 try clear hfz18_5
 try clear hfz18_6
 try clear hfz18_7
 try clear hfz20_0
 try clear hfz20_1
 try clear hfz20_2
 try clear hfz20_3
 try clear hfz20_4
 try clear hfz20_5
 try clear hfz20_6
 try clear hfz20_7
 try clear hfz21_0
 try clear hfz21_1
 try clear hfz21_2
 try clear hfz21_3
 try clear hfz21_4
 try clear hfz21_5
 try clear hfz21_6
 try clear hfz21_7
 try clear hfz23_0
 try clear hfz23_1
 try clear hfz23_2
 try clear hfz23_3
 try clear hfz23_4
 try clear hfz23_5
 try clear hfz23_6
 try clear hfz23_7
 try clear hfz24_0
 try clear hfz24_1
 try clear hfz24_2
 try clear hfz24_3
 try clear hfz24_4
 try clear hfz24_5
 try clear hfz24_6
 try clear hfz24_7
 try clear hfz28_0
 try clear hfz28_1
 try clear hfz28_2
 try clear hfz28_3
 try clear hfz28_4
 try clear hfz28_5
 try clear hfz28_6
 try clear hfz28_7
 try clear hfz30_0
 try clear hfz30_1
 try clear hfz30_2
 try clear hfz30_3
 try clear hfz30_4
 try clear hfz30_5
 try clear hfz30_6
 try clear hfz30_7
 try clear hfz31_0
 try clear hfz31_1
 try clear hfz31_2
 try clear hfz31_3
 try clear hfz31_4
 try clear hfz31_5
 try clear hfz31_6
 try clear hfz31_7
 try clear hfz6_0
 try clear hfz6_1
 try clear hfz6_2
 try clear hfz6_3
 try clear hfz6_4
 try clear hfz6_5
 try clear hfz6_6
 try clear hfz6_7
 try clear p2
 obtain ⟨x3_2, rfl, HA, HK2, BK307, HB⟩ := hrel
 cases gk with
 | zero => exact absurd HA.out (by simp [treelineref11_Check.l0])
 | succ k2 => ?_
 have H := HA.out
 clear HA
 simp only [treelineref11_Check.l0] at H
 by_cases c32 : x3_2 < (l0_7.length : Int)
 rotate_left
 ·rw [if_neg c32] at H
  have c32b0 : decide (x3_2 < (l0_7.length : Int)) = false := decide_eq_false c32
  clear c32
  obtain rfl := Option.some.inj H
  have hcz39_0 : wr.cell? ⟨gb307, 0, none⟩ = some (.int .u64 a0_0) := (blk_cell BK307.out 0).trans rfl
  have hcz39_1 : wr.cell? ⟨gb307, 1, none⟩ = some (.int .u16 a0_1) := (blk_cell BK307.out 1).trans rfl
  have hcz39_2 : wr.cell? ⟨gb307, 2, none⟩ = some (.int .i64 a0_2) := (blk_cell BK307.out 2).trans rfl
  have hcz39_3 : wr.cell? ⟨gb307, 3, none⟩ = some (.int .i64 a0_3) := (blk_cell BK307.out 3).trans rfl
  have hcz39_4 : wr.cell? ⟨gb307, 4, none⟩ = some (.int .i64 a0_4) := (blk_cell BK307.out 4).trans rfl
  have hcz39_5 : wr.cell? ⟨gb307, 5, none⟩ = some (.int .i64 a0_5) := (blk_cell BK307.out 5).trans rfl
  have hcz39_6 : wr.cell? ⟨gb307, 6, none⟩ = some (.int .i64 a0_6) := (blk_cell BK307.out 6).trans rfl
  have hcz39_7 : wr.cell? ⟨gb307, 7, none⟩ = some (.slice A0_7 l0_7.length c0_7) := (blk_cell BK307.out 7).trans rfl
  have hfz39_0 := blk_frozen BK307.out 0
  have hfz39_1 := blk_frozen BK307.out 1
  have hfz39_2 := blk_frozen BK307.out 2
  have hfz39_3 := blk_frozen BK307.out 3
  have hfz39_4 := blk_frozen BK307.out 4
  have hfz39_5 := blk_frozen BK307.out 5
  have hfz39_6 := blk_frozen BK307.out 6
  have hfz39_7 := blk_frozen BK307.out 7
  go_wp2
  go_ret
  exact ⟨by first | rfl | (simp [errW_none, errW_some] <;> rfl) | (simp [*, errW_none, errW_some] <;> rfl), by repeat (first | (with_reducible first | exact HB.out | apply below_alloc | apply pw_below_drewN | apply below_drew1 | refine below_set ?_ GE307.out) | exact HB.out)⟩
 rw [if_pos c32] at H
 have c32b0 : decide (x3_2 < (l0_7.length : Int)) = true := decide_eq_true c32
 clear c32
 by_cases c33 : 0 ≤ x3_2
 rotate_left
 ·rw [if_neg c33] at H
  exact absurd H (by simp)
 rw [if_pos c33] at H
 have c33b0 : decide (0 ≤ x3_2) = true := decide_eq_true c33
 clear c33
 by_cases c34 : ((rd_T63 l0_7 x3_2).f1) < 1
 ·rw [if_pos c34] at H
  have c34b0 : decide (((rd_T63 l0_7 x3_2).f1) < 1) = true := decide_eq_true c34
  clear c34
  obtain rfl := Option.some.inj H
  have hcz35_0 : wr.cell? ⟨gb307, 0, none⟩ = some (.int .u64 a0_0) := (blk_cell BK307.out 0).trans rfl
  have hcz35_1 : wr.cell? ⟨gb307, 1, none⟩ = some (.int .u16 a0_1) := (blk_cell BK307.out 1).trans rfl
  have hcz35_2 : wr.cell? ⟨gb307, 2, none⟩ = some (.int .i64 a0_2) := (blk_cell BK307.out 2).trans rfl
  have hcz35_3 : wr.cell? ⟨gb307, 3, none⟩ = some (.int .i64 a0_3) := (blk_cell BK307.out 3).trans rfl
  have hcz35_4 : wr.cell? ⟨gb307, 4, none⟩ = some (.int .i64 a0_4) := (blk_cell BK307.out 4).trans rfl
  have hcz35_5 : wr.cell? ⟨gb307, 5, none⟩ = some (.int .i64 a0_5) := (blk_cell BK307.out 5).trans rfl
  have hcz35_6 : wr.cell? ⟨gb307, 6, none⟩ = some (.int .i64 a0_6) := (blk_cell BK307.out 6).trans rfl
  have hcz35_7 : wr.cell? ⟨gb307, 7, none⟩ = some (.slice A0_7 l0_7.length c0_7) := (blk_cell BK307.out 7).trans rfl
  have hfz35_0 := blk_frozen BK307.out 0
  have hfz35_1 := blk_frozen BK307.out 1
  have hfz35_2 := blk_frozen BK307.out 2
  have hfz35_3 := blk_frozen BK307.out 3
  have hfz35_4 := blk_frozen BK307.out 4
  have hfz35_5 := blk_frozen BK307.out 5
  have hfz35_6 := blk_frozen BK307.out 6
  have hfz35_7 := blk_frozen BK307.out 7
  have p310 : 0 ≤ (x3_2 : Int) := of_decide_eq_true (by first | (with_reducible assumption) | assumption)
  have q310 : x3_2 < (l0_7.length : Int) := of_decide_eq_true (by first | (with_reducible assumption) | assumption)
  obtain ⟨ad310, e310, hx310_0, hx310_1, hx310_2⟩ := at_T63 HR0_7.out x3_2 p310 q310
  cases e310
  replace hx310_0 := (HB.out.cell (World.block_lt_of_cell? w _ hx310_0)).trans hx310_0
  replace hx310_1 := (HB.out.cell (World.block_lt_of_cell? w _ hx310_1)).trans hx310_1
  replace hx310_2 := (HB.out.cell (World.block_lt_of_cell? w _ hx310_2)).trans hx310_2
  replace p310 := eq_true p310
  replace q310 := eq_true q310
  go_wp2
  go_ret
  exact ⟨by first | rfl | (simp [errW_none, errW_some] <;> rfl) | (simp [*, errW_none, errW_some] <;> rfl), by repeat (first | (with_reducible first | exact HB.out | apply below_alloc | apply pw_below_drewN | apply below_drew1 | refine below_set ?_ GE307.out) | exact HB.out)⟩
 rw [if_neg c34] at H
 have c34b0 : decide (((rd_T63 l0_7 x3_2).f1) < 1) = false := decide_eq_false c34
 clear c34
 by_cases c36 : ((rd_T63 l0_7 x3_2).f1) > 65535
 ·rw [if_pos c36] at H
  have c36b0 : decide (65535 < ((rd_T63 l0_7 x3_2).f1)) = true := decide_eq_true c36
  clear c36
  obtain rfl := Option.some.inj H
  have hcz37_0 : wr.cell? ⟨gb307, 0, none⟩ = some (.int .u64 a0_0) := (blk_cell BK307.out 0).trans rfl
  have hcz37_1 : wr.cell? ⟨gb307, 1, none⟩ = some (.int .u16 a0_1) := (blk_cell BK307.out 1).trans rfl
  have hcz37_2 : wr.cell? ⟨gb307, 2, none⟩ = some (.int .i64 a0_2) := (blk_cell BK307.out 2).trans rfl
  have hcz37_3 : wr.cell? ⟨gb307, 3, none⟩ = some (.int .i64 a0_3) := (blk_cell BK307.out 3).trans rfl
  have hcz37_4 : wr.cell? ⟨gb307, 4, none⟩ = some (.int .i64 a0_4) := (blk_cell BK307.out 4).trans rfl
  have hcz37_5 : wr.cell? ⟨gb307, 5, none⟩ = some (.int .i64 a0_5) := (blk_cell BK307.out 5).trans rfl
  have hcz37_6 : wr.cell? ⟨gb307, 6, none⟩ = some (.int .i64 a0_6) := (blk_cell BK307.out 6).trans rfl
  have hcz37_7 : wr.cell? ⟨gb307, 7, none⟩ = some (.slice A0_7 l0_7.length c0_7) := (blk_cell BK307.out 7).trans rfl
  have hfz37_0 := blk_frozen BK307.out 0
  have hfz37_1 := blk_frozen BK307.out 1
  have hfz37_2 := blk_frozen BK307.out 2
  have hfz37_3 := blk_frozen BK307.out 3
  have hfz37_4 := blk_frozen BK307.out 4
  have hfz37_5 := blk_frozen BK307.out 5
  have hfz37_6 := blk_frozen BK307.out 6
  have hfz37_7 := blk_frozen BK307.out 7
  have p310 : 0 ≤ (x3_2 : Int) := of_decide_eq_true (by first | (with_reducible assumption) | assumption)
  have q310 : x3_2 < (l0_7.length : Int) := of_decide_eq_true (by first | (with_reducible assumption) | assumption)
  obtain ⟨ad310, e310, hx310_0, hx310_1, hx310_2⟩ := at_T63 HR0_7.out x3_2 p310 q310
  cases e310
  replace hx310_0 := (HB.out.cell (World.block_lt_of_cell? w _ hx310_0)).trans hx310_0
  replace hx310_1 := (HB.out.cell (World.block_lt_of_cell? w _ hx310_1)).trans hx310_1
  replace hx310_2 := (HB.out.cell (World.block_lt_of_cell? w _ hx310_2)).trans hx310_2
  replace p310 := eq_true p310
  replace q310 := eq_true q310
  have p311 : 0 ≤ (x3_2 : Int) := of_decide_eq_true (by first | (with_reducible assumption) | assumption)
  have q311 : x3_2 < (l0_7.length : Int) := of_decide_eq_true (by first | (with_reducible assumption) | assumption)
  obtain ⟨ad311, e311, hx311_0, hx311_1, hx311_2⟩ := at_T63 HR0_7.out x3_2 p311 q311
  obtain rfl : ad310 = ad311 := (by injection e311)
  replace hx311_0 := (HB.out.cell (World.block_lt_of_cell? w _ hx311_0)).trans hx311_0
  replace hx311_1 := (HB.out.cell (World.block_lt_of_cell? w _ hx311_1)).trans hx311_1
  replace hx311_2 := (HB.out.cell (World.block_lt_of_cell? w _ hx311_2)).trans hx311_2
  replace p311 := eq_true p311
  replace q311 := eq_true q311
  go_wp2
  go_ret
  exact ⟨by first | rfl | (simp [errW_none, errW_some] <;> rfl) | (simp [*, errW_none, errW_some] <;> rfl), by repeat (first | (with_reducible first | exact HB.out | apply below_alloc | apply pw_below_drewN | apply below_drew1 | refine below_set ?_ GE307.out) | exact HB.out)⟩
 rw [if_neg c36] at H
 have c36b0 : decide (65535 < ((rd_T63 l0_7 x3_2).f1)) = false := decide_eq_false c36
 clear c36
 have H' := Aside0.mk H
 clear H
 have hcz38_0 : wr.cell? ⟨gb307, 0, none⟩ = some (.int .u64 a0_0) := (blk_cell BK307.out 0).trans rfl
 have hcz38_1 : wr.cell? ⟨gb307, 1, none⟩ = some (.int .u16 a0_1) := (blk_cell BK307.out 1).trans rfl
 have hcz38_2 : wr.cell? ⟨gb307, 2, none⟩ = some (.int .i64 a0_2) := (blk_cell BK307.out 2).trans rfl
 have hcz38_3 : wr.cell? ⟨gb307, 3, none⟩ = some (.int .i64 a0_3) := (blk_cell BK307.out 3).trans rfl
 have hcz38_4 : wr.cell? ⟨gb307, 4, none⟩ = some (.int .i64 a0_4) := (blk_cell BK307.out 4).trans rfl
 have hcz38_5 : wr.cell? ⟨gb307, 5, none⟩ = some (.int .i64 a0_5) := (blk_cell BK307.out 5).trans rfl
 have hcz38_6 : wr.cell? ⟨gb307, 6, none⟩ = some (.int .i64 a0_6) := (blk_cell BK307.out 6).trans rfl
 have hcz38_7 : wr.cell? ⟨gb307, 7, none⟩ = some (.slice A0_7 l0_7.length c0_7) := (blk_cell BK307.out 7).trans rfl
 have hfz38_0 := blk_frozen BK307.out 0
 have hfz38_1 := blk_frozen BK307.out 1
 have hfz38_2 := blk_frozen BK307.out 2
 have hfz38_3 := blk_frozen BK307.out 3
 have hfz38_4 := blk_frozen BK307.out 4
 have hfz38_5 := blk_frozen BK307.out 5
 have hfz38_6 := blk_frozen BK307.out 6
 have hfz38_7 := blk_frozen BK307.out 7
 have p310 : 0 ≤ (x3_2 : Int) := of_decide_eq_true (by first | (with_reducible assumption) | assumption)
 have q310 : x3_2 < (l0_7.length : Int) := of_decide_eq_true (by first | (with_reducible assumption) | assumption)
 obtain ⟨ad310, e310, hx310_0, hx310_1, hx310_2⟩ := at_T63 HR0_7.out x3_2 p310 q310
 cases e310
 replace hx310_0 := (HB.out.cell (World.block_lt_of_cell? w _ hx310_0)).trans hx310_0
 replace hx310_1 := (HB.out.cell (World.block_lt_of_cell? w _ hx310_1)).trans hx310_1
 replace hx310_2 := (HB.out.cell (World.block_lt_of_cell? w _ hx310_2)).trans hx310_2
 replace p310 := eq_true p310
 replace q310 := eq_true q310
 have p311 : 0 ≤ (x3_2 : Int) := of_decide_eq_true (by first | (with_reducible assumption) | assumption)
 have q311 : x3_2 < (l0_7.length : Int) := of_decide_eq_true (by first | (with_reducible assumption) | assumption)
 obtain ⟨ad311, e311, hx311_0, hx311_1, hx311_2⟩ := at_T63 HR0_7.out x3_2 p311 q311
 obtain rfl : ad310 = ad311 := (by injection e311)
 replace hx311_0 := (HB.out.cell (World.block_lt_of_cell? w _ hx311_0)).trans hx311_0
 replace hx311_1 := (HB.out.cell (World.block_lt_of_cell? w _ hx311_1)).trans hx311_1
 replace hx311_2 := (HB.out.cell (World.block_lt_of_cell? w _ hx311_2)).trans hx311_2
 replace p311 := eq_true p311
 replace q311 := eq_true q311
 go_wp2
 go_roundg k2
 case measure => have := HJ3.out; have := HK2.out; omega
 case rel => exact ⟨(wrap64 (x3_2 + 1)), (by first | rfl | (simp; done) | (simp [*]; done)), H', ⟨by have := HJ3.out; have := HK2.out; omega⟩, ⟨by (with_reducible repeat (first | refine blk_drewN ?_ _ | refine blk_drew ?_ | refine blk_alloc ?_ _)); exact BK307.out⟩, ⟨by repeat (first | (with_reducible first | exact HB.out | apply below_alloc | apply pw_below_drewN | apply below_drew1 | refine below_set ?_ GE307.out) | exact HB.out)⟩⟩
end Go.Proofs.YtiikllgppmmiaaaDoor.OScriptMay
