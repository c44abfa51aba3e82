/- A part of what Go functions that the law RankPlays uses come to. Made out of the kit's print by a program of this session (wip/tools/mend.py), with more rows. -/
import Derived.Test.YtnoejdogickplaaPRankPlaysx0
import Derived.Test.YtnoejdogickplaaORankPlaysx1
import Derived.Test.YtnoejdogickplaaORankPlaysx2
import Derived.Test.YtnoejdogickplaaORankPlaysx3
import Derived.Test.YtnoejdogickplaaORankPlaysx4
import Derived.Test.YtnoejdogickplaaORankPlaysy5a
namespace Go.Proofs.Ytnoejdogickplaa.PRankPlays
open Go.RowKit Go.Proofs.YtnoejdogickplaaW.PrintWords Go.Proofs.YtnoejdogickplaaW.PrintLast Go.Proofs.YtnoejdogickplaaW.PrintMore
attribute [local go_sem] max2_int min2_int max_two min_two max_three min_three max_four min_four   -- for this text's walks alone
set_option linter.unusedVariables false
set_option linter.unusedSimpArgs false
private theorem setCell_drewN_ (w : World) (n : Nat) (p : Addr) (u : Value) : (w.drewN n).setCell p u = (w.setCell p u).drewN n := by
  unfold World.setCell World.drewN
  split <;> rfl

attribute [local go_sem high] eqA31
set_option maxHeartbeats 8000000 in
set_option maxRecDepth 100000 in
theorem treelinelaw10_RankPlays.calls (k : Nat) (a0_0 : Int) (a0_1 : Int) (a0_2 : Int) (a0_3 : Int) (a1_0 : Int) (a1_1 : Int) (a1_2 : Int) (a1_3 : Int) (a2 : Int) (a3 : Int) (r : Bool) (w : World) (h : treelinelaw10_RankPlays.f k a0_0 a0_1 a0_2 a0_3 a1_0 a1_1 a1_2 a1_3 a2 a3 = some r) (LRT : Aside0 (r = true)) :
    Calls Try.prog 7 #[.agg #[.int .u64 a0_0, .int .u32 a0_1, .int .u64 a0_2, .int .u16 a0_3], .agg #[.int .u64 a1_0, .int .u32 a1_1, .int .u64 a1_2, .int .u16 a1_3], .int .u64 a2, .int .u32 a3] w fun e w' => e = .returned (.bool r) ∧ Below w.heap.size w w' := by
  have hu31 := Try.underlying31
  have hu43 := Try.underlying43
  have HB := Aside0.mk (Below.refl w.heap.size w)
  have H : ((treelinelaw10_awake.f k).bind fun t143 => (if t143 = true then ((rank_Compare.f k a0_0 a0_1 a0_2 a0_3 a1_0 a1_1 a1_2 a1_3).bind fun t144 => ((treelinelaw10_Plain.f a0_0 a0_1 a0_2 a0_3).bind fun bt145 => ((treelinelaw10_Plain.f a1_0 a1_1 a1_2 a1_3).bind fun bt149 => ((treelineref10_Less.f bt145.1 bt145.2.1 bt145.2.2.1 bt145.2.2.2 bt149.1 bt149.2.1 bt149.2.2.1 bt149.2.2.2).bind fun t155 => (if t155 = true then (treelinelaw10_RankPlays.j0 k a2 a3 t144 (-1) a0_0 a0_1 a0_2 a0_3 a1_0 a1_1 a1_2 a1_3 bt145.1 bt145.2.1 bt145.2.2.1 bt145.2.2.2 bt149.1 bt149.2.1 bt149.2.2.1 bt149.2.2.2) else (treelinelaw10_RankPlays.j0 k a2 a3 t144 0 a0_0 a0_1 a0_2 a0_3 a1_0 a1_1 a1_2 a1_3 bt145.1 bt145.2.1 bt145.2.2.1 bt145.2.2.2 bt149.1 bt149.2.1 bt149.2.2.1 bt149.2.2.2)))))) else (some false))) = some r := h
  clear h
  replace H := Option.bind_eq_some_iff.mp H
  obtain ⟨t143, A50, H⟩ := H
  replace H : (if t143 = true then ((rank_Compare.f k a0_0 a0_1 a0_2 a0_3 a1_0 a1_1 a1_2 a1_3).bind fun t144 => ((treelinelaw10_Plain.f a0_0 a0_1 a0_2 a0_3).bind fun bt145 => ((treelinelaw10_Plain.f a1_0 a1_1 a1_2 a1_3).bind fun bt149 => ((treelineref10_Less.f bt145.1 bt145.2.1 bt145.2.2.1 bt145.2.2.2 bt149.1 bt149.2.1 bt149.2.2.1 bt149.2.2.2).bind fun t155 => (if t155 = true then (treelinelaw10_RankPlays.j0 k a2 a3 t144 (-1) a0_0 a0_1 a0_2 a0_3 a1_0 a1_1 a1_2 a1_3 bt145.1 bt145.2.1 bt145.2.2.1 bt145.2.2.2 bt149.1 bt149.2.1 bt149.2.2.1 bt149.2.2.2) else (treelinelaw10_RankPlays.j0 k a2 a3 t144 0 a0_0 a0_1 a0_2 a0_3 a1_0 a1_1 a1_2 a1_3 bt145.1 bt145.2.1 bt145.2.2.1 bt145.2.2.2 bt149.1 bt149.2.1 bt149.2.2.1 bt149.2.2.2)))))) else (some false)) = some r := H
  have A5 := Aside0.mk A50
  clear A50
  by_cases c6 : t143 = true
  · subst c6
    have H1 : ((rank_Compare.f k a0_0 a0_1 a0_2 a0_3 a1_0 a1_1 a1_2 a1_3).bind fun t144 => ((treelinelaw10_Plain.f a0_0 a0_1 a0_2 a0_3).bind fun bt145 => ((treelinelaw10_Plain.f a1_0 a1_1 a1_2 a1_3).bind fun bt149 => ((treelineref10_Less.f bt145.1 bt145.2.1 bt145.2.2.1 bt145.2.2.2 bt149.1 bt149.2.1 bt149.2.2.1 bt149.2.2.2).bind fun t155 => (if t155 = true then (treelinelaw10_RankPlays.j0 k a2 a3 t144 (-1) a0_0 a0_1 a0_2 a0_3 a1_0 a1_1 a1_2 a1_3 bt145.1 bt145.2.1 bt145.2.2.1 bt145.2.2.2 bt149.1 bt149.2.1 bt149.2.2.1 bt149.2.2.2) else (treelinelaw10_RankPlays.j0 k a2 a3 t144 0 a0_0 a0_1 a0_2 a0_3 a1_0 a1_1 a1_2 a1_3 bt145.1 bt145.2.1 bt145.2.2.1 bt145.2.2.2 bt149.1 bt149.2.1 bt149.2.2.1 bt149.2.2.2)))))) = some r := by rw [if_pos rfl] at H; exact H
    clear H
    have H := H1
    clear H1
    replace H := Option.bind_eq_some_iff.mp H
    obtain ⟨t144, A70, H⟩ := H
    replace H : ((treelinelaw10_Plain.f a0_0 a0_1 a0_2 a0_3).bind fun bt145 => ((treelinelaw10_Plain.f a1_0 a1_1 a1_2 a1_3).bind fun bt149 => ((treelineref10_Less.f bt145.1 bt145.2.1 bt145.2.2.1 bt145.2.2.2 bt149.1 bt149.2.1 bt149.2.2.1 bt149.2.2.2).bind fun t155 => (if t155 = true then (treelinelaw10_RankPlays.j0 k a2 a3 t144 (-1) a0_0 a0_1 a0_2 a0_3 a1_0 a1_1 a1_2 a1_3 bt145.1 bt145.2.1 bt145.2.2.1 bt145.2.2.2 bt149.1 bt149.2.1 bt149.2.2.1 bt149.2.2.2) else (treelinelaw10_RankPlays.j0 k a2 a3 t144 0 a0_0 a0_1 a0_2 a0_3 a1_0 a1_1 a1_2 a1_3 bt145.1 bt145.2.1 bt145.2.2.1 bt145.2.2.2 bt149.1 bt149.2.1 bt149.2.2.1 bt149.2.2.2))))) = some r := H
    have A7 := Aside0.mk A70
    clear A70
    replace H := Option.bind_eq_some_iff.mp H
    obtain ⟨⟨t145, t146, t147, t148⟩, A80, H⟩ := H
    replace H : ((treelinelaw10_Plain.f a1_0 a1_1 a1_2 a1_3).bind fun bt149 => ((treelineref10_Less.f t145 t146 t147 t148 bt149.1 bt149.2.1 bt149.2.2.1 bt149.2.2.2).bind fun t155 => (if t155 = true then (treelinelaw10_RankPlays.j0 k a2 a3 t144 (-1) a0_0 a0_1 a0_2 a0_3 a1_0 a1_1 a1_2 a1_3 t145 t146 t147 t148 bt149.1 bt149.2.1 bt149.2.2.1 bt149.2.2.2) else (treelinelaw10_RankPlays.j0 k a2 a3 t144 0 a0_0 a0_1 a0_2 a0_3 a1_0 a1_1 a1_2 a1_3 t145 t146 t147 t148 bt149.1 bt149.2.1 bt149.2.2.1 bt149.2.2.2)))) = some r := H
    have A8 := Aside0.mk A80
    clear A80
    replace H := Option.bind_eq_some_iff.mp H
    obtain ⟨⟨t149, t150, t151, t152⟩, A90, H⟩ := H
    replace H : ((treelineref10_Less.f t145 t146 t147 t148 t149 t150 t151 t152).bind fun t155 => (if t155 = true then (treelinelaw10_RankPlays.j0 k a2 a3 t144 (-1) a0_0 a0_1 a0_2 a0_3 a1_0 a1_1 a1_2 a1_3 t145 t146 t147 t148 t149 t150 t151 t152) else (treelinelaw10_RankPlays.j0 k a2 a3 t144 0 a0_0 a0_1 a0_2 a0_3 a1_0 a1_1 a1_2 a1_3 t145 t146 t147 t148 t149 t150 t151 t152))) = some r := H
    have A9 := Aside0.mk A90
    clear A90
    replace H := Option.bind_eq_some_iff.mp H
    obtain ⟨t155, A100, H⟩ := H
    replace H : (if t155 = true then (treelinelaw10_RankPlays.j0 k a2 a3 t144 (-1) a0_0 a0_1 a0_2 a0_3 a1_0 a1_1 a1_2 a1_3 t145 t146 t147 t148 t149 t150 t151 t152) else (treelinelaw10_RankPlays.j0 k a2 a3 t144 0 a0_0 a0_1 a0_2 a0_3 a1_0 a1_1 a1_2 a1_3 t145 t146 t147 t148 t149 t150 t151 t152)) = some r := H
    have A10 := Aside0.mk A100
    clear A100
    have HC11 := Aside0.mk H
    clear H
    go_enter Try.func7, Try.ntmps7
    try go_wp2_with (first | ((with_reducible refine gate_dst (N := 4) rfl ?_); refine box_event ?hg (N := 4) ?hd (cs := #[.int .u64 a0_0, .int .u32 a0_1, .int .u64 a0_2, .int .u16 a0_3]) (t := 31) ?hr ?_; (case hd => rfl); (case hg => rfl); (case hr => first | (go_simp; done) | (go_simp; rfl)); intro gb141 hg w12 hbox hb; have n0_ := Aside0.mk (below_step (by repeat (first | (with_reducible first | exact HB.out | apply below_alloc | apply pw_below_drewN | apply below_drew1) | exact HB.out)) hb); have n1_ := Aside0.mk (hbox); have n2_ := Aside0.mk ((by rw [hg]; exact (below_size (by repeat (first | (with_reducible first | exact HB.out | apply below_alloc | apply pw_below_drewN | apply below_drew1) | exact HB.out))) : w.heap.size ≤ gb141)); have n3_ := Aside0.mk ((by rw [hg]; exact (below_size (by repeat (first | (with_reducible first | exact HB.out | apply below_alloc | apply pw_below_drewN | apply below_drew1) | exact HB.out))) : w.heap.size ≤ gb141)); clear HB; have HB := n0_; have BK141 := n1_; have GW141 := n2_; have GE141 := n3_; clear n0_ n1_ n2_ n3_; clear hb hbox hg) | ((with_reducible refine gate_dst (N := 5) rfl ?_); refine box_event ?hg (N := 5) ?hd (cs := #[.int .u64 a1_0, .int .u32 a1_1, .int .u64 a1_2, .int .u16 a1_3]) (t := 31) ?hr ?_; (case hd => rfl); (case hg => rfl); (case hr => first | (go_simp; done) | (go_simp; rfl)); intro gb142 hg w13 hbox hb; have n0_ := Aside0.mk (blk_below (g := gb141) (o := .cells #[.int .u64 a0_0, .int .u32 a0_1, .int .u64 a0_2, .int .u16 a0_3] 31 (0, 0)) (by (with_reducible repeat (first | refine blk_drewN ?_ _ | refine blk_drew ?_ | refine blk_alloc ?_ _)); exact BK141.out) hb); have n1_ := Aside0.mk (below_step (by repeat (first | (with_reducible first | exact HB.out | apply below_alloc | apply pw_below_drewN | apply below_drew1 | refine below_set ?_ GE141.out) | exact HB.out)) hb); have n2_ := Aside0.mk (hbox); have n3_ := Aside0.mk ((by rw [hg]; exact (below_size (by repeat (first | (with_reducible first | exact HB.out | apply below_alloc | apply pw_below_drewN | apply below_drew1 | refine below_set ?_ GE141.out) | exact HB.out))) : w.heap.size ≤ gb142)); have n4_ := Aside0.mk ((by rw [hg]; exact (below_size (by repeat (first | (with_reducible first | exact HB.out | apply below_alloc | apply pw_below_drewN | apply below_drew1 | refine below_set ?_ GE141.out) | exact HB.out))) : w.heap.size ≤ gb142)); have n5_ := Aside0.mk ((by rw [hg]; exact Nat.ne_of_lt (blk_lt (g := gb141) (o := .cells #[.int .u64 a0_0, .int .u32 a0_1, .int .u64 a0_2, .int .u16 a0_3] 31 (0, 0)) (by (with_reducible repeat (first | refine blk_drewN ?_ _ | refine blk_drew ?_ | refine blk_alloc ?_ _)); exact BK141.out)) : gb141 ≠ gb142)); have n6_ := Aside0.mk ((by rw [hg]; exact Nat.ne_of_gt (blk_lt (g := gb141) (o := .cells #[.int .u64 a0_0, .int .u32 a0_1, .int .u64 a0_2, .int .u16 a0_3] 31 (0, 0)) (by (with_reducible repeat (first | refine blk_drewN ?_ _ | refine blk_drew ?_ | refine blk_alloc ?_ _)); exact BK141.out)) : gb142 ≠ gb141)); clear BK141; clear HB; have BK141 := n0_; have HB := n1_; have BK142 := n2_; have GW142 := n3_; have GE142 := n4_; have NB141_142 := n5_; have NB142_141 := n6_; clear n0_ n1_ n2_ n3_ n4_ n5_ n6_; clear hb hbox hg) | ((with_reducible refine gate_callee (f := 12) rfl ?_); refine goesL_ (some 15) rfl rfl Try.func12 (by kernel_rfl) rfl #[] rfl (by (try simp only [List.map_toArray, List.map_cons, List.map_nil]); first | done | rfl | (simp only [List.length_drop, List.length_take]; rfl)) ?_; (with_reducible refine (treelinelaw10_awake.calls k  true _ A5.out).mono ?_); rintro e w14 ⟨rfl, hb⟩; refine ⟨_, rfl, ?_⟩; have n0_ := Aside0.mk (blk_below (g := gb141) (o := .cells #[.int .u64 a0_0, .int .u32 a0_1, .int .u64 a0_2, .int .u16 a0_3] 31 (0, 0)) (by (with_reducible repeat (first | refine blk_drewN ?_ _ | refine blk_drew ?_ | refine blk_alloc ?_ _)); exact BK141.out) hb); have n1_ := Aside0.mk (blk_below (g := gb142) (o := .cells #[.int .u64 a1_0, .int .u32 a1_1, .int .u64 a1_2, .int .u16 a1_3] 31 (0, 0)) (by (with_reducible repeat (first | refine blk_drewN ?_ _ | refine blk_drew ?_ | refine blk_alloc ?_ _)); exact BK142.out) hb); have n2_ := Aside0.mk (below_step (by repeat (first | (with_reducible first | exact HB.out | apply below_alloc | apply pw_below_drewN | apply below_drew1 | refine below_set ?_ GE141.out | refine below_set ?_ GE142.out) | exact HB.out)) hb); clear BK141; clear BK142; clear HB; have BK141 := n0_; have BK142 := n1_; have HB := n2_; clear n0_ n1_ n2_; (try clear hb); (try clear hb2); (try clear hk); (try clear hi); have hnb15 := NB141_142.out; have hnc15 := NB142_141.out; have hcz16_0 : w14.cell? ⟨gb141, 0, none⟩ = some (.int .u64 a0_0) := (blk_cell BK141.out 0).trans rfl; have hcz16_1 : w14.cell? ⟨gb141, 1, none⟩ = some (.int .u32 a0_1) := (blk_cell BK141.out 1).trans rfl; have hcz16_2 : w14.cell? ⟨gb141, 2, none⟩ = some (.int .u64 a0_2) := (blk_cell BK141.out 2).trans rfl; have hcz16_3 : w14.cell? ⟨gb141, 3, none⟩ = some (.int .u16 a0_3) := (blk_cell BK141.out 3).trans rfl; have hfz16_0 := blk_frozen BK141.out 0; have hfz16_1 := blk_frozen BK141.out 1; have hfz16_2 := blk_frozen BK141.out 2; have hfz16_3 := blk_frozen BK141.out 3; have hcz17_0 : w14.cell? ⟨gb142, 0, none⟩ = some (.int .u64 a1_0) := (blk_cell BK142.out 0).trans rfl; have hcz17_1 : w14.cell? ⟨gb142, 1, none⟩ = some (.int .u32 a1_1) := (blk_cell BK142.out 1).trans rfl; have hcz17_2 : w14.cell? ⟨gb142, 2, none⟩ = some (.int .u64 a1_2) := (blk_cell BK142.out 2).trans rfl; have hcz17_3 : w14.cell? ⟨gb142, 3, none⟩ = some (.int .u16 a1_3) := (blk_cell BK142.out 3).trans rfl; have hfz17_0 := blk_frozen BK142.out 0; have hfz17_1 := blk_frozen BK142.out 1; have hfz17_2 := blk_frozen BK142.out 2; have hfz17_3 := blk_frozen BK142.out 3) | ((with_reducible refine gate_callee (f := 16) rfl ?_); refine goesL_ (some 19) rfl rfl Try.func16 (by kernel_rfl) rfl #[.agg #[.int .u64 a0_0, .int .u32 a0_1, .int .u64 a0_2, .int .u16 a0_3], .agg #[.int .u64 a1_0, .int .u32 a1_1, .int .u64 a1_2, .int .u16 a1_3]] rfl (by (try simp only [List.map_toArray, List.map_cons, List.map_nil]); first | done | rfl | (simp only [List.length_drop, List.length_take]; rfl)) ?_; (with_reducible refine (rank_Compare.calls k a0_0 a0_1 a0_2 a0_3 a1_0 a1_1 a1_2 a1_3 t144 _ A7.out).mono ?_); rintro e w18 ⟨rfl, hb⟩; refine ⟨_, rfl, ?_⟩; have n0_ := Aside0.mk (blk_below (g := gb141) (o := .cells #[.int .u64 a0_0, .int .u32 a0_1, .int .u64 a0_2, .int .u16 a0_3] 31 (0, 0)) (by (with_reducible repeat (first | refine blk_drewN ?_ _ | refine blk_drew ?_ | refine blk_alloc ?_ _)); exact BK141.out) hb); have n1_ := Aside0.mk (blk_below (g := gb142) (o := .cells #[.int .u64 a1_0, .int .u32 a1_1, .int .u64 a1_2, .int .u16 a1_3] 31 (0, 0)) (by (with_reducible repeat (first | refine blk_drewN ?_ _ | refine blk_drew ?_ | refine blk_alloc ?_ _)); exact BK142.out) hb); have n2_ := Aside0.mk (below_step (by repeat (first | (with_reducible first | exact HB.out | apply below_alloc | apply pw_below_drewN | apply below_drew1 | refine below_set ?_ GE141.out | refine below_set ?_ GE142.out) | exact HB.out)) hb); clear BK141; clear BK142; clear HB; have BK141 := n0_; have BK142 := n1_; have HB := n2_; clear n0_ n1_ n2_; (try clear hb); (try clear hb2); (try clear hk); (try clear hi)))
    have n0_ := Aside0.mk (blk_drew BK141.out)
    have n1_ := Aside0.mk (blk_drew BK142.out)
    have n2_ := Aside0.mk (below_drew1 HB.out)
    clear BK141
    clear BK142
    clear HB
    have BK141 := n0_
    have BK142 := n1_
    have HB := n2_
    clear n0_ n1_ n2_
    refine start_ (n := 8) (S := fun w' => w'.cell? ⟨gb141, 0, none⟩ = some (.int .u64 a0_0) ∧ w'.cell? ⟨gb141, 1, none⟩ = some (.int .u32 a0_1) ∧ w'.cell? ⟨gb141, 2, none⟩ = some (.int .u64 a0_2) ∧ w'.cell? ⟨gb141, 3, none⟩ = some (.int .u16 a0_3) ∧ w'.cell? ⟨gb142, 0, none⟩ = some (.int .u64 a1_0) ∧ w'.cell? ⟨gb142, 1, none⟩ = some (.int .u32 a1_1) ∧ w'.cell? ⟨gb142, 2, none⟩ = some (.int .u64 a1_2) ∧ w'.cell? ⟨gb142, 3, none⟩ = some (.int .u16 a1_3)) (ds := []) #[false, false, false, false, false, false, false, false] (by kernel_rfl) rfl rfl ⟨(blk_cell BK141.out 0).trans rfl, (blk_cell BK141.out 1).trans rfl, (blk_cell BK141.out 2).trans rfl, (blk_cell BK141.out 3).trans rfl, (blk_cell BK142.out 0).trans rfl, (blk_cell BK142.out 1).trans rfl, (blk_cell BK142.out 2).trans rfl, (blk_cell BK142.out 3).trans rfl⟩ (fun hHeld => ?_); refine with_tabW treelinelaw10_RankPlays.tab4 treelinelaw10_RankPlays.bits4 (fun HT_ HW_ => ?_)
    generalize w18.drew = w19 at BK141 BK142 HB hHeld ⊢
    refine take_ (i := 0) (N := some 20) (v := ?_) (a' := ?_) #[true, false, false, false, false, false, false, false] rfl rfl (take_ofW HT_.out HW_.out (by kernel_rfl)) (fun _ _ _ h => h) (Or.inl ⟨by rfl, ?_⟩) hHeld ?_ ?_
    rotate_left
    · rintro w' ⟨s0, s1, s2, s3, s4, s5, s6, s7⟩
      go_simp
      with_reducible rfl
    rotate_left
    · simp only [Act.put, List.setIfInBounds_toArray, List.set_cons_zero, List.set_cons_succ, i64_w, i32_w]
      rfl
    refine take_ (i := 2) (N := some 22) (v := ?_) (a' := ?_) #[true, false, true, false, false, false, false, false] rfl rfl (take_ofW HT_.out HW_.out (by kernel_rfl)) (fun _ _ _ h => h) (Or.inl ⟨by rfl, ?_⟩) hHeld ?_ ?_
    rotate_left
    · rintro w' ⟨s0, s1, s2, s3, s4, s5, s6, s7⟩
      go_simp
      with_reducible rfl
    rotate_left
    · simp only [Act.put, List.setIfInBounds_toArray, List.set_cons_zero, List.set_cons_succ, i64_w, i32_w]
      rfl
    refine join_ (σ := Nat × Nat) 2 #[true, true, true, true, true, true, false, false] (fun s_ => [(21, .agg #[.int .u64 t145, .int .u32 t146, .int .u64 t147, .int .u16 t148]), (23, .agg #[.int .u64 t149, .int .u32 t150, .int .u64 t151, .int .u16 t152]), (10, .pointer (some ⟨s_.1, 0, none⟩)), (11, .pointer (some ⟨s_.2, 0, none⟩))]) (fun s_ w' => (w'.cell? ⟨gb141, 0, none⟩ = some (.int .u64 a0_0) ∧ w'.cell? ⟨gb141, 1, none⟩ = some (.int .u32 a0_1) ∧ w'.cell? ⟨gb141, 2, none⟩ = some (.int .u64 a0_2) ∧ w'.cell? ⟨gb141, 3, none⟩ = some (.int .u16 a0_3) ∧ w'.cell? ⟨gb142, 0, none⟩ = some (.int .u64 a1_0) ∧ w'.cell? ⟨gb142, 1, none⟩ = some (.int .u32 a1_1) ∧ w'.cell? ⟨gb142, 2, none⟩ = some (.int .u64 a1_2) ∧ w'.cell? ⟨gb142, 3, none⟩ = some (.int .u16 a1_3)) ∧ (w'.heap[gb141]? = some (.cells #[.int .u64 a0_0, .int .u32 a0_1, .int .u64 a0_2, .int .u16 a0_3] 31 (0, 0))) ∧ (w'.heap[gb142]? = some (.cells #[.int .u64 a1_0, .int .u32 a1_1, .int .u64 a1_2, .int .u16 a1_3] 31 (0, 0))) ∧ (w'.heap[s_.1]? = some (.cells #[.int .u64 0, .int .u32 0, .int .u64 0, .int .u16 0] 43 (0, 0))) ∧ (w'.heap[s_.2]? = some (.cells #[.int .u64 0, .int .u32 0, .int .u64 0, .int .u16 0] 43 (0, 0))) ∧ (w.heap.size ≤ s_.1) ∧ (w.heap.size ≤ s_.1) ∧ (gb141 ≠ s_.1) ∧ (s_.1 ≠ gb141) ∧ (gb142 ≠ s_.1) ∧ (s_.1 ≠ gb142) ∧ (s_.2 ≠ s_.1) ∧ (s_.1 ≠ s_.2) ∧ (w.heap.size ≤ s_.2) ∧ (w.heap.size ≤ s_.2) ∧ (gb141 ≠ s_.2) ∧ (s_.2 ≠ gb141) ∧ (gb142 ≠ s_.2) ∧ (s_.2 ≠ gb142) ∧ (Below w.heap.size w w')) ?_ ?_
    rotate_left
    · intro hJ1_3_4_5
      refine join_ (σ := Nat) 3 #[true, true, true, true, true, false, false, false] (fun s_ => [(21, .agg #[.int .u64 t145, .int .u32 t146, .int .u64 t147, .int .u16 t148]), (23, .agg #[.int .u64 t149, .int .u32 t150, .int .u64 t151, .int .u16 t152]), (10, .pointer (some ⟨s_, 0, none⟩))]) (fun s_ w' => (w'.cell? ⟨gb141, 0, none⟩ = some (.int .u64 a0_0) ∧ w'.cell? ⟨gb141, 1, none⟩ = some (.int .u32 a0_1) ∧ w'.cell? ⟨gb141, 2, none⟩ = some (.int .u64 a0_2) ∧ w'.cell? ⟨gb141, 3, none⟩ = some (.int .u16 a0_3) ∧ w'.cell? ⟨gb142, 0, none⟩ = some (.int .u64 a1_0) ∧ w'.cell? ⟨gb142, 1, none⟩ = some (.int .u32 a1_1) ∧ w'.cell? ⟨gb142, 2, none⟩ = some (.int .u64 a1_2) ∧ w'.cell? ⟨gb142, 3, none⟩ = some (.int .u16 a1_3)) ∧ (w'.heap[gb141]? = some (.cells #[.int .u64 a0_0, .int .u32 a0_1, .int .u64 a0_2, .int .u16 a0_3] 31 (0, 0))) ∧ (w'.heap[gb142]? = some (.cells #[.int .u64 a1_0, .int .u32 a1_1, .int .u64 a1_2, .int .u16 a1_3] 31 (0, 0))) ∧ (w'.heap[s_]? = some (.cells #[.int .u64 0, .int .u32 0, .int .u64 0, .int .u16 0] 43 (0, 0))) ∧ (w.heap.size ≤ s_) ∧ (w.heap.size ≤ s_) ∧ (gb141 ≠ s_) ∧ (s_ ≠ gb141) ∧ (gb142 ≠ s_) ∧ (s_ ≠ gb142) ∧ (Below w.heap.size w w')) ?_ ?_
      rotate_left
      · intro hJ1_3_4
        refine join_ (σ := Nat) 3 #[true, true, true, true, false, true, false, false] (fun s_ => [(21, .agg #[.int .u64 t145, .int .u32 t146, .int .u64 t147, .int .u16 t148]), (23, .agg #[.int .u64 t149, .int .u32 t150, .int .u64 t151, .int .u16 t152]), (11, .pointer (some ⟨s_, 0, none⟩))]) (fun s_ w' => (w'.cell? ⟨gb141, 0, none⟩ = some (.int .u64 a0_0) ∧ w'.cell? ⟨gb141, 1, none⟩ = some (.int .u32 a0_1) ∧ w'.cell? ⟨gb141, 2, none⟩ = some (.int .u64 a0_2) ∧ w'.cell? ⟨gb141, 3, none⟩ = some (.int .u16 a0_3) ∧ w'.cell? ⟨gb142, 0, none⟩ = some (.int .u64 a1_0) ∧ w'.cell? ⟨gb142, 1, none⟩ = some (.int .u32 a1_1) ∧ w'.cell? ⟨gb142, 2, none⟩ = some (.int .u64 a1_2) ∧ w'.cell? ⟨gb142, 3, none⟩ = some (.int .u16 a1_3)) ∧ (w'.heap[gb141]? = some (.cells #[.int .u64 a0_0, .int .u32 a0_1, .int .u64 a0_2, .int .u16 a0_3] 31 (0, 0))) ∧ (w'.heap[gb142]? = some (.cells #[.int .u64 a1_0, .int .u32 a1_1, .int .u64 a1_2, .int .u16 a1_3] 31 (0, 0))) ∧ (w'.heap[s_]? = some (.cells #[.int .u64 0, .int .u32 0, .int .u64 0, .int .u16 0] 43 (0, 0))) ∧ (w.heap.size ≤ s_) ∧ (w.heap.size ≤ s_) ∧ (gb141 ≠ s_) ∧ (s_ ≠ gb141) ∧ (gb142 ≠ s_) ∧ (s_ ≠ gb142) ∧ (Below w.heap.size w w')) ?_ ?_
        rotate_left
        · intro hJ1_3_5
          refine join_ (σ := Nat × Nat) 3 #[true, true, true, false, true, true, false, false] (fun s_ => [(21, .agg #[.int .u64 t145, .int .u32 t146, .int .u64 t147, .int .u16 t148]), (10, .pointer (some ⟨s_.1, 0, none⟩)), (11, .pointer (some ⟨s_.2, 0, none⟩))]) (fun s_ w' => (w'.cell? ⟨gb141, 0, none⟩ = some (.int .u64 a0_0) ∧ w'.cell? ⟨gb141, 1, none⟩ = some (.int .u32 a0_1) ∧ w'.cell? ⟨gb141, 2, none⟩ = some (.int .u64 a0_2) ∧ w'.cell? ⟨gb141, 3, none⟩ = some (.int .u16 a0_3) ∧ w'.cell? ⟨gb142, 0, none⟩ = some (.int .u64 a1_0) ∧ w'.cell? ⟨gb142, 1, none⟩ = some (.int .u32 a1_1) ∧ w'.cell? ⟨gb142, 2, none⟩ = some (.int .u64 a1_2) ∧ w'.cell? ⟨gb142, 3, none⟩ = some (.int .u16 a1_3)) ∧ (w'.heap[gb141]? = some (.cells #[.int .u64 a0_0, .int .u32 a0_1, .int .u64 a0_2, .int .u16 a0_3] 31 (0, 0))) ∧ (w'.heap[gb142]? = some (.cells #[.int .u64 a1_0, .int .u32 a1_1, .int .u64 a1_2, .int .u16 a1_3] 31 (0, 0))) ∧ (w'.heap[s_.1]? = some (.cells #[.int .u64 0, .int .u32 0, .int .u64 0, .int .u16 0] 43 (0, 0))) ∧ (w'.heap[s_.2]? = some (.cells #[.int .u64 0, .int .u32 0, .int .u64 0, .int .u16 0] 43 (0, 0))) ∧ (w.heap.size ≤ s_.1) ∧ (w.heap.size ≤ s_.1) ∧ (gb141 ≠ s_.1) ∧ (s_.1 ≠ gb141) ∧ (gb142 ≠ s_.1) ∧ (s_.1 ≠ gb142) ∧ (s_.2 ≠ s_.1) ∧ (s_.1 ≠ s_.2) ∧ (w.heap.size ≤ s_.2) ∧ (w.heap.size ≤ s_.2) ∧ (gb141 ≠ s_.2) ∧ (s_.2 ≠ gb141) ∧ (gb142 ≠ s_.2) ∧ (s_.2 ≠ gb142) ∧ (Below w.heap.size w w')) ?_ ?_
          rotate_left
          · intro hJ1_4_5
            refine join_ (σ := Unit) 4 #[true, true, true, true, false, false, false, false] (fun s_ => [(21, .agg #[.int .u64 t145, .int .u32 t146, .int .u64 t147, .int .u16 t148]), (23, .agg #[.int .u64 t149, .int .u32 t150, .int .u64 t151, .int .u16 t152])]) (fun s_ w' => (w'.cell? ⟨gb141, 0, none⟩ = some (.int .u64 a0_0) ∧ w'.cell? ⟨gb141, 1, none⟩ = some (.int .u32 a0_1) ∧ w'.cell? ⟨gb141, 2, none⟩ = some (.int .u64 a0_2) ∧ w'.cell? ⟨gb141, 3, none⟩ = some (.int .u16 a0_3) ∧ w'.cell? ⟨gb142, 0, none⟩ = some (.int .u64 a1_0) ∧ w'.cell? ⟨gb142, 1, none⟩ = some (.int .u32 a1_1) ∧ w'.cell? ⟨gb142, 2, none⟩ = some (.int .u64 a1_2) ∧ w'.cell? ⟨gb142, 3, none⟩ = some (.int .u16 a1_3)) ∧ (w'.heap[gb141]? = some (.cells #[.int .u64 a0_0, .int .u32 a0_1, .int .u64 a0_2, .int .u16 a0_3] 31 (0, 0))) ∧ (w'.heap[gb142]? = some (.cells #[.int .u64 a1_0, .int .u32 a1_1, .int .u64 a1_2, .int .u16 a1_3] 31 (0, 0))) ∧ (Below w.heap.size w w')) ?_ ?_
            rotate_left
            · intro hJ1_3
              refine join_ (σ := Nat) 4 #[true, true, true, false, true, false, false, false] (fun s_ => [(21, .agg #[.int .u64 t145, .int .u32 t146, .int .u64 t147, .int .u16 t148]), (10, .pointer (some ⟨s_, 0, none⟩))]) (fun s_ w' => (w'.cell? ⟨gb141, 0, none⟩ = some (.int .u64 a0_0) ∧ w'.cell? ⟨gb141, 1, none⟩ = some (.int .u32 a0_1) ∧ w'.cell? ⟨gb141, 2, none⟩ = some (.int .u64 a0_2) ∧ w'.cell? ⟨gb141, 3, none⟩ = some (.int .u16 a0_3) ∧ w'.cell? ⟨gb142, 0, none⟩ = some (.int .u64 a1_0) ∧ w'.cell? ⟨gb142, 1, none⟩ = some (.int .u32 a1_1) ∧ w'.cell? ⟨gb142, 2, none⟩ = some (.int .u64 a1_2) ∧ w'.cell? ⟨gb142, 3, none⟩ = some (.int .u16 a1_3)) ∧ (w'.heap[gb141]? = some (.cells #[.int .u64 a0_0, .int .u32 a0_1, .int .u64 a0_2, .int .u16 a0_3] 31 (0, 0))) ∧ (w'.heap[gb142]? = some (.cells #[.int .u64 a1_0, .int .u32 a1_1, .int .u64 a1_2, .int .u16 a1_3] 31 (0, 0))) ∧ (w'.heap[s_]? = some (.cells #[.int .u64 0, .int .u32 0, .int .u64 0, .int .u16 0] 43 (0, 0))) ∧ (w.heap.size ≤ s_) ∧ (w.heap.size ≤ s_) ∧ (gb141 ≠ s_) ∧ (s_ ≠ gb141) ∧ (gb142 ≠ s_) ∧ (s_ ≠ gb142) ∧ (Below w.heap.size w w')) ?_ ?_
              rotate_left
              · intro hJ1_4
                refine join_ (σ := Nat) 4 #[true, true, true, false, false, true, false, false] (fun s_ => [(21, .agg #[.int .u64 t145, .int .u32 t146, .int .u64 t147, .int .u16 t148]), (11, .pointer (some ⟨s_, 0, none⟩))]) (fun s_ w' => (w'.cell? ⟨gb141, 0, none⟩ = some (.int .u64 a0_0) ∧ w'.cell? ⟨gb141, 1, none⟩ = some (.int .u32 a0_1) ∧ w'.cell? ⟨gb141, 2, none⟩ = some (.int .u64 a0_2) ∧ w'.cell? ⟨gb141, 3, none⟩ = some (.int .u16 a0_3) ∧ w'.cell? ⟨gb142, 0, none⟩ = some (.int .u64 a1_0) ∧ w'.cell? ⟨gb142, 1, none⟩ = some (.int .u32 a1_1) ∧ w'.cell? ⟨gb142, 2, none⟩ = some (.int .u64 a1_2) ∧ w'.cell? ⟨gb142, 3, none⟩ = some (.int .u16 a1_3)) ∧ (w'.heap[gb141]? = some (.cells #[.int .u64 a0_0, .int .u32 a0_1, .int .u64 a0_2, .int .u16 a0_3] 31 (0, 0))) ∧ (w'.heap[gb142]? = some (.cells #[.int .u64 a1_0, .int .u32 a1_1, .int .u64 a1_2, .int .u16 a1_3] 31 (0, 0))) ∧ (w'.heap[s_]? = some (.cells #[.int .u64 0, .int .u32 0, .int .u64 0, .int .u16 0] 43 (0, 0))) ∧ (w.heap.size ≤ s_) ∧ (w.heap.size ≤ s_) ∧ (gb141 ≠ s_) ∧ (s_ ≠ gb141) ∧ (gb142 ≠ s_) ∧ (s_ ≠ gb142) ∧ (Below w.heap.size w w')) ?_ ?_
                rotate_left
                · intro hJ1_5
                  refine join_ (σ := Nat × Nat) 4 #[true, false, true, false, true, true, false, false] (fun s_ => [(10, .pointer (some ⟨s_.1, 0, none⟩)), (11, .pointer (some ⟨s_.2, 0, none⟩))]) (fun s_ w' => (w'.cell? ⟨gb141, 0, none⟩ = some (.int .u64 a0_0) ∧ w'.cell? ⟨gb141, 1, none⟩ = some (.int .u32 a0_1) ∧ w'.cell? ⟨gb141, 2, none⟩ = some (.int .u64 a0_2) ∧ w'.cell? ⟨gb141, 3, none⟩ = some (.int .u16 a0_3) ∧ w'.cell? ⟨gb142, 0, none⟩ = some (.int .u64 a1_0) ∧ w'.cell? ⟨gb142, 1, none⟩ = some (.int .u32 a1_1) ∧ w'.cell? ⟨gb142, 2, none⟩ = some (.int .u64 a1_2) ∧ w'.cell? ⟨gb142, 3, none⟩ = some (.int .u16 a1_3)) ∧ (w'.heap[gb141]? = some (.cells #[.int .u64 a0_0, .int .u32 a0_1, .int .u64 a0_2, .int .u16 a0_3] 31 (0, 0))) ∧ (w'.heap[gb142]? = some (.cells #[.int .u64 a1_0, .int .u32 a1_1, .int .u64 a1_2, .int .u16 a1_3] 31 (0, 0))) ∧ (w'.heap[s_.1]? = some (.cells #[.int .u64 0, .int .u32 0, .int .u64 0, .int .u16 0] 43 (0, 0))) ∧ (w'.heap[s_.2]? = some (.cells #[.int .u64 0, .int .u32 0, .int .u64 0, .int .u16 0] 43 (0, 0))) ∧ (w.heap.size ≤ s_.1) ∧ (w.heap.size ≤ s_.1) ∧ (gb141 ≠ s_.1) ∧ (s_.1 ≠ gb141) ∧ (gb142 ≠ s_.1) ∧ (s_.1 ≠ gb142) ∧ (s_.2 ≠ s_.1) ∧ (s_.1 ≠ s_.2) ∧ (w.heap.size ≤ s_.2) ∧ (w.heap.size ≤ s_.2) ∧ (gb141 ≠ s_.2) ∧ (s_.2 ≠ gb141) ∧ (gb142 ≠ s_.2) ∧ (s_.2 ≠ gb142) ∧ (Below w.heap.size w w')) ?_ ?_
                  rotate_left
                  · intro hJ4_5
                    refine join_ (σ := Unit) 5 #[true, true, true, false, false, false, false, false] (fun s_ => [(21, .agg #[.int .u64 t145, .int .u32 t146, .int .u64 t147, .int .u16 t148])]) (fun s_ w' => (w'.cell? ⟨gb141, 0, none⟩ = some (.int .u64 a0_0) ∧ w'.cell? ⟨gb141, 1, none⟩ = some (.int .u32 a0_1) ∧ w'.cell? ⟨gb141, 2, none⟩ = some (.int .u64 a0_2) ∧ w'.cell? ⟨gb141, 3, none⟩ = some (.int .u16 a0_3) ∧ w'.cell? ⟨gb142, 0, none⟩ = some (.int .u64 a1_0) ∧ w'.cell? ⟨gb142, 1, none⟩ = some (.int .u32 a1_1) ∧ w'.cell? ⟨gb142, 2, none⟩ = some (.int .u64 a1_2) ∧ w'.cell? ⟨gb142, 3, none⟩ = some (.int .u16 a1_3)) ∧ (w'.heap[gb141]? = some (.cells #[.int .u64 a0_0, .int .u32 a0_1, .int .u64 a0_2, .int .u16 a0_3] 31 (0, 0))) ∧ (w'.heap[gb142]? = some (.cells #[.int .u64 a1_0, .int .u32 a1_1, .int .u64 a1_2, .int .u16 a1_3] 31 (0, 0))) ∧ (Below w.heap.size w w')) ?_ ?_
                    rotate_left
                    · intro hJ1
                      refine join_ (σ := Nat) 5 #[true, false, true, false, true, false, false, false] (fun s_ => [(10, .pointer (some ⟨s_, 0, none⟩))]) (fun s_ w' => (w'.cell? ⟨gb141, 0, none⟩ = some (.int .u64 a0_0) ∧ w'.cell? ⟨gb141, 1, none⟩ = some (.int .u32 a0_1) ∧ w'.cell? ⟨gb141, 2, none⟩ = some (.int .u64 a0_2) ∧ w'.cell? ⟨gb141, 3, none⟩ = some (.int .u16 a0_3) ∧ w'.cell? ⟨gb142, 0, none⟩ = some (.int .u64 a1_0) ∧ w'.cell? ⟨gb142, 1, none⟩ = some (.int .u32 a1_1) ∧ w'.cell? ⟨gb142, 2, none⟩ = some (.int .u64 a1_2) ∧ w'.cell? ⟨gb142, 3, none⟩ = some (.int .u16 a1_3)) ∧ (w'.heap[gb141]? = some (.cells #[.int .u64 a0_0, .int .u32 a0_1, .int .u64 a0_2, .int .u16 a0_3] 31 (0, 0))) ∧ (w'.heap[gb142]? = some (.cells #[.int .u64 a1_0, .int .u32 a1_1, .int .u64 a1_2, .int .u16 a1_3] 31 (0, 0))) ∧ (w'.heap[s_]? = some (.cells #[.int .u64 0, .int .u32 0, .int .u64 0, .int .u16 0] 43 (0, 0))) ∧ (w.heap.size ≤ s_) ∧ (w.heap.size ≤ s_) ∧ (gb141 ≠ s_) ∧ (s_ ≠ gb141) ∧ (gb142 ≠ s_) ∧ (s_ ≠ gb142) ∧ (Below w.heap.size w w')) ?_ ?_
                      rotate_left
                      · intro hJ4
                        refine join_ (σ := Nat) 5 #[true, false, true, false, false, true, false, false] (fun s_ => [(11, .pointer (some ⟨s_, 0, none⟩))]) (fun s_ w' => (w'.cell? ⟨gb141, 0, none⟩ = some (.int .u64 a0_0) ∧ w'.cell? ⟨gb141, 1, none⟩ = some (.int .u32 a0_1) ∧ w'.cell? ⟨gb141, 2, none⟩ = some (.int .u64 a0_2) ∧ w'.cell? ⟨gb141, 3, none⟩ = some (.int .u16 a0_3) ∧ w'.cell? ⟨gb142, 0, none⟩ = some (.int .u64 a1_0) ∧ w'.cell? ⟨gb142, 1, none⟩ = some (.int .u32 a1_1) ∧ w'.cell? ⟨gb142, 2, none⟩ = some (.int .u64 a1_2) ∧ w'.cell? ⟨gb142, 3, none⟩ = some (.int .u16 a1_3)) ∧ (w'.heap[gb141]? = some (.cells #[.int .u64 a0_0, .int .u32 a0_1, .int .u64 a0_2, .int .u16 a0_3] 31 (0, 0))) ∧ (w'.heap[gb142]? = some (.cells #[.int .u64 a1_0, .int .u32 a1_1, .int .u64 a1_2, .int .u16 a1_3] 31 (0, 0))) ∧ (w'.heap[s_]? = some (.cells #[.int .u64 0, .int .u32 0, .int .u64 0, .int .u16 0] 43 (0, 0))) ∧ (w.heap.size ≤ s_) ∧ (w.heap.size ≤ s_) ∧ (gb141 ≠ s_) ∧ (s_ ≠ gb141) ∧ (gb142 ≠ s_) ∧ (s_ ≠ gb142) ∧ (Below w.heap.size w w')) ?_ ?_
                        rotate_left
                        · intro hJ5
                          refine three_ (i := 1) (j := 4) (k := 5) (Ni := some 21) (Nj := some 10) (Nk := some 11) #[true, true, true, false, false, false, false, false] #[true, false, true, false, true, false, false, false] #[true, false, true, false, false, true, false, false] rfl rfl rfl rfl rfl rfl (three_of HT_.out (by kernel_rfl)) (by decide) (by decide) (by decide) (fun K hK => ?_) (fun K hK => ?_) (fun K hK => ?_)
                          · skip
                            refine goes_ Try.func19 (by kernel_rfl) rfl #[.agg #[.int .u64 a0_0, .int .u32 a0_1, .int .u64 a0_2, .int .u16 a0_3]] (by rfl) rfl rfl (by (try simp only [List.map_toArray, List.map_cons, List.map_nil]); first | done | rfl | (simp only [List.length_drop, List.length_take]; rfl)) ?_
                            with_reducible refine (treelinelaw10_Plain.calls a0_0 a0_1 a0_2 a0_3 t145 t146 t147 t148 _ A8.out).mono ?_
                            rintro e w20 ⟨rfl, hb⟩
                            refine ⟨_, rfl, ?_⟩
                            have n0_ := Aside0.mk (blk_below (g := gb141) (o := .cells #[.int .u64 a0_0, .int .u32 a0_1, .int .u64 a0_2, .int .u16 a0_3] 31 (0, 0)) (by (with_reducible repeat (first | refine blk_drewN ?_ _ | refine blk_drew ?_ | refine blk_alloc ?_ _)); exact BK141.out) hb)
                            have n1_ := Aside0.mk (blk_below (g := gb142) (o := .cells #[.int .u64 a1_0, .int .u32 a1_1, .int .u64 a1_2, .int .u16 a1_3] 31 (0, 0)) (by (with_reducible repeat (first | refine blk_drewN ?_ _ | refine blk_drew ?_ | refine blk_alloc ?_ _)); exact BK142.out) hb)
                            have n2_ := Aside0.mk (below_step (by repeat (first | (with_reducible first | exact HB.out | apply below_alloc | apply pw_below_drewN | apply below_drew1 | refine below_set ?_ GE141.out | refine below_set ?_ GE142.out) | exact HB.out)) hb)
                            clear BK141
                            clear BK142
                            clear HB
                            have BK141 := n0_
                            have BK142 := n1_
                            have HB := n2_
                            clear n0_ n1_ n2_
                            (try clear hb)
                            (try clear hb2)
                            (try clear hk)
                            (try clear hi)
                            refine hK.out _ _ ⟨(blk_cell BK141.out 0).trans rfl, (blk_cell BK141.out 1).trans rfl, (blk_cell BK141.out 2).trans rfl, (blk_cell BK141.out 3).trans rfl, (blk_cell BK142.out 0).trans rfl, (blk_cell BK142.out 1).trans rfl, (blk_cell BK142.out 2).trans rfl, (blk_cell BK142.out 3).trans rfl⟩ (fun hHeld => ?_)
                            clear hK K
                            refine norm_ (a' := ?_) ?_ ?_
                            rotate_left
                            · show Act.put _ (some 21) _ = _
                              simp only [Act.put, List.setIfInBounds_toArray, List.set_cons_zero, List.set_cons_succ, i64_w, i32_w]
                              rfl
                            exact norm_ (by first | (simp only [putAll, Act.put, List.setIfInBounds_toArray, List.set_cons_zero, List.set_cons_succ]; done) | (simp only [putAll, Act.put, List.setIfInBounds_toArray, List.set_cons_zero, List.set_cons_succ]; rfl)) (hJ1 () _ ⟨hHeld, (by (with_reducible repeat (first | refine blk_drewN ?_ _ | refine blk_drew ?_ | refine blk_alloc ?_ _)); exact BK141.out), (by (with_reducible repeat (first | refine blk_drewN ?_ _ | refine blk_drew ?_ | refine blk_alloc ?_ _)); exact BK142.out), (by repeat (first | (with_reducible first | exact HB.out | apply below_alloc | apply pw_below_drewN | apply below_drew1 | refine below_set ?_ GE141.out | refine below_set ?_ GE142.out) | exact HB.out))⟩)
                          · skip
                            refine box_step ?hg (N := 10) ?hd (cs := #[.int .u64 0, .int .u32 0, .int .u64 0, .int .u16 0]) (t := 43) ?hr ?_; (case hd => rfl); (case hg => rfl); (case hr => first | (go_simp; done) | (go_simp; rfl))
                            intro gb153 hg w20 hbox hb
                            have n0_ := Aside0.mk (blk_below (g := gb141) (o := .cells #[.int .u64 a0_0, .int .u32 a0_1, .int .u64 a0_2, .int .u16 a0_3] 31 (0, 0)) (by (with_reducible repeat (first | refine blk_drewN ?_ _ | refine blk_drew ?_ | refine blk_alloc ?_ _)); exact BK141.out) hb)
                            have n1_ := Aside0.mk (blk_below (g := gb142) (o := .cells #[.int .u64 a1_0, .int .u32 a1_1, .int .u64 a1_2, .int .u16 a1_3] 31 (0, 0)) (by (with_reducible repeat (first | refine blk_drewN ?_ _ | refine blk_drew ?_ | refine blk_alloc ?_ _)); exact BK142.out) hb)
                            have n2_ := Aside0.mk (below_step (by repeat (first | (with_reducible first | exact HB.out | apply below_alloc | apply pw_below_drewN | apply below_drew1 | refine below_set ?_ GE141.out | refine below_set ?_ GE142.out) | exact HB.out)) hb)
                            have n3_ := Aside0.mk (hbox)
                            have n4_ := Aside0.mk ((by rw [hg]; exact (below_size (by repeat (first | (with_reducible first | exact HB.out | apply below_alloc | apply pw_below_drewN | apply below_drew1 | refine below_set ?_ GE141.out | refine below_set ?_ GE142.out) | exact HB.out))) : w.heap.size ≤ gb153))
                            have n5_ := Aside0.mk ((by rw [hg]; exact (below_size (by repeat (first | (with_reducible first | exact HB.out | apply below_alloc | apply pw_below_drewN | apply below_drew1 | refine below_set ?_ GE141.out | refine below_set ?_ GE142.out) | exact HB.out))) : w.heap.size ≤ gb153))
                            have n6_ := Aside0.mk ((by rw [hg]; exact Nat.ne_of_lt (blk_lt (g := gb141) (o := .cells #[.int .u64 a0_0, .int .u32 a0_1, .int .u64 a0_2, .int .u16 a0_3] 31 (0, 0)) (by (with_reducible repeat (first | refine blk_drewN ?_ _ | refine blk_drew ?_ | refine blk_alloc ?_ _)); exact BK141.out)) : gb141 ≠ gb153))
                            have n7_ := Aside0.mk ((by rw [hg]; exact Nat.ne_of_gt (blk_lt (g := gb141) (o := .cells #[.int .u64 a0_0, .int .u32 a0_1, .int .u64 a0_2, .int .u16 a0_3] 31 (0, 0)) (by (with_reducible repeat (first | refine blk_drewN ?_ _ | refine blk_drew ?_ | refine blk_alloc ?_ _)); exact BK141.out)) : gb153 ≠ gb141))
                            have n8_ := Aside0.mk ((by rw [hg]; exact Nat.ne_of_lt (blk_lt (g := gb142) (o := .cells #[.int .u64 a1_0, .int .u32 a1_1, .int .u64 a1_2, .int .u16 a1_3] 31 (0, 0)) (by (with_reducible repeat (first | refine blk_drewN ?_ _ | refine blk_drew ?_ | refine blk_alloc ?_ _)); exact BK142.out)) : gb142 ≠ gb153))
                            have n9_ := Aside0.mk ((by rw [hg]; exact Nat.ne_of_gt (blk_lt (g := gb142) (o := .cells #[.int .u64 a1_0, .int .u32 a1_1, .int .u64 a1_2, .int .u16 a1_3] 31 (0, 0)) (by (with_reducible repeat (first | refine blk_drewN ?_ _ | refine blk_drew ?_ | refine blk_alloc ?_ _)); exact BK142.out)) : gb153 ≠ gb142))
                            clear BK141
                            clear BK142
                            clear HB
                            have BK141 := n0_
                            have BK142 := n1_
                            have HB := n2_
                            have BK153 := n3_
                            have GW153 := n4_
                            have GE153 := n5_
                            have NB141_153 := n6_
                            have NB153_141 := n7_
                            have NB142_153 := n8_
                            have NB153_142 := n9_
                            clear n0_ n1_ n2_ n3_ n4_ n5_ n6_ n7_ n8_ n9_
                            clear hb hbox hg
                            refine hK.out _ _ ⟨(blk_cell BK141.out 0).trans rfl, (blk_cell BK141.out 1).trans rfl, (blk_cell BK141.out 2).trans rfl, (blk_cell BK141.out 3).trans rfl, (blk_cell BK142.out 0).trans rfl, (blk_cell BK142.out 1).trans rfl, (blk_cell BK142.out 2).trans rfl, (blk_cell BK142.out 3).trans rfl⟩ (fun hHeld => ?_)
                            clear hK K
                            refine norm_ (a' := ?_) ?_ ?_
                            rotate_left
                            · show Act.put _ (some 10) _ = _
                              simp only [Act.put, List.setIfInBounds_toArray, List.set_cons_zero, List.set_cons_succ, i64_w, i32_w]
                              rfl
                            exact norm_ (by first | (simp only [putAll, Act.put, List.setIfInBounds_toArray, List.set_cons_zero, List.set_cons_succ]; done) | (simp only [putAll, Act.put, List.setIfInBounds_toArray, List.set_cons_zero, List.set_cons_succ]; rfl)) (hJ4 (gb153) _ ⟨hHeld, (by (with_reducible repeat (first | refine blk_drewN ?_ _ | refine blk_drew ?_ | refine blk_alloc ?_ _)); exact BK141.out), (by (with_reducible repeat (first | refine blk_drewN ?_ _ | refine blk_drew ?_ | refine blk_alloc ?_ _)); exact BK142.out), (by (with_reducible repeat (first | refine blk_drewN ?_ _ | refine blk_drew ?_ | refine blk_alloc ?_ _)); exact BK153.out), GW153.out, GE153.out, NB141_153.out, NB153_141.out, NB142_153.out, NB153_142.out, (by repeat (first | (with_reducible first | exact HB.out | apply below_alloc | apply pw_below_drewN | apply below_drew1 | refine below_set ?_ GE141.out | refine below_set ?_ GE142.out | refine below_set ?_ GE153.out) | exact HB.out))⟩)
                          · skip
                            refine box_step ?hg (N := 11) ?hd (cs := #[.int .u64 0, .int .u32 0, .int .u64 0, .int .u16 0]) (t := 43) ?hr ?_; (case hd => rfl); (case hg => rfl); (case hr => first | (go_simp; done) | (go_simp; rfl))
                            intro gb154 hg w20 hbox hb
                            have n0_ := Aside0.mk (blk_below (g := gb141) (o := .cells #[.int .u64 a0_0, .int .u32 a0_1, .int .u64 a0_2, .int .u16 a0_3] 31 (0, 0)) (by (with_reducible repeat (first | refine blk_drewN ?_ _ | refine blk_drew ?_ | refine blk_alloc ?_ _)); exact BK141.out) hb)
                            have n1_ := Aside0.mk (blk_below (g := gb142) (o := .cells #[.int .u64 a1_0, .int .u32 a1_1, .int .u64 a1_2, .int .u16 a1_3] 31 (0, 0)) (by (with_reducible repeat (first | refine blk_drewN ?_ _ | refine blk_drew ?_ | refine blk_alloc ?_ _)); exact BK142.out) hb)
                            have n2_ := Aside0.mk (below_step (by repeat (first | (with_reducible first | exact HB.out | apply below_alloc | apply pw_below_drewN | apply below_drew1 | refine below_set ?_ GE141.out | refine below_set ?_ GE142.out) | exact HB.out)) hb)
                            have n3_ := Aside0.mk (hbox)
                            have n4_ := Aside0.mk ((by rw [hg]; exact (below_size (by repeat (first | (with_reducible first | exact HB.out | apply below_alloc | apply pw_below_drewN | apply below_drew1 | refine below_set ?_ GE141.out | refine below_set ?_ GE142.out) | exact HB.out))) : w.heap.size ≤ gb154))
                            have n5_ := Aside0.mk ((by rw [hg]; exact (below_size (by repeat (first | (with_reducible first | exact HB.out | apply below_alloc | apply pw_below_drewN | apply below_drew1 | refine below_set ?_ GE141.out | refine below_set ?_ GE142.out) | exact HB.out))) : w.heap.size ≤ gb154))
                            have n6_ := Aside0.mk ((by rw [hg]; exact Nat.ne_of_lt (blk_lt (g := gb141) (o := .cells #[.int .u64 a0_0, .int .u32 a0_1, .int .u64 a0_2, .int .u16 a0_3] 31 (0, 0)) (by (with_reducible repeat (first | refine blk_drewN ?_ _ | refine blk_drew ?_ | refine blk_alloc ?_ _)); exact BK141.out)) : gb141 ≠ gb154))
                            have n7_ := Aside0.mk ((by rw [hg]; exact Nat.ne_of_gt (blk_lt (g := gb141) (o := .cells #[.int .u64 a0_0, .int .u32 a0_1, .int .u64 a0_2, .int .u16 a0_3] 31 (0, 0)) (by (with_reducible repeat (first | refine blk_drewN ?_ _ | refine blk_drew ?_ | refine blk_alloc ?_ _)); exact BK141.out)) : gb154 ≠ gb141))
                            have n8_ := Aside0.mk ((by rw [hg]; exact Nat.ne_of_lt (blk_lt (g := gb142) (o := .cells #[.int .u64 a1_0, .int .u32 a1_1, .int .u64 a1_2, .int .u16 a1_3] 31 (0, 0)) (by (with_reducible repeat (first | refine blk_drewN ?_ _ | refine blk_drew ?_ | refine blk_alloc ?_ _)); exact BK142.out)) : gb142 ≠ gb154))
                            have n9_ := Aside0.mk ((by rw [hg]; exact Nat.ne_of_gt (blk_lt (g := gb142) (o := .cells #[.int .u64 a1_0, .int .u32 a1_1, .int .u64 a1_2, .int .u16 a1_3] 31 (0, 0)) (by (with_reducible repeat (first | refine blk_drewN ?_ _ | refine blk_drew ?_ | refine blk_alloc ?_ _)); exact BK142.out)) : gb154 ≠ gb142))
                            clear BK141
                            clear BK142
                            clear HB
                            have BK141 := n0_
                            have BK142 := n1_
                            have HB := n2_
                            have BK154 := n3_
                            have GW154 := n4_
                            have GE154 := n5_
                            have NB141_154 := n6_
                            have NB154_141 := n7_
                            have NB142_154 := n8_
                            have NB154_142 := n9_
                            clear n0_ n1_ n2_ n3_ n4_ n5_ n6_ n7_ n8_ n9_
                            clear hb hbox hg
                            refine hK.out _ _ ⟨(blk_cell BK141.out 0).trans rfl, (blk_cell BK141.out 1).trans rfl, (blk_cell BK141.out 2).trans rfl, (blk_cell BK141.out 3).trans rfl, (blk_cell BK142.out 0).trans rfl, (blk_cell BK142.out 1).trans rfl, (blk_cell BK142.out 2).trans rfl, (blk_cell BK142.out 3).trans rfl⟩ (fun hHeld => ?_)
                            clear hK K
                            refine norm_ (a' := ?_) ?_ ?_
                            rotate_left
                            · show Act.put _ (some 11) _ = _
                              simp only [Act.put, List.setIfInBounds_toArray, List.set_cons_zero, List.set_cons_succ, i64_w, i32_w]
                              rfl
                            exact norm_ (by first | (simp only [putAll, Act.put, List.setIfInBounds_toArray, List.set_cons_zero, List.set_cons_succ]; done) | (simp only [putAll, Act.put, List.setIfInBounds_toArray, List.set_cons_zero, List.set_cons_succ]; rfl)) (hJ5 (gb154) _ ⟨hHeld, (by (with_reducible repeat (first | refine blk_drewN ?_ _ | refine blk_drew ?_ | refine blk_alloc ?_ _)); exact BK141.out), (by (with_reducible repeat (first | refine blk_drewN ?_ _ | refine blk_drew ?_ | refine blk_alloc ?_ _)); exact BK142.out), (by (with_reducible repeat (first | refine blk_drewN ?_ _ | refine blk_drew ?_ | refine blk_alloc ?_ _)); exact BK154.out), GW154.out, GE154.out, NB141_154.out, NB154_141.out, NB142_154.out, NB154_142.out, (by repeat (first | (with_reducible first | exact HB.out | apply below_alloc | apply pw_below_drewN | apply below_drew1 | refine below_set ?_ GE141.out | refine below_set ?_ GE142.out | refine below_set ?_ GE154.out) | exact HB.out))⟩)
                        · skip
                          rintro gb154 w21 ⟨hS_, h0_, h1_, h2_, h3_, h4_, h5_, h6_, h7_, h8_, h9_⟩
                          have n0_ : Aside0 (w21.heap[gb141]? = some (.cells #[.int .u64 a0_0, .int .u32 a0_1, .int .u64 a0_2, .int .u16 a0_3] 31 (0, 0))) := ⟨h0_⟩
                          have n1_ : Aside0 (w21.heap[gb142]? = some (.cells #[.int .u64 a1_0, .int .u32 a1_1, .int .u64 a1_2, .int .u16 a1_3] 31 (0, 0))) := ⟨h1_⟩
                          have n2_ : Aside0 (w21.heap[gb154]? = some (.cells #[.int .u64 0, .int .u32 0, .int .u64 0, .int .u16 0] 43 (0, 0))) := ⟨h2_⟩
                          have n3_ : Aside0 (w.heap.size ≤ gb154) := ⟨h3_⟩
                          have n4_ : Aside0 (w.heap.size ≤ gb154) := ⟨h4_⟩
                          have n5_ : Aside0 (gb141 ≠ gb154) := ⟨h5_⟩
                          have n6_ : Aside0 (gb154 ≠ gb141) := ⟨h6_⟩
                          have n7_ : Aside0 (gb142 ≠ gb154) := ⟨h7_⟩
                          have n8_ : Aside0 (gb154 ≠ gb142) := ⟨h8_⟩
                          have n9_ : Aside0 (Below w.heap.size w w21) := ⟨h9_⟩
                          clear BK141
                          clear BK142
                          clear HB
                          clear h0_ h1_ h2_ h3_ h4_ h5_ h6_ h7_ h8_ h9_
                          have BK141 := n0_
                          have BK142 := n1_
                          have BK154 := n2_
                          have GW154 := n3_
                          have GE154 := n4_
                          have NB141_154 := n5_
                          have NB154_141 := n6_
                          have NB142_154 := n7_
                          have NB154_142 := n8_
                          have HB := n9_
                          clear n0_ n1_ n2_ n3_ n4_ n5_ n6_ n7_ n8_ n9_
                          have hHeld : w21.cell? ⟨gb141, 0, none⟩ = some (.int .u64 a0_0) ∧ w21.cell? ⟨gb141, 1, none⟩ = some (.int .u32 a0_1) ∧ w21.cell? ⟨gb141, 2, none⟩ = some (.int .u64 a0_2) ∧ w21.cell? ⟨gb141, 3, none⟩ = some (.int .u16 a0_3) ∧ w21.cell? ⟨gb142, 0, none⟩ = some (.int .u64 a1_0) ∧ w21.cell? ⟨gb142, 1, none⟩ = some (.int .u32 a1_1) ∧ w21.cell? ⟨gb142, 2, none⟩ = some (.int .u64 a1_2) ∧ w21.cell? ⟨gb142, 3, none⟩ = some (.int .u16 a1_3) := hS_
                          refine norm_ (a' := ?_) ?_ ?_
                          rotate_left
                          · simp only [putAll, Act.put, List.setIfInBounds_toArray, List.set_cons_zero, List.set_cons_succ]
                            rfl
                          refine two_ (i := 1) (j := 4) (Ni := some 21) (Nj := some 10) #[true, true, true, false, false, true, false, false] #[true, false, true, false, true, true, false, false] rfl rfl rfl rfl (two_of HT_.out (by kernel_rfl)) (by decide) (by decide) (fun K hK => ?_) (fun K hK => ?_)
                          · skip
                            refine goes_ Try.func19 (by kernel_rfl) rfl #[.agg #[.int .u64 a0_0, .int .u32 a0_1, .int .u64 a0_2, .int .u16 a0_3]] (by rfl) rfl rfl (by (try simp only [List.map_toArray, List.map_cons, List.map_nil]); first | done | rfl | (simp only [List.length_drop, List.length_take]; rfl)) ?_
                            with_reducible refine (treelinelaw10_Plain.calls a0_0 a0_1 a0_2 a0_3 t145 t146 t147 t148 _ A8.out).mono ?_
                            rintro e w22 ⟨rfl, hb⟩
                            refine ⟨_, rfl, ?_⟩
                            have n0_ := Aside0.mk (blk_below (g := gb141) (o := .cells #[.int .u64 a0_0, .int .u32 a0_1, .int .u64 a0_2, .int .u16 a0_3] 31 (0, 0)) (by (with_reducible repeat (first | refine blk_drewN ?_ _ | refine blk_drew ?_ | refine blk_alloc ?_ _)); exact BK141.out) hb)
                            have n1_ := Aside0.mk (blk_below (g := gb142) (o := .cells #[.int .u64 a1_0, .int .u32 a1_1, .int .u64 a1_2, .int .u16 a1_3] 31 (0, 0)) (by (with_reducible repeat (first | refine blk_drewN ?_ _ | refine blk_drew ?_ | refine blk_alloc ?_ _)); exact BK142.out) hb)
                            have n2_ := Aside0.mk (blk_below (g := gb154) (o := .cells #[.int .u64 0, .int .u32 0, .int .u64 0, .int .u16 0] 43 (0, 0)) (by (with_reducible repeat (first | refine blk_drewN ?_ _ | refine blk_drew ?_ | refine blk_alloc ?_ _)); exact BK154.out) hb)
                            have n3_ := Aside0.mk (below_step (by repeat (first | (with_reducible first | exact HB.out | apply below_alloc | apply pw_below_drewN | apply below_drew1 | refine below_set ?_ GE141.out | refine below_set ?_ GE142.out | refine below_set ?_ GE154.out) | exact HB.out)) hb)
                            clear BK141
                            clear BK142
                            clear BK154
                            clear HB
                            have BK141 := n0_
                            have BK142 := n1_
                            have BK154 := n2_
                            have HB := n3_
                            clear n0_ n1_ n2_ n3_
                            (try clear hb)
                            (try clear hb2)
                            (try clear hk)
                            (try clear hi)
                            refine hK.out _ _ ⟨(blk_cell BK141.out 0).trans rfl, (blk_cell BK141.out 1).trans rfl, (blk_cell BK141.out 2).trans rfl, (blk_cell BK141.out 3).trans rfl, (blk_cell BK142.out 0).trans rfl, (blk_cell BK142.out 1).trans rfl, (blk_cell BK142.out 2).trans rfl, (blk_cell BK142.out 3).trans rfl⟩ (fun hHeld => ?_)
                            clear hK K
                            refine norm_ (a' := ?_) ?_ ?_
                            rotate_left
                            · show Act.put _ (some 21) _ = _
                              simp only [Act.put, List.setIfInBounds_toArray, List.set_cons_zero, List.set_cons_succ, i64_w, i32_w]
                              rfl
                            exact norm_ (by first | (simp only [putAll, Act.put, List.setIfInBounds_toArray, List.set_cons_zero, List.set_cons_succ]; done) | (simp only [putAll, Act.put, List.setIfInBounds_toArray, List.set_cons_zero, List.set_cons_succ]; rfl)) (hJ1_5 (gb154) _ ⟨hHeld, (by (with_reducible repeat (first | refine blk_drewN ?_ _ | refine blk_drew ?_ | refine blk_alloc ?_ _)); exact BK141.out), (by (with_reducible repeat (first | refine blk_drewN ?_ _ | refine blk_drew ?_ | refine blk_alloc ?_ _)); exact BK142.out), (by (with_reducible repeat (first | refine blk_drewN ?_ _ | refine blk_drew ?_ | refine blk_alloc ?_ _)); exact BK154.out), GW154.out, GE154.out, NB141_154.out, NB154_141.out, NB142_154.out, NB154_142.out, (by repeat (first | (with_reducible first | exact HB.out | apply below_alloc | apply pw_below_drewN | apply below_drew1 | refine below_set ?_ GE141.out | refine below_set ?_ GE142.out | refine below_set ?_ GE154.out) | exact HB.out))⟩)
                          · skip
                            refine box_step ?hg (N := 10) ?hd (cs := #[.int .u64 0, .int .u32 0, .int .u64 0, .int .u16 0]) (t := 43) ?hr ?_; (case hd => rfl); (case hg => rfl); (case hr => first | (go_simp; done) | (go_simp; rfl))
                            intro gb153 hg w22 hbox hb
                            have n0_ := Aside0.mk (blk_below (g := gb141) (o := .cells #[.int .u64 a0_0, .int .u32 a0_1, .int .u64 a0_2, .int .u16 a0_3] 31 (0, 0)) (by (with_reducible repeat (first | refine blk_drewN ?_ _ | refine blk_drew ?_ | refine blk_alloc ?_ _)); exact BK141.out) hb)
                            have n1_ := Aside0.mk (blk_below (g := gb142) (o := .cells #[.int .u64 a1_0, .int .u32 a1_1, .int .u64 a1_2, .int .u16 a1_3] 31 (0, 0)) (by (with_reducible repeat (first | refine blk_drewN ?_ _ | refine blk_drew ?_ | refine blk_alloc ?_ _)); exact BK142.out) hb)
                            have n2_ := Aside0.mk (blk_below (g := gb154) (o := .cells #[.int .u64 0, .int .u32 0, .int .u64 0, .int .u16 0] 43 (0, 0)) (by (with_reducible repeat (first | refine blk_drewN ?_ _ | refine blk_drew ?_ | refine blk_alloc ?_ _)); exact BK154.out) hb)
                            have n3_ := Aside0.mk (below_step (by repeat (first | (with_reducible first | exact HB.out | apply below_alloc | apply pw_below_drewN | apply below_drew1 | refine below_set ?_ GE141.out | refine below_set ?_ GE142.out | refine below_set ?_ GE154.out) | exact HB.out)) hb)
                            have n4_ := Aside0.mk (hbox)
                            have n5_ := Aside0.mk ((by rw [hg]; exact (below_size (by repeat (first | (with_reducible first | exact HB.out | apply below_alloc | apply pw_below_drewN | apply below_drew1 | refine below_set ?_ GE141.out | refine below_set ?_ GE142.out | refine below_set ?_ GE154.out) | exact HB.out))) : w.heap.size ≤ gb153))
                            have n6_ := Aside0.mk ((by rw [hg]; exact (below_size (by repeat (first | (with_reducible first | exact HB.out | apply below_alloc | apply pw_below_drewN | apply below_drew1 | refine below_set ?_ GE141.out | refine below_set ?_ GE142.out | refine below_set ?_ GE154.out) | exact HB.out))) : w.heap.size ≤ gb153))
                            have n7_ := Aside0.mk ((by rw [hg]; exact Nat.ne_of_lt (blk_lt (g := gb141) (o := .cells #[.int .u64 a0_0, .int .u32 a0_1, .int .u64 a0_2, .int .u16 a0_3] 31 (0, 0)) (by (with_reducible repeat (first | refine blk_drewN ?_ _ | refine blk_drew ?_ | refine blk_alloc ?_ _)); exact BK141.out)) : gb141 ≠ gb153))
                            have n8_ := Aside0.mk ((by rw [hg]; exact Nat.ne_of_gt (blk_lt (g := gb141) (o := .cells #[.int .u64 a0_0, .int .u32 a0_1, .int .u64 a0_2, .int .u16 a0_3] 31 (0, 0)) (by (with_reducible repeat (first | refine blk_drewN ?_ _ | refine blk_drew ?_ | refine blk_alloc ?_ _)); exact BK141.out)) : gb153 ≠ gb141))
                            have n9_ := Aside0.mk ((by rw [hg]; exact Nat.ne_of_lt (blk_lt (g := gb142) (o := .cells #[.int .u64 a1_0, .int .u32 a1_1, .int .u64 a1_2, .int .u16 a1_3] 31 (0, 0)) (by (with_reducible repeat (first | refine blk_drewN ?_ _ | refine blk_drew ?_ | refine blk_alloc ?_ _)); exact BK142.out)) : gb142 ≠ gb153))
                            have n10_ := Aside0.mk ((by rw [hg]; exact Nat.ne_of_gt (blk_lt (g := gb142) (o := .cells #[.int .u64 a1_0, .int .u32 a1_1, .int .u64 a1_2, .int .u16 a1_3] 31 (0, 0)) (by (with_reducible repeat (first | refine blk_drewN ?_ _ | refine blk_drew ?_ | refine blk_alloc ?_ _)); exact BK142.out)) : gb153 ≠ gb142))
                            have n11_ := Aside0.mk ((by rw [hg]; exact Nat.ne_of_lt (blk_lt (g := gb154) (o := .cells #[.int .u64 0, .int .u32 0, .int .u64 0, .int .u16 0] 43 (0, 0)) (by (with_reducible repeat (first | refine blk_drewN ?_ _ | refine blk_drew ?_ | refine blk_alloc ?_ _)); exact BK154.out)) : gb154 ≠ gb153))
                            have n12_ := Aside0.mk ((by rw [hg]; exact Nat.ne_of_gt (blk_lt (g := gb154) (o := .cells #[.int .u64 0, .int .u32 0, .int .u64 0, .int .u16 0] 43 (0, 0)) (by (with_reducible repeat (first | refine blk_drewN ?_ _ | refine blk_drew ?_ | refine blk_alloc ?_ _)); exact BK154.out)) : gb153 ≠ gb154))
                            clear BK141
                            clear BK142
                            clear BK154
                            clear HB
                            have BK141 := n0_
                            have BK142 := n1_
                            have BK154 := n2_
                            have HB := n3_
                            have BK153 := n4_
                            have GW153 := n5_
                            have GE153 := n6_
                            have NB141_153 := n7_
                            have NB153_141 := n8_
                            have NB142_153 := n9_
                            have NB153_142 := n10_
                            have NB154_153 := n11_
                            have NB153_154 := n12_
                            clear n0_ n1_ n2_ n3_ n4_ n5_ n6_ n7_ n8_ n9_ n10_ n11_ n12_
                            clear hb hbox hg
                            refine hK.out _ _ ⟨(blk_cell BK141.out 0).trans rfl, (blk_cell BK141.out 1).trans rfl, (blk_cell BK141.out 2).trans rfl, (blk_cell BK141.out 3).trans rfl, (blk_cell BK142.out 0).trans rfl, (blk_cell BK142.out 1).trans rfl, (blk_cell BK142.out 2).trans rfl, (blk_cell BK142.out 3).trans rfl⟩ (fun hHeld => ?_)
                            clear hK K
                            refine norm_ (a' := ?_) ?_ ?_
                            rotate_left
                            · show Act.put _ (some 10) _ = _
                              simp only [Act.put, List.setIfInBounds_toArray, List.set_cons_zero, List.set_cons_succ, i64_w, i32_w]
                              rfl
                            exact norm_ (by first | (simp only [putAll, Act.put, List.setIfInBounds_toArray, List.set_cons_zero, List.set_cons_succ]; done) | (simp only [putAll, Act.put, List.setIfInBounds_toArray, List.set_cons_zero, List.set_cons_succ]; rfl)) (hJ4_5 (gb153, gb154) _ ⟨hHeld, (by (with_reducible repeat (first | refine blk_drewN ?_ _ | refine blk_drew ?_ | refine blk_alloc ?_ _)); exact BK141.out), (by (with_reducible repeat (first | refine blk_drewN ?_ _ | refine blk_drew ?_ | refine blk_alloc ?_ _)); exact BK142.out), (by (with_reducible repeat (first | refine blk_drewN ?_ _ | refine blk_drew ?_ | refine blk_alloc ?_ _)); exact BK153.out), (by (with_reducible repeat (first | refine blk_drewN ?_ _ | refine blk_drew ?_ | refine blk_alloc ?_ _)); exact BK154.out), GW153.out, GE153.out, NB141_153.out, NB153_141.out, NB142_153.out, NB153_142.out, NB154_153.out, NB153_154.out, GW154.out, GE154.out, NB141_154.out, NB154_141.out, NB142_154.out, NB154_142.out, (by repeat (first | (with_reducible first | exact HB.out | apply below_alloc | apply pw_below_drewN | apply below_drew1 | refine below_set ?_ GE141.out | refine below_set ?_ GE142.out | refine below_set ?_ GE154.out | refine below_set ?_ GE153.out) | exact HB.out))⟩)
                      · skip
                        rintro gb153 w21 ⟨hS_, h0_, h1_, h2_, h3_, h4_, h5_, h6_, h7_, h8_, h9_⟩
                        have n0_ : Aside0 (w21.heap[gb141]? = some (.cells #[.int .u64 a0_0, .int .u32 a0_1, .int .u64 a0_2, .int .u16 a0_3] 31 (0, 0))) := ⟨h0_⟩
                        have n1_ : Aside0 (w21.heap[gb142]? = some (.cells #[.int .u64 a1_0, .int .u32 a1_1, .int .u64 a1_2, .int .u16 a1_3] 31 (0, 0))) := ⟨h1_⟩
                        have n2_ : Aside0 (w21.heap[gb153]? = some (.cells #[.int .u64 0, .int .u32 0, .int .u64 0, .int .u16 0] 43 (0, 0))) := ⟨h2_⟩
                        have n3_ : Aside0 (w.heap.size ≤ gb153) := ⟨h3_⟩
                        have n4_ : Aside0 (w.heap.size ≤ gb153) := ⟨h4_⟩
                        have n5_ : Aside0 (gb141 ≠ gb153) := ⟨h5_⟩
                        have n6_ : Aside0 (gb153 ≠ gb141) := ⟨h6_⟩
                        have n7_ : Aside0 (gb142 ≠ gb153) := ⟨h7_⟩
                        have n8_ : Aside0 (gb153 ≠ gb142) := ⟨h8_⟩
                        have n9_ : Aside0 (Below w.heap.size w w21) := ⟨h9_⟩
                        clear BK141
                        clear BK142
                        clear HB
                        clear h0_ h1_ h2_ h3_ h4_ h5_ h6_ h7_ h8_ h9_
                        have BK141 := n0_
                        have BK142 := n1_
                        have BK153 := n2_
                        have GW153 := n3_
                        have GE153 := n4_
                        have NB141_153 := n5_
                        have NB153_141 := n6_
                        have NB142_153 := n7_
                        have NB153_142 := n8_
                        have HB := n9_
                        clear n0_ n1_ n2_ n3_ n4_ n5_ n6_ n7_ n8_ n9_
                        have hHeld : w21.cell? ⟨gb141, 0, none⟩ = some (.int .u64 a0_0) ∧ w21.cell? ⟨gb141, 1, none⟩ = some (.int .u32 a0_1) ∧ w21.cell? ⟨gb141, 2, none⟩ = some (.int .u64 a0_2) ∧ w21.cell? ⟨gb141, 3, none⟩ = some (.int .u16 a0_3) ∧ w21.cell? ⟨gb142, 0, none⟩ = some (.int .u64 a1_0) ∧ w21.cell? ⟨gb142, 1, none⟩ = some (.int .u32 a1_1) ∧ w21.cell? ⟨gb142, 2, none⟩ = some (.int .u64 a1_2) ∧ w21.cell? ⟨gb142, 3, none⟩ = some (.int .u16 a1_3) := hS_
                        refine norm_ (a' := ?_) ?_ ?_
                        rotate_left
                        · simp only [putAll, Act.put, List.setIfInBounds_toArray, List.set_cons_zero, List.set_cons_succ]
                          rfl
                        refine two_ (i := 1) (j := 5) (Ni := some 21) (Nj := some 11) #[true, true, true, false, true, false, false, false] #[true, false, true, false, true, true, false, false] rfl rfl rfl rfl (two_of HT_.out (by kernel_rfl)) (by decide) (by decide) (fun K hK => ?_) (fun K hK => ?_)
                        · skip
                          refine goes_ Try.func19 (by kernel_rfl) rfl #[.agg #[.int .u64 a0_0, .int .u32 a0_1, .int .u64 a0_2, .int .u16 a0_3]] (by rfl) rfl rfl (by (try simp only [List.map_toArray, List.map_cons, List.map_nil]); first | done | rfl | (simp only [List.length_drop, List.length_take]; rfl)) ?_
                          with_reducible refine (treelinelaw10_Plain.calls a0_0 a0_1 a0_2 a0_3 t145 t146 t147 t148 _ A8.out).mono ?_
                          rintro e w22 ⟨rfl, hb⟩
                          refine ⟨_, rfl, ?_⟩
                          have n0_ := Aside0.mk (blk_below (g := gb141) (o := .cells #[.int .u64 a0_0, .int .u32 a0_1, .int .u64 a0_2, .int .u16 a0_3] 31 (0, 0)) (by (with_reducible repeat (first | refine blk_drewN ?_ _ | refine blk_drew ?_ | refine blk_alloc ?_ _)); exact BK141.out) hb)
                          have n1_ := Aside0.mk (blk_below (g := gb142) (o := .cells #[.int .u64 a1_0, .int .u32 a1_1, .int .u64 a1_2, .int .u16 a1_3] 31 (0, 0)) (by (with_reducible repeat (first | refine blk_drewN ?_ _ | refine blk_drew ?_ | refine blk_alloc ?_ _)); exact BK142.out) hb)
                          have n2_ := Aside0.mk (blk_below (g := gb153) (o := .cells #[.int .u64 0, .int .u32 0, .int .u64 0, .int .u16 0] 43 (0, 0)) (by (with_reducible repeat (first | refine blk_drewN ?_ _ | refine blk_drew ?_ | refine blk_alloc ?_ _)); exact BK153.out) hb)
                          have n3_ := Aside0.mk (below_step (by repeat (first | (with_reducible first | exact HB.out | apply below_alloc | apply pw_below_drewN | apply below_drew1 | refine below_set ?_ GE141.out | refine below_set ?_ GE142.out | refine below_set ?_ GE153.out) | exact HB.out)) hb)
                          clear BK141
                          clear BK142
                          clear BK153
                          clear HB
                          have BK141 := n0_
                          have BK142 := n1_
                          have BK153 := n2_
                          have HB := n3_
                          clear n0_ n1_ n2_ n3_
                          (try clear hb)
                          (try clear hb2)
                          (try clear hk)
                          (try clear hi)
                          refine hK.out _ _ ⟨(blk_cell BK141.out 0).trans rfl, (blk_cell BK141.out 1).trans rfl, (blk_cell BK141.out 2).trans rfl, (blk_cell BK141.out 3).trans rfl, (blk_cell BK142.out 0).trans rfl, (blk_cell BK142.out 1).trans rfl, (blk_cell BK142.out 2).trans rfl, (blk_cell BK142.out 3).trans rfl⟩ (fun hHeld => ?_)
                          clear hK K
                          refine norm_ (a' := ?_) ?_ ?_
                          rotate_left
                          · show Act.put _ (some 21) _ = _
                            simp only [Act.put, List.setIfInBounds_toArray, List.set_cons_zero, List.set_cons_succ, i64_w, i32_w]
                            rfl
                          exact norm_ (by first | (simp only [putAll, Act.put, List.setIfInBounds_toArray, List.set_cons_zero, List.set_cons_succ]; done) | (simp only [putAll, Act.put, List.setIfInBounds_toArray, List.set_cons_zero, List.set_cons_succ]; rfl)) (hJ1_4 (gb153) _ ⟨hHeld, (by (with_reducible repeat (first | refine blk_drewN ?_ _ | refine blk_drew ?_ | refine blk_alloc ?_ _)); exact BK141.out), (by (with_reducible repeat (first | refine blk_drewN ?_ _ | refine blk_drew ?_ | refine blk_alloc ?_ _)); exact BK142.out), (by (with_reducible repeat (first | refine blk_drewN ?_ _ | refine blk_drew ?_ | refine blk_alloc ?_ _)); exact BK153.out), GW153.out, GE153.out, NB141_153.out, NB153_141.out, NB142_153.out, NB153_142.out, (by repeat (first | (with_reducible first | exact HB.out | apply below_alloc | apply pw_below_drewN | apply below_drew1 | refine below_set ?_ GE141.out | refine below_set ?_ GE142.out | refine below_set ?_ GE153.out) | exact HB.out))⟩)
                        · skip
                          refine box_step ?hg (N := 11) ?hd (cs := #[.int .u64 0, .int .u32 0, .int .u64 0, .int .u16 0]) (t := 43) ?hr ?_; (case hd => rfl); (case hg => rfl); (case hr => first | (go_simp; done) | (go_simp; rfl))
                          intro gb154 hg w22 hbox hb
                          have n0_ := Aside0.mk (blk_below (g := gb141) (o := .cells #[.int .u64 a0_0, .int .u32 a0_1, .int .u64 a0_2, .int .u16 a0_3] 31 (0, 0)) (by (with_reducible repeat (first | refine blk_drewN ?_ _ | refine blk_drew ?_ | refine blk_alloc ?_ _)); exact BK141.out) hb)
                          have n1_ := Aside0.mk (blk_below (g := gb142) (o := .cells #[.int .u64 a1_0, .int .u32 a1_1, .int .u64 a1_2, .int .u16 a1_3] 31 (0, 0)) (by (with_reducible repeat (first | refine blk_drewN ?_ _ | refine blk_drew ?_ | refine blk_alloc ?_ _)); exact BK142.out) hb)
                          have n2_ := Aside0.mk (blk_below (g := gb153) (o := .cells #[.int .u64 0, .int .u32 0, .int .u64 0, .int .u16 0] 43 (0, 0)) (by (with_reducible repeat (first | refine blk_drewN ?_ _ | refine blk_drew ?_ | refine blk_alloc ?_ _)); exact BK153.out) hb)
                          have n3_ := Aside0.mk (below_step (by repeat (first | (with_reducible first | exact HB.out | apply below_alloc | apply pw_below_drewN | apply below_drew1 | refine below_set ?_ GE141.out | refine below_set ?_ GE142.out | refine below_set ?_ GE153.out) | exact HB.out)) hb)
                          have n4_ := Aside0.mk (hbox)
                          have n5_ := Aside0.mk ((by rw [hg]; exact (below_size (by repeat (first | (with_reducible first | exact HB.out | apply below_alloc | apply pw_below_drewN | apply below_drew1 | refine below_set ?_ GE141.out | refine below_set ?_ GE142.out | refine below_set ?_ GE153.out) | exact HB.out))) : w.heap.size ≤ gb154))
                          have n6_ := Aside0.mk ((by rw [hg]; exact (below_size (by repeat (first | (with_reducible first | exact HB.out | apply below_alloc | apply pw_below_drewN | apply below_drew1 | refine below_set ?_ GE141.out | refine below_set ?_ GE142.out | refine below_set ?_ GE153.out) | exact HB.out))) : w.heap.size ≤ gb154))
                          have n7_ := Aside0.mk ((by rw [hg]; exact Nat.ne_of_lt (blk_lt (g := gb141) (o := .cells #[.int .u64 a0_0, .int .u32 a0_1, .int .u64 a0_2, .int .u16 a0_3] 31 (0, 0)) (by (with_reducible repeat (first | refine blk_drewN ?_ _ | refine blk_drew ?_ | refine blk_alloc ?_ _)); exact BK141.out)) : gb141 ≠ gb154))
                          have n8_ := Aside0.mk ((by rw [hg]; exact Nat.ne_of_gt (blk_lt (g := gb141) (o := .cells #[.int .u64 a0_0, .int .u32 a0_1, .int .u64 a0_2, .int .u16 a0_3] 31 (0, 0)) (by (with_reducible repeat (first | refine blk_drewN ?_ _ | refine blk_drew ?_ | refine blk_alloc ?_ _)); exact BK141.out)) : gb154 ≠ gb141))
                          have n9_ := Aside0.mk ((by rw [hg]; exact Nat.ne_of_lt (blk_lt (g := gb142) (o := .cells #[.int .u64 a1_0, .int .u32 a1_1, .int .u64 a1_2, .int .u16 a1_3] 31 (0, 0)) (by (with_reducible repeat (first | refine blk_drewN ?_ _ | refine blk_drew ?_ | refine blk_alloc ?_ _)); exact BK142.out)) : gb142 ≠ gb154))
                          have n10_ := Aside0.mk ((by rw [hg]; exact Nat.ne_of_gt (blk_lt (g := gb142) (o := .cells #[.int .u64 a1_0, .int .u32 a1_1, .int .u64 a1_2, .int .u16 a1_3] 31 (0, 0)) (by (with_reducible repeat (first | refine blk_drewN ?_ _ | refine blk_drew ?_ | refine blk_alloc ?_ _)); exact BK142.out)) : gb154 ≠ gb142))
                          have n11_ := Aside0.mk ((by rw [hg]; exact Nat.ne_of_lt (blk_lt (g := gb153) (o := .cells #[.int .u64 0, .int .u32 0, .int .u64 0, .int .u16 0] 43 (0, 0)) (by (with_reducible repeat (first | refine blk_drewN ?_ _ | refine blk_drew ?_ | refine blk_alloc ?_ _)); exact BK153.out)) : gb153 ≠ gb154))
                          have n12_ := Aside0.mk ((by rw [hg]; exact Nat.ne_of_gt (blk_lt (g := gb153) (o := .cells #[.int .u64 0, .int .u32 0, .int .u64 0, .int .u16 0] 43 (0, 0)) (by (with_reducible repeat (first | refine blk_drewN ?_ _ | refine blk_drew ?_ | refine blk_alloc ?_ _)); exact BK153.out)) : gb154 ≠ gb153))
                          clear BK141
                          clear BK142
                          clear BK153
                          clear HB
                          have BK141 := n0_
                          have BK142 := n1_
                          have BK153 := n2_
                          have HB := n3_
                          have BK154 := n4_
                          have GW154 := n5_
                          have GE154 := n6_
                          have NB141_154 := n7_
                          have NB154_141 := n8_
                          have NB142_154 := n9_
                          have NB154_142 := n10_
                          have NB153_154 := n11_
                          have NB154_153 := n12_
                          clear n0_ n1_ n2_ n3_ n4_ n5_ n6_ n7_ n8_ n9_ n10_ n11_ n12_
                          clear hb hbox hg
                          refine hK.out _ _ ⟨(blk_cell BK141.out 0).trans rfl, (blk_cell BK141.out 1).trans rfl, (blk_cell BK141.out 2).trans rfl, (blk_cell BK141.out 3).trans rfl, (blk_cell BK142.out 0).trans rfl, (blk_cell BK142.out 1).trans rfl, (blk_cell BK142.out 2).trans rfl, (blk_cell BK142.out 3).trans rfl⟩ (fun hHeld => ?_)
                          clear hK K
                          refine norm_ (a' := ?_) ?_ ?_
                          rotate_left
                          · show Act.put _ (some 11) _ = _
                            simp only [Act.put, List.setIfInBounds_toArray, List.set_cons_zero, List.set_cons_succ, i64_w, i32_w]
                            rfl
                          exact norm_ (by first | (simp only [putAll, Act.put, List.setIfInBounds_toArray, List.set_cons_zero, List.set_cons_succ]; done) | (simp only [putAll, Act.put, List.setIfInBounds_toArray, List.set_cons_zero, List.set_cons_succ]; rfl)) (hJ4_5 (gb153, gb154) _ ⟨hHeld, (by (with_reducible repeat (first | refine blk_drewN ?_ _ | refine blk_drew ?_ | refine blk_alloc ?_ _)); exact BK141.out), (by (with_reducible repeat (first | refine blk_drewN ?_ _ | refine blk_drew ?_ | refine blk_alloc ?_ _)); exact BK142.out), (by (with_reducible repeat (first | refine blk_drewN ?_ _ | refine blk_drew ?_ | refine blk_alloc ?_ _)); exact BK153.out), (by (with_reducible repeat (first | refine blk_drewN ?_ _ | refine blk_drew ?_ | refine blk_alloc ?_ _)); exact BK154.out), GW153.out, GE153.out, NB141_153.out, NB153_141.out, NB142_153.out, NB153_142.out, NB154_153.out, NB153_154.out, GW154.out, GE154.out, NB141_154.out, NB154_141.out, NB142_154.out, NB154_142.out, (by repeat (first | (with_reducible first | exact HB.out | apply below_alloc | apply pw_below_drewN | apply below_drew1 | refine below_set ?_ GE141.out | refine below_set ?_ GE142.out | refine below_set ?_ GE153.out | refine below_set ?_ GE154.out) | exact HB.out))⟩)
                    · skip
                      rintro _ w21 ⟨hS_, h0_, h1_, h2_⟩
                      have n0_ : Aside0 (w21.heap[gb141]? = some (.cells #[.int .u64 a0_0, .int .u32 a0_1, .int .u64 a0_2, .int .u16 a0_3] 31 (0, 0))) := ⟨h0_⟩
                      have n1_ : Aside0 (w21.heap[gb142]? = some (.cells #[.int .u64 a1_0, .int .u32 a1_1, .int .u64 a1_2, .int .u16 a1_3] 31 (0, 0))) := ⟨h1_⟩
                      have n2_ : Aside0 (Below w.heap.size w w21) := ⟨h2_⟩
                      clear BK141
                      clear BK142
                      clear HB
                      clear h0_ h1_ h2_
                      have BK141 := n0_
                      have BK142 := n1_
                      have HB := n2_
                      clear n0_ n1_ n2_
                      have hHeld : w21.cell? ⟨gb141, 0, none⟩ = some (.int .u64 a0_0) ∧ w21.cell? ⟨gb141, 1, none⟩ = some (.int .u32 a0_1) ∧ w21.cell? ⟨gb141, 2, none⟩ = some (.int .u64 a0_2) ∧ w21.cell? ⟨gb141, 3, none⟩ = some (.int .u16 a0_3) ∧ w21.cell? ⟨gb142, 0, none⟩ = some (.int .u64 a1_0) ∧ w21.cell? ⟨gb142, 1, none⟩ = some (.int .u32 a1_1) ∧ w21.cell? ⟨gb142, 2, none⟩ = some (.int .u64 a1_2) ∧ w21.cell? ⟨gb142, 3, none⟩ = some (.int .u16 a1_3) := hS_
                      refine norm_ (a' := ?_) ?_ ?_
                      rotate_left
                      · simp only [putAll, Act.put, List.setIfInBounds_toArray, List.set_cons_zero, List.set_cons_succ]
                        rfl
                      refine three_ (i := 3) (j := 4) (k := 5) (Ni := some 23) (Nj := some 10) (Nk := some 11) #[true, true, true, true, false, false, false, false] #[true, true, true, false, true, false, false, false] #[true, true, true, false, false, true, false, false] rfl rfl rfl rfl rfl rfl (three_of HT_.out (by kernel_rfl)) (by decide) (by decide) (by decide) (fun K hK => ?_) (fun K hK => ?_) (fun K hK => ?_)
                      · skip
                        refine goes_ Try.func19 (by kernel_rfl) rfl #[.agg #[.int .u64 a1_0, .int .u32 a1_1, .int .u64 a1_2, .int .u16 a1_3]] (by rfl) rfl rfl (by (try simp only [List.map_toArray, List.map_cons, List.map_nil]); first | done | rfl | (simp only [List.length_drop, List.length_take]; rfl)) ?_
                        with_reducible refine (treelinelaw10_Plain.calls a1_0 a1_1 a1_2 a1_3 t149 t150 t151 t152 _ A9.out).mono ?_
                        rintro e w22 ⟨rfl, hb⟩
                        refine ⟨_, rfl, ?_⟩
                        have n0_ := Aside0.mk (blk_below (g := gb141) (o := .cells #[.int .u64 a0_0, .int .u32 a0_1, .int .u64 a0_2, .int .u16 a0_3] 31 (0, 0)) (by (with_reducible repeat (first | refine blk_drewN ?_ _ | refine blk_drew ?_ | refine blk_alloc ?_ _)); exact BK141.out) hb)
                        have n1_ := Aside0.mk (blk_below (g := gb142) (o := .cells #[.int .u64 a1_0, .int .u32 a1_1, .int .u64 a1_2, .int .u16 a1_3] 31 (0, 0)) (by (with_reducible repeat (first | refine blk_drewN ?_ _ | refine blk_drew ?_ | refine blk_alloc ?_ _)); exact BK142.out) hb)
                        have n2_ := Aside0.mk (below_step (by repeat (first | (with_reducible first | exact HB.out | apply below_alloc | apply pw_below_drewN | apply below_drew1 | refine below_set ?_ GE141.out | refine below_set ?_ GE142.out) | exact HB.out)) hb)
                        clear BK141
                        clear BK142
                        clear HB
                        have BK141 := n0_
                        have BK142 := n1_
                        have HB := n2_
                        clear n0_ n1_ n2_
                        (try clear hb)
                        (try clear hb2)
                        (try clear hk)
                        (try clear hi)
                        refine hK.out _ _ ⟨(blk_cell BK141.out 0).trans rfl, (blk_cell BK141.out 1).trans rfl, (blk_cell BK141.out 2).trans rfl, (blk_cell BK141.out 3).trans rfl, (blk_cell BK142.out 0).trans rfl, (blk_cell BK142.out 1).trans rfl, (blk_cell BK142.out 2).trans rfl, (blk_cell BK142.out 3).trans rfl⟩ (fun hHeld => ?_)
                        clear hK K
                        refine norm_ (a' := ?_) ?_ ?_
                        rotate_left
                        · show Act.put _ (some 23) _ = _
                          simp only [Act.put, List.setIfInBounds_toArray, List.set_cons_zero, List.set_cons_succ, i64_w, i32_w]
                          rfl
                        exact norm_ (by first | (simp only [putAll, Act.put, List.setIfInBounds_toArray, List.set_cons_zero, List.set_cons_succ]; done) | (simp only [putAll, Act.put, List.setIfInBounds_toArray, List.set_cons_zero, List.set_cons_succ]; rfl)) (hJ1_3 () _ ⟨hHeld, (by (with_reducible repeat (first | refine blk_drewN ?_ _ | refine blk_drew ?_ | refine blk_alloc ?_ _)); exact BK141.out), (by (with_reducible repeat (first | refine blk_drewN ?_ _ | refine blk_drew ?_ | refine blk_alloc ?_ _)); exact BK142.out), (by repeat (first | (with_reducible first | exact HB.out | apply below_alloc | apply pw_below_drewN | apply below_drew1 | refine below_set ?_ GE141.out | refine below_set ?_ GE142.out) | exact HB.out))⟩)
                      · skip
                        refine box_step ?hg (N := 10) ?hd (cs := #[.int .u64 0, .int .u32 0, .int .u64 0, .int .u16 0]) (t := 43) ?hr ?_; (case hd => rfl); (case hg => rfl); (case hr => first | (go_simp; done) | (go_simp; rfl))
                        intro gb153 hg w22 hbox hb
                        have n0_ := Aside0.mk (blk_below (g := gb141) (o := .cells #[.int .u64 a0_0, .int .u32 a0_1, .int .u64 a0_2, .int .u16 a0_3] 31 (0, 0)) (by (with_reducible repeat (first | refine blk_drewN ?_ _ | refine blk_drew ?_ | refine blk_alloc ?_ _)); exact BK141.out) hb)
                        have n1_ := Aside0.mk (blk_below (g := gb142) (o := .cells #[.int .u64 a1_0, .int .u32 a1_1, .int .u64 a1_2, .int .u16 a1_3] 31 (0, 0)) (by (with_reducible repeat (first | refine blk_drewN ?_ _ | refine blk_drew ?_ | refine blk_alloc ?_ _)); exact BK142.out) hb)
                        have n2_ := Aside0.mk (below_step (by repeat (first | (with_reducible first | exact HB.out | apply below_alloc | apply pw_below_drewN | apply below_drew1 | refine below_set ?_ GE141.out | refine below_set ?_ GE142.out) | exact HB.out)) hb)
                        have n3_ := Aside0.mk (hbox)
                        have n4_ := Aside0.mk ((by rw [hg]; exact (below_size (by repeat (first | (with_reducible first | exact HB.out | apply below_alloc | apply pw_below_drewN | apply below_drew1 | refine below_set ?_ GE141.out | refine below_set ?_ GE142.out) | exact HB.out))) : w.heap.size ≤ gb153))
                        have n5_ := Aside0.mk ((by rw [hg]; exact (below_size (by repeat (first | (with_reducible first | exact HB.out | apply below_alloc | apply pw_below_drewN | apply below_drew1 | refine below_set ?_ GE141.out | refine below_set ?_ GE142.out) | exact HB.out))) : w.heap.size ≤ gb153))
                        have n6_ := Aside0.mk ((by rw [hg]; exact Nat.ne_of_lt (blk_lt (g := gb141) (o := .cells #[.int .u64 a0_0, .int .u32 a0_1, .int .u64 a0_2, .int .u16 a0_3] 31 (0, 0)) (by (with_reducible repeat (first | refine blk_drewN ?_ _ | refine blk_drew ?_ | refine blk_alloc ?_ _)); exact BK141.out)) : gb141 ≠ gb153))
                        have n7_ := Aside0.mk ((by rw [hg]; exact Nat.ne_of_gt (blk_lt (g := gb141) (o := .cells #[.int .u64 a0_0, .int .u32 a0_1, .int .u64 a0_2, .int .u16 a0_3] 31 (0, 0)) (by (with_reducible repeat (first | refine blk_drewN ?_ _ | refine blk_drew ?_ | refine blk_alloc ?_ _)); exact BK141.out)) : gb153 ≠ gb141))
                        have n8_ := Aside0.mk ((by rw [hg]; exact Nat.ne_of_lt (blk_lt (g := gb142) (o := .cells #[.int .u64 a1_0, .int .u32 a1_1, .int .u64 a1_2, .int .u16 a1_3] 31 (0, 0)) (by (with_reducible repeat (first | refine blk_drewN ?_ _ | refine blk_drew ?_ | refine blk_alloc ?_ _)); exact BK142.out)) : gb142 ≠ gb153))
                        have n9_ := Aside0.mk ((by rw [hg]; exact Nat.ne_of_gt (blk_lt (g := gb142) (o := .cells #[.int .u64 a1_0, .int .u32 a1_1, .int .u64 a1_2, .int .u16 a1_3] 31 (0, 0)) (by (with_reducible repeat (first | refine blk_drewN ?_ _ | refine blk_drew ?_ | refine blk_alloc ?_ _)); exact BK142.out)) : gb153 ≠ gb142))
                        clear BK141
                        clear BK142
                        clear HB
                        have BK141 := n0_
                        have BK142 := n1_
                        have HB := n2_
                        have BK153 := n3_
                        have GW153 := n4_
                        have GE153 := n5_
                        have NB141_153 := n6_
                        have NB153_141 := n7_
                        have NB142_153 := n8_
                        have NB153_142 := n9_
                        clear n0_ n1_ n2_ n3_ n4_ n5_ n6_ n7_ n8_ n9_
                        clear hb hbox hg
                        refine hK.out _ _ ⟨(blk_cell BK141.out 0).trans rfl, (blk_cell BK141.out 1).trans rfl, (blk_cell BK141.out 2).trans rfl, (blk_cell BK141.out 3).trans rfl, (blk_cell BK142.out 0).trans rfl, (blk_cell BK142.out 1).trans rfl, (blk_cell BK142.out 2).trans rfl, (blk_cell BK142.out 3).trans rfl⟩ (fun hHeld => ?_)
                        clear hK K
                        refine norm_ (a' := ?_) ?_ ?_
                        rotate_left
                        · show Act.put _ (some 10) _ = _
                          simp only [Act.put, List.setIfInBounds_toArray, List.set_cons_zero, List.set_cons_succ, i64_w, i32_w]
                          rfl
                        exact norm_ (by first | (simp only [putAll, Act.put, List.setIfInBounds_toArray, List.set_cons_zero, List.set_cons_succ]; done) | (simp only [putAll, Act.put, List.setIfInBounds_toArray, List.set_cons_zero, List.set_cons_succ]; rfl)) (hJ1_4 (gb153) _ ⟨hHeld, (by (with_reducible repeat (first | refine blk_drewN ?_ _ | refine blk_drew ?_ | refine blk_alloc ?_ _)); exact BK141.out), (by (with_reducible repeat (first | refine blk_drewN ?_ _ | refine blk_drew ?_ | refine blk_alloc ?_ _)); exact BK142.out), (by (with_reducible repeat (first | refine blk_drewN ?_ _ | refine blk_drew ?_ | refine blk_alloc ?_ _)); exact BK153.out), GW153.out, GE153.out, NB141_153.out, NB153_141.out, NB142_153.out, NB153_142.out, (by repeat (first | (with_reducible first | exact HB.out | apply below_alloc | apply pw_below_drewN | apply below_drew1 | refine below_set ?_ GE141.out | refine below_set ?_ GE142.out | refine below_set ?_ GE153.out) | exact HB.out))⟩)
                      · skip
                        refine box_step ?hg (N := 11) ?hd (cs := #[.int .u64 0, .int .u32 0, .int .u64 0, .int .u16 0]) (t := 43) ?hr ?_; (case hd => rfl); (case hg => rfl); (case hr => first | (go_simp; done) | (go_simp; rfl))
                        intro gb154 hg w22 hbox hb
                        have n0_ := Aside0.mk (blk_below (g := gb141) (o := .cells #[.int .u64 a0_0, .int .u32 a0_1, .int .u64 a0_2, .int .u16 a0_3] 31 (0, 0)) (by (with_reducible repeat (first | refine blk_drewN ?_ _ | refine blk_drew ?_ | refine blk_alloc ?_ _)); exact BK141.out) hb)
                        have n1_ := Aside0.mk (blk_below (g := gb142) (o := .cells #[.int .u64 a1_0, .int .u32 a1_1, .int .u64 a1_2, .int .u16 a1_3] 31 (0, 0)) (by (with_reducible repeat (first | refine blk_drewN ?_ _ | refine blk_drew ?_ | refine blk_alloc ?_ _)); exact BK142.out) hb)
                        have n2_ := Aside0.mk (below_step (by repeat (first | (with_reducible first | exact HB.out | apply below_alloc | apply pw_below_drewN | apply below_drew1 | refine below_set ?_ GE141.out | refine below_set ?_ GE142.out) | exact HB.out)) hb)
                        have n3_ := Aside0.mk (hbox)
                        have n4_ := Aside0.mk ((by rw [hg]; exact (below_size (by repeat (first | (with_reducible first | exact HB.out | apply below_alloc | apply pw_below_drewN | apply below_drew1 | refine below_set ?_ GE141.out | refine below_set ?_ GE142.out) | exact HB.out))) : w.heap.size ≤ gb154))
                        have n5_ := Aside0.mk ((by rw [hg]; exact (below_size (by repeat (first | (with_reducible first | exact HB.out | apply below_alloc | apply pw_below_drewN | apply below_drew1 | refine below_set ?_ GE141.out | refine below_set ?_ GE142.out) | exact HB.out))) : w.heap.size ≤ gb154))
                        have n6_ := Aside0.mk ((by rw [hg]; exact Nat.ne_of_lt (blk_lt (g := gb141) (o := .cells #[.int .u64 a0_0, .int .u32 a0_1, .int .u64 a0_2, .int .u16 a0_3] 31 (0, 0)) (by (with_reducible repeat (first | refine blk_drewN ?_ _ | refine blk_drew ?_ | refine blk_alloc ?_ _)); exact BK141.out)) : gb141 ≠ gb154))
                        have n7_ := Aside0.mk ((by rw [hg]; exact Nat.ne_of_gt (blk_lt (g := gb141) (o := .cells #[.int .u64 a0_0, .int .u32 a0_1, .int .u64 a0_2, .int .u16 a0_3] 31 (0, 0)) (by (with_reducible repeat (first | refine blk_drewN ?_ _ | refine blk_drew ?_ | refine blk_alloc ?_ _)); exact BK141.out)) : gb154 ≠ gb141))
                        have n8_ := Aside0.mk ((by rw [hg]; exact Nat.ne_of_lt (blk_lt (g := gb142) (o := .cells #[.int .u64 a1_0, .int .u32 a1_1, .int .u64 a1_2, .int .u16 a1_3] 31 (0, 0)) (by (with_reducible repeat (first | refine blk_drewN ?_ _ | refine blk_drew ?_ | refine blk_alloc ?_ _)); exact BK142.out)) : gb142 ≠ gb154))
                        have n9_ := Aside0.mk ((by rw [hg]; exact Nat.ne_of_gt (blk_lt (g := gb142) (o := .cells #[.int .u64 a1_0, .int .u32 a1_1, .int .u64 a1_2, .int .u16 a1_3] 31 (0, 0)) (by (with_reducible repeat (first | refine blk_drewN ?_ _ | refine blk_drew ?_ | refine blk_alloc ?_ _)); exact BK142.out)) : gb154 ≠ gb142))
                        clear BK141
                        clear BK142
                        clear HB
                        have BK141 := n0_
                        have BK142 := n1_
                        have HB := n2_
                        have BK154 := n3_
                        have GW154 := n4_
                        have GE154 := n5_
                        have NB141_154 := n6_
                        have NB154_141 := n7_
                        have NB142_154 := n8_
                        have NB154_142 := n9_
                        clear n0_ n1_ n2_ n3_ n4_ n5_ n6_ n7_ n8_ n9_
                        clear hb hbox hg
                        refine hK.out _ _ ⟨(blk_cell BK141.out 0).trans rfl, (blk_cell BK141.out 1).trans rfl, (blk_cell BK141.out 2).trans rfl, (blk_cell BK141.out 3).trans rfl, (blk_cell BK142.out 0).trans rfl, (blk_cell BK142.out 1).trans rfl, (blk_cell BK142.out 2).trans rfl, (blk_cell BK142.out 3).trans rfl⟩ (fun hHeld => ?_)
                        clear hK K
                        refine norm_ (a' := ?_) ?_ ?_
                        rotate_left
                        · show Act.put _ (some 11) _ = _
                          simp only [Act.put, List.setIfInBounds_toArray, List.set_cons_zero, List.set_cons_succ, i64_w, i32_w]
                          rfl
                        exact norm_ (by first | (simp only [putAll, Act.put, List.setIfInBounds_toArray, List.set_cons_zero, List.set_cons_succ]; done) | (simp only [putAll, Act.put, List.setIfInBounds_toArray, List.set_cons_zero, List.set_cons_succ]; rfl)) (hJ1_5 (gb154) _ ⟨hHeld, (by (with_reducible repeat (first | refine blk_drewN ?_ _ | refine blk_drew ?_ | refine blk_alloc ?_ _)); exact BK141.out), (by (with_reducible repeat (first | refine blk_drewN ?_ _ | refine blk_drew ?_ | refine blk_alloc ?_ _)); exact BK142.out), (by (with_reducible repeat (first | refine blk_drewN ?_ _ | refine blk_drew ?_ | refine blk_alloc ?_ _)); exact BK154.out), GW154.out, GE154.out, NB141_154.out, NB154_141.out, NB142_154.out, NB154_142.out, (by repeat (first | (with_reducible first | exact HB.out | apply below_alloc | apply pw_below_drewN | apply below_drew1 | refine below_set ?_ GE141.out | refine below_set ?_ GE142.out | refine below_set ?_ GE154.out) | exact HB.out))⟩)
                  · skip
                    rintro ⟨gb153, gb154⟩ w22 ⟨hS_, h0_, h1_, h2_, h3_, h4_, h5_, h6_, h7_, h8_, h9_, h10_, h11_, h12_, h13_, h14_, h15_, h16_, h17_, h18_⟩
                    have n0_ : Aside0 (w22.heap[gb141]? = some (.cells #[.int .u64 a0_0, .int .u32 a0_1, .int .u64 a0_2, .int .u16 a0_3] 31 (0, 0))) := ⟨h0_⟩
                    have n1_ : Aside0 (w22.heap[gb142]? = some (.cells #[.int .u64 a1_0, .int .u32 a1_1, .int .u64 a1_2, .int .u16 a1_3] 31 (0, 0))) := ⟨h1_⟩
                    have n2_ : Aside0 (w22.heap[gb153]? = some (.cells #[.int .u64 0, .int .u32 0, .int .u64 0, .int .u16 0] 43 (0, 0))) := ⟨h2_⟩
                    have n3_ : Aside0 (w22.heap[gb154]? = some (.cells #[.int .u64 0, .int .u32 0, .int .u64 0, .int .u16 0] 43 (0, 0))) := ⟨h3_⟩
                    have n4_ : Aside0 (w.heap.size ≤ gb153) := ⟨h4_⟩
                    have n5_ : Aside0 (w.heap.size ≤ gb153) := ⟨h5_⟩
                    have n6_ : Aside0 (gb141 ≠ gb153) := ⟨h6_⟩
                    have n7_ : Aside0 (gb153 ≠ gb141) := ⟨h7_⟩
                    have n8_ : Aside0 (gb142 ≠ gb153) := ⟨h8_⟩
                    have n9_ : Aside0 (gb153 ≠ gb142) := ⟨h9_⟩
                    have n10_ : Aside0 (gb154 ≠ gb153) := ⟨h10_⟩
                    have n11_ : Aside0 (gb153 ≠ gb154) := ⟨h11_⟩
                    have n12_ : Aside0 (w.heap.size ≤ gb154) := ⟨h12_⟩
                    have n13_ : Aside0 (w.heap.size ≤ gb154) := ⟨h13_⟩
                    have n14_ : Aside0 (gb141 ≠ gb154) := ⟨h14_⟩
                    have n15_ : Aside0 (gb154 ≠ gb141) := ⟨h15_⟩
                    have n16_ : Aside0 (gb142 ≠ gb154) := ⟨h16_⟩
                    have n17_ : Aside0 (gb154 ≠ gb142) := ⟨h17_⟩
                    have n18_ : Aside0 (Below w.heap.size w w22) := ⟨h18_⟩
                    clear BK141
                    clear BK142
                    clear HB
                    clear h0_ h1_ h2_ h3_ h4_ h5_ h6_ h7_ h8_ h9_ h10_ h11_ h12_ h13_ h14_ h15_ h16_ h17_ h18_
                    have BK141 := n0_
                    have BK142 := n1_
                    have BK153 := n2_
                    have BK154 := n3_
                    have GW153 := n4_
                    have GE153 := n5_
                    have NB141_153 := n6_
                    have NB153_141 := n7_
                    have NB142_153 := n8_
                    have NB153_142 := n9_
                    have NB154_153 := n10_
                    have NB153_154 := n11_
                    have GW154 := n12_
                    have GE154 := n13_
                    have NB141_154 := n14_
                    have NB154_141 := n15_
                    have NB142_154 := n16_
                    have NB154_142 := n17_
                    have HB := n18_
                    clear n0_ n1_ n2_ n3_ n4_ n5_ n6_ n7_ n8_ n9_ n10_ n11_ n12_ n13_ n14_ n15_ n16_ n17_ n18_
                    have hHeld : w22.cell? ⟨gb141, 0, none⟩ = some (.int .u64 a0_0) ∧ w22.cell? ⟨gb141, 1, none⟩ = some (.int .u32 a0_1) ∧ w22.cell? ⟨gb141, 2, none⟩ = some (.int .u64 a0_2) ∧ w22.cell? ⟨gb141, 3, none⟩ = some (.int .u16 a0_3) ∧ w22.cell? ⟨gb142, 0, none⟩ = some (.int .u64 a1_0) ∧ w22.cell? ⟨gb142, 1, none⟩ = some (.int .u32 a1_1) ∧ w22.cell? ⟨gb142, 2, none⟩ = some (.int .u64 a1_2) ∧ w22.cell? ⟨gb142, 3, none⟩ = some (.int .u16 a1_3) := hS_
                    refine norm_ (a' := ?_) ?_ ?_
                    rotate_left
                    · simp only [putAll, Act.put, List.setIfInBounds_toArray, List.set_cons_zero, List.set_cons_succ]
                      rfl
                    refine one_ (i := 1) (N := some 21) #[true, true, true, false, true, true, false, false] rfl rfl (one_of HT_.out (by kernel_rfl)) (by decide) (fun K hK => ?_)
                    refine goes_ Try.func19 (by kernel_rfl) rfl #[.agg #[.int .u64 a0_0, .int .u32 a0_1, .int .u64 a0_2, .int .u16 a0_3]] (by rfl) rfl rfl (by (try simp only [List.map_toArray, List.map_cons, List.map_nil]); first | done | rfl | (simp only [List.length_drop, List.length_take]; rfl)) ?_
                    with_reducible refine (treelinelaw10_Plain.calls a0_0 a0_1 a0_2 a0_3 t145 t146 t147 t148 _ A8.out).mono ?_
                    rintro e w23 ⟨rfl, hb⟩
                    refine ⟨_, rfl, ?_⟩
                    have n0_ := Aside0.mk (blk_below (g := gb141) (o := .cells #[.int .u64 a0_0, .int .u32 a0_1, .int .u64 a0_2, .int .u16 a0_3] 31 (0, 0)) (by (with_reducible repeat (first | refine blk_drewN ?_ _ | refine blk_drew ?_ | refine blk_alloc ?_ _)); exact BK141.out) hb)
                    have n1_ := Aside0.mk (blk_below (g := gb142) (o := .cells #[.int .u64 a1_0, .int .u32 a1_1, .int .u64 a1_2, .int .u16 a1_3] 31 (0, 0)) (by (with_reducible repeat (first | refine blk_drewN ?_ _ | refine blk_drew ?_ | refine blk_alloc ?_ _)); exact BK142.out) hb)
                    have n2_ := Aside0.mk (blk_below (g := gb153) (o := .cells #[.int .u64 0, .int .u32 0, .int .u64 0, .int .u16 0] 43 (0, 0)) (by (with_reducible repeat (first | refine blk_drewN ?_ _ | refine blk_drew ?_ | refine blk_alloc ?_ _)); exact BK153.out) hb)
                    have n3_ := Aside0.mk (blk_below (g := gb154) (o := .cells #[.int .u64 0, .int .u32 0, .int .u64 0, .int .u16 0] 43 (0, 0)) (by (with_reducible repeat (first | refine blk_drewN ?_ _ | refine blk_drew ?_ | refine blk_alloc ?_ _)); exact BK154.out) hb)
                    have n4_ := Aside0.mk (below_step (by repeat (first | (with_reducible first | exact HB.out | apply below_alloc | apply pw_below_drewN | apply below_drew1 | refine below_set ?_ GE141.out | refine below_set ?_ GE142.out | refine below_set ?_ GE153.out | refine below_set ?_ GE154.out) | exact HB.out)) hb)
                    clear BK141
                    clear BK142
                    clear BK153
                    clear BK154
                    clear HB
                    have BK141 := n0_
                    have BK142 := n1_
                    have BK153 := n2_
                    have BK154 := n3_
                    have HB := n4_
                    clear n0_ n1_ n2_ n3_ n4_
                    (try clear hb)
                    (try clear hb2)
                    (try clear hk)
                    (try clear hi)
                    refine hK.out _ _ ⟨(blk_cell BK141.out 0).trans rfl, (blk_cell BK141.out 1).trans rfl, (blk_cell BK141.out 2).trans rfl, (blk_cell BK141.out 3).trans rfl, (blk_cell BK142.out 0).trans rfl, (blk_cell BK142.out 1).trans rfl, (blk_cell BK142.out 2).trans rfl, (blk_cell BK142.out 3).trans rfl⟩ (fun hHeld => ?_)
                    clear hK K
                    refine norm_ (a' := ?_) ?_ ?_
                    rotate_left
                    · show Act.put _ (some 21) _ = _
                      simp only [Act.put, List.setIfInBounds_toArray, List.set_cons_zero, List.set_cons_succ, i64_w, i32_w]
                      rfl
                    exact norm_ (by first | (simp only [putAll, Act.put, List.setIfInBounds_toArray, List.set_cons_zero, List.set_cons_succ]; done) | (simp only [putAll, Act.put, List.setIfInBounds_toArray, List.set_cons_zero, List.set_cons_succ]; rfl)) (hJ1_4_5 (gb153, gb154) _ ⟨hHeld, (by (with_reducible repeat (first | refine blk_drewN ?_ _ | refine blk_drew ?_ | refine blk_alloc ?_ _)); exact BK141.out), (by (with_reducible repeat (first | refine blk_drewN ?_ _ | refine blk_drew ?_ | refine blk_alloc ?_ _)); exact BK142.out), (by (with_reducible repeat (first | refine blk_drewN ?_ _ | refine blk_drew ?_ | refine blk_alloc ?_ _)); exact BK153.out), (by (with_reducible repeat (first | refine blk_drewN ?_ _ | refine blk_drew ?_ | refine blk_alloc ?_ _)); exact BK154.out), GW153.out, GE153.out, NB141_153.out, NB153_141.out, NB142_153.out, NB153_142.out, NB154_153.out, NB153_154.out, GW154.out, GE154.out, NB141_154.out, NB154_141.out, NB142_154.out, NB154_142.out, (by repeat (first | (with_reducible first | exact HB.out | apply below_alloc | apply pw_below_drewN | apply below_drew1 | refine below_set ?_ GE141.out | refine below_set ?_ GE142.out | refine below_set ?_ GE153.out | refine below_set ?_ GE154.out) | exact HB.out))⟩)
                · skip
                  rintro gb154 w22 ⟨hS_, h0_, h1_, h2_, h3_, h4_, h5_, h6_, h7_, h8_, h9_⟩
                  have n0_ : Aside0 (w22.heap[gb141]? = some (.cells #[.int .u64 a0_0, .int .u32 a0_1, .int .u64 a0_2, .int .u16 a0_3] 31 (0, 0))) := ⟨h0_⟩
                  have n1_ : Aside0 (w22.heap[gb142]? = some (.cells #[.int .u64 a1_0, .int .u32 a1_1, .int .u64 a1_2, .int .u16 a1_3] 31 (0, 0))) := ⟨h1_⟩
                  have n2_ : Aside0 (w22.heap[gb154]? = some (.cells #[.int .u64 0, .int .u32 0, .int .u64 0, .int .u16 0] 43 (0, 0))) := ⟨h2_⟩
                  have n3_ : Aside0 (w.heap.size ≤ gb154) := ⟨h3_⟩
                  have n4_ : Aside0 (w.heap.size ≤ gb154) := ⟨h4_⟩
                  have n5_ : Aside0 (gb141 ≠ gb154) := ⟨h5_⟩
                  have n6_ : Aside0 (gb154 ≠ gb141) := ⟨h6_⟩
                  have n7_ : Aside0 (gb142 ≠ gb154) := ⟨h7_⟩
                  have n8_ : Aside0 (gb154 ≠ gb142) := ⟨h8_⟩
                  have n9_ : Aside0 (Below w.heap.size w w22) := ⟨h9_⟩
                  clear BK141
                  clear BK142
                  clear HB
                  clear h0_ h1_ h2_ h3_ h4_ h5_ h6_ h7_ h8_ h9_
                  have BK141 := n0_
                  have BK142 := n1_
                  have BK154 := n2_
                  have GW154 := n3_
                  have GE154 := n4_
                  have NB141_154 := n5_
                  have NB154_141 := n6_
                  have NB142_154 := n7_
                  have NB154_142 := n8_
                  have HB := n9_
                  clear n0_ n1_ n2_ n3_ n4_ n5_ n6_ n7_ n8_ n9_
                  have hHeld : w22.cell? ⟨gb141, 0, none⟩ = some (.int .u64 a0_0) ∧ w22.cell? ⟨gb141, 1, none⟩ = some (.int .u32 a0_1) ∧ w22.cell? ⟨gb141, 2, none⟩ = some (.int .u64 a0_2) ∧ w22.cell? ⟨gb141, 3, none⟩ = some (.int .u16 a0_3) ∧ w22.cell? ⟨gb142, 0, none⟩ = some (.int .u64 a1_0) ∧ w22.cell? ⟨gb142, 1, none⟩ = some (.int .u32 a1_1) ∧ w22.cell? ⟨gb142, 2, none⟩ = some (.int .u64 a1_2) ∧ w22.cell? ⟨gb142, 3, none⟩ = some (.int .u16 a1_3) := hS_
                  refine norm_ (a' := ?_) ?_ ?_
                  rotate_left
                  · simp only [putAll, Act.put, List.setIfInBounds_toArray, List.set_cons_zero, List.set_cons_succ]
                    rfl
                  refine two_ (i := 3) (j := 4) (Ni := some 23) (Nj := some 10) #[true, true, true, true, false, true, false, false] #[true, true, true, false, true, true, false, false] rfl rfl rfl rfl (two_of HT_.out (by kernel_rfl)) (by decide) (by decide) (fun K hK => ?_) (fun K hK => ?_)
                  · skip
                    refine goes_ Try.func19 (by kernel_rfl) rfl #[.agg #[.int .u64 a1_0, .int .u32 a1_1, .int .u64 a1_2, .int .u16 a1_3]] (by rfl) rfl rfl (by (try simp only [List.map_toArray, List.map_cons, List.map_nil]); first | done | rfl | (simp only [List.length_drop, List.length_take]; rfl)) ?_
                    with_reducible refine (treelinelaw10_Plain.calls a1_0 a1_1 a1_2 a1_3 t149 t150 t151 t152 _ A9.out).mono ?_
                    rintro e w23 ⟨rfl, hb⟩
                    refine ⟨_, rfl, ?_⟩
                    have n0_ := Aside0.mk (blk_below (g := gb141) (o := .cells #[.int .u64 a0_0, .int .u32 a0_1, .int .u64 a0_2, .int .u16 a0_3] 31 (0, 0)) (by (with_reducible repeat (first | refine blk_drewN ?_ _ | refine blk_drew ?_ | refine blk_alloc ?_ _)); exact BK141.out) hb)
                    have n1_ := Aside0.mk (blk_below (g := gb142) (o := .cells #[.int .u64 a1_0, .int .u32 a1_1, .int .u64 a1_2, .int .u16 a1_3] 31 (0, 0)) (by (with_reducible repeat (first | refine blk_drewN ?_ _ | refine blk_drew ?_ | refine blk_alloc ?_ _)); exact BK142.out) hb)
                    have n2_ := Aside0.mk (blk_below (g := gb154) (o := .cells #[.int .u64 0, .int .u32 0, .int .u64 0, .int .u16 0] 43 (0, 0)) (by (with_reducible repeat (first | refine blk_drewN ?_ _ | refine blk_drew ?_ | refine blk_alloc ?_ _)); exact BK154.out) hb)
                    have n3_ := Aside0.mk (below_step (by repeat (first | (with_reducible first | exact HB.out | apply below_alloc | apply pw_below_drewN | apply below_drew1 | refine below_set ?_ GE141.out | refine below_set ?_ GE142.out | refine below_set ?_ GE154.out) | exact HB.out)) hb)
                    clear BK141
                    clear BK142
                    clear BK154
                    clear HB
                    have BK141 := n0_
                    have BK142 := n1_
                    have BK154 := n2_
                    have HB := n3_
                    clear n0_ n1_ n2_ n3_
                    (try clear hb)
                    (try clear hb2)
                    (try clear hk)
                    (try clear hi)
                    refine hK.out _ _ ⟨(blk_cell BK141.out 0).trans rfl, (blk_cell BK141.out 1).trans rfl, (blk_cell BK141.out 2).trans rfl, (blk_cell BK141.out 3).trans rfl, (blk_cell BK142.out 0).trans rfl, (blk_cell BK142.out 1).trans rfl, (blk_cell BK142.out 2).trans rfl, (blk_cell BK142.out 3).trans rfl⟩ (fun hHeld => ?_)
                    clear hK K
                    refine norm_ (a' := ?_) ?_ ?_
                    rotate_left
                    · show Act.put _ (some 23) _ = _
                      simp only [Act.put, List.setIfInBounds_toArray, List.set_cons_zero, List.set_cons_succ, i64_w, i32_w]
                      rfl
                    exact norm_ (by first | (simp only [putAll, Act.put, List.setIfInBounds_toArray, List.set_cons_zero, List.set_cons_succ]; done) | (simp only [putAll, Act.put, List.setIfInBounds_toArray, List.set_cons_zero, List.set_cons_succ]; rfl)) (hJ1_3_5 (gb154) _ ⟨hHeld, (by (with_reducible repeat (first | refine blk_drewN ?_ _ | refine blk_drew ?_ | refine blk_alloc ?_ _)); exact BK141.out), (by (with_reducible repeat (first | refine blk_drewN ?_ _ | refine blk_drew ?_ | refine blk_alloc ?_ _)); exact BK142.out), (by (with_reducible repeat (first | refine blk_drewN ?_ _ | refine blk_drew ?_ | refine blk_alloc ?_ _)); exact BK154.out), GW154.out, GE154.out, NB141_154.out, NB154_141.out, NB142_154.out, NB154_142.out, (by repeat (first | (with_reducible first | exact HB.out | apply below_alloc | apply pw_below_drewN | apply below_drew1 | refine below_set ?_ GE141.out | refine below_set ?_ GE142.out | refine below_set ?_ GE154.out) | exact HB.out))⟩)
                  · skip
                    refine box_step ?hg (N := 10) ?hd (cs := #[.int .u64 0, .int .u32 0, .int .u64 0, .int .u16 0]) (t := 43) ?hr ?_; (case hd => rfl); (case hg => rfl); (case hr => first | (go_simp; done) | (go_simp; rfl))
                    intro gb153 hg w23 hbox hb
                    have n0_ := Aside0.mk (blk_below (g := gb141) (o := .cells #[.int .u64 a0_0, .int .u32 a0_1, .int .u64 a0_2, .int .u16 a0_3] 31 (0, 0)) (by (with_reducible repeat (first | refine blk_drewN ?_ _ | refine blk_drew ?_ | refine blk_alloc ?_ _)); exact BK141.out) hb)
                    have n1_ := Aside0.mk (blk_below (g := gb142) (o := .cells #[.int .u64 a1_0, .int .u32 a1_1, .int .u64 a1_2, .int .u16 a1_3] 31 (0, 0)) (by (with_reducible repeat (first | refine blk_drewN ?_ _ | refine blk_drew ?_ | refine blk_alloc ?_ _)); exact BK142.out) hb)
                    have n2_ := Aside0.mk (blk_below (g := gb154) (o := .cells #[.int .u64 0, .int .u32 0, .int .u64 0, .int .u16 0] 43 (0, 0)) (by (with_reducible repeat (first | refine blk_drewN ?_ _ | refine blk_drew ?_ | refine blk_alloc ?_ _)); exact BK154.out) hb)
                    have n3_ := Aside0.mk (below_step (by repeat (first | (with_reducible first | exact HB.out | apply below_alloc | apply pw_below_drewN | apply below_drew1 | refine below_set ?_ GE141.out | refine below_set ?_ GE142.out | refine below_set ?_ GE154.out) | exact HB.out)) hb)
                    have n4_ := Aside0.mk (hbox)
                    have n5_ := Aside0.mk ((by rw [hg]; exact (below_size (by repeat (first | (with_reducible first | exact HB.out | apply below_alloc | apply pw_below_drewN | apply below_drew1 | refine below_set ?_ GE141.out | refine below_set ?_ GE142.out | refine below_set ?_ GE154.out) | exact HB.out))) : w.heap.size ≤ gb153))
                    have n6_ := Aside0.mk ((by rw [hg]; exact (below_size (by repeat (first | (with_reducible first | exact HB.out | apply below_alloc | apply pw_below_drewN | apply below_drew1 | refine below_set ?_ GE141.out | refine below_set ?_ GE142.out | refine below_set ?_ GE154.out) | exact HB.out))) : w.heap.size ≤ gb153))
                    have n7_ := Aside0.mk ((by rw [hg]; exact Nat.ne_of_lt (blk_lt (g := gb141) (o := .cells #[.int .u64 a0_0, .int .u32 a0_1, .int .u64 a0_2, .int .u16 a0_3] 31 (0, 0)) (by (with_reducible repeat (first | refine blk_drewN ?_ _ | refine blk_drew ?_ | refine blk_alloc ?_ _)); exact BK141.out)) : gb141 ≠ gb153))
                    have n8_ := Aside0.mk ((by rw [hg]; exact Nat.ne_of_gt (blk_lt (g := gb141) (o := .cells #[.int .u64 a0_0, .int .u32 a0_1, .int .u64 a0_2, .int .u16 a0_3] 31 (0, 0)) (by (with_reducible repeat (first | refine blk_drewN ?_ _ | refine blk_drew ?_ | refine blk_alloc ?_ _)); exact BK141.out)) : gb153 ≠ gb141))
                    have n9_ := Aside0.mk ((by rw [hg]; exact Nat.ne_of_lt (blk_lt (g := gb142) (o := .cells #[.int .u64 a1_0, .int .u32 a1_1, .int .u64 a1_2, .int .u16 a1_3] 31 (0, 0)) (by (with_reducible repeat (first | refine blk_drewN ?_ _ | refine blk_drew ?_ | refine blk_alloc ?_ _)); exact BK142.out)) : gb142 ≠ gb153))
                    have n10_ := Aside0.mk ((by rw [hg]; exact Nat.ne_of_gt (blk_lt (g := gb142) (o := .cells #[.int .u64 a1_0, .int .u32 a1_1, .int .u64 a1_2, .int .u16 a1_3] 31 (0, 0)) (by (with_reducible repeat (first | refine blk_drewN ?_ _ | refine blk_drew ?_ | refine blk_alloc ?_ _)); exact BK142.out)) : gb153 ≠ gb142))
                    have n11_ := Aside0.mk ((by rw [hg]; exact Nat.ne_of_lt (blk_lt (g := gb154) (o := .cells #[.int .u64 0, .int .u32 0, .int .u64 0, .int .u16 0] 43 (0, 0)) (by (with_reducible repeat (first | refine blk_drewN ?_ _ | refine blk_drew ?_ | refine blk_alloc ?_ _)); exact BK154.out)) : gb154 ≠ gb153))
                    have n12_ := Aside0.mk ((by rw [hg]; exact Nat.ne_of_gt (blk_lt (g := gb154) (o := .cells #[.int .u64 0, .int .u32 0, .int .u64 0, .int .u16 0] 43 (0, 0)) (by (with_reducible repeat (first | refine blk_drewN ?_ _ | refine blk_drew ?_ | refine blk_alloc ?_ _)); exact BK154.out)) : gb153 ≠ gb154))
                    clear BK141
                    clear BK142
                    clear BK154
                    clear HB
                    have BK141 := n0_
                    have BK142 := n1_
                    have BK154 := n2_
                    have HB := n3_
                    have BK153 := n4_
                    have GW153 := n5_
                    have GE153 := n6_
                    have NB141_153 := n7_
                    have NB153_141 := n8_
                    have NB142_153 := n9_
                    have NB153_142 := n10_
                    have NB154_153 := n11_
                    have NB153_154 := n12_
                    clear n0_ n1_ n2_ n3_ n4_ n5_ n6_ n7_ n8_ n9_ n10_ n11_ n12_
                    clear hb hbox hg
                    refine hK.out _ _ ⟨(blk_cell BK141.out 0).trans rfl, (blk_cell BK141.out 1).trans rfl, (blk_cell BK141.out 2).trans rfl, (blk_cell BK141.out 3).trans rfl, (blk_cell BK142.out 0).trans rfl, (blk_cell BK142.out 1).trans rfl, (blk_cell BK142.out 2).trans rfl, (blk_cell BK142.out 3).trans rfl⟩ (fun hHeld => ?_)
                    clear hK K
                    refine norm_ (a' := ?_) ?_ ?_
                    rotate_left
                    · show Act.put _ (some 10) _ = _
                      simp only [Act.put, List.setIfInBounds_toArray, List.set_cons_zero, List.set_cons_succ, i64_w, i32_w]
                      rfl
                    exact norm_ (by first | (simp only [putAll, Act.put, List.setIfInBounds_toArray, List.set_cons_zero, List.set_cons_succ]; done) | (simp only [putAll, Act.put, List.setIfInBounds_toArray, List.set_cons_zero, List.set_cons_succ]; rfl)) (hJ1_4_5 (gb153, gb154) _ ⟨hHeld, (by (with_reducible repeat (first | refine blk_drewN ?_ _ | refine blk_drew ?_ | refine blk_alloc ?_ _)); exact BK141.out), (by (with_reducible repeat (first | refine blk_drewN ?_ _ | refine blk_drew ?_ | refine blk_alloc ?_ _)); exact BK142.out), (by (with_reducible repeat (first | refine blk_drewN ?_ _ | refine blk_drew ?_ | refine blk_alloc ?_ _)); exact BK153.out), (by (with_reducible repeat (first | refine blk_drewN ?_ _ | refine blk_drew ?_ | refine blk_alloc ?_ _)); exact BK154.out), GW153.out, GE153.out, NB141_153.out, NB153_141.out, NB142_153.out, NB153_142.out, NB154_153.out, NB153_154.out, GW154.out, GE154.out, NB141_154.out, NB154_141.out, NB142_154.out, NB154_142.out, (by repeat (first | (with_reducible first | exact HB.out | apply below_alloc | apply pw_below_drewN | apply below_drew1 | refine below_set ?_ GE141.out | refine below_set ?_ GE142.out | refine below_set ?_ GE154.out | refine below_set ?_ GE153.out) | exact HB.out))⟩)
              · skip
                rintro gb153 w22 ⟨hS_, h0_, h1_, h2_, h3_, h4_, h5_, h6_, h7_, h8_, h9_⟩
                have n0_ : Aside0 (w22.heap[gb141]? = some (.cells #[.int .u64 a0_0, .int .u32 a0_1, .int .u64 a0_2, .int .u16 a0_3] 31 (0, 0))) := ⟨h0_⟩
                have n1_ : Aside0 (w22.heap[gb142]? = some (.cells #[.int .u64 a1_0, .int .u32 a1_1, .int .u64 a1_2, .int .u16 a1_3] 31 (0, 0))) := ⟨h1_⟩
                have n2_ : Aside0 (w22.heap[gb153]? = some (.cells #[.int .u64 0, .int .u32 0, .int .u64 0, .int .u16 0] 43 (0, 0))) := ⟨h2_⟩
                have n3_ : Aside0 (w.heap.size ≤ gb153) := ⟨h3_⟩
                have n4_ : Aside0 (w.heap.size ≤ gb153) := ⟨h4_⟩
                have n5_ : Aside0 (gb141 ≠ gb153) := ⟨h5_⟩
                have n6_ : Aside0 (gb153 ≠ gb141) := ⟨h6_⟩
                have n7_ : Aside0 (gb142 ≠ gb153) := ⟨h7_⟩
                have n8_ : Aside0 (gb153 ≠ gb142) := ⟨h8_⟩
                have n9_ : Aside0 (Below w.heap.size w w22) := ⟨h9_⟩
                clear BK141
                clear BK142
                clear HB
                clear h0_ h1_ h2_ h3_ h4_ h5_ h6_ h7_ h8_ h9_
                have BK141 := n0_
                have BK142 := n1_
                have BK153 := n2_
                have GW153 := n3_
                have GE153 := n4_
                have NB141_153 := n5_
                have NB153_141 := n6_
                have NB142_153 := n7_
                have NB153_142 := n8_
                have HB := n9_
                clear n0_ n1_ n2_ n3_ n4_ n5_ n6_ n7_ n8_ n9_
                have hHeld : w22.cell? ⟨gb141, 0, none⟩ = some (.int .u64 a0_0) ∧ w22.cell? ⟨gb141, 1, none⟩ = some (.int .u32 a0_1) ∧ w22.cell? ⟨gb141, 2, none⟩ = some (.int .u64 a0_2) ∧ w22.cell? ⟨gb141, 3, none⟩ = some (.int .u16 a0_3) ∧ w22.cell? ⟨gb142, 0, none⟩ = some (.int .u64 a1_0) ∧ w22.cell? ⟨gb142, 1, none⟩ = some (.int .u32 a1_1) ∧ w22.cell? ⟨gb142, 2, none⟩ = some (.int .u64 a1_2) ∧ w22.cell? ⟨gb142, 3, none⟩ = some (.int .u16 a1_3) := hS_
                refine norm_ (a' := ?_) ?_ ?_
                rotate_left
                · simp only [putAll, Act.put, List.setIfInBounds_toArray, List.set_cons_zero, List.set_cons_succ]
                  rfl
                refine two_ (i := 3) (j := 5) (Ni := some 23) (Nj := some 11) #[true, true, true, true, true, false, false, false] #[true, true, true, false, true, true, false, false] rfl rfl rfl rfl (two_of HT_.out (by kernel_rfl)) (by decide) (by decide) (fun K hK => ?_) (fun K hK => ?_)
                · skip
                  refine goes_ Try.func19 (by kernel_rfl) rfl #[.agg #[.int .u64 a1_0, .int .u32 a1_1, .int .u64 a1_2, .int .u16 a1_3]] (by rfl) rfl rfl (by (try simp only [List.map_toArray, List.map_cons, List.map_nil]); first | done | rfl | (simp only [List.length_drop, List.length_take]; rfl)) ?_
                  with_reducible refine (treelinelaw10_Plain.calls a1_0 a1_1 a1_2 a1_3 t149 t150 t151 t152 _ A9.out).mono ?_
                  rintro e w23 ⟨rfl, hb⟩
                  refine ⟨_, rfl, ?_⟩
                  have n0_ := Aside0.mk (blk_below (g := gb141) (o := .cells #[.int .u64 a0_0, .int .u32 a0_1, .int .u64 a0_2, .int .u16 a0_3] 31 (0, 0)) (by (with_reducible repeat (first | refine blk_drewN ?_ _ | refine blk_drew ?_ | refine blk_alloc ?_ _)); exact BK141.out) hb)
                  have n1_ := Aside0.mk (blk_below (g := gb142) (o := .cells #[.int .u64 a1_0, .int .u32 a1_1, .int .u64 a1_2, .int .u16 a1_3] 31 (0, 0)) (by (with_reducible repeat (first | refine blk_drewN ?_ _ | refine blk_drew ?_ | refine blk_alloc ?_ _)); exact BK142.out) hb)
                  have n2_ := Aside0.mk (blk_below (g := gb153) (o := .cells #[.int .u64 0, .int .u32 0, .int .u64 0, .int .u16 0] 43 (0, 0)) (by (with_reducible repeat (first | refine blk_drewN ?_ _ | refine blk_drew ?_ | refine blk_alloc ?_ _)); exact BK153.out) hb)
                  have n3_ := Aside0.mk (below_step (by repeat (first | (with_reducible first | exact HB.out | apply below_alloc | apply pw_below_drewN | apply below_drew1 | refine below_set ?_ GE141.out | refine below_set ?_ GE142.out | refine below_set ?_ GE153.out) | exact HB.out)) hb)
                  clear BK141
                  clear BK142
                  clear BK153
                  clear HB
                  have BK141 := n0_
                  have BK142 := n1_
                  have BK153 := n2_
                  have HB := n3_
                  clear n0_ n1_ n2_ n3_
                  (try clear hb)
                  (try clear hb2)
                  (try clear hk)
                  (try clear hi)
                  refine hK.out _ _ ⟨(blk_cell BK141.out 0).trans rfl, (blk_cell BK141.out 1).trans rfl, (blk_cell BK141.out 2).trans rfl, (blk_cell BK141.out 3).trans rfl, (blk_cell BK142.out 0).trans rfl, (blk_cell BK142.out 1).trans rfl, (blk_cell BK142.out 2).trans rfl, (blk_cell BK142.out 3).trans rfl⟩ (fun hHeld => ?_)
                  clear hK K
                  refine norm_ (a' := ?_) ?_ ?_
                  rotate_left
                  · show Act.put _ (some 23) _ = _
                    simp only [Act.put, List.setIfInBounds_toArray, List.set_cons_zero, List.set_cons_succ, i64_w, i32_w]
                    rfl
                  exact norm_ (by first | (simp only [putAll, Act.put, List.setIfInBounds_toArray, List.set_cons_zero, List.set_cons_succ]; done) | (simp only [putAll, Act.put, List.setIfInBounds_toArray, List.set_cons_zero, List.set_cons_succ]; rfl)) (hJ1_3_4 (gb153) _ ⟨hHeld, (by (with_reducible repeat (first | refine blk_drewN ?_ _ | refine blk_drew ?_ | refine blk_alloc ?_ _)); exact BK141.out), (by (with_reducible repeat (first | refine blk_drewN ?_ _ | refine blk_drew ?_ | refine blk_alloc ?_ _)); exact BK142.out), (by (with_reducible repeat (first | refine blk_drewN ?_ _ | refine blk_drew ?_ | refine blk_alloc ?_ _)); exact BK153.out), GW153.out, GE153.out, NB141_153.out, NB153_141.out, NB142_153.out, NB153_142.out, (by repeat (first | (with_reducible first | exact HB.out | apply below_alloc | apply pw_below_drewN | apply below_drew1 | refine below_set ?_ GE141.out | refine below_set ?_ GE142.out | refine below_set ?_ GE153.out) | exact HB.out))⟩)
                · skip
                  refine box_step ?hg (N := 11) ?hd (cs := #[.int .u64 0, .int .u32 0, .int .u64 0, .int .u16 0]) (t := 43) ?hr ?_; (case hd => rfl); (case hg => rfl); (case hr => first | (go_simp; done) | (go_simp; rfl))
                  intro gb154 hg w23 hbox hb
                  have n0_ := Aside0.mk (blk_below (g := gb141) (o := .cells #[.int .u64 a0_0, .int .u32 a0_1, .int .u64 a0_2, .int .u16 a0_3] 31 (0, 0)) (by (with_reducible repeat (first | refine blk_drewN ?_ _ | refine blk_drew ?_ | refine blk_alloc ?_ _)); exact BK141.out) hb)
                  have n1_ := Aside0.mk (blk_below (g := gb142) (o := .cells #[.int .u64 a1_0, .int .u32 a1_1, .int .u64 a1_2, .int .u16 a1_3] 31 (0, 0)) (by (with_reducible repeat (first | refine blk_drewN ?_ _ | refine blk_drew ?_ | refine blk_alloc ?_ _)); exact BK142.out) hb)
                  have n2_ := Aside0.mk (blk_below (g := gb153) (o := .cells #[.int .u64 0, .int .u32 0, .int .u64 0, .int .u16 0] 43 (0, 0)) (by (with_reducible repeat (first | refine blk_drewN ?_ _ | refine blk_drew ?_ | refine blk_alloc ?_ _)); exact BK153.out) hb)
                  have n3_ := Aside0.mk (below_step (by repeat (first | (with_reducible first | exact HB.out | apply below_alloc | apply pw_below_drewN | apply below_drew1 | refine below_set ?_ GE141.out | refine below_set ?_ GE142.out | refine below_set ?_ GE153.out) | exact HB.out)) hb)
                  have n4_ := Aside0.mk (hbox)
                  have n5_ := Aside0.mk ((by rw [hg]; exact (below_size (by repeat (first | (with_reducible first | exact HB.out | apply below_alloc | apply pw_below_drewN | apply below_drew1 | refine below_set ?_ GE141.out | refine below_set ?_ GE142.out | refine below_set ?_ GE153.out) | exact HB.out))) : w.heap.size ≤ gb154))
                  have n6_ := Aside0.mk ((by rw [hg]; exact (below_size (by repeat (first | (with_reducible first | exact HB.out | apply below_alloc | apply pw_below_drewN | apply below_drew1 | refine below_set ?_ GE141.out | refine below_set ?_ GE142.out | refine below_set ?_ GE153.out) | exact HB.out))) : w.heap.size ≤ gb154))
                  have n7_ := Aside0.mk ((by rw [hg]; exact Nat.ne_of_lt (blk_lt (g := gb141) (o := .cells #[.int .u64 a0_0, .int .u32 a0_1, .int .u64 a0_2, .int .u16 a0_3] 31 (0, 0)) (by (with_reducible repeat (first | refine blk_drewN ?_ _ | refine blk_drew ?_ | refine blk_alloc ?_ _)); exact BK141.out)) : gb141 ≠ gb154))
                  have n8_ := Aside0.mk ((by rw [hg]; exact Nat.ne_of_gt (blk_lt (g := gb141) (o := .cells #[.int .u64 a0_0, .int .u32 a0_1, .int .u64 a0_2, .int .u16 a0_3] 31 (0, 0)) (by (with_reducible repeat (first | refine blk_drewN ?_ _ | refine blk_drew ?_ | refine blk_alloc ?_ _)); exact BK141.out)) : gb154 ≠ gb141))
                  have n9_ := Aside0.mk ((by rw [hg]; exact Nat.ne_of_lt (blk_lt (g := gb142) (o := .cells #[.int .u64 a1_0, .int .u32 a1_1, .int .u64 a1_2, .int .u16 a1_3] 31 (0, 0)) (by (with_reducible repeat (first | refine blk_drewN ?_ _ | refine blk_drew ?_ | refine blk_alloc ?_ _)); exact BK142.out)) : gb142 ≠ gb154))
                  have n10_ := Aside0.mk ((by rw [hg]; exact Nat.ne_of_gt (blk_lt (g := gb142) (o := .cells #[.int .u64 a1_0, .int .u32 a1_1, .int .u64 a1_2, .int .u16 a1_3] 31 (0, 0)) (by (with_reducible repeat (first | refine blk_drewN ?_ _ | refine blk_drew ?_ | refine blk_alloc ?_ _)); exact BK142.out)) : gb154 ≠ gb142))
                  have n11_ := Aside0.mk ((by rw [hg]; exact Nat.ne_of_lt (blk_lt (g := gb153) (o := .cells #[.int .u64 0, .int .u32 0, .int .u64 0, .int .u16 0] 43 (0, 0)) (by (with_reducible repeat (first | refine blk_drewN ?_ _ | refine blk_drew ?_ | refine blk_alloc ?_ _)); exact BK153.out)) : gb153 ≠ gb154))
                  have n12_ := Aside0.mk ((by rw [hg]; exact Nat.ne_of_gt (blk_lt (g := gb153) (o := .cells #[.int .u64 0, .int .u32 0, .int .u64 0, .int .u16 0] 43 (0, 0)) (by (with_reducible repeat (first | refine blk_drewN ?_ _ | refine blk_drew ?_ | refine blk_alloc ?_ _)); exact BK153.out)) : gb154 ≠ gb153))
                  clear BK141
                  clear BK142
                  clear BK153
                  clear HB
                  have BK141 := n0_
                  have BK142 := n1_
                  have BK153 := n2_
                  have HB := n3_
                  have BK154 := n4_
                  have GW154 := n5_
                  have GE154 := n6_
                  have NB141_154 := n7_
                  have NB154_141 := n8_
                  have NB142_154 := n9_
                  have NB154_142 := n10_
                  have NB153_154 := n11_
                  have NB154_153 := n12_
                  clear n0_ n1_ n2_ n3_ n4_ n5_ n6_ n7_ n8_ n9_ n10_ n11_ n12_
                  clear hb hbox hg
                  refine hK.out _ _ ⟨(blk_cell BK141.out 0).trans rfl, (blk_cell BK141.out 1).trans rfl, (blk_cell BK141.out 2).trans rfl, (blk_cell BK141.out 3).trans rfl, (blk_cell BK142.out 0).trans rfl, (blk_cell BK142.out 1).trans rfl, (blk_cell BK142.out 2).trans rfl, (blk_cell BK142.out 3).trans rfl⟩ (fun hHeld => ?_)
                  clear hK K
                  refine norm_ (a' := ?_) ?_ ?_
                  rotate_left
                  · show Act.put _ (some 11) _ = _
                    simp only [Act.put, List.setIfInBounds_toArray, List.set_cons_zero, List.set_cons_succ, i64_w, i32_w]
                    rfl
                  exact norm_ (by first | (simp only [putAll, Act.put, List.setIfInBounds_toArray, List.set_cons_zero, List.set_cons_succ]; done) | (simp only [putAll, Act.put, List.setIfInBounds_toArray, List.set_cons_zero, List.set_cons_succ]; rfl)) (hJ1_4_5 (gb153, gb154) _ ⟨hHeld, (by (with_reducible repeat (first | refine blk_drewN ?_ _ | refine blk_drew ?_ | refine blk_alloc ?_ _)); exact BK141.out), (by (with_reducible repeat (first | refine blk_drewN ?_ _ | refine blk_drew ?_ | refine blk_alloc ?_ _)); exact BK142.out), (by (with_reducible repeat (first | refine blk_drewN ?_ _ | refine blk_drew ?_ | refine blk_alloc ?_ _)); exact BK153.out), (by (with_reducible repeat (first | refine blk_drewN ?_ _ | refine blk_drew ?_ | refine blk_alloc ?_ _)); exact BK154.out), GW153.out, GE153.out, NB141_153.out, NB153_141.out, NB142_153.out, NB153_142.out, NB154_153.out, NB153_154.out, GW154.out, GE154.out, NB141_154.out, NB154_141.out, NB142_154.out, NB154_142.out, (by repeat (first | (with_reducible first | exact HB.out | apply below_alloc | apply pw_below_drewN | apply below_drew1 | refine below_set ?_ GE141.out | refine below_set ?_ GE142.out | refine below_set ?_ GE153.out | refine below_set ?_ GE154.out) | exact HB.out))⟩)
            · skip
              rintro _ w22 ⟨hS_, h0_, h1_, h2_⟩
              have n0_ : Aside0 (w22.heap[gb141]? = some (.cells #[.int .u64 a0_0, .int .u32 a0_1, .int .u64 a0_2, .int .u16 a0_3] 31 (0, 0))) := ⟨h0_⟩
              have n1_ : Aside0 (w22.heap[gb142]? = some (.cells #[.int .u64 a1_0, .int .u32 a1_1, .int .u64 a1_2, .int .u16 a1_3] 31 (0, 0))) := ⟨h1_⟩
              have n2_ : Aside0 (Below w.heap.size w w22) := ⟨h2_⟩
              clear BK141
              clear BK142
              clear HB
              clear h0_ h1_ h2_
              have BK141 := n0_
              have BK142 := n1_
              have HB := n2_
              clear n0_ n1_ n2_
              have hHeld : w22.cell? ⟨gb141, 0, none⟩ = some (.int .u64 a0_0) ∧ w22.cell? ⟨gb141, 1, none⟩ = some (.int .u32 a0_1) ∧ w22.cell? ⟨gb141, 2, none⟩ = some (.int .u64 a0_2) ∧ w22.cell? ⟨gb141, 3, none⟩ = some (.int .u16 a0_3) ∧ w22.cell? ⟨gb142, 0, none⟩ = some (.int .u64 a1_0) ∧ w22.cell? ⟨gb142, 1, none⟩ = some (.int .u32 a1_1) ∧ w22.cell? ⟨gb142, 2, none⟩ = some (.int .u64 a1_2) ∧ w22.cell? ⟨gb142, 3, none⟩ = some (.int .u16 a1_3) := hS_
              refine norm_ (a' := ?_) ?_ ?_
              rotate_left
              · simp only [putAll, Act.put, List.setIfInBounds_toArray, List.set_cons_zero, List.set_cons_succ]
                rfl
              refine two_ (i := 4) (j := 5) (Ni := some 10) (Nj := some 11) #[true, true, true, true, true, false, false, false] #[true, true, true, true, false, true, false, false] rfl rfl rfl rfl (two_of HT_.out (by kernel_rfl)) (by decide) (by decide) (fun K hK => ?_) (fun K hK => ?_)
              · skip
                refine box_step ?hg (N := 10) ?hd (cs := #[.int .u64 0, .int .u32 0, .int .u64 0, .int .u16 0]) (t := 43) ?hr ?_; (case hd => rfl); (case hg => rfl); (case hr => first | (go_simp; done) | (go_simp; rfl))
                intro gb153 hg w23 hbox hb
                have n0_ := Aside0.mk (blk_below (g := gb141) (o := .cells #[.int .u64 a0_0, .int .u32 a0_1, .int .u64 a0_2, .int .u16 a0_3] 31 (0, 0)) (by (with_reducible repeat (first | refine blk_drewN ?_ _ | refine blk_drew ?_ | refine blk_alloc ?_ _)); exact BK141.out) hb)
                have n1_ := Aside0.mk (blk_below (g := gb142) (o := .cells #[.int .u64 a1_0, .int .u32 a1_1, .int .u64 a1_2, .int .u16 a1_3] 31 (0, 0)) (by (with_reducible repeat (first | refine blk_drewN ?_ _ | refine blk_drew ?_ | refine blk_alloc ?_ _)); exact BK142.out) hb)
                have n2_ := Aside0.mk (below_step (by repeat (first | (with_reducible first | exact HB.out | apply below_alloc | apply pw_below_drewN | apply below_drew1 | refine below_set ?_ GE141.out | refine below_set ?_ GE142.out) | exact HB.out)) hb)
                have n3_ := Aside0.mk (hbox)
                have n4_ := Aside0.mk ((by rw [hg]; exact (below_size (by repeat (first | (with_reducible first | exact HB.out | apply below_alloc | apply pw_below_drewN | apply below_drew1 | refine below_set ?_ GE141.out | refine below_set ?_ GE142.out) | exact HB.out))) : w.heap.size ≤ gb153))
                have n5_ := Aside0.mk ((by rw [hg]; exact (below_size (by repeat (first | (with_reducible first | exact HB.out | apply below_alloc | apply pw_below_drewN | apply below_drew1 | refine below_set ?_ GE141.out | refine below_set ?_ GE142.out) | exact HB.out))) : w.heap.size ≤ gb153))
                have n6_ := Aside0.mk ((by rw [hg]; exact Nat.ne_of_lt (blk_lt (g := gb141) (o := .cells #[.int .u64 a0_0, .int .u32 a0_1, .int .u64 a0_2, .int .u16 a0_3] 31 (0, 0)) (by (with_reducible repeat (first | refine blk_drewN ?_ _ | refine blk_drew ?_ | refine blk_alloc ?_ _)); exact BK141.out)) : gb141 ≠ gb153))
                have n7_ := Aside0.mk ((by rw [hg]; exact Nat.ne_of_gt (blk_lt (g := gb141) (o := .cells #[.int .u64 a0_0, .int .u32 a0_1, .int .u64 a0_2, .int .u16 a0_3] 31 (0, 0)) (by (with_reducible repeat (first | refine blk_drewN ?_ _ | refine blk_drew ?_ | refine blk_alloc ?_ _)); exact BK141.out)) : gb153 ≠ gb141))
                have n8_ := Aside0.mk ((by rw [hg]; exact Nat.ne_of_lt (blk_lt (g := gb142) (o := .cells #[.int .u64 a1_0, .int .u32 a1_1, .int .u64 a1_2, .int .u16 a1_3] 31 (0, 0)) (by (with_reducible repeat (first | refine blk_drewN ?_ _ | refine blk_drew ?_ | refine blk_alloc ?_ _)); exact BK142.out)) : gb142 ≠ gb153))
                have n9_ := Aside0.mk ((by rw [hg]; exact Nat.ne_of_gt (blk_lt (g := gb142) (o := .cells #[.int .u64 a1_0, .int .u32 a1_1, .int .u64 a1_2, .int .u16 a1_3] 31 (0, 0)) (by (with_reducible repeat (first | refine blk_drewN ?_ _ | refine blk_drew ?_ | refine blk_alloc ?_ _)); exact BK142.out)) : gb153 ≠ gb142))
                clear BK141
                clear BK142
                clear HB
                have BK141 := n0_
                have BK142 := n1_
                have HB := n2_
                have BK153 := n3_
                have GW153 := n4_
                have GE153 := n5_
                have NB141_153 := n6_
                have NB153_141 := n7_
                have NB142_153 := n8_
                have NB153_142 := n9_
                clear n0_ n1_ n2_ n3_ n4_ n5_ n6_ n7_ n8_ n9_
                clear hb hbox hg
                refine hK.out _ _ ⟨(blk_cell BK141.out 0).trans rfl, (blk_cell BK141.out 1).trans rfl, (blk_cell BK141.out 2).trans rfl, (blk_cell BK141.out 3).trans rfl, (blk_cell BK142.out 0).trans rfl, (blk_cell BK142.out 1).trans rfl, (blk_cell BK142.out 2).trans rfl, (blk_cell BK142.out 3).trans rfl⟩ (fun hHeld => ?_)
                clear hK K
                refine norm_ (a' := ?_) ?_ ?_
                rotate_left
                · show Act.put _ (some 10) _ = _
                  simp only [Act.put, List.setIfInBounds_toArray, List.set_cons_zero, List.set_cons_succ, i64_w, i32_w]
                  rfl
                exact norm_ (by first | (simp only [putAll, Act.put, List.setIfInBounds_toArray, List.set_cons_zero, List.set_cons_succ]; done) | (simp only [putAll, Act.put, List.setIfInBounds_toArray, List.set_cons_zero, List.set_cons_succ]; rfl)) (hJ1_3_4 (gb153) _ ⟨hHeld, (by (with_reducible repeat (first | refine blk_drewN ?_ _ | refine blk_drew ?_ | refine blk_alloc ?_ _)); exact BK141.out), (by (with_reducible repeat (first | refine blk_drewN ?_ _ | refine blk_drew ?_ | refine blk_alloc ?_ _)); exact BK142.out), (by (with_reducible repeat (first | refine blk_drewN ?_ _ | refine blk_drew ?_ | refine blk_alloc ?_ _)); exact BK153.out), GW153.out, GE153.out, NB141_153.out, NB153_141.out, NB142_153.out, NB153_142.out, (by repeat (first | (with_reducible first | exact HB.out | apply below_alloc | apply pw_below_drewN | apply below_drew1 | refine below_set ?_ GE141.out | refine below_set ?_ GE142.out | refine below_set ?_ GE153.out) | exact HB.out))⟩)
              · skip
                refine box_step ?hg (N := 11) ?hd (cs := #[.int .u64 0, .int .u32 0, .int .u64 0, .int .u16 0]) (t := 43) ?hr ?_; (case hd => rfl); (case hg => rfl); (case hr => first | (go_simp; done) | (go_simp; rfl))
                intro gb154 hg w23 hbox hb
                have n0_ := Aside0.mk (blk_below (g := gb141) (o := .cells #[.int .u64 a0_0, .int .u32 a0_1, .int .u64 a0_2, .int .u16 a0_3] 31 (0, 0)) (by (with_reducible repeat (first | refine blk_drewN ?_ _ | refine blk_drew ?_ | refine blk_alloc ?_ _)); exact BK141.out) hb)
                have n1_ := Aside0.mk (blk_below (g := gb142) (o := .cells #[.int .u64 a1_0, .int .u32 a1_1, .int .u64 a1_2, .int .u16 a1_3] 31 (0, 0)) (by (with_reducible repeat (first | refine blk_drewN ?_ _ | refine blk_drew ?_ | refine blk_alloc ?_ _)); exact BK142.out) hb)
                have n2_ := Aside0.mk (below_step (by repeat (first | (with_reducible first | exact HB.out | apply below_alloc | apply pw_below_drewN | apply below_drew1 | refine below_set ?_ GE141.out | refine below_set ?_ GE142.out) | exact HB.out)) hb)
                have n3_ := Aside0.mk (hbox)
                have n4_ := Aside0.mk ((by rw [hg]; exact (below_size (by repeat (first | (with_reducible first | exact HB.out | apply below_alloc | apply pw_below_drewN | apply below_drew1 | refine below_set ?_ GE141.out | refine below_set ?_ GE142.out) | exact HB.out))) : w.heap.size ≤ gb154))
                have n5_ := Aside0.mk ((by rw [hg]; exact (below_size (by repeat (first | (with_reducible first | exact HB.out | apply below_alloc | apply pw_below_drewN | apply below_drew1 | refine below_set ?_ GE141.out | refine below_set ?_ GE142.out) | exact HB.out))) : w.heap.size ≤ gb154))
                have n6_ := Aside0.mk ((by rw [hg]; exact Nat.ne_of_lt (blk_lt (g := gb141) (o := .cells #[.int .u64 a0_0, .int .u32 a0_1, .int .u64 a0_2, .int .u16 a0_3] 31 (0, 0)) (by (with_reducible repeat (first | refine blk_drewN ?_ _ | refine blk_drew ?_ | refine blk_alloc ?_ _)); exact BK141.out)) : gb141 ≠ gb154))
                have n7_ := Aside0.mk ((by rw [hg]; exact Nat.ne_of_gt (blk_lt (g := gb141) (o := .cells #[.int .u64 a0_0, .int .u32 a0_1, .int .u64 a0_2, .int .u16 a0_3] 31 (0, 0)) (by (with_reducible repeat (first | refine blk_drewN ?_ _ | refine blk_drew ?_ | refine blk_alloc ?_ _)); exact BK141.out)) : gb154 ≠ gb141))
                have n8_ := Aside0.mk ((by rw [hg]; exact Nat.ne_of_lt (blk_lt (g := gb142) (o := .cells #[.int .u64 a1_0, .int .u32 a1_1, .int .u64 a1_2, .int .u16 a1_3] 31 (0, 0)) (by (with_reducible repeat (first | refine blk_drewN ?_ _ | refine blk_drew ?_ | refine blk_alloc ?_ _)); exact BK142.out)) : gb142 ≠ gb154))
                have n9_ := Aside0.mk ((by rw [hg]; exact Nat.ne_of_gt (blk_lt (g := gb142) (o := .cells #[.int .u64 a1_0, .int .u32 a1_1, .int .u64 a1_2, .int .u16 a1_3] 31 (0, 0)) (by (with_reducible repeat (first | refine blk_drewN ?_ _ | refine blk_drew ?_ | refine blk_alloc ?_ _)); exact BK142.out)) : gb154 ≠ gb142))
                clear BK141
                clear BK142
                clear HB
                have BK141 := n0_
                have BK142 := n1_
                have HB := n2_
                have BK154 := n3_
                have GW154 := n4_
                have GE154 := n5_
                have NB141_154 := n6_
                have NB154_141 := n7_
                have NB142_154 := n8_
                have NB154_142 := n9_
                clear n0_ n1_ n2_ n3_ n4_ n5_ n6_ n7_ n8_ n9_
                clear hb hbox hg
                refine hK.out _ _ ⟨(blk_cell BK141.out 0).trans rfl, (blk_cell BK141.out 1).trans rfl, (blk_cell BK141.out 2).trans rfl, (blk_cell BK141.out 3).trans rfl, (blk_cell BK142.out 0).trans rfl, (blk_cell BK142.out 1).trans rfl, (blk_cell BK142.out 2).trans rfl, (blk_cell BK142.out 3).trans rfl⟩ (fun hHeld => ?_)
                clear hK K
                refine norm_ (a' := ?_) ?_ ?_
                rotate_left
                · show Act.put _ (some 11) _ = _
                  simp only [Act.put, List.setIfInBounds_toArray, List.set_cons_zero, List.set_cons_succ, i64_w, i32_w]
                  rfl
                exact norm_ (by first | (simp only [putAll, Act.put, List.setIfInBounds_toArray, List.set_cons_zero, List.set_cons_succ]; done) | (simp only [putAll, Act.put, List.setIfInBounds_toArray, List.set_cons_zero, List.set_cons_succ]; rfl)) (hJ1_3_5 (gb154) _ ⟨hHeld, (by (with_reducible repeat (first | refine blk_drewN ?_ _ | refine blk_drew ?_ | refine blk_alloc ?_ _)); exact BK141.out), (by (with_reducible repeat (first | refine blk_drewN ?_ _ | refine blk_drew ?_ | refine blk_alloc ?_ _)); exact BK142.out), (by (with_reducible repeat (first | refine blk_drewN ?_ _ | refine blk_drew ?_ | refine blk_alloc ?_ _)); exact BK154.out), GW154.out, GE154.out, NB141_154.out, NB154_141.out, NB142_154.out, NB154_142.out, (by repeat (first | (with_reducible first | exact HB.out | apply below_alloc | apply pw_below_drewN | apply below_drew1 | refine below_set ?_ GE141.out | refine below_set ?_ GE142.out | refine below_set ?_ GE154.out) | exact HB.out))⟩)
          · skip
            rintro ⟨gb153, gb154⟩ w23 ⟨hS_, h0_, h1_, h2_, h3_, h4_, h5_, h6_, h7_, h8_, h9_, h10_, h11_, h12_, h13_, h14_, h15_, h16_, h17_, h18_⟩
            have n0_ : Aside0 (w23.heap[gb141]? = some (.cells #[.int .u64 a0_0, .int .u32 a0_1, .int .u64 a0_2, .int .u16 a0_3] 31 (0, 0))) := ⟨h0_⟩
            have n1_ : Aside0 (w23.heap[gb142]? = some (.cells #[.int .u64 a1_0, .int .u32 a1_1, .int .u64 a1_2, .int .u16 a1_3] 31 (0, 0))) := ⟨h1_⟩
            have n2_ : Aside0 (w23.heap[gb153]? = some (.cells #[.int .u64 0, .int .u32 0, .int .u64 0, .int .u16 0] 43 (0, 0))) := ⟨h2_⟩
            have n3_ : Aside0 (w23.heap[gb154]? = some (.cells #[.int .u64 0, .int .u32 0, .int .u64 0, .int .u16 0] 43 (0, 0))) := ⟨h3_⟩
            have n4_ : Aside0 (w.heap.size ≤ gb153) := ⟨h4_⟩
            have n5_ : Aside0 (w.heap.size ≤ gb153) := ⟨h5_⟩
            have n6_ : Aside0 (gb141 ≠ gb153) := ⟨h6_⟩
            have n7_ : Aside0 (gb153 ≠ gb141) := ⟨h7_⟩
            have n8_ : Aside0 (gb142 ≠ gb153) := ⟨h8_⟩
            have n9_ : Aside0 (gb153 ≠ gb142) := ⟨h9_⟩
            have n10_ : Aside0 (gb154 ≠ gb153) := ⟨h10_⟩
            have n11_ : Aside0 (gb153 ≠ gb154) := ⟨h11_⟩
            have n12_ : Aside0 (w.heap.size ≤ gb154) := ⟨h12_⟩
            have n13_ : Aside0 (w.heap.size ≤ gb154) := ⟨h13_⟩
            have n14_ : Aside0 (gb141 ≠ gb154) := ⟨h14_⟩
            have n15_ : Aside0 (gb154 ≠ gb141) := ⟨h15_⟩
            have n16_ : Aside0 (gb142 ≠ gb154) := ⟨h16_⟩
            have n17_ : Aside0 (gb154 ≠ gb142) := ⟨h17_⟩
            have n18_ : Aside0 (Below w.heap.size w w23) := ⟨h18_⟩
            clear BK141
            clear BK142
            clear HB
            clear h0_ h1_ h2_ h3_ h4_ h5_ h6_ h7_ h8_ h9_ h10_ h11_ h12_ h13_ h14_ h15_ h16_ h17_ h18_
            have BK141 := n0_
            have BK142 := n1_
            have BK153 := n2_
            have BK154 := n3_
            have GW153 := n4_
            have GE153 := n5_
            have NB141_153 := n6_
            have NB153_141 := n7_
            have NB142_153 := n8_
            have NB153_142 := n9_
            have NB154_153 := n10_
            have NB153_154 := n11_
            have GW154 := n12_
            have GE154 := n13_
            have NB141_154 := n14_
            have NB154_141 := n15_
            have NB142_154 := n16_
            have NB154_142 := n17_
            have HB := n18_
            clear n0_ n1_ n2_ n3_ n4_ n5_ n6_ n7_ n8_ n9_ n10_ n11_ n12_ n13_ n14_ n15_ n16_ n17_ n18_
            have hHeld : w23.cell? ⟨gb141, 0, none⟩ = some (.int .u64 a0_0) ∧ w23.cell? ⟨gb141, 1, none⟩ = some (.int .u32 a0_1) ∧ w23.cell? ⟨gb141, 2, none⟩ = some (.int .u64 a0_2) ∧ w23.cell? ⟨gb141, 3, none⟩ = some (.int .u16 a0_3) ∧ w23.cell? ⟨gb142, 0, none⟩ = some (.int .u64 a1_0) ∧ w23.cell? ⟨gb142, 1, none⟩ = some (.int .u32 a1_1) ∧ w23.cell? ⟨gb142, 2, none⟩ = some (.int .u64 a1_2) ∧ w23.cell? ⟨gb142, 3, none⟩ = some (.int .u16 a1_3) := hS_
            refine norm_ (a' := ?_) ?_ ?_
            rotate_left
            · simp only [putAll, Act.put, List.setIfInBounds_toArray, List.set_cons_zero, List.set_cons_succ]
              rfl
            refine one_ (i := 3) (N := some 23) #[true, true, true, true, true, true, false, false] rfl rfl (one_of HT_.out (by kernel_rfl)) (by decide) (fun K hK => ?_)
            refine goes_ Try.func19 (by kernel_rfl) rfl #[.agg #[.int .u64 a1_0, .int .u32 a1_1, .int .u64 a1_2, .int .u16 a1_3]] (by rfl) rfl rfl (by (try simp only [List.map_toArray, List.map_cons, List.map_nil]); first | done | rfl | (simp only [List.length_drop, List.length_take]; rfl)) ?_
            with_reducible refine (treelinelaw10_Plain.calls a1_0 a1_1 a1_2 a1_3 t149 t150 t151 t152 _ A9.out).mono ?_
            rintro e w24 ⟨rfl, hb⟩
            refine ⟨_, rfl, ?_⟩
            have n0_ := Aside0.mk (blk_below (g := gb141) (o := .cells #[.int .u64 a0_0, .int .u32 a0_1, .int .u64 a0_2, .int .u16 a0_3] 31 (0, 0)) (by (with_reducible repeat (first | refine blk_drewN ?_ _ | refine blk_drew ?_ | refine blk_alloc ?_ _)); exact BK141.out) hb)
            have n1_ := Aside0.mk (blk_below (g := gb142) (o := .cells #[.int .u64 a1_0, .int .u32 a1_1, .int .u64 a1_2, .int .u16 a1_3] 31 (0, 0)) (by (with_reducible repeat (first | refine blk_drewN ?_ _ | refine blk_drew ?_ | refine blk_alloc ?_ _)); exact BK142.out) hb)
            have n2_ := Aside0.mk (blk_below (g := gb153) (o := .cells #[.int .u64 0, .int .u32 0, .int .u64 0, .int .u16 0] 43 (0, 0)) (by (with_reducible repeat (first | refine blk_drewN ?_ _ | refine blk_drew ?_ | refine blk_alloc ?_ _)); exact BK153.out) hb)
            have n3_ := Aside0.mk (blk_below (g := gb154) (o := .cells #[.int .u64 0, .int .u32 0, .int .u64 0, .int .u16 0] 43 (0, 0)) (by (with_reducible repeat (first | refine blk_drewN ?_ _ | refine blk_drew ?_ | refine blk_alloc ?_ _)); exact BK154.out) hb)
            have n4_ := Aside0.mk (below_step (by repeat (first | (with_reducible first | exact HB.out | apply below_alloc | apply pw_below_drewN | apply below_drew1 | refine below_set ?_ GE141.out | refine below_set ?_ GE142.out | refine below_set ?_ GE153.out | refine below_set ?_ GE154.out) | exact HB.out)) hb)
            clear BK141
            clear BK142
            clear BK153
            clear BK154
            clear HB
            have BK141 := n0_
            have BK142 := n1_
            have BK153 := n2_
            have BK154 := n3_
            have HB := n4_
            clear n0_ n1_ n2_ n3_ n4_
            (try clear hb)
            (try clear hb2)
            (try clear hk)
            (try clear hi)
            refine hK.out _ _ ⟨(blk_cell BK141.out 0).trans rfl, (blk_cell BK141.out 1).trans rfl, (blk_cell BK141.out 2).trans rfl, (blk_cell BK141.out 3).trans rfl, (blk_cell BK142.out 0).trans rfl, (blk_cell BK142.out 1).trans rfl, (blk_cell BK142.out 2).trans rfl, (blk_cell BK142.out 3).trans rfl⟩ (fun hHeld => ?_)
            clear hK K
            refine norm_ (a' := ?_) ?_ ?_
            rotate_left
            · show Act.put _ (some 23) _ = _
              simp only [Act.put, List.setIfInBounds_toArray, List.set_cons_zero, List.set_cons_succ, i64_w, i32_w]
              rfl
            exact norm_ (by first | (simp only [putAll, Act.put, List.setIfInBounds_toArray, List.set_cons_zero, List.set_cons_succ]; done) | (simp only [putAll, Act.put, List.setIfInBounds_toArray, List.set_cons_zero, List.set_cons_succ]; rfl)) (hJ1_3_4_5 (gb153, gb154) _ ⟨hHeld, (by (with_reducible repeat (first | refine blk_drewN ?_ _ | refine blk_drew ?_ | refine blk_alloc ?_ _)); exact BK141.out), (by (with_reducible repeat (first | refine blk_drewN ?_ _ | refine blk_drew ?_ | refine blk_alloc ?_ _)); exact BK142.out), (by (with_reducible repeat (first | refine blk_drewN ?_ _ | refine blk_drew ?_ | refine blk_alloc ?_ _)); exact BK153.out), (by (with_reducible repeat (first | refine blk_drewN ?_ _ | refine blk_drew ?_ | refine blk_alloc ?_ _)); exact BK154.out), GW153.out, GE153.out, NB141_153.out, NB153_141.out, NB142_153.out, NB153_142.out, NB154_153.out, NB153_154.out, GW154.out, GE154.out, NB141_154.out, NB154_141.out, NB142_154.out, NB154_142.out, (by repeat (first | (with_reducible first | exact HB.out | apply below_alloc | apply pw_below_drewN | apply below_drew1 | refine below_set ?_ GE141.out | refine below_set ?_ GE142.out | refine below_set ?_ GE153.out | refine below_set ?_ GE154.out) | exact HB.out))⟩)
        · skip
          rintro gb154 w23 ⟨hS_, h0_, h1_, h2_, h3_, h4_, h5_, h6_, h7_, h8_, h9_⟩
          have n0_ : Aside0 (w23.heap[gb141]? = some (.cells #[.int .u64 a0_0, .int .u32 a0_1, .int .u64 a0_2, .int .u16 a0_3] 31 (0, 0))) := ⟨h0_⟩
          have n1_ : Aside0 (w23.heap[gb142]? = some (.cells #[.int .u64 a1_0, .int .u32 a1_1, .int .u64 a1_2, .int .u16 a1_3] 31 (0, 0))) := ⟨h1_⟩
          have n2_ : Aside0 (w23.heap[gb154]? = some (.cells #[.int .u64 0, .int .u32 0, .int .u64 0, .int .u16 0] 43 (0, 0))) := ⟨h2_⟩
          have n3_ : Aside0 (w.heap.size ≤ gb154) := ⟨h3_⟩
          have n4_ : Aside0 (w.heap.size ≤ gb154) := ⟨h4_⟩
          have n5_ : Aside0 (gb141 ≠ gb154) := ⟨h5_⟩
          have n6_ : Aside0 (gb154 ≠ gb141) := ⟨h6_⟩
          have n7_ : Aside0 (gb142 ≠ gb154) := ⟨h7_⟩
          have n8_ : Aside0 (gb154 ≠ gb142) := ⟨h8_⟩
          have n9_ : Aside0 (Below w.heap.size w w23) := ⟨h9_⟩
          clear BK141
          clear BK142
          clear HB
          clear h0_ h1_ h2_ h3_ h4_ h5_ h6_ h7_ h8_ h9_
          have BK141 := n0_
          have BK142 := n1_
          have BK154 := n2_
          have GW154 := n3_
          have GE154 := n4_
          have NB141_154 := n5_
          have NB154_141 := n6_
          have NB142_154 := n7_
          have NB154_142 := n8_
          have HB := n9_
          clear n0_ n1_ n2_ n3_ n4_ n5_ n6_ n7_ n8_ n9_
          have hHeld : w23.cell? ⟨gb141, 0, none⟩ = some (.int .u64 a0_0) ∧ w23.cell? ⟨gb141, 1, none⟩ = some (.int .u32 a0_1) ∧ w23.cell? ⟨gb141, 2, none⟩ = some (.int .u64 a0_2) ∧ w23.cell? ⟨gb141, 3, none⟩ = some (.int .u16 a0_3) ∧ w23.cell? ⟨gb142, 0, none⟩ = some (.int .u64 a1_0) ∧ w23.cell? ⟨gb142, 1, none⟩ = some (.int .u32 a1_1) ∧ w23.cell? ⟨gb142, 2, none⟩ = some (.int .u64 a1_2) ∧ w23.cell? ⟨gb142, 3, none⟩ = some (.int .u16 a1_3) := hS_
          refine norm_ (a' := ?_) ?_ ?_
          rotate_left
          · simp only [putAll, Act.put, List.setIfInBounds_toArray, List.set_cons_zero, List.set_cons_succ]
            rfl
          refine one_ (i := 4) (N := some 10) #[true, true, true, true, true, true, false, false] rfl rfl (one_of HT_.out (by kernel_rfl)) (by decide) (fun K hK => ?_)
          refine box_step ?hg (N := 10) ?hd (cs := #[.int .u64 0, .int .u32 0, .int .u64 0, .int .u16 0]) (t := 43) ?hr ?_; (case hd => rfl); (case hg => rfl); (case hr => first | (go_simp; done) | (go_simp; rfl))
          intro gb153 hg w24 hbox hb
          have n0_ := Aside0.mk (blk_below (g := gb141) (o := .cells #[.int .u64 a0_0, .int .u32 a0_1, .int .u64 a0_2, .int .u16 a0_3] 31 (0, 0)) (by (with_reducible repeat (first | refine blk_drewN ?_ _ | refine blk_drew ?_ | refine blk_alloc ?_ _)); exact BK141.out) hb)
          have n1_ := Aside0.mk (blk_below (g := gb142) (o := .cells #[.int .u64 a1_0, .int .u32 a1_1, .int .u64 a1_2, .int .u16 a1_3] 31 (0, 0)) (by (with_reducible repeat (first | refine blk_drewN ?_ _ | refine blk_drew ?_ | refine blk_alloc ?_ _)); exact BK142.out) hb)
          have n2_ := Aside0.mk (blk_below (g := gb154) (o := .cells #[.int .u64 0, .int .u32 0, .int .u64 0, .int .u16 0] 43 (0, 0)) (by (with_reducible repeat (first | refine blk_drewN ?_ _ | refine blk_drew ?_ | refine blk_alloc ?_ _)); exact BK154.out) hb)
          have n3_ := Aside0.mk (below_step (by repeat (first | (with_reducible first | exact HB.out | apply below_alloc | apply pw_below_drewN | apply below_drew1 | refine below_set ?_ GE141.out | refine below_set ?_ GE142.out | refine below_set ?_ GE154.out) | exact HB.out)) hb)
          have n4_ := Aside0.mk (hbox)
          have n5_ := Aside0.mk ((by rw [hg]; exact (below_size (by repeat (first | (with_reducible first | exact HB.out | apply below_alloc | apply pw_below_drewN | apply below_drew1 | refine below_set ?_ GE141.out | refine below_set ?_ GE142.out | refine below_set ?_ GE154.out) | exact HB.out))) : w.heap.size ≤ gb153))
          have n6_ := Aside0.mk ((by rw [hg]; exact (below_size (by repeat (first | (with_reducible first | exact HB.out | apply below_alloc | apply pw_below_drewN | apply below_drew1 | refine below_set ?_ GE141.out | refine below_set ?_ GE142.out | refine below_set ?_ GE154.out) | exact HB.out))) : w.heap.size ≤ gb153))
          have n7_ := Aside0.mk ((by rw [hg]; exact Nat.ne_of_lt (blk_lt (g := gb141) (o := .cells #[.int .u64 a0_0, .int .u32 a0_1, .int .u64 a0_2, .int .u16 a0_3] 31 (0, 0)) (by (with_reducible repeat (first | refine blk_drewN ?_ _ | refine blk_drew ?_ | refine blk_alloc ?_ _)); exact BK141.out)) : gb141 ≠ gb153))
          have n8_ := Aside0.mk ((by rw [hg]; exact Nat.ne_of_gt (blk_lt (g := gb141) (o := .cells #[.int .u64 a0_0, .int .u32 a0_1, .int .u64 a0_2, .int .u16 a0_3] 31 (0, 0)) (by (with_reducible repeat (first | refine blk_drewN ?_ _ | refine blk_drew ?_ | refine blk_alloc ?_ _)); exact BK141.out)) : gb153 ≠ gb141))
          have n9_ := Aside0.mk ((by rw [hg]; exact Nat.ne_of_lt (blk_lt (g := gb142) (o := .cells #[.int .u64 a1_0, .int .u32 a1_1, .int .u64 a1_2, .int .u16 a1_3] 31 (0, 0)) (by (with_reducible repeat (first | refine blk_drewN ?_ _ | refine blk_drew ?_ | refine blk_alloc ?_ _)); exact BK142.out)) : gb142 ≠ gb153))
          have n10_ := Aside0.mk ((by rw [hg]; exact Nat.ne_of_gt (blk_lt (g := gb142) (o := .cells #[.int .u64 a1_0, .int .u32 a1_1, .int .u64 a1_2, .int .u16 a1_3] 31 (0, 0)) (by (with_reducible repeat (first | refine blk_drewN ?_ _ | refine blk_drew ?_ | refine blk_alloc ?_ _)); exact BK142.out)) : gb153 ≠ gb142))
          have n11_ := Aside0.mk ((by rw [hg]; exact Nat.ne_of_lt (blk_lt (g := gb154) (o := .cells #[.int .u64 0, .int .u32 0, .int .u64 0, .int .u16 0] 43 (0, 0)) (by (with_reducible repeat (first | refine blk_drewN ?_ _ | refine blk_drew ?_ | refine blk_alloc ?_ _)); exact BK154.out)) : gb154 ≠ gb153))
          have n12_ := Aside0.mk ((by rw [hg]; exact Nat.ne_of_gt (blk_lt (g := gb154) (o := .cells #[.int .u64 0, .int .u32 0, .int .u64 0, .int .u16 0] 43 (0, 0)) (by (with_reducible repeat (first | refine blk_drewN ?_ _ | refine blk_drew ?_ | refine blk_alloc ?_ _)); exact BK154.out)) : gb153 ≠ gb154))
          clear BK141
          clear BK142
          clear BK154
          clear HB
          have BK141 := n0_
          have BK142 := n1_
          have BK154 := n2_
          have HB := n3_
          have BK153 := n4_
          have GW153 := n5_
          have GE153 := n6_
          have NB141_153 := n7_
          have NB153_141 := n8_
          have NB142_153 := n9_
          have NB153_142 := n10_
          have NB154_153 := n11_
          have NB153_154 := n12_
          clear n0_ n1_ n2_ n3_ n4_ n5_ n6_ n7_ n8_ n9_ n10_ n11_ n12_
          clear hb hbox hg
          refine hK.out _ _ ⟨(blk_cell BK141.out 0).trans rfl, (blk_cell BK141.out 1).trans rfl, (blk_cell BK141.out 2).trans rfl, (blk_cell BK141.out 3).trans rfl, (blk_cell BK142.out 0).trans rfl, (blk_cell BK142.out 1).trans rfl, (blk_cell BK142.out 2).trans rfl, (blk_cell BK142.out 3).trans rfl⟩ (fun hHeld => ?_)
          clear hK K
          refine norm_ (a' := ?_) ?_ ?_
          rotate_left
          · show Act.put _ (some 10) _ = _
            simp only [Act.put, List.setIfInBounds_toArray, List.set_cons_zero, List.set_cons_succ, i64_w, i32_w]
            rfl
          exact norm_ (by first | (simp only [putAll, Act.put, List.setIfInBounds_toArray, List.set_cons_zero, List.set_cons_succ]; done) | (simp only [putAll, Act.put, List.setIfInBounds_toArray, List.set_cons_zero, List.set_cons_succ]; rfl)) (hJ1_3_4_5 (gb153, gb154) _ ⟨hHeld, (by (with_reducible repeat (first | refine blk_drewN ?_ _ | refine blk_drew ?_ | refine blk_alloc ?_ _)); exact BK141.out), (by (with_reducible repeat (first | refine blk_drewN ?_ _ | refine blk_drew ?_ | refine blk_alloc ?_ _)); exact BK142.out), (by (with_reducible repeat (first | refine blk_drewN ?_ _ | refine blk_drew ?_ | refine blk_alloc ?_ _)); exact BK153.out), (by (with_reducible repeat (first | refine blk_drewN ?_ _ | refine blk_drew ?_ | refine blk_alloc ?_ _)); exact BK154.out), GW153.out, GE153.out, NB141_153.out, NB153_141.out, NB142_153.out, NB153_142.out, NB154_153.out, NB153_154.out, GW154.out, GE154.out, NB141_154.out, NB154_141.out, NB142_154.out, NB154_142.out, (by repeat (first | (with_reducible first | exact HB.out | apply below_alloc | apply pw_below_drewN | apply below_drew1 | refine below_set ?_ GE141.out | refine below_set ?_ GE142.out | refine below_set ?_ GE154.out | refine below_set ?_ GE153.out) | exact HB.out))⟩)
      · skip
        rintro gb153 w23 ⟨hS_, h0_, h1_, h2_, h3_, h4_, h5_, h6_, h7_, h8_, h9_⟩
        have n0_ : Aside0 (w23.heap[gb141]? = some (.cells #[.int .u64 a0_0, .int .u32 a0_1, .int .u64 a0_2, .int .u16 a0_3] 31 (0, 0))) := ⟨h0_⟩
        have n1_ : Aside0 (w23.heap[gb142]? = some (.cells #[.int .u64 a1_0, .int .u32 a1_1, .int .u64 a1_2, .int .u16 a1_3] 31 (0, 0))) := ⟨h1_⟩
        have n2_ : Aside0 (w23.heap[gb153]? = some (.cells #[.int .u64 0, .int .u32 0, .int .u64 0, .int .u16 0] 43 (0, 0))) := ⟨h2_⟩
        have n3_ : Aside0 (w.heap.size ≤ gb153) := ⟨h3_⟩
        have n4_ : Aside0 (w.heap.size ≤ gb153) := ⟨h4_⟩
        have n5_ : Aside0 (gb141 ≠ gb153) := ⟨h5_⟩
        have n6_ : Aside0 (gb153 ≠ gb141) := ⟨h6_⟩
        have n7_ : Aside0 (gb142 ≠ gb153) := ⟨h7_⟩
        have n8_ : Aside0 (gb153 ≠ gb142) := ⟨h8_⟩
        have n9_ : Aside0 (Below w.heap.size w w23) := ⟨h9_⟩
        clear BK141
        clear BK142
        clear HB
        clear h0_ h1_ h2_ h3_ h4_ h5_ h6_ h7_ h8_ h9_
        have BK141 := n0_
        have BK142 := n1_
        have BK153 := n2_
        have GW153 := n3_
        have GE153 := n4_
        have NB141_153 := n5_
        have NB153_141 := n6_
        have NB142_153 := n7_
        have NB153_142 := n8_
        have HB := n9_
        clear n0_ n1_ n2_ n3_ n4_ n5_ n6_ n7_ n8_ n9_
        have hHeld : w23.cell? ⟨gb141, 0, none⟩ = some (.int .u64 a0_0) ∧ w23.cell? ⟨gb141, 1, none⟩ = some (.int .u32 a0_1) ∧ w23.cell? ⟨gb141, 2, none⟩ = some (.int .u64 a0_2) ∧ w23.cell? ⟨gb141, 3, none⟩ = some (.int .u16 a0_3) ∧ w23.cell? ⟨gb142, 0, none⟩ = some (.int .u64 a1_0) ∧ w23.cell? ⟨gb142, 1, none⟩ = some (.int .u32 a1_1) ∧ w23.cell? ⟨gb142, 2, none⟩ = some (.int .u64 a1_2) ∧ w23.cell? ⟨gb142, 3, none⟩ = some (.int .u16 a1_3) := hS_
        refine norm_ (a' := ?_) ?_ ?_
        rotate_left
        · simp only [putAll, Act.put, List.setIfInBounds_toArray, List.set_cons_zero, List.set_cons_succ]
          rfl
        refine one_ (i := 5) (N := some 11) #[true, true, true, true, true, true, false, false] rfl rfl (one_of HT_.out (by kernel_rfl)) (by decide) (fun K hK => ?_)
        refine box_step ?hg (N := 11) ?hd (cs := #[.int .u64 0, .int .u32 0, .int .u64 0, .int .u16 0]) (t := 43) ?hr ?_; (case hd => rfl); (case hg => rfl); (case hr => first | (go_simp; done) | (go_simp; rfl))
        intro gb154 hg w24 hbox hb
        have n0_ := Aside0.mk (blk_below (g := gb141) (o := .cells #[.int .u64 a0_0, .int .u32 a0_1, .int .u64 a0_2, .int .u16 a0_3] 31 (0, 0)) (by (with_reducible repeat (first | refine blk_drewN ?_ _ | refine blk_drew ?_ | refine blk_alloc ?_ _)); exact BK141.out) hb)
        have n1_ := Aside0.mk (blk_below (g := gb142) (o := .cells #[.int .u64 a1_0, .int .u32 a1_1, .int .u64 a1_2, .int .u16 a1_3] 31 (0, 0)) (by (with_reducible repeat (first | refine blk_drewN ?_ _ | refine blk_drew ?_ | refine blk_alloc ?_ _)); exact BK142.out) hb)
        have n2_ := Aside0.mk (blk_below (g := gb153) (o := .cells #[.int .u64 0, .int .u32 0, .int .u64 0, .int .u16 0] 43 (0, 0)) (by (with_reducible repeat (first | refine blk_drewN ?_ _ | refine blk_drew ?_ | refine blk_alloc ?_ _)); exact BK153.out) hb)
        have n3_ := Aside0.mk (below_step (by repeat (first | (with_reducible first | exact HB.out | apply below_alloc | apply pw_below_drewN | apply below_drew1 | refine below_set ?_ GE141.out | refine below_set ?_ GE142.out | refine below_set ?_ GE153.out) | exact HB.out)) hb)
        have n4_ := Aside0.mk (hbox)
        have n5_ := Aside0.mk ((by rw [hg]; exact (below_size (by repeat (first | (with_reducible first | exact HB.out | apply below_alloc | apply pw_below_drewN | apply below_drew1 | refine below_set ?_ GE141.out | refine below_set ?_ GE142.out | refine below_set ?_ GE153.out) | exact HB.out))) : w.heap.size ≤ gb154))
        have n6_ := Aside0.mk ((by rw [hg]; exact (below_size (by repeat (first | (with_reducible first | exact HB.out | apply below_alloc | apply pw_below_drewN | apply below_drew1 | refine below_set ?_ GE141.out | refine below_set ?_ GE142.out | refine below_set ?_ GE153.out) | exact HB.out))) : w.heap.size ≤ gb154))
        have n7_ := Aside0.mk ((by rw [hg]; exact Nat.ne_of_lt (blk_lt (g := gb141) (o := .cells #[.int .u64 a0_0, .int .u32 a0_1, .int .u64 a0_2, .int .u16 a0_3] 31 (0, 0)) (by (with_reducible repeat (first | refine blk_drewN ?_ _ | refine blk_drew ?_ | refine blk_alloc ?_ _)); exact BK141.out)) : gb141 ≠ gb154))
        have n8_ := Aside0.mk ((by rw [hg]; exact Nat.ne_of_gt (blk_lt (g := gb141) (o := .cells #[.int .u64 a0_0, .int .u32 a0_1, .int .u64 a0_2, .int .u16 a0_3] 31 (0, 0)) (by (with_reducible repeat (first | refine blk_drewN ?_ _ | refine blk_drew ?_ | refine blk_alloc ?_ _)); exact BK141.out)) : gb154 ≠ gb141))
        have n9_ := Aside0.mk ((by rw [hg]; exact Nat.ne_of_lt (blk_lt (g := gb142) (o := .cells #[.int .u64 a1_0, .int .u32 a1_1, .int .u64 a1_2, .int .u16 a1_3] 31 (0, 0)) (by (with_reducible repeat (first | refine blk_drewN ?_ _ | refine blk_drew ?_ | refine blk_alloc ?_ _)); exact BK142.out)) : gb142 ≠ gb154))
        have n10_ := Aside0.mk ((by rw [hg]; exact Nat.ne_of_gt (blk_lt (g := gb142) (o := .cells #[.int .u64 a1_0, .int .u32 a1_1, .int .u64 a1_2, .int .u16 a1_3] 31 (0, 0)) (by (with_reducible repeat (first | refine blk_drewN ?_ _ | refine blk_drew ?_ | refine blk_alloc ?_ _)); exact BK142.out)) : gb154 ≠ gb142))
        have n11_ := Aside0.mk ((by rw [hg]; exact Nat.ne_of_lt (blk_lt (g := gb153) (o := .cells #[.int .u64 0, .int .u32 0, .int .u64 0, .int .u16 0] 43 (0, 0)) (by (with_reducible repeat (first | refine blk_drewN ?_ _ | refine blk_drew ?_ | refine blk_alloc ?_ _)); exact BK153.out)) : gb153 ≠ gb154))
        have n12_ := Aside0.mk ((by rw [hg]; exact Nat.ne_of_gt (blk_lt (g := gb153) (o := .cells #[.int .u64 0, .int .u32 0, .int .u64 0, .int .u16 0] 43 (0, 0)) (by (with_reducible repeat (first | refine blk_drewN ?_ _ | refine blk_drew ?_ | refine blk_alloc ?_ _)); exact BK153.out)) : gb154 ≠ gb153))
        clear BK141
        clear BK142
        clear BK153
        clear HB
        have BK141 := n0_
        have BK142 := n1_
        have BK153 := n2_
        have HB := n3_
        have BK154 := n4_
        have GW154 := n5_
        have GE154 := n6_
        have NB141_154 := n7_
        have NB154_141 := n8_
        have NB142_154 := n9_
        have NB154_142 := n10_
        have NB153_154 := n11_
        have NB154_153 := n12_
        clear n0_ n1_ n2_ n3_ n4_ n5_ n6_ n7_ n8_ n9_ n10_ n11_ n12_
        clear hb hbox hg
        refine hK.out _ _ ⟨(blk_cell BK141.out 0).trans rfl, (blk_cell BK141.out 1).trans rfl, (blk_cell BK141.out 2).trans rfl, (blk_cell BK141.out 3).trans rfl, (blk_cell BK142.out 0).trans rfl, (blk_cell BK142.out 1).trans rfl, (blk_cell BK142.out 2).trans rfl, (blk_cell BK142.out 3).trans rfl⟩ (fun hHeld => ?_)
        clear hK K
        refine norm_ (a' := ?_) ?_ ?_
        rotate_left
        · show Act.put _ (some 11) _ = _
          simp only [Act.put, List.setIfInBounds_toArray, List.set_cons_zero, List.set_cons_succ, i64_w, i32_w]
          rfl
        exact norm_ (by first | (simp only [putAll, Act.put, List.setIfInBounds_toArray, List.set_cons_zero, List.set_cons_succ]; done) | (simp only [putAll, Act.put, List.setIfInBounds_toArray, List.set_cons_zero, List.set_cons_succ]; rfl)) (hJ1_3_4_5 (gb153, gb154) _ ⟨hHeld, (by (with_reducible repeat (first | refine blk_drewN ?_ _ | refine blk_drew ?_ | refine blk_alloc ?_ _)); exact BK141.out), (by (with_reducible repeat (first | refine blk_drewN ?_ _ | refine blk_drew ?_ | refine blk_alloc ?_ _)); exact BK142.out), (by (with_reducible repeat (first | refine blk_drewN ?_ _ | refine blk_drew ?_ | refine blk_alloc ?_ _)); exact BK153.out), (by (with_reducible repeat (first | refine blk_drewN ?_ _ | refine blk_drew ?_ | refine blk_alloc ?_ _)); exact BK154.out), GW153.out, GE153.out, NB141_153.out, NB153_141.out, NB142_153.out, NB153_142.out, NB154_153.out, NB153_154.out, GW154.out, GE154.out, NB141_154.out, NB154_141.out, NB142_154.out, NB154_142.out, (by repeat (first | (with_reducible first | exact HB.out | apply below_alloc | apply pw_below_drewN | apply below_drew1 | refine below_set ?_ GE141.out | refine below_set ?_ GE142.out | refine below_set ?_ GE153.out | refine below_set ?_ GE154.out) | exact HB.out))⟩)
    rintro ⟨gb153, gb154⟩ w24 ⟨hS_, h0_, h1_, h2_, h3_, h4_, h5_, h6_, h7_, h8_, h9_, h10_, h11_, h12_, h13_, h14_, h15_, h16_, h17_, h18_⟩
    have n0_ : Aside0 (w24.heap[gb141]? = some (.cells #[.int .u64 a0_0, .int .u32 a0_1, .int .u64 a0_2, .int .u16 a0_3] 31 (0, 0))) := ⟨h0_⟩
    have n1_ : Aside0 (w24.heap[gb142]? = some (.cells #[.int .u64 a1_0, .int .u32 a1_1, .int .u64 a1_2, .int .u16 a1_3] 31 (0, 0))) := ⟨h1_⟩
    have n2_ : Aside0 (w24.heap[gb153]? = some (.cells #[.int .u64 0, .int .u32 0, .int .u64 0, .int .u16 0] 43 (0, 0))) := ⟨h2_⟩
    have n3_ : Aside0 (w24.heap[gb154]? = some (.cells #[.int .u64 0, .int .u32 0, .int .u64 0, .int .u16 0] 43 (0, 0))) := ⟨h3_⟩
    have n4_ : Aside0 (w.heap.size ≤ gb153) := ⟨h4_⟩
    have n5_ : Aside0 (w.heap.size ≤ gb153) := ⟨h5_⟩
    have n6_ : Aside0 (gb141 ≠ gb153) := ⟨h6_⟩
    have n7_ : Aside0 (gb153 ≠ gb141) := ⟨h7_⟩
    have n8_ : Aside0 (gb142 ≠ gb153) := ⟨h8_⟩
    have n9_ : Aside0 (gb153 ≠ gb142) := ⟨h9_⟩
    have n10_ : Aside0 (gb154 ≠ gb153) := ⟨h10_⟩
    have n11_ : Aside0 (gb153 ≠ gb154) := ⟨h11_⟩
    have n12_ : Aside0 (w.heap.size ≤ gb154) := ⟨h12_⟩
    have n13_ : Aside0 (w.heap.size ≤ gb154) := ⟨h13_⟩
    have n14_ : Aside0 (gb141 ≠ gb154) := ⟨h14_⟩
    have n15_ : Aside0 (gb154 ≠ gb141) := ⟨h15_⟩
    have n16_ : Aside0 (gb142 ≠ gb154) := ⟨h16_⟩
    have n17_ : Aside0 (gb154 ≠ gb142) := ⟨h17_⟩
    have n18_ : Aside0 (Below w.heap.size w w24) := ⟨h18_⟩
    clear BK141
    clear BK142
    clear HB
    clear h0_ h1_ h2_ h3_ h4_ h5_ h6_ h7_ h8_ h9_ h10_ h11_ h12_ h13_ h14_ h15_ h16_ h17_ h18_
    have BK141 := n0_
    have BK142 := n1_
    have BK153 := n2_
    have BK154 := n3_
    have GW153 := n4_
    have GE153 := n5_
    have NB141_153 := n6_
    have NB153_141 := n7_
    have NB142_153 := n8_
    have NB153_142 := n9_
    have NB154_153 := n10_
    have NB153_154 := n11_
    have GW154 := n12_
    have GE154 := n13_
    have NB141_154 := n14_
    have NB154_141 := n15_
    have NB142_154 := n16_
    have NB154_142 := n17_
    have HB := n18_
    clear n0_ n1_ n2_ n3_ n4_ n5_ n6_ n7_ n8_ n9_ n10_ n11_ n12_ n13_ n14_ n15_ n16_ n17_ n18_
    have hHeld : w24.cell? ⟨gb141, 0, none⟩ = some (.int .u64 a0_0) ∧ w24.cell? ⟨gb141, 1, none⟩ = some (.int .u32 a0_1) ∧ w24.cell? ⟨gb141, 2, none⟩ = some (.int .u64 a0_2) ∧ w24.cell? ⟨gb141, 3, none⟩ = some (.int .u16 a0_3) ∧ w24.cell? ⟨gb142, 0, none⟩ = some (.int .u64 a1_0) ∧ w24.cell? ⟨gb142, 1, none⟩ = some (.int .u32 a1_1) ∧ w24.cell? ⟨gb142, 2, none⟩ = some (.int .u64 a1_2) ∧ w24.cell? ⟨gb142, 3, none⟩ = some (.int .u16 a1_3) := hS_
    refine norm_ (a' := ?_) ?_ ?_
    rotate_left
    · simp only [putAll, Act.put, List.setIfInBounds_toArray, List.set_cons_zero, List.set_cons_succ]
      rfl
    refine one_ (i := 6) (N := none) #[true, true, true, true, true, true, true, false] rfl rfl (one_of HT_.out (by kernel_rfl)) (by decide) (fun K hK => ?_)
    have hs25 : w24.cell? ⟨gb153, 0, none⟩ = some (.int .u64 0) := (blk_cell BK153.out 0).trans rfl
    have hfs25 := blk_frozen BK153.out 0
    have hns25_0 := NB141_153.out
    have hns25_1 := NB142_153.out
    have hns25_3 := NB154_153.out
    have hms25_0 := NB153_141.out
    have hms25_1 := NB153_142.out
    have hms25_3 := NB153_154.out
    have hs26 : w24.cell? ⟨gb153, 1, none⟩ = some (.int .u32 0) := (blk_cell BK153.out 1).trans rfl
    have hfs26 := blk_frozen BK153.out 1
    have hns26_0 := NB141_153.out
    have hns26_1 := NB142_153.out
    have hns26_3 := NB154_153.out
    have hms26_0 := NB153_141.out
    have hms26_1 := NB153_142.out
    have hms26_3 := NB153_154.out
    have hs27 : w24.cell? ⟨gb153, 2, none⟩ = some (.int .u64 0) := (blk_cell BK153.out 2).trans rfl
    have hfs27 := blk_frozen BK153.out 2
    have hns27_0 := NB141_153.out
    have hns27_1 := NB142_153.out
    have hns27_3 := NB154_153.out
    have hms27_0 := NB153_141.out
    have hms27_1 := NB153_142.out
    have hms27_3 := NB153_154.out
    have hs28 : w24.cell? ⟨gb153, 3, none⟩ = some (.int .u16 0) := (blk_cell BK153.out 3).trans rfl
    have hfs28 := blk_frozen BK153.out 3
    have hns28_0 := NB141_153.out
    have hns28_1 := NB142_153.out
    have hns28_3 := NB154_153.out
    have hms28_0 := NB153_141.out
    have hms28_1 := NB153_142.out
    have hms28_3 := NB153_154.out
    refine skip_ (w1 := ?_) (by rfl) rfl ?_ ?_
    rotate_left
    · go_simp
      rfl
    refine hK.out _ _ ⟨((cell_far (p := ⟨gb153, _, none⟩) NB141_153.out _).trans (((cell_far (p := ⟨gb153, _, none⟩) NB141_153.out _).trans (((cell_far (p := ⟨gb153, _, none⟩) NB141_153.out _).trans (((cell_far (p := ⟨gb153, _, none⟩) NB141_153.out _).trans (hHeld.1)))))))), ((cell_far (p := ⟨gb153, _, none⟩) NB141_153.out _).trans (((cell_far (p := ⟨gb153, _, none⟩) NB141_153.out _).trans (((cell_far (p := ⟨gb153, _, none⟩) NB141_153.out _).trans (((cell_far (p := ⟨gb153, _, none⟩) NB141_153.out _).trans (hHeld.2.1)))))))), ((cell_far (p := ⟨gb153, _, none⟩) NB141_153.out _).trans (((cell_far (p := ⟨gb153, _, none⟩) NB141_153.out _).trans (((cell_far (p := ⟨gb153, _, none⟩) NB141_153.out _).trans (((cell_far (p := ⟨gb153, _, none⟩) NB141_153.out _).trans (hHeld.2.2.1)))))))), ((cell_far (p := ⟨gb153, _, none⟩) NB141_153.out _).trans (((cell_far (p := ⟨gb153, _, none⟩) NB141_153.out _).trans (((cell_far (p := ⟨gb153, _, none⟩) NB141_153.out _).trans (((cell_far (p := ⟨gb153, _, none⟩) NB141_153.out _).trans (hHeld.2.2.2.1)))))))), ((cell_far (p := ⟨gb153, _, none⟩) NB142_153.out _).trans (((cell_far (p := ⟨gb153, _, none⟩) NB142_153.out _).trans (((cell_far (p := ⟨gb153, _, none⟩) NB142_153.out _).trans (((cell_far (p := ⟨gb153, _, none⟩) NB142_153.out _).trans (hHeld.2.2.2.2.1)))))))), ((cell_far (p := ⟨gb153, _, none⟩) NB142_153.out _).trans (((cell_far (p := ⟨gb153, _, none⟩) NB142_153.out _).trans (((cell_far (p := ⟨gb153, _, none⟩) NB142_153.out _).trans (((cell_far (p := ⟨gb153, _, none⟩) NB142_153.out _).trans (hHeld.2.2.2.2.2.1)))))))), ((cell_far (p := ⟨gb153, _, none⟩) NB142_153.out _).trans (((cell_far (p := ⟨gb153, _, none⟩) NB142_153.out _).trans (((cell_far (p := ⟨gb153, _, none⟩) NB142_153.out _).trans (((cell_far (p := ⟨gb153, _, none⟩) NB142_153.out _).trans (hHeld.2.2.2.2.2.2.1)))))))), ((cell_far (p := ⟨gb153, _, none⟩) NB142_153.out _).trans (((cell_far (p := ⟨gb153, _, none⟩) NB142_153.out _).trans (((cell_far (p := ⟨gb153, _, none⟩) NB142_153.out _).trans (((cell_far (p := ⟨gb153, _, none⟩) NB142_153.out _).trans (hHeld.2.2.2.2.2.2.2))))))))⟩ (fun hHeld => ?_)
    clear hK K
    refine one_ (i := 7) (N := none) #[true, true, true, true, true, true, true, true] rfl rfl (one_of HT_.out (by kernel_rfl)) (by decide) (fun K hK => ?_)
    have hs29 : w24.cell? ⟨gb154, 0, none⟩ = some (.int .u64 0) := (blk_cell BK154.out 0).trans rfl
    have hfs29 := blk_frozen BK154.out 0
    have hns29_0 := NB141_154.out
    have hns29_1 := NB142_154.out
    have hns29_2 := NB153_154.out
    have hms29_0 := NB154_141.out
    have hms29_1 := NB154_142.out
    have hms29_2 := NB154_153.out
    have hs30 : w24.cell? ⟨gb154, 1, none⟩ = some (.int .u32 0) := (blk_cell BK154.out 1).trans rfl
    have hfs30 := blk_frozen BK154.out 1
    have hns30_0 := NB141_154.out
    have hns30_1 := NB142_154.out
    have hns30_2 := NB153_154.out
    have hms30_0 := NB154_141.out
    have hms30_1 := NB154_142.out
    have hms30_2 := NB154_153.out
    have hs31 : w24.cell? ⟨gb154, 2, none⟩ = some (.int .u64 0) := (blk_cell BK154.out 2).trans rfl
    have hfs31 := blk_frozen BK154.out 2
    have hns31_0 := NB141_154.out
    have hns31_1 := NB142_154.out
    have hns31_2 := NB153_154.out
    have hms31_0 := NB154_141.out
    have hms31_1 := NB154_142.out
    have hms31_2 := NB154_153.out
    have hs32 : w24.cell? ⟨gb154, 3, none⟩ = some (.int .u16 0) := (blk_cell BK154.out 3).trans rfl
    have hfs32 := blk_frozen BK154.out 3
    have hns32_0 := NB141_154.out
    have hns32_1 := NB142_154.out
    have hns32_2 := NB153_154.out
    have hms32_0 := NB154_141.out
    have hms32_1 := NB154_142.out
    have hms32_2 := NB154_153.out
    refine skip_ (w1 := ?_) (by rfl) rfl ?_ ?_
    rotate_left
    · go_simp
      rfl
    refine hK.out _ _ ⟨((cell_far (p := ⟨gb154, _, none⟩) NB141_154.out _).trans (((cell_far (p := ⟨gb154, _, none⟩) NB141_154.out _).trans (((cell_far (p := ⟨gb154, _, none⟩) NB141_154.out _).trans (((cell_far (p := ⟨gb154, _, none⟩) NB141_154.out _).trans (hHeld.1)))))))), ((cell_far (p := ⟨gb154, _, none⟩) NB141_154.out _).trans (((cell_far (p := ⟨gb154, _, none⟩) NB141_154.out _).trans (((cell_far (p := ⟨gb154, _, none⟩) NB141_154.out _).trans (((cell_far (p := ⟨gb154, _, none⟩) NB141_154.out _).trans (hHeld.2.1)))))))), ((cell_far (p := ⟨gb154, _, none⟩) NB141_154.out _).trans (((cell_far (p := ⟨gb154, _, none⟩) NB141_154.out _).trans (((cell_far (p := ⟨gb154, _, none⟩) NB141_154.out _).trans (((cell_far (p := ⟨gb154, _, none⟩) NB141_154.out _).trans (hHeld.2.2.1)))))))), ((cell_far (p := ⟨gb154, _, none⟩) NB141_154.out _).trans (((cell_far (p := ⟨gb154, _, none⟩) NB141_154.out _).trans (((cell_far (p := ⟨gb154, _, none⟩) NB141_154.out _).trans (((cell_far (p := ⟨gb154, _, none⟩) NB141_154.out _).trans (hHeld.2.2.2.1)))))))), ((cell_far (p := ⟨gb154, _, none⟩) NB142_154.out _).trans (((cell_far (p := ⟨gb154, _, none⟩) NB142_154.out _).trans (((cell_far (p := ⟨gb154, _, none⟩) NB142_154.out _).trans (((cell_far (p := ⟨gb154, _, none⟩) NB142_154.out _).trans (hHeld.2.2.2.2.1)))))))), ((cell_far (p := ⟨gb154, _, none⟩) NB142_154.out _).trans (((cell_far (p := ⟨gb154, _, none⟩) NB142_154.out _).trans (((cell_far (p := ⟨gb154, _, none⟩) NB142_154.out _).trans (((cell_far (p := ⟨gb154, _, none⟩) NB142_154.out _).trans (hHeld.2.2.2.2.2.1)))))))), ((cell_far (p := ⟨gb154, _, none⟩) NB142_154.out _).trans (((cell_far (p := ⟨gb154, _, none⟩) NB142_154.out _).trans (((cell_far (p := ⟨gb154, _, none⟩) NB142_154.out _).trans (((cell_far (p := ⟨gb154, _, none⟩) NB142_154.out _).trans (hHeld.2.2.2.2.2.2.1)))))))), ((cell_far (p := ⟨gb154, _, none⟩) NB142_154.out _).trans (((cell_far (p := ⟨gb154, _, none⟩) NB142_154.out _).trans (((cell_far (p := ⟨gb154, _, none⟩) NB142_154.out _).trans (((cell_far (p := ⟨gb154, _, none⟩) NB142_154.out _).trans (hHeld.2.2.2.2.2.2.2))))))))⟩ (fun hHeld => ?_)
    clear hK K
    refine done_ (done_of HT_.out (by kernel_rfl)) ?_
    have hnb33 := NB153_141.out
    have hnc33 := NB141_153.out
    have hnb34 := NB153_142.out
    have hnc34 := NB142_153.out
    have hnb35 := NB153_154.out
    have hnc35 := NB154_153.out
    have hcz36_0 : w24.cell? ⟨gb153, 0, none⟩ = some (.int .u64 0) := (blk_cell BK153.out 0).trans rfl
    have hcz36_1 : w24.cell? ⟨gb153, 1, none⟩ = some (.int .u32 0) := (blk_cell BK153.out 1).trans rfl
    have hcz36_2 : w24.cell? ⟨gb153, 2, none⟩ = some (.int .u64 0) := (blk_cell BK153.out 2).trans rfl
    have hcz36_3 : w24.cell? ⟨gb153, 3, none⟩ = some (.int .u16 0) := (blk_cell BK153.out 3).trans rfl
    have hfz36_0 := blk_frozen BK153.out 0
    have hfz36_1 := blk_frozen BK153.out 1
    have hfz36_2 := blk_frozen BK153.out 2
    have hfz36_3 := blk_frozen BK153.out 3
    have hnb37 := NB154_141.out
    have hnc37 := NB141_154.out
    have hnb38 := NB154_142.out
    have hnc38 := NB142_154.out
    have hcz39_0 : w24.cell? ⟨gb154, 0, none⟩ = some (.int .u64 0) := (blk_cell BK154.out 0).trans rfl
    have hcz39_1 : w24.cell? ⟨gb154, 1, none⟩ = some (.int .u32 0) := (blk_cell BK154.out 1).trans rfl
    have hcz39_2 : w24.cell? ⟨gb154, 2, none⟩ = some (.int .u64 0) := (blk_cell BK154.out 2).trans rfl
    have hcz39_3 : w24.cell? ⟨gb154, 3, none⟩ = some (.int .u16 0) := (blk_cell BK154.out 3).trans rfl
    have hfz39_0 := blk_frozen BK154.out 0
    have hfz39_1 := blk_frozen BK154.out 1
    have hfz39_2 := blk_frozen BK154.out 2
    have hfz39_3 := blk_frozen BK154.out 3
    go_upto_if 26 with (first | ((with_reducible refine gate_callee (f := 20) rfl ?_); refine goesL_ (some 26) rfl rfl Try.func20 (by kernel_rfl) rfl #[.agg #[.int .u64 t145, .int .u32 t146, .int .u64 t147, .int .u16 t148], .agg #[.int .u64 t149, .int .u32 t150, .int .u64 t151, .int .u16 t152]] rfl (by (try simp only [List.map_toArray, List.map_cons, List.map_nil]); first | done | rfl | (simp only [List.length_drop, List.length_take]; rfl)) ?_; (with_reducible refine (treelineref10_Less.calls t145 t146 t147 t148 t149 t150 t151 t152 t155 _ A10.out).mono ?_); rintro e w40 ⟨rfl, hb⟩; refine ⟨_, rfl, ?_⟩; have n0_ := Aside0.mk (blk_below (g := gb141) (o := .cells #[.int .u64 a0_0, .int .u32 a0_1, .int .u64 a0_2, .int .u16 a0_3] 31 (0, 0)) (by (with_reducible repeat (first | refine blk_drewN ?_ _ | refine blk_drew ?_ | refine blk_alloc ?_ _)); refine blk_far ?_ NB141_154.out _; (with_reducible repeat (first | refine blk_drewN ?_ _ | refine blk_drew ?_ | refine blk_alloc ?_ _)); refine blk_far ?_ NB141_154.out _; (with_reducible repeat (first | refine blk_drewN ?_ _ | refine blk_drew ?_ | refine blk_alloc ?_ _)); refine blk_far ?_ NB141_154.out _; (with_reducible repeat (first | refine blk_drewN ?_ _ | refine blk_drew ?_ | refine blk_alloc ?_ _)); refine blk_far ?_ NB141_154.out _; (with_reducible repeat (first | refine blk_drewN ?_ _ | refine blk_drew ?_ | refine blk_alloc ?_ _)); refine blk_far ?_ NB141_153.out _; (with_reducible repeat (first | refine blk_drewN ?_ _ | refine blk_drew ?_ | refine blk_alloc ?_ _)); refine blk_far ?_ NB141_153.out _; (with_reducible repeat (first | refine blk_drewN ?_ _ | refine blk_drew ?_ | refine blk_alloc ?_ _)); refine blk_far ?_ NB141_153.out _; (with_reducible repeat (first | refine blk_drewN ?_ _ | refine blk_drew ?_ | refine blk_alloc ?_ _)); refine blk_far ?_ NB141_153.out _; (with_reducible repeat (first | refine blk_drewN ?_ _ | refine blk_drew ?_ | refine blk_alloc ?_ _)); exact BK141.out) hb); have n1_ := Aside0.mk (blk_below (g := gb142) (o := .cells #[.int .u64 a1_0, .int .u32 a1_1, .int .u64 a1_2, .int .u16 a1_3] 31 (0, 0)) (by (with_reducible repeat (first | refine blk_drewN ?_ _ | refine blk_drew ?_ | refine blk_alloc ?_ _)); refine blk_far ?_ NB142_154.out _; (with_reducible repeat (first | refine blk_drewN ?_ _ | refine blk_drew ?_ | refine blk_alloc ?_ _)); refine blk_far ?_ NB142_154.out _; (with_reducible repeat (first | refine blk_drewN ?_ _ | refine blk_drew ?_ | refine blk_alloc ?_ _)); refine blk_far ?_ NB142_154.out _; (with_reducible repeat (first | refine blk_drewN ?_ _ | refine blk_drew ?_ | refine blk_alloc ?_ _)); refine blk_far ?_ NB142_154.out _; (with_reducible repeat (first | refine blk_drewN ?_ _ | refine blk_drew ?_ | refine blk_alloc ?_ _)); refine blk_far ?_ NB142_153.out _; (with_reducible repeat (first | refine blk_drewN ?_ _ | refine blk_drew ?_ | refine blk_alloc ?_ _)); refine blk_far ?_ NB142_153.out _; (with_reducible repeat (first | refine blk_drewN ?_ _ | refine blk_drew ?_ | refine blk_alloc ?_ _)); refine blk_far ?_ NB142_153.out _; (with_reducible repeat (first | refine blk_drewN ?_ _ | refine blk_drew ?_ | refine blk_alloc ?_ _)); refine blk_far ?_ NB142_153.out _; (with_reducible repeat (first | refine blk_drewN ?_ _ | refine blk_drew ?_ | refine blk_alloc ?_ _)); exact BK142.out) hb); have n2_ := Aside0.mk (blk_below (g := gb153) (o := .cells #[.int .u64 t145, .int .u32 t146, .int .u64 t147, .int .u16 t148] 43 (0, 0)) (by (with_reducible repeat (first | refine blk_drewN ?_ _ | refine blk_drew ?_ | refine blk_alloc ?_ _)); refine blk_far ?_ NB153_154.out _; (with_reducible repeat (first | refine blk_drewN ?_ _ | refine blk_drew ?_ | refine blk_alloc ?_ _)); refine blk_far ?_ NB153_154.out _; (with_reducible repeat (first | refine blk_drewN ?_ _ | refine blk_drew ?_ | refine blk_alloc ?_ _)); refine blk_far ?_ NB153_154.out _; (with_reducible repeat (first | refine blk_drewN ?_ _ | refine blk_drew ?_ | refine blk_alloc ?_ _)); refine blk_far ?_ NB153_154.out _; (with_reducible repeat (first | refine blk_drewN ?_ _ | refine blk_drew ?_ | refine blk_alloc ?_ _)); refine blk_put (cs := #[.int .u64 t145, .int .u32 t146, .int .u64 t147, .int .u16 0]) ?_ 3 _ rfl; (with_reducible repeat (first | refine blk_drewN ?_ _ | refine blk_drew ?_ | refine blk_alloc ?_ _)); refine blk_put (cs := #[.int .u64 t145, .int .u32 t146, .int .u64 0, .int .u16 0]) ?_ 2 _ rfl; (with_reducible repeat (first | refine blk_drewN ?_ _ | refine blk_drew ?_ | refine blk_alloc ?_ _)); refine blk_put (cs := #[.int .u64 t145, .int .u32 0, .int .u64 0, .int .u16 0]) ?_ 1 _ rfl; (with_reducible repeat (first | refine blk_drewN ?_ _ | refine blk_drew ?_ | refine blk_alloc ?_ _)); refine blk_put (cs := #[.int .u64 0, .int .u32 0, .int .u64 0, .int .u16 0]) ?_ 0 _ rfl; (with_reducible repeat (first | refine blk_drewN ?_ _ | refine blk_drew ?_ | refine blk_alloc ?_ _)); exact BK153.out) hb); have n3_ := Aside0.mk (blk_below (g := gb154) (o := .cells #[.int .u64 t149, .int .u32 t150, .int .u64 t151, .int .u16 t152] 43 (0, 0)) (by (with_reducible repeat (first | refine blk_drewN ?_ _ | refine blk_drew ?_ | refine blk_alloc ?_ _)); refine blk_put (cs := #[.int .u64 t149, .int .u32 t150, .int .u64 t151, .int .u16 0]) ?_ 3 _ rfl; (with_reducible repeat (first | refine blk_drewN ?_ _ | refine blk_drew ?_ | refine blk_alloc ?_ _)); refine blk_put (cs := #[.int .u64 t149, .int .u32 t150, .int .u64 0, .int .u16 0]) ?_ 2 _ rfl; (with_reducible repeat (first | refine blk_drewN ?_ _ | refine blk_drew ?_ | refine blk_alloc ?_ _)); refine blk_put (cs := #[.int .u64 t149, .int .u32 0, .int .u64 0, .int .u16 0]) ?_ 1 _ rfl; (with_reducible repeat (first | refine blk_drewN ?_ _ | refine blk_drew ?_ | refine blk_alloc ?_ _)); refine blk_put (cs := #[.int .u64 0, .int .u32 0, .int .u64 0, .int .u16 0]) ?_ 0 _ rfl; (with_reducible repeat (first | refine blk_drewN ?_ _ | refine blk_drew ?_ | refine blk_alloc ?_ _)); refine blk_far ?_ NB154_153.out _; (with_reducible repeat (first | refine blk_drewN ?_ _ | refine blk_drew ?_ | refine blk_alloc ?_ _)); refine blk_far ?_ NB154_153.out _; (with_reducible repeat (first | refine blk_drewN ?_ _ | refine blk_drew ?_ | refine blk_alloc ?_ _)); refine blk_far ?_ NB154_153.out _; (with_reducible repeat (first | refine blk_drewN ?_ _ | refine blk_drew ?_ | refine blk_alloc ?_ _)); refine blk_far ?_ NB154_153.out _; (with_reducible repeat (first | refine blk_drewN ?_ _ | refine blk_drew ?_ | refine blk_alloc ?_ _)); exact BK154.out) hb); have n4_ := Aside0.mk (below_step (by repeat (first | (with_reducible first | exact HB.out | apply below_alloc | apply pw_below_drewN | apply below_drew1 | refine below_set ?_ GE141.out | refine below_set ?_ GE142.out | refine below_set ?_ GE153.out | refine below_set ?_ GE154.out) | exact HB.out)) hb); clear BK141; clear BK142; clear BK153; clear BK154; clear HB; have BK141 := n0_; have BK142 := n1_; have BK153 := n2_; have BK154 := n3_; have HB := n4_; clear n0_ n1_ n2_ n3_ n4_; (try clear hb); (try clear hb2); (try clear hk); (try clear hi)))
    (try simp only [Act.put, List.setIfInBounds_toArray, List.set_cons_zero, List.set_cons_succ])
    go_cut [12] (fun v12 wc => ∃ (kq : Nat) (x12_10 : Int), v12 = .int .i64 x12_10 ∧ Aside0 (treelinelaw10_RankPlays.j0 kq a2 a3 t144 x12_10 a0_0 a0_1 a0_2 a0_3 a1_0 a1_1 a1_2 a1_3 t145 t146 t147 t148 t149 t150 t151 t152 = some r) ∧ Aside0 (kq ≤ k) ∧ Aside0 (wc.heap[gb141]? = some (.cells #[.int .u64 a0_0, .int .u32 a0_1, .int .u64 a0_2, .int .u16 a0_3] 31 (0, 0))) ∧ Aside0 (wc.heap[gb142]? = some (.cells #[.int .u64 a1_0, .int .u32 a1_1, .int .u64 a1_2, .int .u16 a1_3] 31 (0, 0))) ∧ Aside0 (wc.heap[gb153]? = some (.cells #[.int .u64 t145, .int .u32 t146, .int .u64 t147, .int .u16 t148] 43 (0, 0))) ∧ Aside0 (wc.heap[gb154]? = some (.cells #[.int .u64 t149, .int .u32 t150, .int .u64 t151, .int .u16 t152] 43 (0, 0))) ∧ Aside0 (Below w.heap.size w wc))
    case first =>
      have H := HC11.out
      clear HC11
      by_cases c41 : t155 = true
      · subst c41
        have H1 : (treelinelaw10_RankPlays.j0 k a2 a3 t144 (-1) a0_0 a0_1 a0_2 a0_3 a1_0 a1_1 a1_2 a1_3 t145 t146 t147 t148 t149 t150 t151 t152) = some r := by rw [if_pos rfl] at H; exact H
        clear H
        have H := H1
        clear H1
        have H' := Aside0.mk H
        clear H
        go_wp2
        go_meet
        case rel => exact ⟨_, ((-1)), (by first | rfl | (simp; done) | (simp [*]; done)), H', ⟨by first | omega | exact Nat.le_refl _⟩, ⟨by (with_reducible repeat (first | refine blk_drewN ?_ _ | refine blk_drew ?_ | refine blk_alloc ?_ _)); exact BK141.out⟩, ⟨by (with_reducible repeat (first | refine blk_drewN ?_ _ | refine blk_drew ?_ | refine blk_alloc ?_ _)); exact BK142.out⟩, ⟨by (with_reducible repeat (first | refine blk_drewN ?_ _ | refine blk_drew ?_ | refine blk_alloc ?_ _)); exact BK153.out⟩, ⟨by (with_reducible repeat (first | refine blk_drewN ?_ _ | refine blk_drew ?_ | refine blk_alloc ?_ _)); exact BK154.out⟩, ⟨by repeat (first | (with_reducible first | exact HB.out | apply below_alloc | apply pw_below_drewN | apply below_drew1 | refine below_set ?_ GE141.out | refine below_set ?_ GE142.out | refine below_set ?_ GE153.out | refine below_set ?_ GE154.out) | exact HB.out)⟩⟩
      · replace c41 := Bool.eq_false_iff.mpr c41
        subst c41
        have H1 : (treelinelaw10_RankPlays.j0 k a2 a3 t144 0 a0_0 a0_1 a0_2 a0_3 a1_0 a1_1 a1_2 a1_3 t145 t146 t147 t148 t149 t150 t151 t152) = some r := by rw [if_neg (show ¬ (false = true) by decide)] at H; exact H
        clear H
        have H := H1
        clear H1
        have H' := Aside0.mk H
        clear H
        go_wp2
        go_meet
        case rel => exact ⟨_, (0), (by first | rfl | (simp; done) | (simp [*]; done)), H', ⟨by first | omega | exact Nat.le_refl _⟩, ⟨by (with_reducible repeat (first | refine blk_drewN ?_ _ | refine blk_drew ?_ | refine blk_alloc ?_ _)); exact BK141.out⟩, ⟨by (with_reducible repeat (first | refine blk_drewN ?_ _ | refine blk_drew ?_ | refine blk_alloc ?_ _)); exact BK142.out⟩, ⟨by (with_reducible repeat (first | refine blk_drewN ?_ _ | refine blk_drew ?_ | refine blk_alloc ?_ _)); exact BK153.out⟩, ⟨by (with_reducible repeat (first | refine blk_drewN ?_ _ | refine blk_drew ?_ | refine blk_alloc ?_ _)); exact BK154.out⟩, ⟨by repeat (first | (with_reducible first | exact HB.out | apply below_alloc | apply pw_below_drewN | apply below_drew1 | refine below_set ?_ GE141.out | refine below_set ?_ GE142.out | refine below_set ?_ GE153.out | refine below_set ?_ GE154.out) | exact HB.out)⟩⟩
    case rest =>
      clear HC11
      try clear c1
      try clear c2
      try clear p2
      try clear c3
      try clear c4
      try clear c19
      try clear c20
      try clear c33
      try clear c34
      try clear c35
      try clear c37
      try clear c38
      try clear c41
      try clear hcz36_0
      try clear hcz36_1
      try clear hcz36_2
      try clear hcz36_3
      try clear hcz39_0
      try clear hcz39_1
      try clear hcz39_2
      try clear hcz39_3
      try clear hfz36_0
      try clear hfz36_1
      try clear hfz36_2
      try clear hfz36_3
      try clear hfz39_0
      try clear hfz39_1
      try clear hfz39_2
      try clear hfz39_3
      obtain ⟨kq, x12_10, rfl, HA, HJ10, BK141, BK142, BK153, BK154, HB⟩ := hcut
      cases kq with
      | zero => exact absurd HA.out (by simp [treelinelaw10_RankPlays.j0])
      | succ kj10 =>
        have H := HA.out
        clear HA
        simp only [treelinelaw10_RankPlays.j0] at H
        replace H := Option.bind_eq_some_iff.mp H
        obtain ⟨t156, A420, H⟩ := H
        replace H : (if t156 = true then (treelinelaw10_RankPlays.j1 kj10 a2 a3 t144 1 a0_0 a0_1 a0_2 a0_3 a1_0 a1_1 a1_2 a1_3 t145 t146 t147 t148 t149 t150 t151 t152) else (treelinelaw10_RankPlays.j1 kj10 a2 a3 t144 x12_10 a0_0 a0_1 a0_2 a0_3 a1_0 a1_1 a1_2 a1_3 t145 t146 t147 t148 t149 t150 t151 t152)) = some r := H
        have A42 := Aside0.mk A420
        clear A420
        have HC43 := Aside0.mk H
        clear H
        have hnb44 := NB154_141.out
        have hnc44 := NB141_154.out
        have hnb45 := NB154_142.out
        have hnc45 := NB142_154.out
        have hnb46 := NB154_153.out
        have hnc46 := NB153_154.out
        have hcz47_0 : wc.cell? ⟨gb154, 0, none⟩ = some (.int .u64 t149) := (blk_cell BK154.out 0).trans rfl
        have hcz47_1 : wc.cell? ⟨gb154, 1, none⟩ = some (.int .u32 t150) := (blk_cell BK154.out 1).trans rfl
        have hcz47_2 : wc.cell? ⟨gb154, 2, none⟩ = some (.int .u64 t151) := (blk_cell BK154.out 2).trans rfl
        have hcz47_3 : wc.cell? ⟨gb154, 3, none⟩ = some (.int .u16 t152) := (blk_cell BK154.out 3).trans rfl
        have hfz47_0 := blk_frozen BK154.out 0
        have hfz47_1 := blk_frozen BK154.out 1
        have hfz47_2 := blk_frozen BK154.out 2
        have hfz47_3 := blk_frozen BK154.out 3
        have hnb48 := NB153_141.out
        have hnc48 := NB141_153.out
        have hnb49 := NB153_142.out
        have hnc49 := NB142_153.out
        have hcz50_0 : wc.cell? ⟨gb153, 0, none⟩ = some (.int .u64 t145) := (blk_cell BK153.out 0).trans rfl
        have hcz50_1 : wc.cell? ⟨gb153, 1, none⟩ = some (.int .u32 t146) := (blk_cell BK153.out 1).trans rfl
        have hcz50_2 : wc.cell? ⟨gb153, 2, none⟩ = some (.int .u64 t147) := (blk_cell BK153.out 2).trans rfl
        have hcz50_3 : wc.cell? ⟨gb153, 3, none⟩ = some (.int .u16 t148) := (blk_cell BK153.out 3).trans rfl
        have hfz50_0 := blk_frozen BK153.out 0
        have hfz50_1 := blk_frozen BK153.out 1
        have hfz50_2 := blk_frozen BK153.out 2
        have hfz50_3 := blk_frozen BK153.out 3
        go_upto_if 29 with (first | ((with_reducible refine gate_callee (f := 20) rfl ?_); refine goesL_ (some 29) rfl rfl Try.func20 (by kernel_rfl) rfl #[.agg #[.int .u64 t149, .int .u32 t150, .int .u64 t151, .int .u16 t152], .agg #[.int .u64 t145, .int .u32 t146, .int .u64 t147, .int .u16 t148]] rfl (by (try simp only [List.map_toArray, List.map_cons, List.map_nil]); first | done | rfl | (simp only [List.length_drop, List.length_take]; rfl)) ?_; (with_reducible refine (treelineref10_Less.calls t149 t150 t151 t152 t145 t146 t147 t148 t156 _ A42.out).mono ?_); rintro e w51 ⟨rfl, hb⟩; refine ⟨_, rfl, ?_⟩; have n0_ := Aside0.mk (blk_below (g := gb141) (o := .cells #[.int .u64 a0_0, .int .u32 a0_1, .int .u64 a0_2, .int .u16 a0_3] 31 (0, 0)) (by (with_reducible repeat (first | refine blk_drewN ?_ _ | refine blk_drew ?_ | refine blk_alloc ?_ _)); exact BK141.out) hb); have n1_ := Aside0.mk (blk_below (g := gb142) (o := .cells #[.int .u64 a1_0, .int .u32 a1_1, .int .u64 a1_2, .int .u16 a1_3] 31 (0, 0)) (by (with_reducible repeat (first | refine blk_drewN ?_ _ | refine blk_drew ?_ | refine blk_alloc ?_ _)); exact BK142.out) hb); have n2_ := Aside0.mk (blk_below (g := gb153) (o := .cells #[.int .u64 t145, .int .u32 t146, .int .u64 t147, .int .u16 t148] 43 (0, 0)) (by (with_reducible repeat (first | refine blk_drewN ?_ _ | refine blk_drew ?_ | refine blk_alloc ?_ _)); exact BK153.out) hb); have n3_ := Aside0.mk (blk_below (g := gb154) (o := .cells #[.int .u64 t149, .int .u32 t150, .int .u64 t151, .int .u16 t152] 43 (0, 0)) (by (with_reducible repeat (first | refine blk_drewN ?_ _ | refine blk_drew ?_ | refine blk_alloc ?_ _)); exact BK154.out) hb); have n4_ := Aside0.mk (below_step (by repeat (first | (with_reducible first | exact HB.out | apply below_alloc | apply pw_below_drewN | apply below_drew1 | refine below_set ?_ GE141.out | refine below_set ?_ GE142.out | refine below_set ?_ GE153.out | refine below_set ?_ GE154.out) | exact HB.out)) hb); clear BK141; clear BK142; clear BK153; clear BK154; clear HB; have BK141 := n0_; have BK142 := n1_; have BK153 := n2_; have BK154 := n3_; have HB := n4_; clear n0_ n1_ n2_ n3_ n4_; (try clear hb); (try clear hb2); (try clear hk); (try clear hi)))
        (try simp only [Act.put, List.setIfInBounds_toArray, List.set_cons_zero, List.set_cons_succ])
        go_cut [12] (fun v12 wc => ∃ (kq : Nat) (x12_42 : Int), v12 = .int .i64 x12_42 ∧ Aside0 (treelinelaw10_RankPlays.j1 kq a2 a3 t144 x12_42 a0_0 a0_1 a0_2 a0_3 a1_0 a1_1 a1_2 a1_3 t145 t146 t147 t148 t149 t150 t151 t152 = some r) ∧ Aside0 (kq ≤ kj10) ∧ Aside0 (wc.heap[gb141]? = some (.cells #[.int .u64 a0_0, .int .u32 a0_1, .int .u64 a0_2, .int .u16 a0_3] 31 (0, 0))) ∧ Aside0 (wc.heap[gb142]? = some (.cells #[.int .u64 a1_0, .int .u32 a1_1, .int .u64 a1_2, .int .u16 a1_3] 31 (0, 0))) ∧ Aside0 (wc.heap[gb153]? = some (.cells #[.int .u64 t145, .int .u32 t146, .int .u64 t147, .int .u16 t148] 43 (0, 0))) ∧ Aside0 (wc.heap[gb154]? = some (.cells #[.int .u64 t149, .int .u32 t150, .int .u64 t151, .int .u16 t152] 43 (0, 0))) ∧ Aside0 (Below w.heap.size w wc))
        case first =>
          have H := HC43.out
          clear HC43
          by_cases c52 : t156 = true
          · subst c52
            have H1 : (treelinelaw10_RankPlays.j1 kj10 a2 a3 t144 1 a0_0 a0_1 a0_2 a0_3 a1_0 a1_1 a1_2 a1_3 t145 t146 t147 t148 t149 t150 t151 t152) = some r := by rw [if_pos rfl] at H; exact H
            clear H
            have H := H1
            clear H1
            have H' := Aside0.mk H
            clear H
            go_wp2
            go_meet
            case rel => exact ⟨_, (1), (by first | rfl | (simp; done) | (simp [*]; done)), H', ⟨by have := HJ10.out; first | omega | exact Nat.le_refl _⟩, ⟨by (with_reducible repeat (first | refine blk_drewN ?_ _ | refine blk_drew ?_ | refine blk_alloc ?_ _)); exact BK141.out⟩, ⟨by (with_reducible repeat (first | refine blk_drewN ?_ _ | refine blk_drew ?_ | refine blk_alloc ?_ _)); exact BK142.out⟩, ⟨by (with_reducible repeat (first | refine blk_drewN ?_ _ | refine blk_drew ?_ | refine blk_alloc ?_ _)); exact BK153.out⟩, ⟨by (with_reducible repeat (first | refine blk_drewN ?_ _ | refine blk_drew ?_ | refine blk_alloc ?_ _)); exact BK154.out⟩, ⟨by repeat (first | (with_reducible first | exact HB.out | apply below_alloc | apply pw_below_drewN | apply below_drew1 | refine below_set ?_ GE141.out | refine below_set ?_ GE142.out | refine below_set ?_ GE153.out | refine below_set ?_ GE154.out) | exact HB.out)⟩⟩
          · replace c52 := Bool.eq_false_iff.mpr c52
            subst c52
            have H1 : (treelinelaw10_RankPlays.j1 kj10 a2 a3 t144 x12_10 a0_0 a0_1 a0_2 a0_3 a1_0 a1_1 a1_2 a1_3 t145 t146 t147 t148 t149 t150 t151 t152) = some r := by rw [if_neg (show ¬ (false = true) by decide)] at H; exact H
            clear H
            have H := H1
            clear H1
            have H' := Aside0.mk H
            clear H
            go_wp2
            go_meet
            case rel => exact ⟨_, (x12_10), (by first | rfl | (simp; done) | (simp [*]; done)), H', ⟨by have := HJ10.out; first | omega | exact Nat.le_refl _⟩, ⟨by (with_reducible repeat (first | refine blk_drewN ?_ _ | refine blk_drew ?_ | refine blk_alloc ?_ _)); exact BK141.out⟩, ⟨by (with_reducible repeat (first | refine blk_drewN ?_ _ | refine blk_drew ?_ | refine blk_alloc ?_ _)); exact BK142.out⟩, ⟨by (with_reducible repeat (first | refine blk_drewN ?_ _ | refine blk_drew ?_ | refine blk_alloc ?_ _)); exact BK153.out⟩, ⟨by (with_reducible repeat (first | refine blk_drewN ?_ _ | refine blk_drew ?_ | refine blk_alloc ?_ _)); exact BK154.out⟩, ⟨by repeat (first | (with_reducible first | exact HB.out | apply below_alloc | apply pw_below_drewN | apply below_drew1 | refine below_set ?_ GE141.out | refine below_set ?_ GE142.out | refine below_set ?_ GE153.out | refine below_set ?_ GE154.out) | exact HB.out)⟩⟩
        case rest =>
          clear HC43
          try clear c1
          try clear c2
          try clear p2
          try clear c3
          try clear c4
          try clear c5
          try clear c19
          try clear c20
          try clear c33
          try clear c34
          try clear c35
          try clear c37
          try clear c38
          try clear c41
          try clear c44
          try clear c45
          try clear c46
          try clear c48
          try clear c49
          try clear c52
          try clear hcz36_0
          try clear hcz36_1
          try clear hcz36_2
          try clear hcz36_3
          try clear hcz39_0
          try clear hcz39_1
          try clear hcz39_2
          try clear hcz39_3
          try clear hcz47_0
          try clear hcz47_1
          try clear hcz47_2
          try clear hcz47_3
          try clear hcz50_0
          try clear hcz50_1
          try clear hcz50_2
          try clear hcz50_3
          try clear hfz36_0
          try clear hfz36_1
          try clear hfz36_2
          try clear hfz36_3
          try clear hfz39_0
          try clear hfz39_1
          try clear hfz39_2
          try clear hfz39_3
          try clear hfz47_0
          try clear hfz47_1
          try clear hfz47_2
          try clear hfz47_3
          try clear hfz50_0
          try clear hfz50_1
          try clear hfz50_2
          try clear hfz50_3
          try clear p2
          obtain ⟨kq, x12_42, rfl, HA, HJ42, BK141, BK142, BK153, BK154, HB⟩ := hcut
          cases kq with
          | zero => exact absurd HA.out (by simp [treelinelaw10_RankPlays.j1])
          | succ kj42 =>
            have H := HA.out
            clear HA
            simp only [treelinelaw10_RankPlays.j1] at H
            replace H := Option.bind_eq_some_iff.mp H
            obtain ⟨⟨t157, t158, t159, t160⟩, A530, H⟩ := H
            replace H : ((treelineref10_Far.f a0_1 a3).bind fun t163 => (if t144 = x12_42 then ((rank_Keeps.f kj42 a0_0 a0_1 a0_2 a0_3 a1_0 a1_1 a1_2 a1_3).bind fun t164 => (if (t164 == (decide (x12_42 ≤ 0))) = true then ((rank_Far.f a0_1 a1_1).bind fun t165 => ((treelineref10_Far.f a0_1 a1_1).bind fun t166 => (if t165 = t166 then (if (t157 == a0_0 && (t158 == t163 && (t159 == a0_2 && (t160 == a0_3)))) = true then ((rank_Supersedes.f kj42 a0_0 a0_1 a0_2 a0_3 a1_0 a1_1 a1_2 a1_3 a2).bind fun t167 => ((treelineref10_Supersedes.f kj42 t145 t146 t147 t148 t149 t150 t151 t152 a2).bind fun t168 => (some (t167 == t168)))) else (some false)) else (some false)))) else (some false))) else (some false))) = some r := H
            have A53 := Aside0.mk A530
            clear A530
            replace H := Option.bind_eq_some_iff.mp H
            obtain ⟨t163, A540, H⟩ := H
            replace H : (if t144 = x12_42 then ((rank_Keeps.f kj42 a0_0 a0_1 a0_2 a0_3 a1_0 a1_1 a1_2 a1_3).bind fun t164 => (if (t164 == (decide (x12_42 ≤ 0))) = true then ((rank_Far.f a0_1 a1_1).bind fun t165 => ((treelineref10_Far.f a0_1 a1_1).bind fun t166 => (if t165 = t166 then (if (t157 == a0_0 && (t158 == t163 && (t159 == a0_2 && (t160 == a0_3)))) = true then ((rank_Supersedes.f kj42 a0_0 a0_1 a0_2 a0_3 a1_0 a1_1 a1_2 a1_3 a2).bind fun t167 => ((treelineref10_Supersedes.f kj42 t145 t146 t147 t148 t149 t150 t151 t152 a2).bind fun t168 => (some (t167 == t168)))) else (some false)) else (some false)))) else (some false))) else (some false)) = some r := H
            have A54 := Aside0.mk A540
            clear A540
            by_cases c55 : t144 = x12_42
            · rw [if_pos c55] at H
              have c55b0 : (t144 == x12_42) = true := beq_iff_eq.mpr c55
              have c55b1 : (t144 != x12_42) = false := bne_eq_false_iff_eq.mpr c55
              clear c55
              replace H := Option.bind_eq_some_iff.mp H
              obtain ⟨t164, A560, H⟩ := H
              replace H : (if (t164 == (decide (x12_42 ≤ 0))) = true then ((rank_Far.f a0_1 a1_1).bind fun t165 => ((treelineref10_Far.f a0_1 a1_1).bind fun t166 => (if t165 = t166 then (if (t157 == a0_0 && (t158 == t163 && (t159 == a0_2 && (t160 == a0_3)))) = true then ((rank_Supersedes.f kj42 a0_0 a0_1 a0_2 a0_3 a1_0 a1_1 a1_2 a1_3 a2).bind fun t167 => ((treelineref10_Supersedes.f kj42 t145 t146 t147 t148 t149 t150 t151 t152 a2).bind fun t168 => (some (t167 == t168)))) else (some false)) else (some false)))) else (some false)) = some r := H
              have A56 := Aside0.mk A560
              clear A560
              by_cases c57 : (t164 == (decide (x12_42 ≤ 0))) = true
              · rw [if_pos c57] at H
                have c57b0 : (t164 == (decide (x12_42 ≤ 0))) = true := c57
                (try (have c57b1 : decide (t164 = (decide (x12_42 ≤ 0))) = true := by simpa using c57))
                (try (have c57b2 : (t164 == (decide (x12_42 ≤ 0))) = true := by simpa using c57))
                clear c57
                replace H := Option.bind_eq_some_iff.mp H
                obtain ⟨t165, A580, H⟩ := H
                replace H : ((treelineref10_Far.f a0_1 a1_1).bind fun t166 => (if t165 = t166 then (if (t157 == a0_0 && (t158 == t163 && (t159 == a0_2 && (t160 == a0_3)))) = true then ((rank_Supersedes.f kj42 a0_0 a0_1 a0_2 a0_3 a1_0 a1_1 a1_2 a1_3 a2).bind fun t167 => ((treelineref10_Supersedes.f kj42 t145 t146 t147 t148 t149 t150 t151 t152 a2).bind fun t168 => (some (t167 == t168)))) else (some false)) else (some false))) = some r := H
                have A58 := Aside0.mk A580
                clear A580
                replace H := Option.bind_eq_some_iff.mp H
                obtain ⟨t166, A590, H⟩ := H
                replace H : (if t165 = t166 then (if (t157 == a0_0 && (t158 == t163 && (t159 == a0_2 && (t160 == a0_3)))) = true then ((rank_Supersedes.f kj42 a0_0 a0_1 a0_2 a0_3 a1_0 a1_1 a1_2 a1_3 a2).bind fun t167 => ((treelineref10_Supersedes.f kj42 t145 t146 t147 t148 t149 t150 t151 t152 a2).bind fun t168 => (some (t167 == t168)))) else (some false)) else (some false)) = some r := H
                have A59 := Aside0.mk A590
                clear A590
                by_cases c60 : t165 = t166
                · rw [if_pos c60] at H
                  have c60b0 : (t165 == t166) = true := beq_iff_eq.mpr c60
                  have c60b1 : (t165 != t166) = false := bne_eq_false_iff_eq.mpr c60
                  clear c60
                  by_cases c61 : (t157 == a0_0 && (t158 == t163 && (t159 == a0_2 && (t160 == a0_3)))) = true
                  · rw [if_pos c61] at H
                    have c61b0 : (t157 == a0_0 && (t158 == t163 && (t159 == a0_2 && (t160 == a0_3)))) = true := c61
                    (try (have c61b1 : decide (t157 = a0_0 && (t158 == t163 && (t159 == a0_2 && (t160 == a0_3)))) = true := by simpa using c61))
                    (try (have c61b2 : (t157 == a0_0 && (t158 == t163 && (t159 == a0_2 && (t160 == a0_3)))) = true := by simpa using c61))
                    clear c61
                    replace H := Option.bind_eq_some_iff.mp H
                    obtain ⟨t167, A620, H⟩ := H
                    replace H : ((treelineref10_Supersedes.f kj42 t145 t146 t147 t148 t149 t150 t151 t152 a2).bind fun t168 => (some (t167 == t168))) = some r := H
                    have A62 := Aside0.mk A620
                    clear A620
                    replace H := Option.bind_eq_some_iff.mp H
                    obtain ⟨t168, A630, H⟩ := H
                    replace H : (some (t167 == t168)) = some r := H
                    have A63 := Aside0.mk A630
                    clear A630
                    obtain rfl := Option.some.inj H
                    (try exact absurd LRT.out (by decide))
                    all_goals
                      have hnb64 := NB141_142.out
                      have hnc64 := NB142_141.out
                      have hnb65 := NB141_153.out
                      have hnc65 := NB153_141.out
                      have hnb66 := NB141_154.out
                      have hnc66 := NB154_141.out
                      have hcz67_0 : wc.cell? ⟨gb141, 0, none⟩ = some (.int .u64 a0_0) := (blk_cell BK141.out 0).trans rfl
                      have hcz67_1 : wc.cell? ⟨gb141, 1, none⟩ = some (.int .u32 a0_1) := (blk_cell BK141.out 1).trans rfl
                      have hcz67_2 : wc.cell? ⟨gb141, 2, none⟩ = some (.int .u64 a0_2) := (blk_cell BK141.out 2).trans rfl
                      have hcz67_3 : wc.cell? ⟨gb141, 3, none⟩ = some (.int .u16 a0_3) := (blk_cell BK141.out 3).trans rfl
                      have hfz67_0 := blk_frozen BK141.out 0
                      have hfz67_1 := blk_frozen BK141.out 1
                      have hfz67_2 := blk_frozen BK141.out 2
                      have hfz67_3 := blk_frozen BK141.out 3
                      try go_wp2_with (first | ((with_reducible refine gate_callee (f := 14) rfl ?_); refine goesL_ (some 32) rfl rfl Try.func14 (by kernel_rfl) rfl #[.agg #[.int .u64 a0_0, .int .u32 a0_1, .int .u64 a0_2, .int .u16 a0_3], .int .u32 a3] rfl (by (try simp only [List.map_toArray, List.map_cons, List.map_nil]); first | done | rfl | (simp only [List.length_drop, List.length_take]; rfl)) ?_; (with_reducible refine (rank_Via.calls a0_0 a0_1 a0_2 a0_3 a3 t157 t158 t159 t160 _ A53.out).mono ?_); rintro e w68 ⟨rfl, hb⟩; refine ⟨_, rfl, ?_⟩; have n0_ := Aside0.mk (blk_below (g := gb141) (o := .cells #[.int .u64 a0_0, .int .u32 a0_1, .int .u64 a0_2, .int .u16 a0_3] 31 (0, 0)) (by (with_reducible repeat (first | refine blk_drewN ?_ _ | refine blk_drew ?_ | refine blk_alloc ?_ _)); exact BK141.out) hb); have n1_ := Aside0.mk (blk_below (g := gb142) (o := .cells #[.int .u64 a1_0, .int .u32 a1_1, .int .u64 a1_2, .int .u16 a1_3] 31 (0, 0)) (by (with_reducible repeat (first | refine blk_drewN ?_ _ | refine blk_drew ?_ | refine blk_alloc ?_ _)); exact BK142.out) hb); have n2_ := Aside0.mk (blk_below (g := gb153) (o := .cells #[.int .u64 t145, .int .u32 t146, .int .u64 t147, .int .u16 t148] 43 (0, 0)) (by (with_reducible repeat (first | refine blk_drewN ?_ _ | refine blk_drew ?_ | refine blk_alloc ?_ _)); exact BK153.out) hb); have n3_ := Aside0.mk (blk_below (g := gb154) (o := .cells #[.int .u64 t149, .int .u32 t150, .int .u64 t151, .int .u16 t152] 43 (0, 0)) (by (with_reducible repeat (first | refine blk_drewN ?_ _ | refine blk_drew ?_ | refine blk_alloc ?_ _)); exact BK154.out) hb); have n4_ := Aside0.mk (below_step (by repeat (first | (with_reducible first | exact HB.out | apply below_alloc | apply pw_below_drewN | apply below_drew1 | refine below_set ?_ GE141.out | refine below_set ?_ GE142.out | refine below_set ?_ GE153.out | refine below_set ?_ GE154.out) | exact HB.out)) hb); clear BK141; clear BK142; clear BK153; clear BK154; clear HB; have BK141 := n0_; have BK142 := n1_; have BK153 := n2_; have BK154 := n3_; have HB := n4_; clear n0_ n1_ n2_ n3_ n4_; (try clear hb); (try clear hb2); (try clear hk); (try clear hi)) | ((with_reducible refine gate_dst (N := 13) rfl ?_); refine box_event ?hg (N := 13) ?hd (cs := #[.int .u64 0, .int .u32 0, .int .u64 0, .int .u16 0]) (t := 31) ?hr ?_; (case hd => rfl); (case hg => rfl); (case hr => first | (go_simp; done) | (go_simp; rfl)); intro gb161 hg w69 hbox hb; have n0_ := Aside0.mk (blk_below (g := gb141) (o := .cells #[.int .u64 a0_0, .int .u32 a0_1, .int .u64 a0_2, .int .u16 a0_3] 31 (0, 0)) (by (with_reducible repeat (first | refine blk_drewN ?_ _ | refine blk_drew ?_ | refine blk_alloc ?_ _)); exact BK141.out) hb); have n1_ := Aside0.mk (blk_below (g := gb142) (o := .cells #[.int .u64 a1_0, .int .u32 a1_1, .int .u64 a1_2, .int .u16 a1_3] 31 (0, 0)) (by (with_reducible repeat (first | refine blk_drewN ?_ _ | refine blk_drew ?_ | refine blk_alloc ?_ _)); exact BK142.out) hb); have n2_ := Aside0.mk (blk_below (g := gb153) (o := .cells #[.int .u64 t145, .int .u32 t146, .int .u64 t147, .int .u16 t148] 43 (0, 0)) (by (with_reducible repeat (first | refine blk_drewN ?_ _ | refine blk_drew ?_ | refine blk_alloc ?_ _)); exact BK153.out) hb); have n3_ := Aside0.mk (blk_below (g := gb154) (o := .cells #[.int .u64 t149, .int .u32 t150, .int .u64 t151, .int .u16 t152] 43 (0, 0)) (by (with_reducible repeat (first | refine blk_drewN ?_ _ | refine blk_drew ?_ | refine blk_alloc ?_ _)); exact BK154.out) hb); have n4_ := Aside0.mk (below_step (by repeat (first | (with_reducible first | exact HB.out | apply below_alloc | apply pw_below_drewN | apply below_drew1 | refine below_set ?_ GE141.out | refine below_set ?_ GE142.out | refine below_set ?_ GE153.out | refine below_set ?_ GE154.out) | exact HB.out)) hb); have n5_ := Aside0.mk (hbox); have n6_ := Aside0.mk ((by rw [hg]; exact (below_size (by repeat (first | (with_reducible first | exact HB.out | apply below_alloc | apply pw_below_drewN | apply below_drew1 | refine below_set ?_ GE141.out | refine below_set ?_ GE142.out | refine below_set ?_ GE153.out | refine below_set ?_ GE154.out) | exact HB.out))) : w.heap.size ≤ gb161)); have n7_ := Aside0.mk ((by rw [hg]; exact (below_size (by repeat (first | (with_reducible first | exact HB.out | apply below_alloc | apply pw_below_drewN | apply below_drew1 | refine below_set ?_ GE141.out | refine below_set ?_ GE142.out | refine below_set ?_ GE153.out | refine below_set ?_ GE154.out) | exact HB.out))) : w.heap.size ≤ gb161)); have n8_ := Aside0.mk ((by rw [hg]; exact Nat.ne_of_lt (blk_lt (g := gb141) (o := .cells #[.int .u64 a0_0, .int .u32 a0_1, .int .u64 a0_2, .int .u16 a0_3] 31 (0, 0)) (by (with_reducible repeat (first | refine blk_drewN ?_ _ | refine blk_drew ?_ | refine blk_alloc ?_ _)); exact BK141.out)) : gb141 ≠ gb161)); have n9_ := Aside0.mk ((by rw [hg]; exact Nat.ne_of_gt (blk_lt (g := gb141) (o := .cells #[.int .u64 a0_0, .int .u32 a0_1, .int .u64 a0_2, .int .u16 a0_3] 31 (0, 0)) (by (with_reducible repeat (first | refine blk_drewN ?_ _ | refine blk_drew ?_ | refine blk_alloc ?_ _)); exact BK141.out)) : gb161 ≠ gb141)); have n10_ := Aside0.mk ((by rw [hg]; exact Nat.ne_of_lt (blk_lt (g := gb142) (o := .cells #[.int .u64 a1_0, .int .u32 a1_1, .int .u64 a1_2, .int .u16 a1_3] 31 (0, 0)) (by (with_reducible repeat (first | refine blk_drewN ?_ _ | refine blk_drew ?_ | refine blk_alloc ?_ _)); exact BK142.out)) : gb142 ≠ gb161)); have n11_ := Aside0.mk ((by rw [hg]; exact Nat.ne_of_gt (blk_lt (g := gb142) (o := .cells #[.int .u64 a1_0, .int .u32 a1_1, .int .u64 a1_2, .int .u16 a1_3] 31 (0, 0)) (by (with_reducible repeat (first | refine blk_drewN ?_ _ | refine blk_drew ?_ | refine blk_alloc ?_ _)); exact BK142.out)) : gb161 ≠ gb142)); have n12_ := Aside0.mk ((by rw [hg]; exact Nat.ne_of_lt (blk_lt (g := gb153) (o := .cells #[.int .u64 t145, .int .u32 t146, .int .u64 t147, .int .u16 t148] 43 (0, 0)) (by (with_reducible repeat (first | refine blk_drewN ?_ _ | refine blk_drew ?_ | refine blk_alloc ?_ _)); exact BK153.out)) : gb153 ≠ gb161)); have n13_ := Aside0.mk ((by rw [hg]; exact Nat.ne_of_gt (blk_lt (g := gb153) (o := .cells #[.int .u64 t145, .int .u32 t146, .int .u64 t147, .int .u16 t148] 43 (0, 0)) (by (with_reducible repeat (first | refine blk_drewN ?_ _ | refine blk_drew ?_ | refine blk_alloc ?_ _)); exact BK153.out)) : gb161 ≠ gb153)); have n14_ := Aside0.mk ((by rw [hg]; exact Nat.ne_of_lt (blk_lt (g := gb154) (o := .cells #[.int .u64 t149, .int .u32 t150, .int .u64 t151, .int .u16 t152] 43 (0, 0)) (by (with_reducible repeat (first | refine blk_drewN ?_ _ | refine blk_drew ?_ | refine blk_alloc ?_ _)); exact BK154.out)) : gb154 ≠ gb161)); have n15_ := Aside0.mk ((by rw [hg]; exact Nat.ne_of_gt (blk_lt (g := gb154) (o := .cells #[.int .u64 t149, .int .u32 t150, .int .u64 t151, .int .u16 t152] 43 (0, 0)) (by (with_reducible repeat (first | refine blk_drewN ?_ _ | refine blk_drew ?_ | refine blk_alloc ?_ _)); exact BK154.out)) : gb161 ≠ gb154)); clear BK141; clear BK142; clear BK153; clear BK154; clear HB; have BK141 := n0_; have BK142 := n1_; have BK153 := n2_; have BK154 := n3_; have HB := n4_; have BK161 := n5_; have GW161 := n6_; have GE161 := n7_; have NB141_161 := n8_; have NB161_141 := n9_; have NB142_161 := n10_; have NB161_142 := n11_; have NB153_161 := n12_; have NB161_153 := n13_; have NB154_161 := n14_; have NB161_154 := n15_; clear n0_ n1_ n2_ n3_ n4_ n5_ n6_ n7_ n8_ n9_ n10_ n11_ n12_ n13_ n14_ n15_; clear hb hbox hg; have hnb70 := NB161_141.out; have hnc70 := NB141_161.out; have hnb71 := NB161_142.out; have hnc71 := NB142_161.out; have hnb72 := NB161_153.out; have hnc72 := NB153_161.out; have hnb73 := NB161_154.out; have hnc73 := NB154_161.out; have hcz74_0 : w69.cell? ⟨gb161, 0, none⟩ = some (.int .u64 0) := (blk_cell BK161.out 0).trans rfl; have hcz74_1 : w69.cell? ⟨gb161, 1, none⟩ = some (.int .u32 0) := (blk_cell BK161.out 1).trans rfl; have hcz74_2 : w69.cell? ⟨gb161, 2, none⟩ = some (.int .u64 0) := (blk_cell BK161.out 2).trans rfl; have hcz74_3 : w69.cell? ⟨gb161, 3, none⟩ = some (.int .u16 0) := (blk_cell BK161.out 3).trans rfl; have hfz74_0 := blk_frozen BK161.out 0; have hfz74_1 := blk_frozen BK161.out 1; have hfz74_2 := blk_frozen BK161.out 2; have hfz74_3 := blk_frozen BK161.out 3; have hcz75_0 : w69.cell? ⟨gb141, 0, none⟩ = some (.int .u64 a0_0) := (blk_cell BK141.out 0).trans rfl; have hcz75_1 : w69.cell? ⟨gb141, 1, none⟩ = some (.int .u32 a0_1) := (blk_cell BK141.out 1).trans rfl; have hcz75_2 : w69.cell? ⟨gb141, 2, none⟩ = some (.int .u64 a0_2) := (blk_cell BK141.out 2).trans rfl; have hcz75_3 : w69.cell? ⟨gb141, 3, none⟩ = some (.int .u16 a0_3) := (blk_cell BK141.out 3).trans rfl; have hfz75_0 := blk_frozen BK141.out 0; have hfz75_1 := blk_frozen BK141.out 1; have hfz75_2 := blk_frozen BK141.out 2; have hfz75_3 := blk_frozen BK141.out 3) | ((with_reducible refine gate_dst (N := 14) rfl ?_); refine box_event ?hg (N := 14) ?hd (cs := #[.int .u64 0, .int .u32 0, .int .u64 0, .int .u16 0]) (t := 31) ?hr ?_; (case hd => rfl); (case hg => rfl); (case hr => first | (go_simp; done) | (go_simp; rfl)); intro gb162 hg w76 hbox hb; have n0_ := Aside0.mk (blk_below (g := gb141) (o := .cells #[.int .u64 a0_0, .int .u32 a0_1, .int .u64 a0_2, .int .u16 a0_3] 31 (0, 0)) (by (with_reducible repeat (first | refine blk_drewN ?_ _ | refine blk_drew ?_ | refine blk_alloc ?_ _)); refine blk_far ?_ NB141_161.out _; (with_reducible repeat (first | refine blk_drewN ?_ _ | refine blk_drew ?_ | refine blk_alloc ?_ _)); refine blk_far ?_ NB141_161.out _; (with_reducible repeat (first | refine blk_drewN ?_ _ | refine blk_drew ?_ | refine blk_alloc ?_ _)); refine blk_far ?_ NB141_161.out _; (with_reducible repeat (first | refine blk_drewN ?_ _ | refine blk_drew ?_ | refine blk_alloc ?_ _)); refine blk_far ?_ NB141_161.out _; (with_reducible repeat (first | refine blk_drewN ?_ _ | refine blk_drew ?_ | refine blk_alloc ?_ _)); exact BK141.out) hb); have n1_ := Aside0.mk (blk_below (g := gb142) (o := .cells #[.int .u64 a1_0, .int .u32 a1_1, .int .u64 a1_2, .int .u16 a1_3] 31 (0, 0)) (by (with_reducible repeat (first | refine blk_drewN ?_ _ | refine blk_drew ?_ | refine blk_alloc ?_ _)); refine blk_far ?_ NB142_161.out _; (with_reducible repeat (first | refine blk_drewN ?_ _ | refine blk_drew ?_ | refine blk_alloc ?_ _)); refine blk_far ?_ NB142_161.out _; (with_reducible repeat (first | refine blk_drewN ?_ _ | refine blk_drew ?_ | refine blk_alloc ?_ _)); refine blk_far ?_ NB142_161.out _; (with_reducible repeat (first | refine blk_drewN ?_ _ | refine blk_drew ?_ | refine blk_alloc ?_ _)); refine blk_far ?_ NB142_161.out _; (with_reducible repeat (first | refine blk_drewN ?_ _ | refine blk_drew ?_ | refine blk_alloc ?_ _)); exact BK142.out) hb); have n2_ := Aside0.mk (blk_below (g := gb153) (o := .cells #[.int .u64 t145, .int .u32 t146, .int .u64 t147, .int .u16 t148] 43 (0, 0)) (by (with_reducible repeat (first | refine blk_drewN ?_ _ | refine blk_drew ?_ | refine blk_alloc ?_ _)); refine blk_far ?_ NB153_161.out _; (with_reducible repeat (first | refine blk_drewN ?_ _ | refine blk_drew ?_ | refine blk_alloc ?_ _)); refine blk_far ?_ NB153_161.out _; (with_reducible repeat (first | refine blk_drewN ?_ _ | refine blk_drew ?_ | refine blk_alloc ?_ _)); refine blk_far ?_ NB153_161.out _; (with_reducible repeat (first | refine blk_drewN ?_ _ | refine blk_drew ?_ | refine blk_alloc ?_ _)); refine blk_far ?_ NB153_161.out _; (with_reducible repeat (first | refine blk_drewN ?_ _ | refine blk_drew ?_ | refine blk_alloc ?_ _)); exact BK153.out) hb); have n3_ := Aside0.mk (blk_below (g := gb154) (o := .cells #[.int .u64 t149, .int .u32 t150, .int .u64 t151, .int .u16 t152] 43 (0, 0)) (by (with_reducible repeat (first | refine blk_drewN ?_ _ | refine blk_drew ?_ | refine blk_alloc ?_ _)); refine blk_far ?_ NB154_161.out _; (with_reducible repeat (first | refine blk_drewN ?_ _ | refine blk_drew ?_ | refine blk_alloc ?_ _)); refine blk_far ?_ NB154_161.out _; (with_reducible repeat (first | refine blk_drewN ?_ _ | refine blk_drew ?_ | refine blk_alloc ?_ _)); refine blk_far ?_ NB154_161.out _; (with_reducible repeat (first | refine blk_drewN ?_ _ | refine blk_drew ?_ | refine blk_alloc ?_ _)); refine blk_far ?_ NB154_161.out _; (with_reducible repeat (first | refine blk_drewN ?_ _ | refine blk_drew ?_ | refine blk_alloc ?_ _)); exact BK154.out) hb); have n4_ := Aside0.mk (blk_below (g := gb161) (o := .cells #[.int .u64 t157, .int .u32 t158, .int .u64 t159, .int .u16 t160] 31 (0, 0)) (by (with_reducible repeat (first | refine blk_drewN ?_ _ | refine blk_drew ?_ | refine blk_alloc ?_ _)); refine blk_put (cs := #[.int .u64 t157, .int .u32 t158, .int .u64 t159, .int .u16 0]) ?_ 3 _ rfl; (with_reducible repeat (first | refine blk_drewN ?_ _ | refine blk_drew ?_ | refine blk_alloc ?_ _)); refine blk_put (cs := #[.int .u64 t157, .int .u32 t158, .int .u64 0, .int .u16 0]) ?_ 2 _ rfl; (with_reducible repeat (first | refine blk_drewN ?_ _ | refine blk_drew ?_ | refine blk_alloc ?_ _)); refine blk_put (cs := #[.int .u64 t157, .int .u32 0, .int .u64 0, .int .u16 0]) ?_ 1 _ rfl; (with_reducible repeat (first | refine blk_drewN ?_ _ | refine blk_drew ?_ | refine blk_alloc ?_ _)); refine blk_put (cs := #[.int .u64 0, .int .u32 0, .int .u64 0, .int .u16 0]) ?_ 0 _ rfl; (with_reducible repeat (first | refine blk_drewN ?_ _ | refine blk_drew ?_ | refine blk_alloc ?_ _)); exact BK161.out) hb); have n5_ := Aside0.mk (below_step (by repeat (first | (with_reducible first | exact HB.out | apply below_alloc | apply pw_below_drewN | apply below_drew1 | refine below_set ?_ GE141.out | refine below_set ?_ GE142.out | refine below_set ?_ GE153.out | refine below_set ?_ GE154.out | refine below_set ?_ GE161.out) | exact HB.out)) hb); have n6_ := Aside0.mk (hbox); have n7_ := Aside0.mk ((by rw [hg]; exact (below_size (by repeat (first | (with_reducible first | exact HB.out | apply below_alloc | apply pw_below_drewN | apply below_drew1 | refine below_set ?_ GE141.out | refine below_set ?_ GE142.out | refine below_set ?_ GE153.out | refine below_set ?_ GE154.out | refine below_set ?_ GE161.out) | exact HB.out))) : w.heap.size ≤ gb162)); have n8_ := Aside0.mk ((by rw [hg]; exact (below_size (by repeat (first | (with_reducible first | exact HB.out | apply below_alloc | apply pw_below_drewN | apply below_drew1 | refine below_set ?_ GE141.out | refine below_set ?_ GE142.out | refine below_set ?_ GE153.out | refine below_set ?_ GE154.out | refine below_set ?_ GE161.out) | exact HB.out))) : w.heap.size ≤ gb162)); have n9_ := Aside0.mk ((by rw [hg]; exact Nat.ne_of_lt (blk_lt (g := gb141) (o := .cells #[.int .u64 a0_0, .int .u32 a0_1, .int .u64 a0_2, .int .u16 a0_3] 31 (0, 0)) (by (with_reducible repeat (first | refine blk_drewN ?_ _ | refine blk_drew ?_ | refine blk_alloc ?_ _)); refine blk_far ?_ NB141_161.out _; (with_reducible repeat (first | refine blk_drewN ?_ _ | refine blk_drew ?_ | refine blk_alloc ?_ _)); refine blk_far ?_ NB141_161.out _; (with_reducible repeat (first | refine blk_drewN ?_ _ | refine blk_drew ?_ | refine blk_alloc ?_ _)); refine blk_far ?_ NB141_161.out _; (with_reducible repeat (first | refine blk_drewN ?_ _ | refine blk_drew ?_ | refine blk_alloc ?_ _)); refine blk_far ?_ NB141_161.out _; (with_reducible repeat (first | refine blk_drewN ?_ _ | refine blk_drew ?_ | refine blk_alloc ?_ _)); exact BK141.out)) : gb141 ≠ gb162)); have n10_ := Aside0.mk ((by rw [hg]; exact Nat.ne_of_gt (blk_lt (g := gb141) (o := .cells #[.int .u64 a0_0, .int .u32 a0_1, .int .u64 a0_2, .int .u16 a0_3] 31 (0, 0)) (by (with_reducible repeat (first | refine blk_drewN ?_ _ | refine blk_drew ?_ | refine blk_alloc ?_ _)); refine blk_far ?_ NB141_161.out _; (with_reducible repeat (first | refine blk_drewN ?_ _ | refine blk_drew ?_ | refine blk_alloc ?_ _)); refine blk_far ?_ NB141_161.out _; (with_reducible repeat (first | refine blk_drewN ?_ _ | refine blk_drew ?_ | refine blk_alloc ?_ _)); refine blk_far ?_ NB141_161.out _; (with_reducible repeat (first | refine blk_drewN ?_ _ | refine blk_drew ?_ | refine blk_alloc ?_ _)); refine blk_far ?_ NB141_161.out _; (with_reducible repeat (first | refine blk_drewN ?_ _ | refine blk_drew ?_ | refine blk_alloc ?_ _)); exact BK141.out)) : gb162 ≠ gb141)); have n11_ := Aside0.mk ((by rw [hg]; exact Nat.ne_of_lt (blk_lt (g := gb142) (o := .cells #[.int .u64 a1_0, .int .u32 a1_1, .int .u64 a1_2, .int .u16 a1_3] 31 (0, 0)) (by (with_reducible repeat (first | refine blk_drewN ?_ _ | refine blk_drew ?_ | refine blk_alloc ?_ _)); refine blk_far ?_ NB142_161.out _; (with_reducible repeat (first | refine blk_drewN ?_ _ | refine blk_drew ?_ | refine blk_alloc ?_ _)); refine blk_far ?_ NB142_161.out _; (with_reducible repeat (first | refine blk_drewN ?_ _ | refine blk_drew ?_ | refine blk_alloc ?_ _)); refine blk_far ?_ NB142_161.out _; (with_reducible repeat (first | refine blk_drewN ?_ _ | refine blk_drew ?_ | refine blk_alloc ?_ _)); refine blk_far ?_ NB142_161.out _; (with_reducible repeat (first | refine blk_drewN ?_ _ | refine blk_drew ?_ | refine blk_alloc ?_ _)); exact BK142.out)) : gb142 ≠ gb162)); have n12_ := Aside0.mk ((by rw [hg]; exact Nat.ne_of_gt (blk_lt (g := gb142) (o := .cells #[.int .u64 a1_0, .int .u32 a1_1, .int .u64 a1_2, .int .u16 a1_3] 31 (0, 0)) (by (with_reducible repeat (first | refine blk_drewN ?_ _ | refine blk_drew ?_ | refine blk_alloc ?_ _)); refine blk_far ?_ NB142_161.out _; (with_reducible repeat (first | refine blk_drewN ?_ _ | refine blk_drew ?_ | refine blk_alloc ?_ _)); refine blk_far ?_ NB142_161.out _; (with_reducible repeat (first | refine blk_drewN ?_ _ | refine blk_drew ?_ | refine blk_alloc ?_ _)); refine blk_far ?_ NB142_161.out _; (with_reducible repeat (first | refine blk_drewN ?_ _ | refine blk_drew ?_ | refine blk_alloc ?_ _)); refine blk_far ?_ NB142_161.out _; (with_reducible repeat (first | refine blk_drewN ?_ _ | refine blk_drew ?_ | refine blk_alloc ?_ _)); exact BK142.out)) : gb162 ≠ gb142)); have n13_ := Aside0.mk ((by rw [hg]; exact Nat.ne_of_lt (blk_lt (g := gb153) (o := .cells #[.int .u64 t145, .int .u32 t146, .int .u64 t147, .int .u16 t148] 43 (0, 0)) (by (with_reducible repeat (first | refine blk_drewN ?_ _ | refine blk_drew ?_ | refine blk_alloc ?_ _)); refine blk_far ?_ NB153_161.out _; (with_reducible repeat (first | refine blk_drewN ?_ _ | refine blk_drew ?_ | refine blk_alloc ?_ _)); refine blk_far ?_ NB153_161.out _; (with_reducible repeat (first | refine blk_drewN ?_ _ | refine blk_drew ?_ | refine blk_alloc ?_ _)); refine blk_far ?_ NB153_161.out _; (with_reducible repeat (first | refine blk_drewN ?_ _ | refine blk_drew ?_ | refine blk_alloc ?_ _)); refine blk_far ?_ NB153_161.out _; (with_reducible repeat (first | refine blk_drewN ?_ _ | refine blk_drew ?_ | refine blk_alloc ?_ _)); exact BK153.out)) : gb153 ≠ gb162)); have n14_ := Aside0.mk ((by rw [hg]; exact Nat.ne_of_gt (blk_lt (g := gb153) (o := .cells #[.int .u64 t145, .int .u32 t146, .int .u64 t147, .int .u16 t148] 43 (0, 0)) (by (with_reducible repeat (first | refine blk_drewN ?_ _ | refine blk_drew ?_ | refine blk_alloc ?_ _)); refine blk_far ?_ NB153_161.out _; (with_reducible repeat (first | refine blk_drewN ?_ _ | refine blk_drew ?_ | refine blk_alloc ?_ _)); refine blk_far ?_ NB153_161.out _; (with_reducible repeat (first | refine blk_drewN ?_ _ | refine blk_drew ?_ | refine blk_alloc ?_ _)); refine blk_far ?_ NB153_161.out _; (with_reducible repeat (first | refine blk_drewN ?_ _ | refine blk_drew ?_ | refine blk_alloc ?_ _)); refine blk_far ?_ NB153_161.out _; (with_reducible repeat (first | refine blk_drewN ?_ _ | refine blk_drew ?_ | refine blk_alloc ?_ _)); exact BK153.out)) : gb162 ≠ gb153)); have n15_ := Aside0.mk ((by rw [hg]; exact Nat.ne_of_lt (blk_lt (g := gb154) (o := .cells #[.int .u64 t149, .int .u32 t150, .int .u64 t151, .int .u16 t152] 43 (0, 0)) (by (with_reducible repeat (first | refine blk_drewN ?_ _ | refine blk_drew ?_ | refine blk_alloc ?_ _)); refine blk_far ?_ NB154_161.out _; (with_reducible repeat (first | refine blk_drewN ?_ _ | refine blk_drew ?_ | refine blk_alloc ?_ _)); refine blk_far ?_ NB154_161.out _; (with_reducible repeat (first | refine blk_drewN ?_ _ | refine blk_drew ?_ | refine blk_alloc ?_ _)); refine blk_far ?_ NB154_161.out _; (with_reducible repeat (first | refine blk_drewN ?_ _ | refine blk_drew ?_ | refine blk_alloc ?_ _)); refine blk_far ?_ NB154_161.out _; (with_reducible repeat (first | refine blk_drewN ?_ _ | refine blk_drew ?_ | refine blk_alloc ?_ _)); exact BK154.out)) : gb154 ≠ gb162)); have n16_ := Aside0.mk ((by rw [hg]; exact Nat.ne_of_gt (blk_lt (g := gb154) (o := .cells #[.int .u64 t149, .int .u32 t150, .int .u64 t151, .int .u16 t152] 43 (0, 0)) (by (with_reducible repeat (first | refine blk_drewN ?_ _ | refine blk_drew ?_ | refine blk_alloc ?_ _)); refine blk_far ?_ NB154_161.out _; (with_reducible repeat (first | refine blk_drewN ?_ _ | refine blk_drew ?_ | refine blk_alloc ?_ _)); refine blk_far ?_ NB154_161.out _; (with_reducible repeat (first | refine blk_drewN ?_ _ | refine blk_drew ?_ | refine blk_alloc ?_ _)); refine blk_far ?_ NB154_161.out _; (with_reducible repeat (first | refine blk_drewN ?_ _ | refine blk_drew ?_ | refine blk_alloc ?_ _)); refine blk_far ?_ NB154_161.out _; (with_reducible repeat (first | refine blk_drewN ?_ _ | refine blk_drew ?_ | refine blk_alloc ?_ _)); exact BK154.out)) : gb162 ≠ gb154)); have n17_ := Aside0.mk ((by rw [hg]; exact Nat.ne_of_lt (blk_lt (g := gb161) (o := .cells #[.int .u64 t157, .int .u32 t158, .int .u64 t159, .int .u16 t160] 31 (0, 0)) (by (with_reducible repeat (first | refine blk_drewN ?_ _ | refine blk_drew ?_ | refine blk_alloc ?_ _)); refine blk_put (cs := #[.int .u64 t157, .int .u32 t158, .int .u64 t159, .int .u16 0]) ?_ 3 _ rfl; (with_reducible repeat (first | refine blk_drewN ?_ _ | refine blk_drew ?_ | refine blk_alloc ?_ _)); refine blk_put (cs := #[.int .u64 t157, .int .u32 t158, .int .u64 0, .int .u16 0]) ?_ 2 _ rfl; (with_reducible repeat (first | refine blk_drewN ?_ _ | refine blk_drew ?_ | refine blk_alloc ?_ _)); refine blk_put (cs := #[.int .u64 t157, .int .u32 0, .int .u64 0, .int .u16 0]) ?_ 1 _ rfl; (with_reducible repeat (first | refine blk_drewN ?_ _ | refine blk_drew ?_ | refine blk_alloc ?_ _)); refine blk_put (cs := #[.int .u64 0, .int .u32 0, .int .u64 0, .int .u16 0]) ?_ 0 _ rfl; (with_reducible repeat (first | refine blk_drewN ?_ _ | refine blk_drew ?_ | refine blk_alloc ?_ _)); exact BK161.out)) : gb161 ≠ gb162)); have n18_ := Aside0.mk ((by rw [hg]; exact Nat.ne_of_gt (blk_lt (g := gb161) (o := .cells #[.int .u64 t157, .int .u32 t158, .int .u64 t159, .int .u16 t160] 31 (0, 0)) (by (with_reducible repeat (first | refine blk_drewN ?_ _ | refine blk_drew ?_ | refine blk_alloc ?_ _)); refine blk_put (cs := #[.int .u64 t157, .int .u32 t158, .int .u64 t159, .int .u16 0]) ?_ 3 _ rfl; (with_reducible repeat (first | refine blk_drewN ?_ _ | refine blk_drew ?_ | refine blk_alloc ?_ _)); refine blk_put (cs := #[.int .u64 t157, .int .u32 t158, .int .u64 0, .int .u16 0]) ?_ 2 _ rfl; (with_reducible repeat (first | refine blk_drewN ?_ _ | refine blk_drew ?_ | refine blk_alloc ?_ _)); refine blk_put (cs := #[.int .u64 t157, .int .u32 0, .int .u64 0, .int .u16 0]) ?_ 1 _ rfl; (with_reducible repeat (first | refine blk_drewN ?_ _ | refine blk_drew ?_ | refine blk_alloc ?_ _)); refine blk_put (cs := #[.int .u64 0, .int .u32 0, .int .u64 0, .int .u16 0]) ?_ 0 _ rfl; (with_reducible repeat (first | refine blk_drewN ?_ _ | refine blk_drew ?_ | refine blk_alloc ?_ _)); exact BK161.out)) : gb162 ≠ gb161)); clear BK141; clear BK142; clear BK153; clear BK154; clear BK161; clear HB; have BK141 := n0_; have BK142 := n1_; have BK153 := n2_; have BK154 := n3_; have BK161 := n4_; have HB := n5_; have BK162 := n6_; have GW162 := n7_; have GE162 := n8_; have NB141_162 := n9_; have NB162_141 := n10_; have NB142_162 := n11_; have NB162_142 := n12_; have NB153_162 := n13_; have NB162_153 := n14_; have NB154_162 := n15_; have NB162_154 := n16_; have NB161_162 := n17_; have NB162_161 := n18_; clear n0_ n1_ n2_ n3_ n4_ n5_ n6_ n7_ n8_ n9_ n10_ n11_ n12_ n13_ n14_ n15_ n16_ n17_ n18_; clear hb hbox hg; have hnb77 := NB162_141.out; have hnc77 := NB141_162.out; have hnb78 := NB162_142.out; have hnc78 := NB142_162.out; have hnb79 := NB162_153.out; have hnc79 := NB153_162.out; have hnb80 := NB162_154.out; have hnc80 := NB154_162.out; have hnb81 := NB162_161.out; have hnc81 := NB161_162.out; have hcz82_0 : w76.cell? ⟨gb162, 0, none⟩ = some (.int .u64 0) := (blk_cell BK162.out 0).trans rfl; have hcz82_1 : w76.cell? ⟨gb162, 1, none⟩ = some (.int .u32 0) := (blk_cell BK162.out 1).trans rfl; have hcz82_2 : w76.cell? ⟨gb162, 2, none⟩ = some (.int .u64 0) := (blk_cell BK162.out 2).trans rfl; have hcz82_3 : w76.cell? ⟨gb162, 3, none⟩ = some (.int .u16 0) := (blk_cell BK162.out 3).trans rfl; have hfz82_0 := blk_frozen BK162.out 0; have hfz82_1 := blk_frozen BK162.out 1; have hfz82_2 := blk_frozen BK162.out 2; have hfz82_3 := blk_frozen BK162.out 3; have hcz83_0 : w76.cell? ⟨gb141, 0, none⟩ = some (.int .u64 a0_0) := (blk_cell BK141.out 0).trans rfl; have hcz83_1 : w76.cell? ⟨gb141, 1, none⟩ = some (.int .u32 a0_1) := (blk_cell BK141.out 1).trans rfl; have hcz83_2 : w76.cell? ⟨gb141, 2, none⟩ = some (.int .u64 a0_2) := (blk_cell BK141.out 2).trans rfl; have hcz83_3 : w76.cell? ⟨gb141, 3, none⟩ = some (.int .u16 a0_3) := (blk_cell BK141.out 3).trans rfl; have hfz83_0 := blk_frozen BK141.out 0; have hfz83_1 := blk_frozen BK141.out 1; have hfz83_2 := blk_frozen BK141.out 2; have hfz83_3 := blk_frozen BK141.out 3) | ((with_reducible refine gate_callee (f := 21) rfl ?_); refine goesL_ (some 37) rfl rfl Try.func21 (by kernel_rfl) rfl #[.int .u32 a0_1, .int .u32 a3] rfl (by (try simp only [List.map_toArray, List.map_cons, List.map_nil]); first | done | rfl | (simp only [List.length_drop, List.length_take]; rfl)) ?_; (with_reducible refine (treelineref10_Far.calls a0_1 a3 t163 _ A54.out).mono ?_); rintro e w' ⟨rfl, ⟨nd, rfl⟩⟩; refine ⟨_, rfl, ?_⟩))
                      have n0_ : Aside0 ((((((w76.setCell ⟨gb162, 0, none⟩ (.int .u64 a0_0)).setCell ⟨gb162, 1, none⟩ (.int .u32 a0_1)).setCell ⟨gb162, 2, none⟩ (.int .u64 a0_2)).setCell ⟨gb162, 3, none⟩ (.int .u16 a0_3)).setCell ⟨gb162, 1, none⟩ (.int .u32 t163)).heap[gb141]? = some (.cells #[.int .u64 a0_0, .int .u32 a0_1, .int .u64 a0_2, .int .u16 a0_3] 31 (0, 0))) := ⟨by (with_reducible repeat (first | refine blk_drewN ?_ _ | refine blk_drew ?_ | refine blk_alloc ?_ _)); refine blk_far ?_ NB141_162.out _; (with_reducible repeat (first | refine blk_drewN ?_ _ | refine blk_drew ?_ | refine blk_alloc ?_ _)); refine blk_far ?_ NB141_162.out _; (with_reducible repeat (first | refine blk_drewN ?_ _ | refine blk_drew ?_ | refine blk_alloc ?_ _)); refine blk_far ?_ NB141_162.out _; (with_reducible repeat (first | refine blk_drewN ?_ _ | refine blk_drew ?_ | refine blk_alloc ?_ _)); refine blk_far ?_ NB141_162.out _; (with_reducible repeat (first | refine blk_drewN ?_ _ | refine blk_drew ?_ | refine blk_alloc ?_ _)); refine blk_far ?_ NB141_162.out _; (with_reducible repeat (first | refine blk_drewN ?_ _ | refine blk_drew ?_ | refine blk_alloc ?_ _)); exact BK141.out⟩
                      have n1_ : Aside0 ((((((w76.setCell ⟨gb162, 0, none⟩ (.int .u64 a0_0)).setCell ⟨gb162, 1, none⟩ (.int .u32 a0_1)).setCell ⟨gb162, 2, none⟩ (.int .u64 a0_2)).setCell ⟨gb162, 3, none⟩ (.int .u16 a0_3)).setCell ⟨gb162, 1, none⟩ (.int .u32 t163)).heap[gb142]? = some (.cells #[.int .u64 a1_0, .int .u32 a1_1, .int .u64 a1_2, .int .u16 a1_3] 31 (0, 0))) := ⟨by (with_reducible repeat (first | refine blk_drewN ?_ _ | refine blk_drew ?_ | refine blk_alloc ?_ _)); refine blk_far ?_ NB142_162.out _; (with_reducible repeat (first | refine blk_drewN ?_ _ | refine blk_drew ?_ | refine blk_alloc ?_ _)); refine blk_far ?_ NB142_162.out _; (with_reducible repeat (first | refine blk_drewN ?_ _ | refine blk_drew ?_ | refine blk_alloc ?_ _)); refine blk_far ?_ NB142_162.out _; (with_reducible repeat (first | refine blk_drewN ?_ _ | refine blk_drew ?_ | refine blk_alloc ?_ _)); refine blk_far ?_ NB142_162.out _; (with_reducible repeat (first | refine blk_drewN ?_ _ | refine blk_drew ?_ | refine blk_alloc ?_ _)); refine blk_far ?_ NB142_162.out _; (with_reducible repeat (first | refine blk_drewN ?_ _ | refine blk_drew ?_ | refine blk_alloc ?_ _)); exact BK142.out⟩
                      have n2_ : Aside0 ((((((w76.setCell ⟨gb162, 0, none⟩ (.int .u64 a0_0)).setCell ⟨gb162, 1, none⟩ (.int .u32 a0_1)).setCell ⟨gb162, 2, none⟩ (.int .u64 a0_2)).setCell ⟨gb162, 3, none⟩ (.int .u16 a0_3)).setCell ⟨gb162, 1, none⟩ (.int .u32 t163)).heap[gb153]? = some (.cells #[.int .u64 t145, .int .u32 t146, .int .u64 t147, .int .u16 t148] 43 (0, 0))) := ⟨by (with_reducible repeat (first | refine blk_drewN ?_ _ | refine blk_drew ?_ | refine blk_alloc ?_ _)); refine blk_far ?_ NB153_162.out _; (with_reducible repeat (first | refine blk_drewN ?_ _ | refine blk_drew ?_ | refine blk_alloc ?_ _)); refine blk_far ?_ NB153_162.out _; (with_reducible repeat (first | refine blk_drewN ?_ _ | refine blk_drew ?_ | refine blk_alloc ?_ _)); refine blk_far ?_ NB153_162.out _; (with_reducible repeat (first | refine blk_drewN ?_ _ | refine blk_drew ?_ | refine blk_alloc ?_ _)); refine blk_far ?_ NB153_162.out _; (with_reducible repeat (first | refine blk_drewN ?_ _ | refine blk_drew ?_ | refine blk_alloc ?_ _)); refine blk_far ?_ NB153_162.out _; (with_reducible repeat (first | refine blk_drewN ?_ _ | refine blk_drew ?_ | refine blk_alloc ?_ _)); exact BK153.out⟩
                      have n3_ : Aside0 ((((((w76.setCell ⟨gb162, 0, none⟩ (.int .u64 a0_0)).setCell ⟨gb162, 1, none⟩ (.int .u32 a0_1)).setCell ⟨gb162, 2, none⟩ (.int .u64 a0_2)).setCell ⟨gb162, 3, none⟩ (.int .u16 a0_3)).setCell ⟨gb162, 1, none⟩ (.int .u32 t163)).heap[gb154]? = some (.cells #[.int .u64 t149, .int .u32 t150, .int .u64 t151, .int .u16 t152] 43 (0, 0))) := ⟨by (with_reducible repeat (first | refine blk_drewN ?_ _ | refine blk_drew ?_ | refine blk_alloc ?_ _)); refine blk_far ?_ NB154_162.out _; (with_reducible repeat (first | refine blk_drewN ?_ _ | refine blk_drew ?_ | refine blk_alloc ?_ _)); refine blk_far ?_ NB154_162.out _; (with_reducible repeat (first | refine blk_drewN ?_ _ | refine blk_drew ?_ | refine blk_alloc ?_ _)); refine blk_far ?_ NB154_162.out _; (with_reducible repeat (first | refine blk_drewN ?_ _ | refine blk_drew ?_ | refine blk_alloc ?_ _)); refine blk_far ?_ NB154_162.out _; (with_reducible repeat (first | refine blk_drewN ?_ _ | refine blk_drew ?_ | refine blk_alloc ?_ _)); refine blk_far ?_ NB154_162.out _; (with_reducible repeat (first | refine blk_drewN ?_ _ | refine blk_drew ?_ | refine blk_alloc ?_ _)); exact BK154.out⟩
                      have n4_ : Aside0 ((((((w76.setCell ⟨gb162, 0, none⟩ (.int .u64 a0_0)).setCell ⟨gb162, 1, none⟩ (.int .u32 a0_1)).setCell ⟨gb162, 2, none⟩ (.int .u64 a0_2)).setCell ⟨gb162, 3, none⟩ (.int .u16 a0_3)).setCell ⟨gb162, 1, none⟩ (.int .u32 t163)).heap[gb161]? = some (.cells #[.int .u64 t157, .int .u32 t158, .int .u64 t159, .int .u16 t160] 31 (0, 0))) := ⟨by (with_reducible repeat (first | refine blk_drewN ?_ _ | refine blk_drew ?_ | refine blk_alloc ?_ _)); refine blk_far ?_ NB161_162.out _; (with_reducible repeat (first | refine blk_drewN ?_ _ | refine blk_drew ?_ | refine blk_alloc ?_ _)); refine blk_far ?_ NB161_162.out _; (with_reducible repeat (first | refine blk_drewN ?_ _ | refine blk_drew ?_ | refine blk_alloc ?_ _)); refine blk_far ?_ NB161_162.out _; (with_reducible repeat (first | refine blk_drewN ?_ _ | refine blk_drew ?_ | refine blk_alloc ?_ _)); refine blk_far ?_ NB161_162.out _; (with_reducible repeat (first | refine blk_drewN ?_ _ | refine blk_drew ?_ | refine blk_alloc ?_ _)); refine blk_far ?_ NB161_162.out _; (with_reducible repeat (first | refine blk_drewN ?_ _ | refine blk_drew ?_ | refine blk_alloc ?_ _)); exact BK161.out⟩
                      have n5_ : Aside0 ((((((w76.setCell ⟨gb162, 0, none⟩ (.int .u64 a0_0)).setCell ⟨gb162, 1, none⟩ (.int .u32 a0_1)).setCell ⟨gb162, 2, none⟩ (.int .u64 a0_2)).setCell ⟨gb162, 3, none⟩ (.int .u16 a0_3)).setCell ⟨gb162, 1, none⟩ (.int .u32 t163)).heap[gb162]? = some (.cells #[.int .u64 a0_0, .int .u32 t163, .int .u64 a0_2, .int .u16 a0_3] 31 (0, 0))) := ⟨by (with_reducible repeat (first | refine blk_drewN ?_ _ | refine blk_drew ?_ | refine blk_alloc ?_ _)); refine blk_put (cs := #[.int .u64 a0_0, .int .u32 a0_1, .int .u64 a0_2, .int .u16 a0_3]) ?_ 1 _ rfl; (with_reducible repeat (first | refine blk_drewN ?_ _ | refine blk_drew ?_ | refine blk_alloc ?_ _)); refine blk_put (cs := #[.int .u64 a0_0, .int .u32 a0_1, .int .u64 a0_2, .int .u16 0]) ?_ 3 _ rfl; (with_reducible repeat (first | refine blk_drewN ?_ _ | refine blk_drew ?_ | refine blk_alloc ?_ _)); refine blk_put (cs := #[.int .u64 a0_0, .int .u32 a0_1, .int .u64 0, .int .u16 0]) ?_ 2 _ rfl; (with_reducible repeat (first | refine blk_drewN ?_ _ | refine blk_drew ?_ | refine blk_alloc ?_ _)); refine blk_put (cs := #[.int .u64 a0_0, .int .u32 0, .int .u64 0, .int .u16 0]) ?_ 1 _ rfl; (with_reducible repeat (first | refine blk_drewN ?_ _ | refine blk_drew ?_ | refine blk_alloc ?_ _)); refine blk_put (cs := #[.int .u64 0, .int .u32 0, .int .u64 0, .int .u16 0]) ?_ 0 _ rfl; (with_reducible repeat (first | refine blk_drewN ?_ _ | refine blk_drew ?_ | refine blk_alloc ?_ _)); exact BK162.out⟩
                      have n6_ : Aside0 (Below w.heap.size w (((((w76.setCell ⟨gb162, 0, none⟩ (.int .u64 a0_0)).setCell ⟨gb162, 1, none⟩ (.int .u32 a0_1)).setCell ⟨gb162, 2, none⟩ (.int .u64 a0_2)).setCell ⟨gb162, 3, none⟩ (.int .u16 a0_3)).setCell ⟨gb162, 1, none⟩ (.int .u32 t163))) := ⟨by repeat (first | (with_reducible first | exact HB.out | apply below_alloc | apply pw_below_drewN | apply below_drew1 | refine below_set ?_ GE141.out | refine below_set ?_ GE142.out | refine below_set ?_ GE153.out | refine below_set ?_ GE154.out | refine below_set ?_ GE161.out | refine below_set ?_ GE162.out) | exact HB.out)⟩
                      (try clear BK141)
                      (try clear BK142)
                      (try clear BK153)
                      (try clear BK154)
                      (try clear BK161)
                      (try clear BK162)
                      (try clear HB)
                      (try simp only [setCell_drewN_])
                      generalize (((((w76.setCell ⟨gb162, 0, none⟩ (.int .u64 a0_0)).setCell ⟨gb162, 1, none⟩ (.int .u32 a0_1)).setCell ⟨gb162, 2, none⟩ (.int .u64 a0_2)).setCell ⟨gb162, 3, none⟩ (.int .u16 a0_3)).setCell ⟨gb162, 1, none⟩ (.int .u32 t163)) = w84 at n0_ n1_ n2_ n3_ n4_ n5_ n6_ ⊢
                      have BK141 := n0_
                      have BK142 := n1_
                      have BK153 := n2_
                      have BK154 := n3_
                      have BK161 := n4_
                      have BK162 := n5_
                      have HB := n6_
                      clear n0_ n1_ n2_ n3_ n4_ n5_ n6_
                      (try (rw [drewN_self w84]; generalize hq_ : World.drewN w84 _ = w84; have n0_ : Aside0 (w84.heap[gb141]? = some (.cells #[.int .u64 a0_0, .int .u32 a0_1, .int .u64 a0_2, .int .u16 a0_3] 31 (0, 0))) := ⟨by rw [← hq_]; exact (by (with_reducible repeat (first | refine blk_drewN ?_ _ | refine blk_drew ?_ | refine blk_alloc ?_ _)); exact BK141.out)⟩; have n1_ : Aside0 (w84.heap[gb142]? = some (.cells #[.int .u64 a1_0, .int .u32 a1_1, .int .u64 a1_2, .int .u16 a1_3] 31 (0, 0))) := ⟨by rw [← hq_]; exact (by (with_reducible repeat (first | refine blk_drewN ?_ _ | refine blk_drew ?_ | refine blk_alloc ?_ _)); exact BK142.out)⟩; have n2_ : Aside0 (w84.heap[gb153]? = some (.cells #[.int .u64 t145, .int .u32 t146, .int .u64 t147, .int .u16 t148] 43 (0, 0))) := ⟨by rw [← hq_]; exact (by (with_reducible repeat (first | refine blk_drewN ?_ _ | refine blk_drew ?_ | refine blk_alloc ?_ _)); exact BK153.out)⟩; have n3_ : Aside0 (w84.heap[gb154]? = some (.cells #[.int .u64 t149, .int .u32 t150, .int .u64 t151, .int .u16 t152] 43 (0, 0))) := ⟨by rw [← hq_]; exact (by (with_reducible repeat (first | refine blk_drewN ?_ _ | refine blk_drew ?_ | refine blk_alloc ?_ _)); exact BK154.out)⟩; have n4_ : Aside0 (w84.heap[gb161]? = some (.cells #[.int .u64 t157, .int .u32 t158, .int .u64 t159, .int .u16 t160] 31 (0, 0))) := ⟨by rw [← hq_]; exact (by (with_reducible repeat (first | refine blk_drewN ?_ _ | refine blk_drew ?_ | refine blk_alloc ?_ _)); exact BK161.out)⟩; have n5_ : Aside0 (w84.heap[gb162]? = some (.cells #[.int .u64 a0_0, .int .u32 t163, .int .u64 a0_2, .int .u16 a0_3] 31 (0, 0))) := ⟨by rw [← hq_]; exact (by (with_reducible repeat (first | refine blk_drewN ?_ _ | refine blk_drew ?_ | refine blk_alloc ?_ _)); exact BK162.out)⟩; have n6_ : Aside0 (Below w.heap.size w w84) := ⟨by rw [← hq_]; exact (by repeat (first | (with_reducible first | exact HB.out | apply below_alloc | apply pw_below_drewN | apply below_drew1 | refine below_set ?_ GE141.out | refine below_set ?_ GE142.out | refine below_set ?_ GE153.out | refine below_set ?_ GE154.out | refine below_set ?_ GE161.out | refine below_set ?_ GE162.out) | exact HB.out))⟩; clear BK141 BK142 BK153 BK154 BK161 BK162 HB hq_; have BK141 := n0_; have BK142 := n1_; have BK153 := n2_; have BK154 := n3_; have BK161 := n4_; have BK162 := n5_; have HB := n6_; clear n0_ n1_ n2_ n3_ n4_ n5_ n6_))
                      have n0_ := Aside0.mk (blk_drew BK141.out)
                      have n1_ := Aside0.mk (blk_drew BK142.out)
                      have n2_ := Aside0.mk (blk_drew BK153.out)
                      have n3_ := Aside0.mk (blk_drew BK154.out)
                      have n4_ := Aside0.mk (blk_drew BK161.out)
                      have n5_ := Aside0.mk (blk_drew BK162.out)
                      have n6_ := Aside0.mk (below_drew1 HB.out)
                      clear BK141
                      clear BK142
                      clear BK153
                      clear BK154
                      clear BK161
                      clear BK162
                      clear HB
                      have BK141 := n0_
                      have BK142 := n1_
                      have BK153 := n2_
                      have BK154 := n3_
                      have BK161 := n4_
                      have BK162 := n5_
                      have HB := n6_
                      clear n0_ n1_ n2_ n3_ n4_ n5_ n6_
                      refine start_ (n := 41) (S := fun w' => w'.cell? ⟨gb141, 0, none⟩ = some (.int .u64 a0_0) ∧ w'.cell? ⟨gb141, 1, none⟩ = some (.int .u32 a0_1) ∧ w'.cell? ⟨gb141, 2, none⟩ = some (.int .u64 a0_2) ∧ w'.cell? ⟨gb141, 3, none⟩ = some (.int .u16 a0_3) ∧ w'.cell? ⟨gb142, 0, none⟩ = some (.int .u64 a1_0) ∧ w'.cell? ⟨gb142, 1, none⟩ = some (.int .u32 a1_1) ∧ w'.cell? ⟨gb142, 2, none⟩ = some (.int .u64 a1_2) ∧ w'.cell? ⟨gb142, 3, none⟩ = some (.int .u16 a1_3) ∧ w'.cell? ⟨gb161, 0, none⟩ = some (.int .u64 t157) ∧ w'.cell? ⟨gb161, 1, none⟩ = some (.int .u32 t158) ∧ w'.cell? ⟨gb161, 2, none⟩ = some (.int .u64 t159) ∧ w'.cell? ⟨gb161, 3, none⟩ = some (.int .u16 t160) ∧ w'.cell? ⟨gb162, 0, none⟩ = some (.int .u64 a0_0) ∧ w'.cell? ⟨gb162, 1, none⟩ = some (.int .u32 t163) ∧ w'.cell? ⟨gb162, 2, none⟩ = some (.int .u64 a0_2) ∧ w'.cell? ⟨gb162, 3, none⟩ = some (.int .u16 a0_3) ∧ w'.cell? ⟨gb153, 0, none⟩ = some (.int .u64 t145) ∧ w'.cell? ⟨gb153, 1, none⟩ = some (.int .u32 t146) ∧ w'.cell? ⟨gb153, 2, none⟩ = some (.int .u64 t147) ∧ w'.cell? ⟨gb153, 3, none⟩ = some (.int .u16 t148) ∧ w'.cell? ⟨gb154, 0, none⟩ = some (.int .u64 t149) ∧ w'.cell? ⟨gb154, 1, none⟩ = some (.int .u32 t150) ∧ w'.cell? ⟨gb154, 2, none⟩ = some (.int .u64 t151) ∧ w'.cell? ⟨gb154, 3, none⟩ = some (.int .u16 t152)) (ds := []) #[false, false, false, false, false, false, false, false, false, false, false, false, false, false, false, false, false, false, false, false, false, false, false, false, false, false, false, false, false, false, false, false, false, false, false, false, false, false, false, false, false] (by kernel_rfl) rfl rfl ⟨(blk_cell BK141.out 0).trans rfl, (blk_cell BK141.out 1).trans rfl, (blk_cell BK141.out 2).trans rfl, (blk_cell BK141.out 3).trans rfl, (blk_cell BK142.out 0).trans rfl, (blk_cell BK142.out 1).trans rfl, (blk_cell BK142.out 2).trans rfl, (blk_cell BK142.out 3).trans rfl, (blk_cell BK161.out 0).trans rfl, (blk_cell BK161.out 1).trans rfl, (blk_cell BK161.out 2).trans rfl, (blk_cell BK161.out 3).trans rfl, (blk_cell BK162.out 0).trans rfl, (blk_cell BK162.out 1).trans rfl, (blk_cell BK162.out 2).trans rfl, (blk_cell BK162.out 3).trans rfl, (blk_cell BK153.out 0).trans rfl, (blk_cell BK153.out 1).trans rfl, (blk_cell BK153.out 2).trans rfl, (blk_cell BK153.out 3).trans rfl, (blk_cell BK154.out 0).trans rfl, (blk_cell BK154.out 1).trans rfl, (blk_cell BK154.out 2).trans rfl, (blk_cell BK154.out 3).trans rfl⟩ (fun hHeld => ?_); refine with_tabW treelinelaw10_RankPlays.tab13 treelinelaw10_RankPlays.bits13 (fun HT_ HW_ => ?_)
                      generalize w84.drew = w85 at BK141 BK142 BK153 BK154 BK161 BK162 HB hHeld ⊢
                      refine pure_ (i := 0) (N := some 39) (v := ?_) (a' := ?_) #[true, false, false, false, false, false, false, false, false, false, false, false, false, false, false, false, false, false, false, false, false, false, false, false, false, false, false, false, false, false, false, false, false, false, false, false, false, false, false, false, false] rfl rfl (any_of HT_.out (by kernel_rfl)) (fun _ _ _ h => h) (Or.inl ⟨by rfl, ?_⟩) ?_ ?_
                      rotate_left
                      · intro w'
                        go_simp
                        with_reducible rfl
                      rotate_left
                      · simp only [Act.put, List.setIfInBounds_toArray, List.set_cons_zero, List.set_cons_succ, i64_w, i32_w]
                        rfl
                      refine pure_ (i := 1) (N := some 40) (v := ?_) (a' := ?_) #[true, true, false, false, false, false, false, false, false, false, false, false, false, false, false, false, false, false, false, false, false, false, false, false, false, false, false, false, false, false, false, false, false, false, false, false, false, false, false, false, false] rfl rfl (any_of HT_.out (by kernel_rfl)) (fun _ _ _ h => h) (Or.inl ⟨by rfl, ?_⟩) ?_ ?_
                      rotate_left
                      · intro w'
                        go_simp
                        with_reducible rfl
                      rotate_left
                      · simp only [Act.put, List.setIfInBounds_toArray, List.set_cons_zero, List.set_cons_succ, i64_w, i32_w]
                        rfl
                      refine pure_ (i := 2) (N := some 41) (v := ?_) (a' := ?_) #[true, true, true, false, false, false, false, false, false, false, false, false, false, false, false, false, false, false, false, false, false, false, false, false, false, false, false, false, false, false, false, false, false, false, false, false, false, false, false, false, false] rfl rfl (any_of HT_.out (by kernel_rfl)) (fun _ _ _ h => h) (Or.inl ⟨by rfl, ?_⟩) ?_ ?_
                      rotate_left
                      · intro w'
                        go_simp
                        with_reducible rfl
                      rotate_left
                      · simp only [Act.put, List.setIfInBounds_toArray, List.set_cons_zero, List.set_cons_succ, i64_w, i32_w]
                        rfl
                      refine pure_ (i := 3) (N := some 42) (v := ?_) (a' := ?_) #[true, true, true, true, false, false, false, false, false, false, false, false, false, false, false, false, false, false, false, false, false, false, false, false, false, false, false, false, false, false, false, false, false, false, false, false, false, false, false, false, false] rfl rfl (any_of HT_.out (by kernel_rfl)) (fun _ _ _ h => h) (Or.inl ⟨by rfl, ?_⟩) ?_ ?_
                      rotate_left
                      · intro w'
                        go_simp
                        with_reducible rfl
                      rotate_left
                      · simp only [Act.put, List.setIfInBounds_toArray, List.set_cons_zero, List.set_cons_succ, i64_w, i32_w]
                        rfl
                      refine pure_ (i := 7) (N := some 46) (v := ?_) (a' := ?_) #[true, true, true, true, false, false, false, true, false, false, false, false, false, false, false, false, false, false, false, false, false, false, false, false, false, false, false, false, false, false, false, false, false, false, false, false, false, false, false, false, false] rfl rfl (any_of HT_.out (by kernel_rfl)) (fun _ _ _ h => h) (Or.inl ⟨by rfl, ?_⟩) ?_ ?_
                      rotate_left
                      · intro w'
                        go_simp
                        with_reducible rfl
                      rotate_left
                      · simp only [Act.put, List.setIfInBounds_toArray, List.set_cons_zero, List.set_cons_succ, i64_w, i32_w]
                        rfl
                      refine pure_ (i := 8) (N := some 47) (v := ?_) (a' := ?_) #[true, true, true, true, false, false, false, true, true, false, false, false, false, false, false, false, false, false, false, false, false, false, false, false, false, false, false, false, false, false, false, false, false, false, false, false, false, false, false, false, false] rfl rfl (any_of HT_.out (by kernel_rfl)) (fun _ _ _ h => h) (Or.inl ⟨by rfl, ?_⟩) ?_ ?_
                      rotate_left
                      · intro w'
                        go_simp
                        with_reducible rfl
                      rotate_left
                      · simp only [Act.put, List.setIfInBounds_toArray, List.set_cons_zero, List.set_cons_succ, i64_w, i32_w]
                        rfl
                      refine take_ (i := 4) (N := some 43) (v := ?_) (a' := ?_) #[true, true, true, true, true, false, false, true, true, false, false, false, false, false, false, false, false, false, false, false, false, false, false, false, false, false, false, false, false, false, false, false, false, false, false, false, false, false, false, false, false] rfl rfl (take_ofW HT_.out HW_.out (by kernel_rfl)) (fun _ _ _ h => h) (Or.inl ⟨by rfl, ?_⟩) hHeld ?_ ?_
                      rotate_left
                      · rintro w' ⟨s0, s1, s2, s3, s4, s5, s6, s7, s8, s9, s10, s11, s12, s13, s14, s15, s16, s17, s18, s19, s20, s21, s22, s23⟩
                        go_simp
                        with_reducible rfl
                      rotate_left
                      · simp only [Act.put, List.setIfInBounds_toArray, List.set_cons_zero, List.set_cons_succ, i64_w, i32_w]
                        rfl
                      refine take_ (i := 5) (N := some 44) (v := ?_) (a' := ?_) #[true, true, true, true, true, true, false, true, true, false, false, false, false, false, false, false, false, false, false, false, false, false, false, false, false, false, false, false, false, false, false, false, false, false, false, false, false, false, false, false, false] rfl rfl (take_ofW HT_.out HW_.out (by kernel_rfl)) (fun _ _ _ h => h) (Or.inl ⟨by rfl, ?_⟩) hHeld ?_ ?_
                      rotate_left
                      · rintro w' ⟨s0, s1, s2, s3, s4, s5, s6, s7, s8, s9, s10, s11, s12, s13, s14, s15, s16, s17, s18, s19, s20, s21, s22, s23⟩
                        go_simp
                        with_reducible rfl
                      rotate_left
                      · simp only [Act.put, List.setIfInBounds_toArray, List.set_cons_zero, List.set_cons_succ, i64_w, i32_w]
                        rfl
                      refine one_ (i := 6) (N := some 45) #[true, true, true, true, true, true, true, true, true, false, false, false, false, false, false, false, false, false, false, false, false, false, false, false, false, false, false, false, false, false, false, false, false, false, false, false, false, false, false, false, false] rfl rfl (one_of HT_.out (by kernel_rfl)) (by decide) (fun K hK => ?_)
                      refine goes_ Try.func17 (by kernel_rfl) rfl #[.agg #[.int .u64 a0_0, .int .u32 a0_1, .int .u64 a0_2, .int .u16 a0_3], .agg #[.int .u64 a1_0, .int .u32 a1_1, .int .u64 a1_2, .int .u16 a1_3]] (by rfl) rfl rfl (by (try simp only [List.map_toArray, List.map_cons, List.map_nil]); first | done | rfl | (simp only [List.length_drop, List.length_take]; rfl)) ?_
                      with_reducible refine (rank_Keeps.calls kj42 a0_0 a0_1 a0_2 a0_3 a1_0 a1_1 a1_2 a1_3 t164 _ A56.out).mono ?_
                      rintro e w86 ⟨rfl, hb⟩
                      refine ⟨_, rfl, ?_⟩
                      have n0_ := Aside0.mk (blk_below (g := gb141) (o := .cells #[.int .u64 a0_0, .int .u32 a0_1, .int .u64 a0_2, .int .u16 a0_3] 31 (0, 0)) (by (with_reducible repeat (first | refine blk_drewN ?_ _ | refine blk_drew ?_ | refine blk_alloc ?_ _)); exact BK141.out) hb)
                      have n1_ := Aside0.mk (blk_below (g := gb142) (o := .cells #[.int .u64 a1_0, .int .u32 a1_1, .int .u64 a1_2, .int .u16 a1_3] 31 (0, 0)) (by (with_reducible repeat (first | refine blk_drewN ?_ _ | refine blk_drew ?_ | refine blk_alloc ?_ _)); exact BK142.out) hb)
                      have n2_ := Aside0.mk (blk_below (g := gb153) (o := .cells #[.int .u64 t145, .int .u32 t146, .int .u64 t147, .int .u16 t148] 43 (0, 0)) (by (with_reducible repeat (first | refine blk_drewN ?_ _ | refine blk_drew ?_ | refine blk_alloc ?_ _)); exact BK153.out) hb)
                      have n3_ := Aside0.mk (blk_below (g := gb154) (o := .cells #[.int .u64 t149, .int .u32 t150, .int .u64 t151, .int .u16 t152] 43 (0, 0)) (by (with_reducible repeat (first | refine blk_drewN ?_ _ | refine blk_drew ?_ | refine blk_alloc ?_ _)); exact BK154.out) hb)
                      have n4_ := Aside0.mk (blk_below (g := gb161) (o := .cells #[.int .u64 t157, .int .u32 t158, .int .u64 t159, .int .u16 t160] 31 (0, 0)) (by (with_reducible repeat (first | refine blk_drewN ?_ _ | refine blk_drew ?_ | refine blk_alloc ?_ _)); exact BK161.out) hb)
                      have n5_ := Aside0.mk (blk_below (g := gb162) (o := .cells #[.int .u64 a0_0, .int .u32 t163, .int .u64 a0_2, .int .u16 a0_3] 31 (0, 0)) (by (with_reducible repeat (first | refine blk_drewN ?_ _ | refine blk_drew ?_ | refine blk_alloc ?_ _)); exact BK162.out) hb)
                      have n6_ := Aside0.mk (below_step (by repeat (first | (with_reducible first | exact HB.out | apply below_alloc | apply pw_below_drewN | apply below_drew1 | refine below_set ?_ GE141.out | refine below_set ?_ GE142.out | refine below_set ?_ GE153.out | refine below_set ?_ GE154.out | refine below_set ?_ GE161.out | refine below_set ?_ GE162.out) | exact HB.out)) hb)
                      clear BK141
                      clear BK142
                      clear BK153
                      clear BK154
                      clear BK161
                      clear BK162
                      clear HB
                      have BK141 := n0_
                      have BK142 := n1_
                      have BK153 := n2_
                      have BK154 := n3_
                      have BK161 := n4_
                      have BK162 := n5_
                      have HB := n6_
                      clear n0_ n1_ n2_ n3_ n4_ n5_ n6_
                      (try clear hb)
                      (try clear hb2)
                      (try clear hk)
                      (try clear hi)
                      refine hK.out _ _ ⟨(blk_cell BK141.out 0).trans rfl, (blk_cell BK141.out 1).trans rfl, (blk_cell BK141.out 2).trans rfl, (blk_cell BK141.out 3).trans rfl, (blk_cell BK142.out 0).trans rfl, (blk_cell BK142.out 1).trans rfl, (blk_cell BK142.out 2).trans rfl, (blk_cell BK142.out 3).trans rfl, (blk_cell BK161.out 0).trans rfl, (blk_cell BK161.out 1).trans rfl, (blk_cell BK161.out 2).trans rfl, (blk_cell BK161.out 3).trans rfl, (blk_cell BK162.out 0).trans rfl, (blk_cell BK162.out 1).trans rfl, (blk_cell BK162.out 2).trans rfl, (blk_cell BK162.out 3).trans rfl, (blk_cell BK153.out 0).trans rfl, (blk_cell BK153.out 1).trans rfl, (blk_cell BK153.out 2).trans rfl, (blk_cell BK153.out 3).trans rfl, (blk_cell BK154.out 0).trans rfl, (blk_cell BK154.out 1).trans rfl, (blk_cell BK154.out 2).trans rfl, (blk_cell BK154.out 3).trans rfl⟩ (fun hHeld => ?_)
                      clear hK K
                      refine norm_ (a' := ?_) ?_ ?_
                      rotate_left
                      · show Act.put _ (some 45) _ = _
                        simp only [Act.put, List.setIfInBounds_toArray, List.set_cons_zero, List.set_cons_succ, i64_w, i32_w]
                        rfl
                      refine pure_ (i := 9) (N := some 48) (v := ?_) (a' := ?_) #[true, true, true, true, true, true, true, true, true, true, false, false, false, false, false, false, false, false, false, false, false, false, false, false, false, false, false, false, false, false, false, false, false, false, false, false, false, false, false, false, false] rfl rfl (any_of HT_.out (by kernel_rfl)) (fun _ _ _ h => h) (Or.inl ⟨by rfl, ?_⟩) ?_ ?_
                      rotate_left
                      · intro w'
                        go_simp
                        with_reducible rfl
                      rotate_left
                      · simp only [Act.put, List.setIfInBounds_toArray, List.set_cons_zero, List.set_cons_succ, i64_w, i32_w]
                        rfl
                      refine pure_ (i := 10) (N := some 49) (v := ?_) (a' := ?_) #[true, true, true, true, true, true, true, true, true, true, true, false, false, false, false, false, false, false, false, false, false, false, false, false, false, false, false, false, false, false, false, false, false, false, false, false, false, false, false, false, false] rfl rfl (any_of HT_.out (by kernel_rfl)) (fun _ _ _ h => h) (Or.inl ⟨by rfl, ?_⟩) ?_ ?_
                      rotate_left
                      · intro w'
                        go_simp
                        with_reducible rfl
                      rotate_left
                      · simp only [Act.put, List.setIfInBounds_toArray, List.set_cons_zero, List.set_cons_succ, i64_w, i32_w]
                        rfl
                      refine pure_ (i := 11) (N := some 50) (v := ?_) (a' := ?_) #[true, true, true, true, true, true, true, true, true, true, true, true, false, false, false, false, false, false, false, false, false, false, false, false, false, false, false, false, false, false, false, false, false, false, false, false, false, false, false, false, false] rfl rfl (any_of HT_.out (by kernel_rfl)) (fun _ _ _ h => h) (Or.inl ⟨by rfl, ?_⟩) ?_ ?_
                      rotate_left
                      · intro w'
                        go_simp
                        with_reducible rfl
                      rotate_left
                      · simp only [Act.put, List.setIfInBounds_toArray, List.set_cons_zero, List.set_cons_succ, i64_w, i32_w]
                        rfl
                      refine pure_ (i := 12) (N := some 51) (v := ?_) (a' := ?_) #[true, true, true, true, true, true, true, true, true, true, true, true, true, false, false, false, false, false, false, false, false, false, false, false, false, false, false, false, false, false, false, false, false, false, false, false, false, false, false, false, false] rfl rfl (any_of HT_.out (by kernel_rfl)) (fun _ _ _ h => h) (Or.inl ⟨by rfl, ?_⟩) ?_ ?_
                      rotate_left
                      · intro w'
                        go_simp
                        with_reducible rfl
                      rotate_left
                      · simp only [Act.put, List.setIfInBounds_toArray, List.set_cons_zero, List.set_cons_succ, i64_w, i32_w]
                        rfl
                      refine pure_ (i := 14) (N := some 53) (v := ?_) (a' := ?_) #[true, true, true, true, true, true, true, true, true, true, true, true, true, false, true, false, false, false, false, false, false, false, false, false, false, false, false, false, false, false, false, false, false, false, false, false, false, false, false, false, false] rfl rfl (any_of HT_.out (by kernel_rfl)) (fun _ _ _ h => h) (Or.inl ⟨by rfl, ?_⟩) ?_ ?_
                      rotate_left
                      · intro w'
                        go_simp
                        with_reducible rfl
                      rotate_left
                      · simp only [Act.put, List.setIfInBounds_toArray, List.set_cons_zero, List.set_cons_succ, i64_w, i32_w]
                        rfl
                      refine pure_ (i := 17) (N := some 56) (v := ?_) (a' := ?_) #[true, true, true, true, true, true, true, true, true, true, true, true, true, false, true, false, false, true, false, false, false, false, false, false, false, false, false, false, false, false, false, false, false, false, false, false, false, false, false, false, false] rfl rfl (any_of HT_.out (by kernel_rfl)) (fun _ _ _ h => h) (Or.inl ⟨by rfl, ?_⟩) ?_ ?_
                      rotate_left
                      · intro w'
                        go_simp
                        with_reducible rfl
                      rotate_left
                      · simp only [Act.put, List.setIfInBounds_toArray, List.set_cons_zero, List.set_cons_succ, i64_w, i32_w]
                        rfl
                      refine pure_ (i := 19) (N := some 58) (v := ?_) (a' := ?_) #[true, true, true, true, true, true, true, true, true, true, true, true, true, false, true, false, false, true, false, true, false, false, false, false, false, false, false, false, false, false, false, false, false, false, false, false, false, false, false, false, false] rfl rfl (any_of HT_.out (by kernel_rfl)) (fun _ _ _ h => h) (Or.inl ⟨by rfl, ?_⟩) ?_ ?_
                      rotate_left
                      · intro w'
                        go_simp
                        with_reducible rfl
                      rotate_left
                      · simp only [Act.put, List.setIfInBounds_toArray, List.set_cons_zero, List.set_cons_succ, i64_w, i32_w]
                        rfl
                      refine take_ (i := 13) (N := some 52) (v := ?_) (a' := ?_) #[true, true, true, true, true, true, true, true, true, true, true, true, true, true, true, false, false, true, false, true, false, false, false, false, false, false, false, false, false, false, false, false, false, false, false, false, false, false, false, false, false] rfl rfl (take_ofW HT_.out HW_.out (by kernel_rfl)) (fun _ _ _ h => h) (Or.inl ⟨by rfl, ?_⟩) hHeld ?_ ?_
                      rotate_left
                      · rintro w' ⟨s0, s1, s2, s3, s4, s5, s6, s7, s8, s9, s10, s11, s12, s13, s14, s15, s16, s17, s18, s19, s20, s21, s22, s23⟩
                        go_simp
                        with_reducible rfl
                      rotate_left
                      · simp only [Act.put, List.setIfInBounds_toArray, List.set_cons_zero, List.set_cons_succ, i64_w, i32_w]
                        rfl
                      refine take_ (i := 15) (N := some 54) (v := ?_) (a' := ?_) #[true, true, true, true, true, true, true, true, true, true, true, true, true, true, true, true, false, true, false, true, false, false, false, false, false, false, false, false, false, false, false, false, false, false, false, false, false, false, false, false, false] rfl rfl (take_ofW HT_.out HW_.out (by kernel_rfl)) (fun _ _ _ h => h) (Or.inl ⟨by rfl, ?_⟩) hHeld ?_ ?_
                      rotate_left
                      · rintro w' ⟨s0, s1, s2, s3, s4, s5, s6, s7, s8, s9, s10, s11, s12, s13, s14, s15, s16, s17, s18, s19, s20, s21, s22, s23⟩
                        go_simp
                        with_reducible rfl
                      rotate_left
                      · simp only [Act.put, List.setIfInBounds_toArray, List.set_cons_zero, List.set_cons_succ, i64_w, i32_w]
                        rfl
                      refine take_ (i := 18) (N := some 57) (v := ?_) (a' := ?_) #[true, true, true, true, true, true, true, true, true, true, true, true, true, true, true, true, false, true, true, true, false, false, false, false, false, false, false, false, false, false, false, false, false, false, false, false, false, false, false, false, false] rfl rfl (take_ofW HT_.out HW_.out (by kernel_rfl)) (fun _ _ _ h => h) (Or.inl ⟨by rfl, ?_⟩) hHeld ?_ ?_
                      rotate_left
                      · rintro w' ⟨s0, s1, s2, s3, s4, s5, s6, s7, s8, s9, s10, s11, s12, s13, s14, s15, s16, s17, s18, s19, s20, s21, s22, s23⟩
                        go_simp
                        with_reducible rfl
                      rotate_left
                      · simp only [Act.put, List.setIfInBounds_toArray, List.set_cons_zero, List.set_cons_succ, i64_w, i32_w]
                        rfl
                      refine take_ (i := 20) (N := some 59) (v := ?_) (a' := ?_) #[true, true, true, true, true, true, true, true, true, true, true, true, true, true, true, true, false, true, true, true, true, false, false, false, false, false, false, false, false, false, false, false, false, false, false, false, false, false, false, false, false] rfl rfl (take_ofW HT_.out HW_.out (by kernel_rfl)) (fun _ _ _ h => h) (Or.inl ⟨by rfl, ?_⟩) hHeld ?_ ?_
                      rotate_left
                      · rintro w' ⟨s0, s1, s2, s3, s4, s5, s6, s7, s8, s9, s10, s11, s12, s13, s14, s15, s16, s17, s18, s19, s20, s21, s22, s23⟩
                        go_simp
                        with_reducible rfl
                      rotate_left
                      · simp only [Act.put, List.setIfInBounds_toArray, List.set_cons_zero, List.set_cons_succ, i64_w, i32_w]
                        rfl
                      refine one_ (i := 16) (N := some 55) #[true, true, true, true, true, true, true, true, true, true, true, true, true, true, true, true, true, true, true, true, true, false, false, false, false, false, false, false, false, false, false, false, false, false, false, false, false, false, false, false, false] rfl rfl (one_of HT_.out (by kernel_rfl)) (by decide) (fun K hK => ?_)
                      refine goes_ Try.func15 (by kernel_rfl) rfl #[.int .u32 a0_1, .int .u32 a1_1] (by rfl) rfl rfl (by (try simp only [List.map_toArray, List.map_cons, List.map_nil]); first | done | rfl | (simp only [List.length_drop, List.length_take]; rfl)) ?_
                      with_reducible refine (rank_Far.calls a0_1 a1_1 t165 _ A58.out).mono ?_
                      rintro e w' ⟨rfl, ⟨nd, rfl⟩⟩
                      refine ⟨_, rfl, ?_⟩
                      refine hK.out _ _ ⟨(blk_cell BK141.out 0).trans rfl, (blk_cell BK141.out 1).trans rfl, (blk_cell BK141.out 2).trans rfl, (blk_cell BK141.out 3).trans rfl, (blk_cell BK142.out 0).trans rfl, (blk_cell BK142.out 1).trans rfl, (blk_cell BK142.out 2).trans rfl, (blk_cell BK142.out 3).trans rfl, (blk_cell BK161.out 0).trans rfl, (blk_cell BK161.out 1).trans rfl, (blk_cell BK161.out 2).trans rfl, (blk_cell BK161.out 3).trans rfl, (blk_cell BK162.out 0).trans rfl, (blk_cell BK162.out 1).trans rfl, (blk_cell BK162.out 2).trans rfl, (blk_cell BK162.out 3).trans rfl, (blk_cell BK153.out 0).trans rfl, (blk_cell BK153.out 1).trans rfl, (blk_cell BK153.out 2).trans rfl, (blk_cell BK153.out 3).trans rfl, (blk_cell BK154.out 0).trans rfl, (blk_cell BK154.out 1).trans rfl, (blk_cell BK154.out 2).trans rfl, (blk_cell BK154.out 3).trans rfl⟩ (fun hHeld => ?_)
                      clear hK K
                      refine norm_ (a' := ?_) ?_ ?_
                      rotate_left
                      · show Act.put _ (some 55) _ = _
                        simp only [Act.put, List.setIfInBounds_toArray, List.set_cons_zero, List.set_cons_succ, i64_w, i32_w]
                        rfl
                      refine one_ (i := 21) (N := some 60) #[true, true, true, true, true, true, true, true, true, true, true, true, true, true, true, true, true, true, true, true, true, true, false, false, false, false, false, false, false, false, false, false, false, false, false, false, false, false, false, false, false] rfl rfl (one_of HT_.out (by kernel_rfl)) (by decide) (fun K hK => ?_)
                      refine goes_ Try.func21 (by kernel_rfl) rfl #[.int .u32 a0_1, .int .u32 a1_1] (by rfl) rfl rfl (by (try simp only [List.map_toArray, List.map_cons, List.map_nil]); first | done | rfl | (simp only [List.length_drop, List.length_take]; rfl)) ?_
                      with_reducible refine (treelineref10_Far.calls a0_1 a1_1 t166 _ A59.out).mono ?_
                      rintro e w' ⟨rfl, ⟨nd, rfl⟩⟩
                      refine ⟨_, rfl, ?_⟩
                      refine hK.out _ _ ⟨(blk_cell BK141.out 0).trans rfl, (blk_cell BK141.out 1).trans rfl, (blk_cell BK141.out 2).trans rfl, (blk_cell BK141.out 3).trans rfl, (blk_cell BK142.out 0).trans rfl, (blk_cell BK142.out 1).trans rfl, (blk_cell BK142.out 2).trans rfl, (blk_cell BK142.out 3).trans rfl, (blk_cell BK161.out 0).trans rfl, (blk_cell BK161.out 1).trans rfl, (blk_cell BK161.out 2).trans rfl, (blk_cell BK161.out 3).trans rfl, (blk_cell BK162.out 0).trans rfl, (blk_cell BK162.out 1).trans rfl, (blk_cell BK162.out 2).trans rfl, (blk_cell BK162.out 3).trans rfl, (blk_cell BK153.out 0).trans rfl, (blk_cell BK153.out 1).trans rfl, (blk_cell BK153.out 2).trans rfl, (blk_cell BK153.out 3).trans rfl, (blk_cell BK154.out 0).trans rfl, (blk_cell BK154.out 1).trans rfl, (blk_cell BK154.out 2).trans rfl, (blk_cell BK154.out 3).trans rfl⟩ (fun hHeld => ?_)
                      clear hK K
                      refine norm_ (a' := ?_) ?_ ?_
                      rotate_left
                      · show Act.put _ (some 60) _ = _
                        simp only [Act.put, List.setIfInBounds_toArray, List.set_cons_zero, List.set_cons_succ, i64_w, i32_w]
                        rfl
                      refine pure_ (i := 22) (N := some 61) (v := ?_) (a' := ?_) #[true, true, true, true, true, true, true, true, true, true, true, true, true, true, true, true, true, true, true, true, true, true, true, false, false, false, false, false, false, false, false, false, false, false, false, false, false, false, false, false, false] rfl rfl (any_of HT_.out (by kernel_rfl)) (fun _ _ _ h => h) (Or.inl ⟨by rfl, ?_⟩) ?_ ?_
                      rotate_left
                      · intro w'
                        go_simp
                        with_reducible rfl
                      rotate_left
                      · simp only [Act.put, List.setIfInBounds_toArray, List.set_cons_zero, List.set_cons_succ, i64_w, i32_w]
                        rfl
                      refine pure_ (i := 23) (N := some 62) (v := ?_) (a' := ?_) #[true, true, true, true, true, true, true, true, true, true, true, true, true, true, true, true, true, true, true, true, true, true, true, true, false, false, false, false, false, false, false, false, false, false, false, false, false, false, false, false, false] rfl rfl (any_of HT_.out (by kernel_rfl)) (fun _ _ _ h => h) (Or.inl ⟨by rfl, ?_⟩) ?_ ?_
                      rotate_left
                      · intro w'
                        go_simp
                        with_reducible rfl
                      rotate_left
                      · simp only [Act.put, List.setIfInBounds_toArray, List.set_cons_zero, List.set_cons_succ, i64_w, i32_w]
                        rfl
                      refine pure_ (i := 24) (N := some 63) (v := ?_) (a' := ?_) #[true, true, true, true, true, true, true, true, true, true, true, true, true, true, true, true, true, true, true, true, true, true, true, true, true, false, false, false, false, false, false, false, false, false, false, false, false, false, false, false, false] rfl rfl (any_of HT_.out (by kernel_rfl)) (fun _ _ _ h => h) (Or.inl ⟨by rfl, ?_⟩) ?_ ?_
                      rotate_left
                      · intro w'
                        go_simp
                        with_reducible rfl
                      rotate_left
                      · simp only [Act.put, List.setIfInBounds_toArray, List.set_cons_zero, List.set_cons_succ, i64_w, i32_w]
                        rfl
                      refine take_ (i := 25) (N := some 64) (v := ?_) (a' := ?_) #[true, true, true, true, true, true, true, true, true, true, true, true, true, true, true, true, true, true, true, true, true, true, true, true, true, true, false, false, false, false, false, false, false, false, false, false, false, false, false, false, false] rfl rfl (take_ofW HT_.out HW_.out (by kernel_rfl)) (fun _ _ _ h => h) (Or.inl ⟨by rfl, ?_⟩) hHeld ?_ ?_
                      rotate_left
                      · rintro w' ⟨s0, s1, s2, s3, s4, s5, s6, s7, s8, s9, s10, s11, s12, s13, s14, s15, s16, s17, s18, s19, s20, s21, s22, s23⟩
                        go_simp
                        with_reducible rfl
                      rotate_left
                      · simp only [Act.put, List.setIfInBounds_toArray, List.set_cons_zero, List.set_cons_succ, i64_w, i32_w]
                        rfl
                      refine take_ (i := 26) (N := some 65) (v := ?_) (a' := ?_) #[true, true, true, true, true, true, true, true, true, true, true, true, true, true, true, true, true, true, true, true, true, true, true, true, true, true, true, false, false, false, false, false, false, false, false, false, false, false, false, false, false] rfl rfl (take_ofW HT_.out HW_.out (by kernel_rfl)) (fun _ _ _ h => h) (Or.inl ⟨by rfl, ?_⟩) hHeld ?_ ?_
                      rotate_left
                      · rintro w' ⟨s0, s1, s2, s3, s4, s5, s6, s7, s8, s9, s10, s11, s12, s13, s14, s15, s16, s17, s18, s19, s20, s21, s22, s23⟩
                        go_simp
                        with_reducible rfl
                      rotate_left
                      · simp only [Act.put, List.setIfInBounds_toArray, List.set_cons_zero, List.set_cons_succ, i64_w, i32_w]
                        rfl
                      refine pure_ (i := 27) (N := some 66) (v := ?_) (a' := ?_) #[true, true, true, true, true, true, true, true, true, true, true, true, true, true, true, true, true, true, true, true, true, true, true, true, true, true, true, true, false, false, false, false, false, false, false, false, false, false, false, false, false] rfl rfl (any_of HT_.out (by kernel_rfl)) (fun _ _ _ h => h) (Or.inl ⟨by rfl, ?_⟩) ?_ ?_
                      rotate_left
                      · intro w'
                        go_simp
                        with_reducible rfl
                      rotate_left
                      · simp only [Act.put, List.setIfInBounds_toArray, List.set_cons_zero, List.set_cons_succ, i64_w, i32_w]
                        rfl
                      refine pure_ (i := 28) (N := some 67) (v := ?_) (a' := ?_) #[true, true, true, true, true, true, true, true, true, true, true, true, true, true, true, true, true, true, true, true, true, true, true, true, true, true, true, true, true, false, false, false, false, false, false, false, false, false, false, false, false] rfl rfl (any_of HT_.out (by kernel_rfl)) (fun _ _ _ h => h) (Or.inl ⟨by rfl, ?_⟩) ?_ ?_
                      rotate_left
                      · intro w'
                        go_simp
                        with_reducible rfl
                      rotate_left
                      · simp only [Act.put, List.setIfInBounds_toArray, List.set_cons_zero, List.set_cons_succ, i64_w, i32_w]
                        rfl
                      refine pure_ (i := 29) (N := some 68) (v := ?_) (a' := ?_) #[true, true, true, true, true, true, true, true, true, true, true, true, true, true, true, true, true, true, true, true, true, true, true, true, true, true, true, true, true, true, false, false, false, false, false, false, false, false, false, false, false] rfl rfl (any_of HT_.out (by kernel_rfl)) (fun _ _ _ h => h) (Or.inl ⟨by rfl, ?_⟩) ?_ ?_
                      rotate_left
                      · intro w'
                        go_simp
                        with_reducible rfl
                      rotate_left
                      · simp only [Act.put, List.setIfInBounds_toArray, List.set_cons_zero, List.set_cons_succ, i64_w, i32_w]
                        rfl
                      refine pure_ (i := 32) (N := some 71) (v := ?_) (a' := ?_) #[true, true, true, true, true, true, true, true, true, true, true, true, true, true, true, true, true, true, true, true, true, true, true, true, true, true, true, true, true, true, false, false, true, false, false, false, false, false, false, false, false] rfl rfl (any_of HT_.out (by kernel_rfl)) (fun _ _ _ h => h) (Or.inl ⟨by rfl, ?_⟩) ?_ ?_
                      rotate_left
                      · intro w'
                        go_simp
                        with_reducible rfl
                      rotate_left
                      · simp only [Act.put, List.setIfInBounds_toArray, List.set_cons_zero, List.set_cons_succ, i64_w, i32_w]
                        rfl
                      refine pure_ (i := 36) (N := some 75) (v := ?_) (a' := ?_) #[true, true, true, true, true, true, true, true, true, true, true, true, true, true, true, true, true, true, true, true, true, true, true, true, true, true, true, true, true, true, false, false, true, false, false, false, true, false, false, false, false] rfl rfl (any_of HT_.out (by kernel_rfl)) (fun _ _ _ h => h) (Or.inl ⟨by rfl, ?_⟩) ?_ ?_
                      rotate_left
                      · intro w'
                        go_simp
                        with_reducible rfl
                      rotate_left
                      · simp only [Act.put, List.setIfInBounds_toArray, List.set_cons_zero, List.set_cons_succ, i64_w, i32_w]
                        rfl
                      refine take_ (i := 30) (N := some 69) (v := ?_) (a' := ?_) #[true, true, true, true, true, true, true, true, true, true, true, true, true, true, true, true, true, true, true, true, true, true, true, true, true, true, true, true, true, true, true, false, true, false, false, false, true, false, false, false, false] rfl rfl (take_ofW HT_.out HW_.out (by kernel_rfl)) (fun _ _ _ h => h) (Or.inl ⟨by rfl, ?_⟩) hHeld ?_ ?_
                      rotate_left
                      · rintro w' ⟨s0, s1, s2, s3, s4, s5, s6, s7, s8, s9, s10, s11, s12, s13, s14, s15, s16, s17, s18, s19, s20, s21, s22, s23⟩
                        go_simp
                        with_reducible rfl
                      rotate_left
                      · simp only [Act.put, List.setIfInBounds_toArray, List.set_cons_zero, List.set_cons_succ, i64_w, i32_w]
                        rfl
                      refine take_ (i := 31) (N := some 70) (v := ?_) (a' := ?_) #[true, true, true, true, true, true, true, true, true, true, true, true, true, true, true, true, true, true, true, true, true, true, true, true, true, true, true, true, true, true, true, true, true, false, false, false, true, false, false, false, false] rfl rfl (take_ofW HT_.out HW_.out (by kernel_rfl)) (fun _ _ _ h => h) (Or.inl ⟨by rfl, ?_⟩) hHeld ?_ ?_
                      rotate_left
                      · rintro w' ⟨s0, s1, s2, s3, s4, s5, s6, s7, s8, s9, s10, s11, s12, s13, s14, s15, s16, s17, s18, s19, s20, s21, s22, s23⟩
                        go_simp
                        with_reducible rfl
                      rotate_left
                      · simp only [Act.put, List.setIfInBounds_toArray, List.set_cons_zero, List.set_cons_succ, i64_w, i32_w]
                        rfl
                      refine take_ (i := 34) (N := some 73) (v := ?_) (a' := ?_) #[true, true, true, true, true, true, true, true, true, true, true, true, true, true, true, true, true, true, true, true, true, true, true, true, true, true, true, true, true, true, true, true, true, false, true, false, true, false, false, false, false] rfl rfl (take_ofW HT_.out HW_.out (by kernel_rfl)) (fun _ _ _ h => h) (Or.inl ⟨by rfl, ?_⟩) hHeld ?_ ?_
                      rotate_left
                      · rintro w' ⟨s0, s1, s2, s3, s4, s5, s6, s7, s8, s9, s10, s11, s12, s13, s14, s15, s16, s17, s18, s19, s20, s21, s22, s23⟩
                        go_simp
                        with_reducible rfl
                      rotate_left
                      · simp only [Act.put, List.setIfInBounds_toArray, List.set_cons_zero, List.set_cons_succ, i64_w, i32_w]
                        rfl
                      refine take_ (i := 35) (N := some 74) (v := ?_) (a' := ?_) #[true, true, true, true, true, true, true, true, true, true, true, true, true, true, true, true, true, true, true, true, true, true, true, true, true, true, true, true, true, true, true, true, true, false, true, true, true, false, false, false, false] rfl rfl (take_ofW HT_.out HW_.out (by kernel_rfl)) (fun _ _ _ h => h) (Or.inl ⟨by rfl, ?_⟩) hHeld ?_ ?_
                      rotate_left
                      · rintro w' ⟨s0, s1, s2, s3, s4, s5, s6, s7, s8, s9, s10, s11, s12, s13, s14, s15, s16, s17, s18, s19, s20, s21, s22, s23⟩
                        go_simp
                        with_reducible rfl
                      rotate_left
                      · simp only [Act.put, List.setIfInBounds_toArray, List.set_cons_zero, List.set_cons_succ, i64_w, i32_w]
                        rfl
                      refine one_ (i := 33) (N := some 72) #[true, true, true, true, true, true, true, true, true, true, true, true, true, true, true, true, true, true, true, true, true, true, true, true, true, true, true, true, true, true, true, true, true, true, true, true, true, false, false, false, false] rfl rfl (one_of HT_.out (by kernel_rfl)) (by decide) (fun K hK => ?_)
                      refine goes_ Try.func18 (by kernel_rfl) rfl #[.agg #[.int .u64 a0_0, .int .u32 a0_1, .int .u64 a0_2, .int .u16 a0_3], .agg #[.int .u64 a1_0, .int .u32 a1_1, .int .u64 a1_2, .int .u16 a1_3], .int .u64 a2] (by rfl) rfl rfl (by (try simp only [List.map_toArray, List.map_cons, List.map_nil]); first | done | rfl | (simp only [List.length_drop, List.length_take]; rfl)) ?_
                      with_reducible refine (rank_Supersedes.calls kj42 a0_0 a0_1 a0_2 a0_3 a1_0 a1_1 a1_2 a1_3 a2 t167 _ A62.out).mono ?_
                      rintro e w87 ⟨rfl, hb⟩
                      refine ⟨_, rfl, ?_⟩
                      have n0_ := Aside0.mk (blk_below (g := gb141) (o := .cells #[.int .u64 a0_0, .int .u32 a0_1, .int .u64 a0_2, .int .u16 a0_3] 31 (0, 0)) (by (with_reducible repeat (first | refine blk_drewN ?_ _ | refine blk_drew ?_ | refine blk_alloc ?_ _)); exact BK141.out) hb)
                      have n1_ := Aside0.mk (blk_below (g := gb142) (o := .cells #[.int .u64 a1_0, .int .u32 a1_1, .int .u64 a1_2, .int .u16 a1_3] 31 (0, 0)) (by (with_reducible repeat (first | refine blk_drewN ?_ _ | refine blk_drew ?_ | refine blk_alloc ?_ _)); exact BK142.out) hb)
                      have n2_ := Aside0.mk (blk_below (g := gb153) (o := .cells #[.int .u64 t145, .int .u32 t146, .int .u64 t147, .int .u16 t148] 43 (0, 0)) (by (with_reducible repeat (first | refine blk_drewN ?_ _ | refine blk_drew ?_ | refine blk_alloc ?_ _)); exact BK153.out) hb)
                      have n3_ := Aside0.mk (blk_below (g := gb154) (o := .cells #[.int .u64 t149, .int .u32 t150, .int .u64 t151, .int .u16 t152] 43 (0, 0)) (by (with_reducible repeat (first | refine blk_drewN ?_ _ | refine blk_drew ?_ | refine blk_alloc ?_ _)); exact BK154.out) hb)
                      have n4_ := Aside0.mk (blk_below (g := gb161) (o := .cells #[.int .u64 t157, .int .u32 t158, .int .u64 t159, .int .u16 t160] 31 (0, 0)) (by (with_reducible repeat (first | refine blk_drewN ?_ _ | refine blk_drew ?_ | refine blk_alloc ?_ _)); exact BK161.out) hb)
                      have n5_ := Aside0.mk (blk_below (g := gb162) (o := .cells #[.int .u64 a0_0, .int .u32 t163, .int .u64 a0_2, .int .u16 a0_3] 31 (0, 0)) (by (with_reducible repeat (first | refine blk_drewN ?_ _ | refine blk_drew ?_ | refine blk_alloc ?_ _)); exact BK162.out) hb)
                      have n6_ := Aside0.mk (below_step (by repeat (first | (with_reducible first | exact HB.out | apply below_alloc | apply pw_below_drewN | apply below_drew1 | refine below_set ?_ GE141.out | refine below_set ?_ GE142.out | refine below_set ?_ GE153.out | refine below_set ?_ GE154.out | refine below_set ?_ GE161.out | refine below_set ?_ GE162.out) | exact HB.out)) hb)
                      clear BK141
                      clear BK142
                      clear BK153
                      clear BK154
                      clear BK161
                      clear BK162
                      clear HB
                      have BK141 := n0_
                      have BK142 := n1_
                      have BK153 := n2_
                      have BK154 := n3_
                      have BK161 := n4_
                      have BK162 := n5_
                      have HB := n6_
                      clear n0_ n1_ n2_ n3_ n4_ n5_ n6_
                      (try clear hb)
                      (try clear hb2)
                      (try clear hk)
                      (try clear hi)
                      refine hK.out _ _ ⟨(blk_cell BK141.out 0).trans rfl, (blk_cell BK141.out 1).trans rfl, (blk_cell BK141.out 2).trans rfl, (blk_cell BK141.out 3).trans rfl, (blk_cell BK142.out 0).trans rfl, (blk_cell BK142.out 1).trans rfl, (blk_cell BK142.out 2).trans rfl, (blk_cell BK142.out 3).trans rfl, (blk_cell BK161.out 0).trans rfl, (blk_cell BK161.out 1).trans rfl, (blk_cell BK161.out 2).trans rfl, (blk_cell BK161.out 3).trans rfl, (blk_cell BK162.out 0).trans rfl, (blk_cell BK162.out 1).trans rfl, (blk_cell BK162.out 2).trans rfl, (blk_cell BK162.out 3).trans rfl, (blk_cell BK153.out 0).trans rfl, (blk_cell BK153.out 1).trans rfl, (blk_cell BK153.out 2).trans rfl, (blk_cell BK153.out 3).trans rfl, (blk_cell BK154.out 0).trans rfl, (blk_cell BK154.out 1).trans rfl, (blk_cell BK154.out 2).trans rfl, (blk_cell BK154.out 3).trans rfl⟩ (fun hHeld => ?_)
                      clear hK K
                      refine norm_ (a' := ?_) ?_ ?_
                      rotate_left
                      · show Act.put _ (some 72) _ = _
                        simp only [Act.put, List.setIfInBounds_toArray, List.set_cons_zero, List.set_cons_succ, i64_w, i32_w]
                        rfl
                      refine one_ (i := 37) (N := some 76) #[true, true, true, true, true, true, true, true, true, true, true, true, true, true, true, true, true, true, true, true, true, true, true, true, true, true, true, true, true, true, true, true, true, true, true, true, true, true, false, false, false] rfl rfl (one_of HT_.out (by kernel_rfl)) (by decide) (fun K hK => ?_)
                      refine goes_ Try.func22 (by kernel_rfl) rfl #[.agg #[.int .u64 t145, .int .u32 t146, .int .u64 t147, .int .u16 t148], .agg #[.int .u64 t149, .int .u32 t150, .int .u64 t151, .int .u16 t152], .int .u64 a2] (by rfl) rfl rfl (by (try simp only [List.map_toArray, List.map_cons, List.map_nil]); first | done | rfl | (simp only [List.length_drop, List.length_take]; rfl)) ?_
                      with_reducible refine (treelineref10_Supersedes.calls kj42 t145 t146 t147 t148 t149 t150 t151 t152 a2 t168 _ A63.out).mono ?_
                      rintro e w88 ⟨rfl, hb⟩
                      refine ⟨_, rfl, ?_⟩
                      have n0_ := Aside0.mk (blk_below (g := gb141) (o := .cells #[.int .u64 a0_0, .int .u32 a0_1, .int .u64 a0_2, .int .u16 a0_3] 31 (0, 0)) (by (with_reducible repeat (first | refine blk_drewN ?_ _ | refine blk_drew ?_ | refine blk_alloc ?_ _)); exact BK141.out) hb)
                      have n1_ := Aside0.mk (blk_below (g := gb142) (o := .cells #[.int .u64 a1_0, .int .u32 a1_1, .int .u64 a1_2, .int .u16 a1_3] 31 (0, 0)) (by (with_reducible repeat (first | refine blk_drewN ?_ _ | refine blk_drew ?_ | refine blk_alloc ?_ _)); exact BK142.out) hb)
                      have n2_ := Aside0.mk (blk_below (g := gb153) (o := .cells #[.int .u64 t145, .int .u32 t146, .int .u64 t147, .int .u16 t148] 43 (0, 0)) (by (with_reducible repeat (first | refine blk_drewN ?_ _ | refine blk_drew ?_ | refine blk_alloc ?_ _)); exact BK153.out) hb)
                      have n3_ := Aside0.mk (blk_below (g := gb154) (o := .cells #[.int .u64 t149, .int .u32 t150, .int .u64 t151, .int .u16 t152] 43 (0, 0)) (by (with_reducible repeat (first | refine blk_drewN ?_ _ | refine blk_drew ?_ | refine blk_alloc ?_ _)); exact BK154.out) hb)
                      have n4_ := Aside0.mk (blk_below (g := gb161) (o := .cells #[.int .u64 t157, .int .u32 t158, .int .u64 t159, .int .u16 t160] 31 (0, 0)) (by (with_reducible repeat (first | refine blk_drewN ?_ _ | refine blk_drew ?_ | refine blk_alloc ?_ _)); exact BK161.out) hb)
                      have n5_ := Aside0.mk (blk_below (g := gb162) (o := .cells #[.int .u64 a0_0, .int .u32 t163, .int .u64 a0_2, .int .u16 a0_3] 31 (0, 0)) (by (with_reducible repeat (first | refine blk_drewN ?_ _ | refine blk_drew ?_ | refine blk_alloc ?_ _)); exact BK162.out) hb)
                      have n6_ := Aside0.mk (below_step (by repeat (first | (with_reducible first | exact HB.out | apply below_alloc | apply pw_below_drewN | apply below_drew1 | refine below_set ?_ GE141.out | refine below_set ?_ GE142.out | refine below_set ?_ GE153.out | refine below_set ?_ GE154.out | refine below_set ?_ GE161.out | refine below_set ?_ GE162.out) | exact HB.out)) hb)
                      clear BK141
                      clear BK142
                      clear BK153
                      clear BK154
                      clear BK161
                      clear BK162
                      clear HB
                      have BK141 := n0_
                      have BK142 := n1_
                      have BK153 := n2_
                      have BK154 := n3_
                      have BK161 := n4_
                      have BK162 := n5_
                      have HB := n6_
                      clear n0_ n1_ n2_ n3_ n4_ n5_ n6_
                      (try clear hb)
                      (try clear hb2)
                      (try clear hk)
                      (try clear hi)
                      refine hK.out _ _ ⟨(blk_cell BK141.out 0).trans rfl, (blk_cell BK141.out 1).trans rfl, (blk_cell BK141.out 2).trans rfl, (blk_cell BK141.out 3).trans rfl, (blk_cell BK142.out 0).trans rfl, (blk_cell BK142.out 1).trans rfl, (blk_cell BK142.out 2).trans rfl, (blk_cell BK142.out 3).trans rfl, (blk_cell BK161.out 0).trans rfl, (blk_cell BK161.out 1).trans rfl, (blk_cell BK161.out 2).trans rfl, (blk_cell BK161.out 3).trans rfl, (blk_cell BK162.out 0).trans rfl, (blk_cell BK162.out 1).trans rfl, (blk_cell BK162.out 2).trans rfl, (blk_cell BK162.out 3).trans rfl, (blk_cell BK153.out 0).trans rfl, (blk_cell BK153.out 1).trans rfl, (blk_cell BK153.out 2).trans rfl, (blk_cell BK153.out 3).trans rfl, (blk_cell BK154.out 0).trans rfl, (blk_cell BK154.out 1).trans rfl, (blk_cell BK154.out 2).trans rfl, (blk_cell BK154.out 3).trans rfl⟩ (fun hHeld => ?_)
                      clear hK K
                      refine norm_ (a' := ?_) ?_ ?_
                      rotate_left
                      · show Act.put _ (some 76) _ = _
                        simp only [Act.put, List.setIfInBounds_toArray, List.set_cons_zero, List.set_cons_succ, i64_w, i32_w]
                        rfl
                      refine pure_ (i := 38) (N := some 77) (v := ?_) (a' := ?_) #[true, true, true, true, true, true, true, true, true, true, true, true, true, true, true, true, true, true, true, true, true, true, true, true, true, true, true, true, true, true, true, true, true, true, true, true, true, true, true, false, false] rfl rfl (any_of HT_.out (by kernel_rfl)) (fun _ _ _ h => h) (Or.inl ⟨by rfl, ?_⟩) ?_ ?_
                      rotate_left
                      · intro w'
                        go_simp
                        with_reducible rfl
                      rotate_left
                      · simp only [Act.put, List.setIfInBounds_toArray, List.set_cons_zero, List.set_cons_succ, i64_w, i32_w]
                        rfl
                      refine pure_ (i := 39) (N := some 78) (v := ?_) (a' := ?_) #[true, true, true, true, true, true, true, true, true, true, true, true, true, true, true, true, true, true, true, true, true, true, true, true, true, true, true, true, true, true, true, true, true, true, true, true, true, true, true, true, false] rfl rfl (any_of HT_.out (by kernel_rfl)) (fun _ _ _ h => h) (Or.inl ⟨by rfl, ?_⟩) ?_ ?_
                      rotate_left
                      · intro w'
                        go_simp
                        with_reducible rfl
                      rotate_left
                      · simp only [Act.put, List.setIfInBounds_toArray, List.set_cons_zero, List.set_cons_succ, i64_w, i32_w]
                        rfl
                      refine pure_ (i := 40) (N := some 8) (v := ?_) (a' := ?_) #[true, true, true, true, true, true, true, true, true, true, true, true, true, true, true, true, true, true, true, true, true, true, true, true, true, true, true, true, true, true, true, true, true, true, true, true, true, true, true, true, true] rfl rfl (any_of HT_.out (by kernel_rfl)) (fun _ _ _ h => h) (Or.inl ⟨by rfl, ?_⟩) ?_ ?_
                      rotate_left
                      · intro w'
                        go_simp
                        with_reducible rfl
                      rotate_left
                      · simp only [Act.put, List.setIfInBounds_toArray, List.set_cons_zero, List.set_cons_succ, i64_w, i32_w]
                        rfl
                      refine done_ (done_of HT_.out (by kernel_rfl)) ?_
                      try go_wp2
                      go_ret
                      exact ⟨by first | rfl | (simp [errW_none, errW_some] <;> rfl) | (simp [*, errW_none, errW_some] <;> rfl), by repeat (first | (with_reducible first | exact HB.out | apply below_alloc | apply pw_below_drewN | apply below_drew1 | refine below_set ?_ GE141.out | refine below_set ?_ GE142.out | refine below_set ?_ GE153.out | refine below_set ?_ GE154.out | refine below_set ?_ GE161.out | refine below_set ?_ GE162.out) | exact HB.out)⟩
                  · rw [if_neg c61] at H
                    have c61b0 : (t157 == a0_0 && (t158 == t163 && (t159 == a0_2 && (t160 == a0_3)))) = false := by simpa using c61
                    (try (have c61b1 : decide (t157 = a0_0 && (t158 == t163 && (t159 == a0_2 && (t160 == a0_3)))) = false := by simpa using c61))
                    (try (have c61b2 : (t157 == a0_0 && (t158 == t163 && (t159 == a0_2 && (t160 == a0_3)))) = false := by simpa using c61))
                    (try (have c61b3 : ¬ (t157 = a0_0 && (t158 == t163 && (t159 == a0_2 && (t160 == a0_3)))) := by simpa using c61))
                    clear c61
                    exact absurd ((Option.some.inj H).trans LRT.out) (by decide)
                · rw [if_neg c60] at H
                  have c60b0 : (t165 == t166) = false := beq_eq_false_iff_ne.mpr c60
                  have c60b1 : (t165 != t166) = true := bne_iff_ne.mpr c60
                  exact absurd ((Option.some.inj H).trans LRT.out) (by decide)
              · rw [if_neg c57] at H
                have c57b0 : (t164 == (decide (x12_42 ≤ 0))) = false := by simpa using c57
                (try (have c57b1 : decide (t164 = (decide (x12_42 ≤ 0))) = false := by simpa using c57))
                (try (have c57b2 : (t164 == (decide (x12_42 ≤ 0))) = false := by simpa using c57))
                (try (have c57b3 : ¬ (t164 = (decide (x12_42 ≤ 0))) := by simpa using c57))
                clear c57
                exact absurd ((Option.some.inj H).trans LRT.out) (by decide)
            · rw [if_neg c55] at H
              have c55b0 : (t144 == x12_42) = false := beq_eq_false_iff_ne.mpr c55
              have c55b1 : (t144 != x12_42) = true := bne_iff_ne.mpr c55
              exact absurd ((Option.some.inj H).trans LRT.out) (by decide)
  · replace c6 := Bool.eq_false_iff.mpr c6
    subst c6
    have H1 : (some false) = some r := by rw [if_neg (show ¬ (false = true) by decide)] at H; exact H
    clear H
    have H := H1
    clear H1
    exact absurd ((Option.some.inj H).trans LRT.out) (by decide)
end Go.Proofs.Ytnoejdogickplaa.PRankPlays
