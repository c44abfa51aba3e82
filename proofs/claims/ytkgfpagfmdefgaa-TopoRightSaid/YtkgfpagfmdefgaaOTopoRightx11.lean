/- What Go functions that the law TopoRight uses come to, and why: part 11. Made out of the kit's print by a program of this session (wip/tools/stub.py, splice.py), functions that it does not take told by hand. -/
import Derived.Test.YtkgfpagfmdefgaaOTopoRightx10
namespace Go.Proofs.Ytkgfpagfmdefgaa.OTopoRight
open Go.RowKit Go.Proofs.YtkgfpagfmdefgaaW.PrintWords Go.Proofs.YtkgfpagfmdefgaaW.PrintLast Go.Proofs.YtkgfpagfmdefgaaW.PrintMore
attribute [local go_sem] max2_int min2_int max_two min_two max_three min_three max_four min_four   -- for this text's walks alone
set_option linter.unusedVariables false
set_option linter.unusedSimpArgs false
private theorem setCell_drewN_ (w : World) (n : Nat) (p : Addr) (u : Value) : (w.drewN n).setCell p u = (w.setCell p u).drewN n := by
  unfold World.setCell World.drewN
  split <;> rfl

/-! ### treelinelaw20_awake: function 7 -/
def treelinelaw20_awake.f (k : Nat)  : Option (Bool) := (treelinelaw19_Small.f k 1 2).bind fun bt173 => ((some (([(⟨bt173.1, bt173.2.1, bt173.2.2.1, bt173.2.2.2.1, bt173.2.2.2.2.1, bt173.2.2.2.2.2.1, bt173.2.2.2.2.2.2.1, bt173.2.2.2.2.2.2.2⟩ : S48)] : List (S48)) : List (S48))).bind fun y183 => ((some (([(([0, 1] : List Int))] : List (List Int)) : List (List Int))).bind fun y189 => ((topo_Check.f k 2 y183 y189 ([] : List (S59))).bind fun t193 => (if t193 = 0 then ((topo_On.f k 2 y183 y189 ([] : List (S59))).bind fun t194 => ((topo_Joined.f k 2 y183 y189 ([] : List (S59)) t194).bind fun t197 => (if t197 = true then ((topo_Joined.f k 2 y183 y189 ([] : List (S59)) ([] : List (List Bool))).bind fun t198 => (some (!t198))) else (some false)))) else (some false)))))
theorem treelinelaw20_awake.mono : ∀ k, LeO (treelinelaw20_awake.f k ) (treelinelaw20_awake.f (k + 1) ) := by
  intro  k
  unfold treelinelaw20_awake.f
  repeat' first
      | (with_reducible exact topo_Check.mono _ _ _ _ _)
      | (with_reducible exact topo_Joined.mono _ _ _ _ _ _)
      | (with_reducible exact topo_On.mono _ _ _ _ _)
      | (with_reducible exact treelinelaw19_Small.mono _ _ _)
      | (with_reducible exact LeO.refl _)
      | (with_reducible exact LeO.none _)
      | (with_reducible refine LeO.ite ?_ ?_)
      | (with_reducible refine LeO.bind ?_ (fun _ => ?_))
      | exact topo_Check.mono _ _ _ _ _
      | exact topo_Joined.mono _ _ _ _ _ _
      | exact topo_On.mono _ _ _ _ _
      | exact treelinelaw19_Small.mono _ _ _
      | exact LeO.none _
      | refine LeO.ite ?_ ?_
      | refine LeO.bind ?_ (fun _ => ?_)
def treelinelaw20_awake.T2 : Bool × List (List Nat × List Nat) := (true, [([], []), ([0], [0]), ([1], [1]), ([2, 1], [2]), ([3], [3]), ([3], [3]), ([5, 3, 3], [3, 5]), ([4, 6, 6, 3], [3, 4, 6]), ([3, 7], [3, 7]), ([8, 7], [8]), ([9], [9]), ([10, 9, 9], [9, 10]), ([11, 9], [9, 11]), ([9, 12], [9, 12]), ([13, 11, 0, 1, 2, 3, 4, 5, 6, 7, 8, 9, 10, 11, 12, 13], [13])])
def treelinelaw20_awake.B2 : List Nat := [0, 1, 3, 7, 15, 15, 47, 127, 255, 511, 1023, 2047, 4095, 8191, 16383]
theorem treelinelaw20_awake.tab2 : rtab .any (opsOf Try.f7 2) = treelinelaw20_awake.T2 := by kernel_rfl
theorem treelinelaw20_awake.bits2 : waitsOk treelinelaw20_awake.T2.2 treelinelaw20_awake.B2 = true := by kernel_rfl
set_option maxHeartbeats 8000000 in
set_option maxRecDepth 100000 in
theorem treelinelaw20_awake.calls (k : Nat)  (r : Bool) (w : World) (h : treelinelaw20_awake.f k  = some r) :
  Calls Try.prog 7 #[] w fun e w' => e = .returned (.bool r) ∧ Below w.heap.size w w' := by
 have hu26 := Try.underlying26
 have HB := Aside0.mk (Below.refl w.heap.size w)
 have H : ((treelinelaw19_Small.f k 1 2).bind fun bt173 => ((some (([(⟨bt173.1, bt173.2.1, bt173.2.2.1, bt173.2.2.2.1, bt173.2.2.2.2.1, bt173.2.2.2.2.2.1, bt173.2.2.2.2.2.2.1, bt173.2.2.2.2.2.2.2⟩ : S48)] : List (S48)) : List (S48))).bind fun y183 => ((some (([(([0, 1] : List Int))] : List (List Int)) : List (List Int))).bind fun y189 => ((topo_Check.f k 2 y183 y189 ([] : List (S59))).bind fun t193 => (if t193 = 0 then ((topo_On.f k 2 y183 y189 ([] : List (S59))).bind fun t194 => ((topo_Joined.f k 2 y183 y189 ([] : List (S59)) t194).bind fun t197 => (if t197 = true then ((topo_Joined.f k 2 y183 y189 ([] : List (S59)) ([] : List (List Bool))).bind fun t198 => (some (!t198))) else (some false)))) else (some false)))))) = some r := h
 clear h
 replace H := Option.bind_eq_some_iff.mp H
 obtain ⟨⟨t173, t174, t175, t176, t177, t178, t179, t180⟩, A10, H⟩ := H
 replace H : ((some (([(⟨t173, t174, t175, t176, t177, t178, t179, t180⟩ : S48)] : List (S48)) : List (S48))).bind fun y183 => ((some (([(([0, 1] : List Int))] : List (List Int)) : List (List Int))).bind fun y189 => ((topo_Check.f k 2 y183 y189 ([] : List (S59))).bind fun t193 => (if t193 = 0 then ((topo_On.f k 2 y183 y189 ([] : List (S59))).bind fun t194 => ((topo_Joined.f k 2 y183 y189 ([] : List (S59)) t194).bind fun t197 => (if t197 = true then ((topo_Joined.f k 2 y183 y189 ([] : List (S59)) ([] : List (List Bool))).bind fun t198 => (some (!t198))) else (some false)))) else (some false))))) = some r := H
 have A1 := Aside0.mk A10
 clear A10
 obtain ⟨y183, hy183⟩ : ∃ y_ : List (S48), y_ = (([(⟨t173, t174, t175, t176, t177, t178, t179, t180⟩ : S48)] : List (S48))) := ⟨_, rfl⟩
 replace H : ((some (([(([0, 1] : List Int))] : List (List Int)) : List (List Int))).bind fun y189 => ((topo_Check.f k 2 y183 y189 ([] : List (S59))).bind fun t193 => (if t193 = 0 then ((topo_On.f k 2 y183 y189 ([] : List (S59))).bind fun t194 => ((topo_Joined.f k 2 y183 y189 ([] : List (S59)) t194).bind fun t197 => (if t197 = true then ((topo_Joined.f k 2 y183 y189 ([] : List (S59)) ([] : List (List Bool))).bind fun t198 => (some (!t198))) else (some false)))) else (some false)))) = some r := by first | (rw [hy183]; with_reducible exact H) | (have H2_ := (Option.bind_some _ _).symm.trans H; rw [hy183]; with_reducible exact H2_) | (have H2_ := (Option.bind_some _ _).symm.trans H; with_reducible exact H2_) | with_reducible exact H | (rw [hy183]; exact H) | exact H
 have Ny183 := Aside0.mk hy183
 clear hy183
 obtain ⟨y186, hy186⟩ : ∃ y_ : List Int, y_ = (([0, 1] : List Int)) := ⟨_, rfl⟩
 replace H : ((some (([y186] : List (List Int)) : List (List Int))).bind fun y189 => ((topo_Check.f k 2 y183 y189 ([] : List (S59))).bind fun t193 => (if t193 = 0 then ((topo_On.f k 2 y183 y189 ([] : List (S59))).bind fun t194 => ((topo_Joined.f k 2 y183 y189 ([] : List (S59)) t194).bind fun t197 => (if t197 = true then ((topo_Joined.f k 2 y183 y189 ([] : List (S59)) ([] : List (List Bool))).bind fun t198 => (some (!t198))) else (some false)))) else (some false)))) = some r := by first | (rw [hy186]; with_reducible exact H) | (have H2_ := (Option.bind_some _ _).symm.trans H; rw [hy186]; with_reducible exact H2_) | (have H2_ := (Option.bind_some _ _).symm.trans H; with_reducible exact H2_) | with_reducible exact H | (rw [hy186]; exact H) | exact H
 have Ny186 := Aside0.mk hy186
 clear hy186
 obtain ⟨y189, hy189⟩ : ∃ y_ : List (List Int), y_ = (([y186] : List (List Int))) := ⟨_, rfl⟩
 replace H : ((topo_Check.f k 2 y183 y189 ([] : List (S59))).bind fun t193 => (if t193 = 0 then ((topo_On.f k 2 y183 y189 ([] : List (S59))).bind fun t194 => ((topo_Joined.f k 2 y183 y189 ([] : List (S59)) t194).bind fun t197 => (if t197 = true then ((topo_Joined.f k 2 y183 y189 ([] : List (S59)) ([] : List (List Bool))).bind fun t198 => (some (!t198))) else (some false)))) else (some false))) = some r := by first | (rw [hy189]; with_reducible exact H) | (have H2_ := (Option.bind_some _ _).symm.trans H; rw [hy189]; with_reducible exact H2_) | (have H2_ := (Option.bind_some _ _).symm.trans H; with_reducible exact H2_) | with_reducible exact H | (rw [hy189]; exact H) | exact H
 have Ny189 := Aside0.mk hy189
 clear hy189
 replace H := Option.bind_eq_some_iff.mp H
 obtain ⟨t193, A20, H⟩ := H
 replace H : (if t193 = 0 then ((topo_On.f k 2 y183 y189 ([] : List (S59))).bind fun t194 => ((topo_Joined.f k 2 y183 y189 ([] : List (S59)) t194).bind fun t197 => (if t197 = true then ((topo_Joined.f k 2 y183 y189 ([] : List (S59)) ([] : List (List Bool))).bind fun t198 => (some (!t198))) else (some false)))) else (some false)) = some r := H
 have A2 := Aside0.mk A20
 clear A20
 by_cases c3 : t193 = 0
 rotate_left
 ·rw [if_neg c3] at H
  have c3b0 : (t193 == 0) = false := beq_eq_false_iff_ne.mpr c3
  have c3b1 : (t193 != 0) = true := bne_iff_ne.mpr c3
  obtain rfl := Option.some.inj H
  go_enter Try.func7, Try.ntmps7
  try go_wp2_with (first | ((with_reducible refine gate_callee (f := 18) rfl ?_); refine goesL_ (some 2) rfl rfl Try.func18 (by kernel_rfl) rfl #[.int .u64 1, .int .i64 2] rfl (by (try simp only [List.map_toArray, List.map_cons, List.map_nil]); first | done | rfl | (simp only [List.length_drop, List.length_take]; rfl)) ?_; (with_reducible refine (treelinelaw19_Small.calls k 1 2 t173 t174 t175 t176 t177 t178 t179 t180 _ A1.out).mono ?_); rintro e w47 ⟨v181, rfl, ho0, hb⟩; refine ⟨_, rfl, ?_⟩; have n0_ := Aside0.mk (Kd.R_lower ho0 (below_size (by repeat (first | (with_reducible first | exact HB.out | apply below_alloc | apply pw_below_drewN | apply below_drew1) | exact HB.out)))); have n1_ := Aside0.mk (below_step (by repeat (first | (with_reducible first | exact HB.out | apply below_alloc | apply pw_below_drewN | apply below_drew1) | exact HB.out)) hb); clear HB; have HO182 := n0_; have HB := n1_; clear n0_ n1_; (try clear hb); (try clear hb2); (try clear hk); (try clear hi); (try clear ho0); obtain ⟨Ao48, co48, eo48⟩ := Kd.R_slice HO182.out; subst eo48) | ((with_reducible refine gate_dst (N := 3) rfl ?_); refine Kd.N_lit k48 _ 48 ?hg (N' := 3) ?hd (xs := ([(⟨t173, t174, t175, t176, t177, t178, t179, t180⟩ : S48)] : List (S48))) (inner := [.int .u64 t173, .int .u16 t174, .int .i64 t175, .int .i64 t176, .int .i64 t177, .int .i64 t178, .int .i64 t179, .slice Ao48 t180.length co48]) (ok := (fun _ => True)) (okp := (fun _ => True)) ?hr ?hp (fun _ hk => hk) ((show ∀ k_, w47.heap.size ≤ k_ → (fun _ => True) k_ from fun k_ hk => trivial) _ (Nat.le_refl _)) (Below.refl _ _) (Nat.le_refl _) (by simp) ?_; (case hd => rfl); (case hg => rfl); (case hr => first | (go_simp; done) | (go_simp; rfl)); (case hp => exact (Reps.c8 (show Kd.FK k48 _ _ (⟨t173, t174, t175, t176, t177, t178, t179, t180⟩ : S48) [.int .u64 t173, .int .u16 t174, .int .i64 t175, .int .i64 t176, .int .i64 t177, .int .i64 t178, .int .i64 t179, .slice Ao48 t180.length co48] from (k48_mkF _ _ (⟨t173, t174, t175, t176, t177, t178, t179, t180⟩ : S48) (Kd.R_reads' (Kd.R_mono (ok' := (fun _ => True)) (HO182.out) (fun k_ hk => trivial))).2.1 (Kd.R_F (Kd.R_mono (ok' := (fun _ => True)) (HO182.out) (fun k_ hk => trivial))))) (Reps.none _ _))); intro v184 w49 ho50 hb hg_ hnew_; clear hg_ hnew_; (first | rw [← Ny183.out] at ho50 | (simp only [Int.reduceToNat] at ho50; rw [← Ny183.out] at ho50)); have n0_ := Aside0.mk (Kd.N_lower ho50 (below_size (by repeat (first | (with_reducible first | exact HB.out | apply below_alloc | apply pw_below_drewN | apply below_drew1) | exact HB.out)))); have n1_ := Aside0.mk (below_step (by repeat (first | (with_reducible first | exact HB.out | apply below_alloc | apply pw_below_drewN | apply below_drew1) | exact HB.out)) hb); clear HB; clear HO182; have HO185 := n0_; have HB := n1_; clear n0_ n1_; clear hb ho50) | ((with_reducible refine gate_dst (N := 4) rfl ?_); refine Kd.R_lit (Kd.int .i64) _ 3 ?hg (N := 4) ?hd (xs := ([0, 1] : List Int)) (inner := [.int .i64 0, .int .i64 1]) (ok := fun _ => True) (okp := fun _ => True) ?hr ?hp (fun _ hk => hk) trivial (Below.refl _ _) (Nat.le_refl _) (by simp) ?_; (case hd => rfl); (case hg => rfl); (case hr => first | (go_simp; done) | (go_simp; rfl)); (case hp => exact (Reps.one (show Kd.M (Kd.int .i64) _ _ _ 0 [.int .i64 0] from rfl) (Reps.one (show Kd.M (Kd.int .i64) _ _ _ 1 [.int .i64 1] from rfl) (Reps.none _ _)))); intro v187 w51 ho52 hb hg_ hnew_; clear hg_ hnew_; (first | rw [← Ny186.out] at ho52 | (simp only [Int.reduceToNat] at ho52; rw [← Ny186.out] at ho52)); have n0_ := Aside0.mk (Kd.N_elder' (by (with_reducible repeat (first | apply Kd.N_alloc | apply Kd.N_drewN | apply Kd.N_drew)); exact HO185.out) (Kd.R_base ho52) hb); have n1_ := Aside0.mk (Kd.R_lower ho52 (below_size (by repeat (first | (with_reducible first | exact HB.out | apply below_alloc | apply pw_below_drewN | apply below_drew1) | exact HB.out)))); have n2_ := Aside0.mk (below_step (by repeat (first | (with_reducible first | exact HB.out | apply below_alloc | apply pw_below_drewN | apply below_drew1) | exact HB.out)) hb); clear HO185; clear HB; have HO185 := n0_; have HO188 := n1_; have HB := n2_; clear n0_ n1_ n2_; clear hb ho52; obtain ⟨Ao53, co53, eo53⟩ := Kd.R_slice HO188.out; subst eo53) | ((with_reducible refine gate_dst (N := 5) rfl ?_); refine Kd.N_lit (Kd.slice 3 (Kd.int .i64)) _ 33 ?hg (N' := 5) ?hd (xs := ([y186] : List (List Int))) (inner := [.slice Ao53 y186.length co53]) (ok := (fun k_ => some k_ ≠ (v184 : Value).ownBlock)) (okp := (fun k_ => some k_ ≠ (v184 : Value).ownBlock)) ?hr ?hp (fun _ hk => hk) ((show ∀ k_, w51.heap.size ≤ k_ → (fun k_ => some k_ ≠ (v184 : Value).ownBlock) k_ from fun k_ hk => Kd.fresh' (Kd.N_lt (by (with_reducible repeat (first | apply Kd.N_alloc | apply Kd.N_drewN | apply Kd.N_drew)); exact HO185.out)) k_ hk) _ (Nat.le_refl _)) (Below.refl _ _) (Nat.le_refl _) (by simp) ?_; (case hd => rfl); (case hg => rfl); (case hr => first | (go_simp; done) | (go_simp; rfl)); (case hp => exact (Reps.one (show Kd.FK (Kd.slice 3 (Kd.int .i64)) _ _ y186 [.slice Ao53 y186.length co53] from (Kd.FK_slice_mk (Kd.R_reads' (Kd.R_mono (ok' := (fun k_ => some k_ ≠ (v184 : Value).ownBlock)) (Kd.R_apart' (HO188.out) (Kd.N_typed HO185.out) (by decide)) (fun k_ hk => hk.2))).2.1 (Kd.R_F (Kd.R_mono (ok' := (fun k_ => some k_ ≠ (v184 : Value).ownBlock)) (Kd.R_apart' (HO188.out) (Kd.N_typed HO185.out) (by decide)) (fun k_ hk => hk.2))))) (Reps.none _ _))); intro v190 w54 ho55 hb hg_ hnew_; clear hg_ hnew_; (first | rw [← Ny189.out] at ho55 | (simp only [Int.reduceToNat] at ho55; rw [← Ny189.out] at ho55)); have n0_ := Aside0.mk (Kd.N_elder' (by (with_reducible repeat (first | apply Kd.N_alloc | apply Kd.N_drewN | apply Kd.N_drew)); exact HO185.out) (Kd.N_base ho55) hb); have n1_ := Aside0.mk (Kd.N_lower ho55 (below_size (by repeat (first | (with_reducible first | exact HB.out | apply below_alloc | apply pw_below_drewN | apply below_drew1) | exact HB.out)))); have n2_ := Aside0.mk (below_step (by repeat (first | (with_reducible first | exact HB.out | apply below_alloc | apply pw_below_drewN | apply below_drew1) | exact HB.out)) hb); clear HO185; clear HB; clear HO188; have HO185 := n0_; have HO191 := n1_; have HB := n2_; clear n0_ n1_ n2_; clear hb ho55; obtain ⟨Ao56, co56, eo56⟩ := Kd.N_slice HO191.out; subst eo56; obtain ⟨Ao57, co57, eo57⟩ := Kd.N_slice HO185.out; subst eo57) | ((with_reducible refine gate_dst (N := 1) rfl ?_); refine box_event ?hg (N := 1) ?hd (cs := #[.int .i64 0, .slice none 0 0, .slice none 0 0, .slice none 0 0]) (t := 26) ?hr ?_; (case hd => rfl); (case hg => rfl); (case hr => first | (go_simp; done) | (go_simp; rfl)); intro gb192 hg w58 hbox hb; have n0_ := Aside0.mk (Kd.N_below (Kd.N_elderB (by (with_reducible repeat (first | apply Kd.N_alloc | apply Kd.N_drewN | apply Kd.N_drew)); exact HO185.out) gb192 (Nat.le_of_eq hg.symm)) hb); have n1_ := Aside0.mk (Kd.N_below (Kd.N_elderB (by (with_reducible repeat (first | apply Kd.N_alloc | apply Kd.N_drewN | apply Kd.N_drew)); exact HO191.out) gb192 (Nat.le_of_eq hg.symm)) hb); have n2_ := Aside0.mk (below_step (by repeat (first | (with_reducible first | exact HB.out | apply below_alloc | apply pw_below_drewN | apply below_drew1) | exact HB.out)) hb); have n3_ := Aside0.mk (hbox); have n4_ := Aside0.mk ((by rw [hg]; exact (below_size (by repeat (first | (with_reducible first | exact HB.out | apply below_alloc | apply pw_below_drewN | apply below_drew1) | exact HB.out))) : w.heap.size ≤ gb192)); have n5_ := Aside0.mk ((by rw [hg]; exact (below_size (by repeat (first | (with_reducible first | exact HB.out | apply below_alloc | apply pw_below_drewN | apply below_drew1) | exact HB.out))) : w.heap.size ≤ gb192)); clear HO185; clear HO191; clear HB; have HO185 := n0_; have HO191 := n1_; have HB := n2_; have BK192 := n3_; have GW192 := n4_; have GE192 := n5_; clear n0_ n1_ n2_ n3_ n4_ n5_; clear hb hbox hg; have hcz59_0 : w58.cell? ⟨gb192, 0, none⟩ = some (.int .i64 0) := (blk_cell BK192.out 0).trans rfl; have hcz59_1 : w58.cell? ⟨gb192, 1, none⟩ = some (.slice none 0 0) := (blk_cell BK192.out 1).trans rfl; have hcz59_2 : w58.cell? ⟨gb192, 2, none⟩ = some (.slice none 0 0) := (blk_cell BK192.out 2).trans rfl; have hcz59_3 : w58.cell? ⟨gb192, 3, none⟩ = some (.slice none 0 0) := (blk_cell BK192.out 3).trans rfl; have hfz59_0 := blk_frozen BK192.out 0; have hfz59_1 := blk_frozen BK192.out 1; have hfz59_2 := blk_frozen BK192.out 2; have hfz59_3 := blk_frozen BK192.out 3))
  have n0_ : Aside0 (Kd.N k48 48 ((((w58.setCell ⟨gb192, 0, none⟩ (.int .i64 2)).setCell ⟨gb192, 1, none⟩ (.slice Ao57 y183.length co57)).setCell ⟨gb192, 2, none⟩ (.slice Ao56 y189.length co56)).setCell ⟨gb192, 3, none⟩ (.slice none 0 0)) w.heap.size (fun k_ => some k_ ≠ (.slice Ao56 y189.length co56 : Value).ownBlock ∧ k_ ≠ gb192) (.slice Ao57 y183.length co57) y183) := ⟨by (with_reducible repeat (first | apply Kd.N_alloc | apply Kd.N_drewN | apply Kd.N_drew)); exact Kd.N_mono (Kd.N_far (p := ⟨gb192, 3, none⟩) (Kd.N_far (p := ⟨gb192, 2, none⟩) (Kd.N_far (p := ⟨gb192, 1, none⟩) (Kd.N_far (p := ⟨gb192, 0, none⟩) (Kd.N_mono HO185.out (fun k_ hk => (⟨hk, hk.2⟩ : _ ∧ k_ ≠ gb192))) (fun _ hk => hk.2) (.int .i64 2)) (fun _ hk => hk.2) (.slice Ao57 y183.length co57)) (fun _ hk => hk.2) (.slice Ao56 y189.length co56)) (fun _ hk => hk.2) (.slice none 0 0)) (fun _ hk => ⟨hk.1.1.2, hk.1.2⟩)⟩
  have n1_ : Aside0 (Kd.N (Kd.slice 3 (Kd.int .i64)) 33 ((((w58.setCell ⟨gb192, 0, none⟩ (.int .i64 2)).setCell ⟨gb192, 1, none⟩ (.slice Ao57 y183.length co57)).setCell ⟨gb192, 2, none⟩ (.slice Ao56 y189.length co56)).setCell ⟨gb192, 3, none⟩ (.slice none 0 0)) w.heap.size (fun k_ => some k_ ≠ (.slice Ao57 y183.length co57 : Value).ownBlock ∧ k_ ≠ gb192) (.slice Ao56 y189.length co56) y189) := ⟨by (with_reducible repeat (first | apply Kd.N_alloc | apply Kd.N_drewN | apply Kd.N_drew)); exact Kd.N_mono (Kd.N_far (p := ⟨gb192, 3, none⟩) (Kd.N_far (p := ⟨gb192, 2, none⟩) (Kd.N_far (p := ⟨gb192, 1, none⟩) (Kd.N_far (p := ⟨gb192, 0, none⟩) (Kd.N_mono HO191.out (fun k_ hk => (⟨hk, hk.2⟩ : _ ∧ k_ ≠ gb192))) (fun _ hk => hk.2) (.int .i64 2)) (fun _ hk => hk.2) (.slice Ao57 y183.length co57)) (fun _ hk => hk.2) (.slice Ao56 y189.length co56)) (fun _ hk => hk.2) (.slice none 0 0)) (fun _ hk => ⟨hk.1.1, hk.1.2⟩)⟩
  have n2_ : Aside0 (((((w58.setCell ⟨gb192, 0, none⟩ (.int .i64 2)).setCell ⟨gb192, 1, none⟩ (.slice Ao57 y183.length co57)).setCell ⟨gb192, 2, none⟩ (.slice Ao56 y189.length co56)).setCell ⟨gb192, 3, none⟩ (.slice none 0 0)).heap[gb192]? = some (.cells #[.int .i64 2, .slice Ao57 y183.length co57, .slice Ao56 y189.length co56, .slice none 0 0] 26 (0, 0))) := ⟨by (with_reducible repeat (first | refine blk_drewN ?_ _ | refine blk_drew ?_ | refine blk_alloc ?_ _)); refine blk_put (cs := #[.int .i64 2, .slice Ao57 y183.length co57, .slice Ao56 y189.length co56, .slice none 0 0]) ?_ 3 _ rfl; (with_reducible repeat (first | refine blk_drewN ?_ _ | refine blk_drew ?_ | refine blk_alloc ?_ _)); refine blk_put (cs := #[.int .i64 2, .slice Ao57 y183.length co57, .slice none 0 0, .slice none 0 0]) ?_ 2 _ rfl; (with_reducible repeat (first | refine blk_drewN ?_ _ | refine blk_drew ?_ | refine blk_alloc ?_ _)); refine blk_put (cs := #[.int .i64 2, .slice none 0 0, .slice none 0 0, .slice none 0 0]) ?_ 1 _ rfl; (with_reducible repeat (first | refine blk_drewN ?_ _ | refine blk_drew ?_ | refine blk_alloc ?_ _)); refine blk_put (cs := #[.int .i64 0, .slice none 0 0, .slice none 0 0, .slice none 0 0]) ?_ 0 _ rfl; (with_reducible repeat (first | refine blk_drewN ?_ _ | refine blk_drew ?_ | refine blk_alloc ?_ _)); exact BK192.out⟩
  have n3_ : Aside0 (Below w.heap.size w ((((w58.setCell ⟨gb192, 0, none⟩ (.int .i64 2)).setCell ⟨gb192, 1, none⟩ (.slice Ao57 y183.length co57)).setCell ⟨gb192, 2, none⟩ (.slice Ao56 y189.length co56)).setCell ⟨gb192, 3, none⟩ (.slice none 0 0))) := ⟨by repeat (first | (with_reducible first | exact HB.out | apply below_alloc | apply pw_below_drewN | apply below_drew1 | refine below_set ?_ GE192.out) | exact HB.out)⟩
  (try clear HO185)
  (try clear HO191)
  (try clear BK192)
  (try clear HB)
  (try simp only [setCell_drewN_])
  generalize ((((w58.setCell ⟨gb192, 0, none⟩ (.int .i64 2)).setCell ⟨gb192, 1, none⟩ (.slice Ao57 y183.length co57)).setCell ⟨gb192, 2, none⟩ (.slice Ao56 y189.length co56)).setCell ⟨gb192, 3, none⟩ (.slice none 0 0)) = w60 at n0_ n1_ n2_ n3_ ⊢
  have HO185 := n0_
  have HO191 := n1_
  have BK192 := n2_
  have HB := n3_
  clear n0_ n1_ n2_ n3_
  have n0_ := Aside0.mk (Kd.N_drew HO185.out)
  have n1_ := Aside0.mk (Kd.N_drew HO191.out)
  have n2_ := Aside0.mk (blk_drew BK192.out)
  have n3_ := Aside0.mk (below_drew1 HB.out)
  clear HO185
  clear HO191
  clear BK192
  clear HB
  have HO185 := n0_
  have HO191 := n1_
  have BK192 := n2_
  have HB := n3_
  clear n0_ n1_ n2_ n3_
  refine start_ (n := 15) (S := fun w' => w'.cell? ⟨gb192, 0, none⟩ = some (.int .i64 2) ∧ w'.cell? ⟨gb192, 1, none⟩ = some (.slice Ao57 y183.length co57) ∧ w'.cell? ⟨gb192, 2, none⟩ = some (.slice Ao56 y189.length co56) ∧ w'.cell? ⟨gb192, 3, none⟩ = some (.slice none 0 0)) (ds := []) #[false, false, false, false, false, false, false, false, false, false, false, false, false, false, false] (by kernel_rfl) rfl rfl ⟨(blk_cell BK192.out 0).trans rfl, (blk_cell BK192.out 1).trans rfl, (blk_cell BK192.out 2).trans rfl, (blk_cell BK192.out 3).trans rfl⟩ (fun hHeld => ?_); refine with_tabW treelinelaw20_awake.tab2 treelinelaw20_awake.bits2 (fun HT_ HW_ => ?_)
  generalize w60.drew = w61 at HO185 HO191 BK192 HB hHeld ⊢
  refine take_ (i := 0) (N := some 7) (v := ?_) (a' := ?_) #[true, false, false, false, false, false, false, false, false, false, false, false, false, false, false] rfl rfl (take_ofW HT_.out HW_.out (by kernel_rfl)) (fun _ _ _ h => h) (Or.inl ⟨by rfl, ?_⟩) hHeld ?_ ?_
  rotate_left
  ·rintro w' ⟨s0, s1, s2, s3⟩
   go_simp
   with_reducible rfl
  rotate_left
  ·simp only [Act.put, List.setIfInBounds_toArray, List.set_cons_zero, List.set_cons_succ, i64_w, i32_w]
   rfl
  refine one_ (i := 1) (N := some 8) #[true, true, false, false, false, false, false, false, false, false, false, false, false, false, false] rfl rfl (one_of HT_.out (by kernel_rfl)) (by decide) (fun K hK => ?_)
  refine goes_ Try.func9 (by kernel_rfl) rfl #[.agg #[.int .i64 2, .slice Ao57 y183.length co57, .slice Ao56 y189.length co56, .slice none 0 0]] (by rfl) rfl rfl (by (try simp only [List.map_toArray, List.map_cons, List.map_nil]); first | done | rfl | (simp only [List.length_drop, List.length_take]; rfl)) ?_
  refine (topo_Check.calls k 2 _ _ y183 _ _ y189 _ _ ([] : List (S59)) t193 _ ?side1 ?side2 ?side3 ?side4 ?side5 ?side6 A2.out).mono ?_
  (case side1 => repeat (first | exact (Kd.N_reads' HO185.out).2.2 | (with_reducible refine Kd.C_alloc ?_ _) | (with_reducible refine Kd.C_drewN ?_ _) | (with_reducible refine Kd.C_drew ?_)))
  (case side2 => exact (Kd.N_reads' HO185.out).2.1)
  (case side3 => repeat (first | exact (Kd.N_reads' HO191.out).2.2 | (with_reducible refine Kd.C_alloc ?_ _) | (with_reducible refine Kd.C_drewN ?_ _) | (with_reducible refine Kd.C_drew ?_)))
  (case side4 => exact (Kd.N_reads' HO191.out).2.1)
  (case side5 => exact Kd.C_nil _ _)
  (case side6 => exact Nat.le_refl _)
  rintro e w62 ⟨rfl, hb⟩
  refine ⟨_, rfl, ?_⟩
  have n0_ := Aside0.mk (Kd.N_below (by (with_reducible repeat (first | apply Kd.N_alloc | apply Kd.N_drewN | apply Kd.N_drew)); exact HO185.out) hb)
  have n1_ := Aside0.mk (Kd.N_below (by (with_reducible repeat (first | apply Kd.N_alloc | apply Kd.N_drewN | apply Kd.N_drew)); exact HO191.out) hb)
  have n2_ := Aside0.mk (blk_below (g := gb192) (o := .cells #[.int .i64 2, .slice Ao57 y183.length co57, .slice Ao56 y189.length co56, .slice none 0 0] 26 (0, 0)) (by (with_reducible repeat (first | refine blk_drewN ?_ _ | refine blk_drew ?_ | refine blk_alloc ?_ _)); exact BK192.out) hb)
  have n3_ := Aside0.mk (below_step (by repeat (first | (with_reducible first | exact HB.out | apply below_alloc | apply pw_below_drewN | apply below_drew1 | refine below_set ?_ GE192.out) | exact HB.out)) hb)
  clear HO185
  clear HO191
  clear BK192
  clear HB
  have HO185 := n0_
  have HO191 := n1_
  have BK192 := n2_
  have HB := n3_
  clear n0_ n1_ n2_ n3_
  (try clear hb)
  (try clear hb2)
  (try clear hk)
  (try clear hi)
  refine hK.out _ _ ⟨(blk_cell BK192.out 0).trans rfl, (blk_cell BK192.out 1).trans rfl, (blk_cell BK192.out 2).trans rfl, (blk_cell BK192.out 3).trans rfl⟩ (fun hHeld => ?_)
  clear hK K
  refine norm_ (a' := ?_) ?_ ?_
  rotate_left
  ·show Act.put _ (some 8) _ = _
   simp only [Act.put, List.setIfInBounds_toArray, List.set_cons_zero, List.set_cons_succ, i64_w, i32_w]
   rfl
  refine pure_ (i := 2) (N := some 9) (v := ?_) (a' := ?_) #[true, true, true, false, false, false, false, false, false, false, false, false, false, false, false] rfl rfl (any_of HT_.out (by kernel_rfl)) (fun _ _ _ h => h) (Or.inl ⟨by rfl, ?_⟩) ?_ ?_
  rotate_left
  ·intro w'
   go_simp
   with_reducible rfl
  rotate_left
  ·simp only [Act.put, List.setIfInBounds_toArray, List.set_cons_zero, List.set_cons_succ, i64_w, i32_w]
   rfl
  refine pure_ (i := 3) (N := some 10) (v := ?_) (a' := ?_) #[true, true, true, true, false, false, false, false, false, false, false, false, false, false, false] rfl rfl (any_of HT_.out (by kernel_rfl)) (fun _ _ _ h => h) (Or.inl ⟨by rfl, ?_⟩) ?_ ?_
  rotate_left
  ·intro w'
   go_simp
   with_reducible rfl
  rotate_left
  ·simp only [Act.put, List.setIfInBounds_toArray, List.set_cons_zero, List.set_cons_succ, i64_w, i32_w]
   rfl
  refine pure_ (i := 4) (N := some 11) (v := undef) (a' := ?_) #[true, true, true, true, true, false, false, false, false, false, false, false, false, false, false] rfl rfl (any_of HT_.out (by kernel_rfl)) (fun _ _ _ h => h) (Or.inr ⟨by rfl, rfl⟩) ?_ ?_
  rotate_left
  ·simp only [Act.put, List.setIfInBounds_toArray, List.set_cons_zero, List.set_cons_succ, i64_w, i32_w]
   rfl
  refine pure_ (i := 5) (N := some 12) (v := undef) (a' := ?_) #[true, true, true, true, true, true, false, false, false, false, false, false, false, false, false] rfl rfl (any_of HT_.out (by kernel_rfl)) (fun _ _ _ h => h) (Or.inr ⟨by rfl, rfl⟩) ?_ ?_
  rotate_left
  ·simp only [Act.put, List.setIfInBounds_toArray, List.set_cons_zero, List.set_cons_succ, i64_w, i32_w]
   rfl
  refine pure_ (i := 6) (N := some 13) (v := undef) (a' := ?_) #[true, true, true, true, true, true, true, false, false, false, false, false, false, false, false] rfl rfl (any_of HT_.out (by kernel_rfl)) (fun _ _ _ h => h) (Or.inr ⟨by rfl, rfl⟩) ?_ ?_
  rotate_left
  ·simp only [Act.put, List.setIfInBounds_toArray, List.set_cons_zero, List.set_cons_succ, i64_w, i32_w]
   rfl
  refine pure_ (i := 7) (N := some 14) (v := undef) (a' := ?_) #[true, true, true, true, true, true, true, true, false, false, false, false, false, false, false] rfl rfl (any_of HT_.out (by kernel_rfl)) (fun _ _ _ h => h) (Or.inr ⟨by rfl, rfl⟩) ?_ ?_
  rotate_left
  ·simp only [Act.put, List.setIfInBounds_toArray, List.set_cons_zero, List.set_cons_succ, i64_w, i32_w]
   rfl
  refine pure_ (i := 8) (N := some 15) (v := ?_) (a' := ?_) #[true, true, true, true, true, true, true, true, true, false, false, false, false, false, false] rfl rfl (any_of HT_.out (by kernel_rfl)) (fun _ _ _ h => h) (Or.inl ⟨by rfl, ?_⟩) ?_ ?_
  rotate_left
  ·intro w'
   go_simp
   with_reducible rfl
  rotate_left
  ·simp only [Act.put, List.setIfInBounds_toArray, List.set_cons_zero, List.set_cons_succ, i64_w, i32_w]
   rfl
  refine pure_ (i := 9) (N := some 16) (v := ?_) (a' := ?_) #[true, true, true, true, true, true, true, true, true, true, false, false, false, false, false] rfl rfl (any_of HT_.out (by kernel_rfl)) (fun _ _ _ h => h) (Or.inl ⟨by rfl, ?_⟩) ?_ ?_
  rotate_left
  ·intro w'
   go_simp
   with_reducible rfl
  rotate_left
  ·simp only [Act.put, List.setIfInBounds_toArray, List.set_cons_zero, List.set_cons_succ, i64_w, i32_w]
   rfl
  refine pure_ (i := 10) (N := some 17) (v := undef) (a' := ?_) #[true, true, true, true, true, true, true, true, true, true, true, false, false, false, false] rfl rfl (any_of HT_.out (by kernel_rfl)) (fun _ _ _ h => h) (Or.inr ⟨by rfl, rfl⟩) ?_ ?_
  rotate_left
  ·simp only [Act.put, List.setIfInBounds_toArray, List.set_cons_zero, List.set_cons_succ, i64_w, i32_w]
   rfl
  refine pure_ (i := 11) (N := some 18) (v := undef) (a' := ?_) #[true, true, true, true, true, true, true, true, true, true, true, true, false, false, false] rfl rfl (any_of HT_.out (by kernel_rfl)) (fun _ _ _ h => h) (Or.inr ⟨by rfl, rfl⟩) ?_ ?_
  rotate_left
  ·simp only [Act.put, List.setIfInBounds_toArray, List.set_cons_zero, List.set_cons_succ, i64_w, i32_w]
   rfl
  refine pure_ (i := 12) (N := some 19) (v := undef) (a' := ?_) #[true, true, true, true, true, true, true, true, true, true, true, true, true, false, false] rfl rfl (any_of HT_.out (by kernel_rfl)) (fun _ _ _ h => h) (Or.inr ⟨by rfl, rfl⟩) ?_ ?_
  rotate_left
  ·simp only [Act.put, List.setIfInBounds_toArray, List.set_cons_zero, List.set_cons_succ, i64_w, i32_w]
   rfl
  refine pure_ (i := 13) (N := some 20) (v := ?_) (a' := ?_) #[true, true, true, true, true, true, true, true, true, true, true, true, true, true, false] rfl rfl (any_of HT_.out (by kernel_rfl)) (fun _ _ _ h => h) (Or.inl ⟨by rfl, ?_⟩) ?_ ?_
  rotate_left
  ·intro w'
   go_simp
   with_reducible rfl
  rotate_left
  ·simp only [Act.put, List.setIfInBounds_toArray, List.set_cons_zero, List.set_cons_succ, i64_w, i32_w]
   rfl
  refine pure_ (i := 14) (N := some 0) (v := ?_) (a' := ?_) #[true, true, true, true, true, true, true, true, true, true, true, true, true, true, true] rfl rfl (any_of HT_.out (by kernel_rfl)) (fun _ _ _ h => h) (Or.inl ⟨by rfl, ?_⟩) ?_ ?_
  rotate_left
  ·intro w'
   go_simp
   with_reducible rfl
  rotate_left
  ·simp only [Act.put, List.setIfInBounds_toArray, List.set_cons_zero, List.set_cons_succ, i64_w, i32_w]
   rfl
  refine done_ (done_of HT_.out (by kernel_rfl)) ?_
  try go_wp2
  go_ret
  exact ⟨by first | rfl | (simp [errW_none, errW_some] <;> rfl) | (simp [*, errW_none, errW_some] <;> rfl), by repeat (first | (with_reducible first | exact HB.out | apply below_alloc | apply pw_below_drewN | apply below_drew1 | refine below_set ?_ GE192.out) | exact HB.out)⟩
 rw [if_pos c3] at H
 have c3b0 : (t193 == 0) = true := beq_iff_eq.mpr c3
 have c3b1 : (t193 != 0) = false := bne_eq_false_iff_eq.mpr c3
 clear c3
 replace H := Option.bind_eq_some_iff.mp H
 obtain ⟨t194, A40, H⟩ := H
 replace H : ((topo_Joined.f k 2 y183 y189 ([] : List (S59)) t194).bind fun t197 => (if t197 = true then ((topo_Joined.f k 2 y183 y189 ([] : List (S59)) ([] : List (List Bool))).bind fun t198 => (some (!t198))) else (some false))) = some r := H
 have A4 := Aside0.mk A40
 clear A40
 replace H := Option.bind_eq_some_iff.mp H
 obtain ⟨t197, A50, H⟩ := H
 replace H : (if t197 = true then ((topo_Joined.f k 2 y183 y189 ([] : List (S59)) ([] : List (List Bool))).bind fun t198 => (some (!t198))) else (some false)) = some r := H
 have A5 := Aside0.mk A50
 clear A50
 by_cases c6 : t197 = true
 rotate_left
 ·replace c6 := Bool.eq_false_iff.mpr c6
  subst c6
  have H1 : (some false) = some r := by rw [if_neg (show ¬ (false = true) by decide)] at H; exact H
  clear H
  have H := H1
  clear H1
  obtain rfl := Option.some.inj H
  go_enter Try.func7, Try.ntmps7
  try go_wp2_with (first | ((with_reducible refine gate_callee (f := 18) rfl ?_); refine goesL_ (some 2) rfl rfl Try.func18 (by kernel_rfl) rfl #[.int .u64 1, .int .i64 2] rfl (by (try simp only [List.map_toArray, List.map_cons, List.map_nil]); first | done | rfl | (simp only [List.length_drop, List.length_take]; rfl)) ?_; (with_reducible refine (treelinelaw19_Small.calls k 1 2 t173 t174 t175 t176 t177 t178 t179 t180 _ A1.out).mono ?_); rintro e w28 ⟨v181, rfl, ho0, hb⟩; refine ⟨_, rfl, ?_⟩; have n0_ := Aside0.mk (Kd.R_lower ho0 (below_size (by repeat (first | (with_reducible first | exact HB.out | apply below_alloc | apply pw_below_drewN | apply below_drew1) | exact HB.out)))); have n1_ := Aside0.mk (below_step (by repeat (first | (with_reducible first | exact HB.out | apply below_alloc | apply pw_below_drewN | apply below_drew1) | exact HB.out)) hb); clear HB; have HO182 := n0_; have HB := n1_; clear n0_ n1_; (try clear hb); (try clear hb2); (try clear hk); (try clear hi); (try clear ho0); obtain ⟨Ao29, co29, eo29⟩ := Kd.R_slice HO182.out; subst eo29) | ((with_reducible refine gate_dst (N := 3) rfl ?_); refine Kd.N_lit k48 _ 48 ?hg (N' := 3) ?hd (xs := ([(⟨t173, t174, t175, t176, t177, t178, t179, t180⟩ : S48)] : List (S48))) (inner := [.int .u64 t173, .int .u16 t174, .int .i64 t175, .int .i64 t176, .int .i64 t177, .int .i64 t178, .int .i64 t179, .slice Ao29 t180.length co29]) (ok := (fun _ => True)) (okp := (fun _ => True)) ?hr ?hp (fun _ hk => hk) ((show ∀ k_, w28.heap.size ≤ k_ → (fun _ => True) k_ from fun k_ hk => trivial) _ (Nat.le_refl _)) (Below.refl _ _) (Nat.le_refl _) (by simp) ?_; (case hd => rfl); (case hg => rfl); (case hr => first | (go_simp; done) | (go_simp; rfl)); (case hp => exact (Reps.c8 (show Kd.FK k48 _ _ (⟨t173, t174, t175, t176, t177, t178, t179, t180⟩ : S48) [.int .u64 t173, .int .u16 t174, .int .i64 t175, .int .i64 t176, .int .i64 t177, .int .i64 t178, .int .i64 t179, .slice Ao29 t180.length co29] from (k48_mkF _ _ (⟨t173, t174, t175, t176, t177, t178, t179, t180⟩ : S48) (Kd.R_reads' (Kd.R_mono (ok' := (fun _ => True)) (HO182.out) (fun k_ hk => trivial))).2.1 (Kd.R_F (Kd.R_mono (ok' := (fun _ => True)) (HO182.out) (fun k_ hk => trivial))))) (Reps.none _ _))); intro v184 w30 ho31 hb hg_ hnew_; clear hg_ hnew_; (first | rw [← Ny183.out] at ho31 | (simp only [Int.reduceToNat] at ho31; rw [← Ny183.out] at ho31)); have n0_ := Aside0.mk (Kd.N_lower ho31 (below_size (by repeat (first | (with_reducible first | exact HB.out | apply below_alloc | apply pw_below_drewN | apply below_drew1) | exact HB.out)))); have n1_ := Aside0.mk (below_step (by repeat (first | (with_reducible first | exact HB.out | apply below_alloc | apply pw_below_drewN | apply below_drew1) | exact HB.out)) hb); clear HB; clear HO182; have HO185 := n0_; have HB := n1_; clear n0_ n1_; clear hb ho31) | ((with_reducible refine gate_dst (N := 4) rfl ?_); refine Kd.R_lit (Kd.int .i64) _ 3 ?hg (N := 4) ?hd (xs := ([0, 1] : List Int)) (inner := [.int .i64 0, .int .i64 1]) (ok := fun _ => True) (okp := fun _ => True) ?hr ?hp (fun _ hk => hk) trivial (Below.refl _ _) (Nat.le_refl _) (by simp) ?_; (case hd => rfl); (case hg => rfl); (case hr => first | (go_simp; done) | (go_simp; rfl)); (case hp => exact (Reps.one (show Kd.M (Kd.int .i64) _ _ _ 0 [.int .i64 0] from rfl) (Reps.one (show Kd.M (Kd.int .i64) _ _ _ 1 [.int .i64 1] from rfl) (Reps.none _ _)))); intro v187 w32 ho33 hb hg_ hnew_; clear hg_ hnew_; (first | rw [← Ny186.out] at ho33 | (simp only [Int.reduceToNat] at ho33; rw [← Ny186.out] at ho33)); have n0_ := Aside0.mk (Kd.N_elder' (by (with_reducible repeat (first | apply Kd.N_alloc | apply Kd.N_drewN | apply Kd.N_drew)); exact HO185.out) (Kd.R_base ho33) hb); have n1_ := Aside0.mk (Kd.R_lower ho33 (below_size (by repeat (first | (with_reducible first | exact HB.out | apply below_alloc | apply pw_below_drewN | apply below_drew1) | exact HB.out)))); have n2_ := Aside0.mk (below_step (by repeat (first | (with_reducible first | exact HB.out | apply below_alloc | apply pw_below_drewN | apply below_drew1) | exact HB.out)) hb); clear HO185; clear HB; have HO185 := n0_; have HO188 := n1_; have HB := n2_; clear n0_ n1_ n2_; clear hb ho33; obtain ⟨Ao34, co34, eo34⟩ := Kd.R_slice HO188.out; subst eo34) | ((with_reducible refine gate_dst (N := 5) rfl ?_); refine Kd.N_lit (Kd.slice 3 (Kd.int .i64)) _ 33 ?hg (N' := 5) ?hd (xs := ([y186] : List (List Int))) (inner := [.slice Ao34 y186.length co34]) (ok := (fun k_ => some k_ ≠ (v184 : Value).ownBlock)) (okp := (fun k_ => some k_ ≠ (v184 : Value).ownBlock)) ?hr ?hp (fun _ hk => hk) ((show ∀ k_, w32.heap.size ≤ k_ → (fun k_ => some k_ ≠ (v184 : Value).ownBlock) k_ from fun k_ hk => Kd.fresh' (Kd.N_lt (by (with_reducible repeat (first | apply Kd.N_alloc | apply Kd.N_drewN | apply Kd.N_drew)); exact HO185.out)) k_ hk) _ (Nat.le_refl _)) (Below.refl _ _) (Nat.le_refl _) (by simp) ?_; (case hd => rfl); (case hg => rfl); (case hr => first | (go_simp; done) | (go_simp; rfl)); (case hp => exact (Reps.one (show Kd.FK (Kd.slice 3 (Kd.int .i64)) _ _ y186 [.slice Ao34 y186.length co34] from (Kd.FK_slice_mk (Kd.R_reads' (Kd.R_mono (ok' := (fun k_ => some k_ ≠ (v184 : Value).ownBlock)) (Kd.R_apart' (HO188.out) (Kd.N_typed HO185.out) (by decide)) (fun k_ hk => hk.2))).2.1 (Kd.R_F (Kd.R_mono (ok' := (fun k_ => some k_ ≠ (v184 : Value).ownBlock)) (Kd.R_apart' (HO188.out) (Kd.N_typed HO185.out) (by decide)) (fun k_ hk => hk.2))))) (Reps.none _ _))); intro v190 w35 ho36 hb hg_ hnew_; clear hg_ hnew_; (first | rw [← Ny189.out] at ho36 | (simp only [Int.reduceToNat] at ho36; rw [← Ny189.out] at ho36)); have n0_ := Aside0.mk (Kd.N_elder' (by (with_reducible repeat (first | apply Kd.N_alloc | apply Kd.N_drewN | apply Kd.N_drew)); exact HO185.out) (Kd.N_base ho36) hb); have n1_ := Aside0.mk (Kd.N_lower ho36 (below_size (by repeat (first | (with_reducible first | exact HB.out | apply below_alloc | apply pw_below_drewN | apply below_drew1) | exact HB.out)))); have n2_ := Aside0.mk (below_step (by repeat (first | (with_reducible first | exact HB.out | apply below_alloc | apply pw_below_drewN | apply below_drew1) | exact HB.out)) hb); clear HO185; clear HB; clear HO188; have HO185 := n0_; have HO191 := n1_; have HB := n2_; clear n0_ n1_ n2_; clear hb ho36; obtain ⟨Ao37, co37, eo37⟩ := Kd.N_slice HO191.out; subst eo37; obtain ⟨Ao38, co38, eo38⟩ := Kd.N_slice HO185.out; subst eo38) | ((with_reducible refine gate_dst (N := 1) rfl ?_); refine box_event ?hg (N := 1) ?hd (cs := #[.int .i64 0, .slice none 0 0, .slice none 0 0, .slice none 0 0]) (t := 26) ?hr ?_; (case hd => rfl); (case hg => rfl); (case hr => first | (go_simp; done) | (go_simp; rfl)); intro gb192 hg w39 hbox hb; have n0_ := Aside0.mk (Kd.N_below (Kd.N_elderB (by (with_reducible repeat (first | apply Kd.N_alloc | apply Kd.N_drewN | apply Kd.N_drew)); exact HO185.out) gb192 (Nat.le_of_eq hg.symm)) hb); have n1_ := Aside0.mk (Kd.N_below (Kd.N_elderB (by (with_reducible repeat (first | apply Kd.N_alloc | apply Kd.N_drewN | apply Kd.N_drew)); exact HO191.out) gb192 (Nat.le_of_eq hg.symm)) hb); have n2_ := Aside0.mk (below_step (by repeat (first | (with_reducible first | exact HB.out | apply below_alloc | apply pw_below_drewN | apply below_drew1) | exact HB.out)) hb); have n3_ := Aside0.mk (hbox); have n4_ := Aside0.mk ((by rw [hg]; exact (below_size (by repeat (first | (with_reducible first | exact HB.out | apply below_alloc | apply pw_below_drewN | apply below_drew1) | exact HB.out))) : w.heap.size ≤ gb192)); have n5_ := Aside0.mk ((by rw [hg]; exact (below_size (by repeat (first | (with_reducible first | exact HB.out | apply below_alloc | apply pw_below_drewN | apply below_drew1) | exact HB.out))) : w.heap.size ≤ gb192)); clear HO185; clear HO191; clear HB; have HO185 := n0_; have HO191 := n1_; have HB := n2_; have BK192 := n3_; have GW192 := n4_; have GE192 := n5_; clear n0_ n1_ n2_ n3_ n4_ n5_; clear hb hbox hg; have hcz40_0 : w39.cell? ⟨gb192, 0, none⟩ = some (.int .i64 0) := (blk_cell BK192.out 0).trans rfl; have hcz40_1 : w39.cell? ⟨gb192, 1, none⟩ = some (.slice none 0 0) := (blk_cell BK192.out 1).trans rfl; have hcz40_2 : w39.cell? ⟨gb192, 2, none⟩ = some (.slice none 0 0) := (blk_cell BK192.out 2).trans rfl; have hcz40_3 : w39.cell? ⟨gb192, 3, none⟩ = some (.slice none 0 0) := (blk_cell BK192.out 3).trans rfl; have hfz40_0 := blk_frozen BK192.out 0; have hfz40_1 := blk_frozen BK192.out 1; have hfz40_2 := blk_frozen BK192.out 2; have hfz40_3 := blk_frozen BK192.out 3))
  have n0_ : Aside0 (Kd.N k48 48 ((((w39.setCell ⟨gb192, 0, none⟩ (.int .i64 2)).setCell ⟨gb192, 1, none⟩ (.slice Ao38 y183.length co38)).setCell ⟨gb192, 2, none⟩ (.slice Ao37 y189.length co37)).setCell ⟨gb192, 3, none⟩ (.slice none 0 0)) w.heap.size (fun k_ => some k_ ≠ (.slice Ao37 y189.length co37 : Value).ownBlock ∧ k_ ≠ gb192) (.slice Ao38 y183.length co38) y183) := ⟨by (with_reducible repeat (first | apply Kd.N_alloc | apply Kd.N_drewN | apply Kd.N_drew)); exact Kd.N_mono (Kd.N_far (p := ⟨gb192, 3, none⟩) (Kd.N_far (p := ⟨gb192, 2, none⟩) (Kd.N_far (p := ⟨gb192, 1, none⟩) (Kd.N_far (p := ⟨gb192, 0, none⟩) (Kd.N_mono HO185.out (fun k_ hk => (⟨hk, hk.2⟩ : _ ∧ k_ ≠ gb192))) (fun _ hk => hk.2) (.int .i64 2)) (fun _ hk => hk.2) (.slice Ao38 y183.length co38)) (fun _ hk => hk.2) (.slice Ao37 y189.length co37)) (fun _ hk => hk.2) (.slice none 0 0)) (fun _ hk => ⟨hk.1.1.2, hk.1.2⟩)⟩
  have n1_ : Aside0 (Kd.N (Kd.slice 3 (Kd.int .i64)) 33 ((((w39.setCell ⟨gb192, 0, none⟩ (.int .i64 2)).setCell ⟨gb192, 1, none⟩ (.slice Ao38 y183.length co38)).setCell ⟨gb192, 2, none⟩ (.slice Ao37 y189.length co37)).setCell ⟨gb192, 3, none⟩ (.slice none 0 0)) w.heap.size (fun k_ => some k_ ≠ (.slice Ao38 y183.length co38 : Value).ownBlock ∧ k_ ≠ gb192) (.slice Ao37 y189.length co37) y189) := ⟨by (with_reducible repeat (first | apply Kd.N_alloc | apply Kd.N_drewN | apply Kd.N_drew)); exact Kd.N_mono (Kd.N_far (p := ⟨gb192, 3, none⟩) (Kd.N_far (p := ⟨gb192, 2, none⟩) (Kd.N_far (p := ⟨gb192, 1, none⟩) (Kd.N_far (p := ⟨gb192, 0, none⟩) (Kd.N_mono HO191.out (fun k_ hk => (⟨hk, hk.2⟩ : _ ∧ k_ ≠ gb192))) (fun _ hk => hk.2) (.int .i64 2)) (fun _ hk => hk.2) (.slice Ao38 y183.length co38)) (fun _ hk => hk.2) (.slice Ao37 y189.length co37)) (fun _ hk => hk.2) (.slice none 0 0)) (fun _ hk => ⟨hk.1.1, hk.1.2⟩)⟩
  have n2_ : Aside0 (((((w39.setCell ⟨gb192, 0, none⟩ (.int .i64 2)).setCell ⟨gb192, 1, none⟩ (.slice Ao38 y183.length co38)).setCell ⟨gb192, 2, none⟩ (.slice Ao37 y189.length co37)).setCell ⟨gb192, 3, none⟩ (.slice none 0 0)).heap[gb192]? = some (.cells #[.int .i64 2, .slice Ao38 y183.length co38, .slice Ao37 y189.length co37, .slice none 0 0] 26 (0, 0))) := ⟨by (with_reducible repeat (first | refine blk_drewN ?_ _ | refine blk_drew ?_ | refine blk_alloc ?_ _)); refine blk_put (cs := #[.int .i64 2, .slice Ao38 y183.length co38, .slice Ao37 y189.length co37, .slice none 0 0]) ?_ 3 _ rfl; (with_reducible repeat (first | refine blk_drewN ?_ _ | refine blk_drew ?_ | refine blk_alloc ?_ _)); refine blk_put (cs := #[.int .i64 2, .slice Ao38 y183.length co38, .slice none 0 0, .slice none 0 0]) ?_ 2 _ rfl; (with_reducible repeat (first | refine blk_drewN ?_ _ | refine blk_drew ?_ | refine blk_alloc ?_ _)); refine blk_put (cs := #[.int .i64 2, .slice none 0 0, .slice none 0 0, .slice none 0 0]) ?_ 1 _ rfl; (with_reducible repeat (first | refine blk_drewN ?_ _ | refine blk_drew ?_ | refine blk_alloc ?_ _)); refine blk_put (cs := #[.int .i64 0, .slice none 0 0, .slice none 0 0, .slice none 0 0]) ?_ 0 _ rfl; (with_reducible repeat (first | refine blk_drewN ?_ _ | refine blk_drew ?_ | refine blk_alloc ?_ _)); exact BK192.out⟩
  have n3_ : Aside0 (Below w.heap.size w ((((w39.setCell ⟨gb192, 0, none⟩ (.int .i64 2)).setCell ⟨gb192, 1, none⟩ (.slice Ao38 y183.length co38)).setCell ⟨gb192, 2, none⟩ (.slice Ao37 y189.length co37)).setCell ⟨gb192, 3, none⟩ (.slice none 0 0))) := ⟨by repeat (first | (with_reducible first | exact HB.out | apply below_alloc | apply pw_below_drewN | apply below_drew1 | refine below_set ?_ GE192.out) | exact HB.out)⟩
  (try clear HO185)
  (try clear HO191)
  (try clear BK192)
  (try clear HB)
  (try simp only [setCell_drewN_])
  generalize ((((w39.setCell ⟨gb192, 0, none⟩ (.int .i64 2)).setCell ⟨gb192, 1, none⟩ (.slice Ao38 y183.length co38)).setCell ⟨gb192, 2, none⟩ (.slice Ao37 y189.length co37)).setCell ⟨gb192, 3, none⟩ (.slice none 0 0)) = w41 at n0_ n1_ n2_ n3_ ⊢
  have HO185 := n0_
  have HO191 := n1_
  have BK192 := n2_
  have HB := n3_
  clear n0_ n1_ n2_ n3_
  have n0_ := Aside0.mk (Kd.N_drew HO185.out)
  have n1_ := Aside0.mk (Kd.N_drew HO191.out)
  have n2_ := Aside0.mk (blk_drew BK192.out)
  have n3_ := Aside0.mk (below_drew1 HB.out)
  clear HO185
  clear HO191
  clear BK192
  clear HB
  have HO185 := n0_
  have HO191 := n1_
  have BK192 := n2_
  have HB := n3_
  clear n0_ n1_ n2_ n3_
  refine start_ (n := 15) (S := fun w' => w'.cell? ⟨gb192, 0, none⟩ = some (.int .i64 2) ∧ w'.cell? ⟨gb192, 1, none⟩ = some (.slice Ao38 y183.length co38) ∧ w'.cell? ⟨gb192, 2, none⟩ = some (.slice Ao37 y189.length co37) ∧ w'.cell? ⟨gb192, 3, none⟩ = some (.slice none 0 0)) (ds := []) #[false, false, false, false, false, false, false, false, false, false, false, false, false, false, false] (by kernel_rfl) rfl rfl ⟨(blk_cell BK192.out 0).trans rfl, (blk_cell BK192.out 1).trans rfl, (blk_cell BK192.out 2).trans rfl, (blk_cell BK192.out 3).trans rfl⟩ (fun hHeld => ?_); refine with_tabW treelinelaw20_awake.tab2 treelinelaw20_awake.bits2 (fun HT_ HW_ => ?_)
  generalize w41.drew = w42 at HO185 HO191 BK192 HB hHeld ⊢
  refine take_ (i := 0) (N := some 7) (v := ?_) (a' := ?_) #[true, false, false, false, false, false, false, false, false, false, false, false, false, false, false] rfl rfl (take_ofW HT_.out HW_.out (by kernel_rfl)) (fun _ _ _ h => h) (Or.inl ⟨by rfl, ?_⟩) hHeld ?_ ?_
  rotate_left
  ·rintro w' ⟨s0, s1, s2, s3⟩
   go_simp
   with_reducible rfl
  rotate_left
  ·simp only [Act.put, List.setIfInBounds_toArray, List.set_cons_zero, List.set_cons_succ, i64_w, i32_w]
   rfl
  refine one_ (i := 1) (N := some 8) #[true, true, false, false, false, false, false, false, false, false, false, false, false, false, false] rfl rfl (one_of HT_.out (by kernel_rfl)) (by decide) (fun K hK => ?_)
  refine goes_ Try.func9 (by kernel_rfl) rfl #[.agg #[.int .i64 2, .slice Ao38 y183.length co38, .slice Ao37 y189.length co37, .slice none 0 0]] (by rfl) rfl rfl (by (try simp only [List.map_toArray, List.map_cons, List.map_nil]); first | done | rfl | (simp only [List.length_drop, List.length_take]; rfl)) ?_
  refine (topo_Check.calls k 2 _ _ y183 _ _ y189 _ _ ([] : List (S59)) t193 _ ?side1 ?side2 ?side3 ?side4 ?side5 ?side6 A2.out).mono ?_
  (case side1 => repeat (first | exact (Kd.N_reads' HO185.out).2.2 | (with_reducible refine Kd.C_alloc ?_ _) | (with_reducible refine Kd.C_drewN ?_ _) | (with_reducible refine Kd.C_drew ?_)))
  (case side2 => exact (Kd.N_reads' HO185.out).2.1)
  (case side3 => repeat (first | exact (Kd.N_reads' HO191.out).2.2 | (with_reducible refine Kd.C_alloc ?_ _) | (with_reducible refine Kd.C_drewN ?_ _) | (with_reducible refine Kd.C_drew ?_)))
  (case side4 => exact (Kd.N_reads' HO191.out).2.1)
  (case side5 => exact Kd.C_nil _ _)
  (case side6 => exact Nat.le_refl _)
  rintro e w43 ⟨rfl, hb⟩
  refine ⟨_, rfl, ?_⟩
  have n0_ := Aside0.mk (Kd.N_below (by (with_reducible repeat (first | apply Kd.N_alloc | apply Kd.N_drewN | apply Kd.N_drew)); exact HO185.out) hb)
  have n1_ := Aside0.mk (Kd.N_below (by (with_reducible repeat (first | apply Kd.N_alloc | apply Kd.N_drewN | apply Kd.N_drew)); exact HO191.out) hb)
  have n2_ := Aside0.mk (blk_below (g := gb192) (o := .cells #[.int .i64 2, .slice Ao38 y183.length co38, .slice Ao37 y189.length co37, .slice none 0 0] 26 (0, 0)) (by (with_reducible repeat (first | refine blk_drewN ?_ _ | refine blk_drew ?_ | refine blk_alloc ?_ _)); exact BK192.out) hb)
  have n3_ := Aside0.mk (below_step (by repeat (first | (with_reducible first | exact HB.out | apply below_alloc | apply pw_below_drewN | apply below_drew1 | refine below_set ?_ GE192.out) | exact HB.out)) hb)
  clear HO185
  clear HO191
  clear BK192
  clear HB
  have HO185 := n0_
  have HO191 := n1_
  have BK192 := n2_
  have HB := n3_
  clear n0_ n1_ n2_ n3_
  (try clear hb)
  (try clear hb2)
  (try clear hk)
  (try clear hi)
  refine hK.out _ _ ⟨(blk_cell BK192.out 0).trans rfl, (blk_cell BK192.out 1).trans rfl, (blk_cell BK192.out 2).trans rfl, (blk_cell BK192.out 3).trans rfl⟩ (fun hHeld => ?_)
  clear hK K
  refine norm_ (a' := ?_) ?_ ?_
  rotate_left
  ·show Act.put _ (some 8) _ = _
   simp only [Act.put, List.setIfInBounds_toArray, List.set_cons_zero, List.set_cons_succ, i64_w, i32_w]
   rfl
  refine pure_ (i := 2) (N := some 9) (v := ?_) (a' := ?_) #[true, true, true, false, false, false, false, false, false, false, false, false, false, false, false] rfl rfl (any_of HT_.out (by kernel_rfl)) (fun _ _ _ h => h) (Or.inl ⟨by rfl, ?_⟩) ?_ ?_
  rotate_left
  ·intro w'
   go_simp
   with_reducible rfl
  rotate_left
  ·simp only [Act.put, List.setIfInBounds_toArray, List.set_cons_zero, List.set_cons_succ, i64_w, i32_w]
   rfl
  refine pure_ (i := 3) (N := some 10) (v := ?_) (a' := ?_) #[true, true, true, true, false, false, false, false, false, false, false, false, false, false, false] rfl rfl (any_of HT_.out (by kernel_rfl)) (fun _ _ _ h => h) (Or.inl ⟨by rfl, ?_⟩) ?_ ?_
  rotate_left
  ·intro w'
   go_simp
   with_reducible rfl
  rotate_left
  ·simp only [Act.put, List.setIfInBounds_toArray, List.set_cons_zero, List.set_cons_succ, i64_w, i32_w]
   rfl
  refine take_ (i := 4) (N := some 11) (v := ?_) (a' := ?_) #[true, true, true, true, true, false, false, false, false, false, false, false, false, false, false] rfl rfl (take_ofW HT_.out HW_.out (by kernel_rfl)) (fun _ _ _ h => h) (Or.inl ⟨by rfl, ?_⟩) hHeld ?_ ?_
  rotate_left
  ·rintro w' ⟨s0, s1, s2, s3⟩
   go_simp
   with_reducible rfl
  rotate_left
  ·simp only [Act.put, List.setIfInBounds_toArray, List.set_cons_zero, List.set_cons_succ, i64_w, i32_w]
   rfl
  refine take_ (i := 5) (N := some 12) (v := ?_) (a' := ?_) #[true, true, true, true, true, true, false, false, false, false, false, false, false, false, false] rfl rfl (take_ofW HT_.out HW_.out (by kernel_rfl)) (fun _ _ _ h => h) (Or.inl ⟨by rfl, ?_⟩) hHeld ?_ ?_
  rotate_left
  ·rintro w' ⟨s0, s1, s2, s3⟩
   go_simp
   with_reducible rfl
  rotate_left
  ·simp only [Act.put, List.setIfInBounds_toArray, List.set_cons_zero, List.set_cons_succ, i64_w, i32_w]
   rfl
  refine one_ (i := 6) (N := some 13) #[true, true, true, true, true, true, true, false, false, false, false, false, false, false, false] rfl rfl (one_of HT_.out (by kernel_rfl)) (by decide) (fun K hK => ?_)
  refine goes_ Try.func19 (by kernel_rfl) rfl #[.agg #[.int .i64 2, .slice Ao38 y183.length co38, .slice Ao37 y189.length co37, .slice none 0 0]] (by rfl) rfl rfl (by (try simp only [List.map_toArray, List.map_cons, List.map_nil]); first | done | rfl | (simp only [List.length_drop, List.length_take]; rfl)) ?_
  refine (topo_On.calls k 2 _ _ y183 _ _ y189 _ _ ([] : List (S59)) t194 _ ?side1 ?side2 ?side3 ?side4 ?side5 ?side6 A4.out).mono ?_
  (case side1 => repeat (first | exact (Kd.N_reads' HO185.out).2.2 | (with_reducible refine Kd.C_alloc ?_ _) | (with_reducible refine Kd.C_drewN ?_ _) | (with_reducible refine Kd.C_drew ?_)))
  (case side2 => exact (Kd.N_reads' HO185.out).2.1)
  (case side3 => repeat (first | exact (Kd.N_reads' HO191.out).2.2 | (with_reducible refine Kd.C_alloc ?_ _) | (with_reducible refine Kd.C_drewN ?_ _) | (with_reducible refine Kd.C_drew ?_)))
  (case side4 => exact (Kd.N_reads' HO191.out).2.1)
  (case side5 => exact Kd.C_nil _ _)
  (case side6 => exact Nat.le_refl _)
  rintro e w44 ⟨v195, rfl, ho0, hb⟩
  refine ⟨_, rfl, ?_⟩
  have n0_ := Aside0.mk (Kd.N_elder' (by (with_reducible repeat (first | apply Kd.N_alloc | apply Kd.N_drewN | apply Kd.N_drew)); exact HO185.out) (Kd.N_base (Kd.S_N ho0)) hb)
  have n1_ := Aside0.mk (Kd.N_elder' (by (with_reducible repeat (first | apply Kd.N_alloc | apply Kd.N_drewN | apply Kd.N_drew)); exact HO191.out) (Kd.N_base (Kd.S_N ho0)) hb)
  have n2_ := Aside0.mk (Kd.N_lower (Kd.N_mono (ok' := fun k_ => some k_ ≠ (.slice Ao38 y183.length co38 : Value).ownBlock ∧ some k_ ≠ (.slice Ao37 y189.length co37 : Value).ownBlock ∧ k_ ≠ gb192) (Kd.S_N (Kd.S_bound ho0)) (fun k_ hk_ => ⟨(Kd.fresh' (Kd.N_lt (by (with_reducible repeat (first | apply Kd.N_alloc | apply Kd.N_drewN | apply Kd.N_drew)); exact HO185.out)) k_ hk_.2.1), (Kd.fresh' (Kd.N_lt (by (with_reducible repeat (first | apply Kd.N_alloc | apply Kd.N_drewN | apply Kd.N_drew)); exact HO191.out)) k_ hk_.2.1), (Kd.freshB (g := gb192) (o := .cells #[.int .i64 2, .slice Ao38 y183.length co38, .slice Ao37 y189.length co37, .slice none 0 0] 26 (0, 0)) (by (with_reducible repeat (first | refine blk_drewN ?_ _ | refine blk_drew ?_ | refine blk_alloc ?_ _)); exact BK192.out) k_ hk_.2.1)⟩)) (below_size (by repeat (first | (with_reducible first | exact HB.out | apply below_alloc | apply pw_below_drewN | apply below_drew1 | refine below_set ?_ GE192.out) | exact HB.out))))
  have n3_ := Aside0.mk (blk_below (g := gb192) (o := .cells #[.int .i64 2, .slice Ao38 y183.length co38, .slice Ao37 y189.length co37, .slice none 0 0] 26 (0, 0)) (by (with_reducible repeat (first | refine blk_drewN ?_ _ | refine blk_drew ?_ | refine blk_alloc ?_ _)); exact BK192.out) hb)
  have n4_ := Aside0.mk (below_step (by repeat (first | (with_reducible first | exact HB.out | apply below_alloc | apply pw_below_drewN | apply below_drew1 | refine below_set ?_ GE192.out) | exact HB.out)) hb)
  clear HO185
  clear HO191
  clear BK192
  clear HB
  have HO185 := n0_
  have HO191 := n1_
  have HO196 := n2_
  have BK192 := n3_
  have HB := n4_
  clear n0_ n1_ n2_ n3_ n4_
  (try clear hb)
  (try clear hb2)
  (try clear hk)
  (try clear hi)
  (try clear ho0)
  obtain ⟨Ao45, co45, eo45⟩ := Kd.N_slice HO196.out
  (first | subst eo45 | (injection eo45 with f1_ f2_ f3_; have f4_ := f1_.symm; have f5_ := f3_.symm; clear f1_ f2_ f3_; subst f4_; subst f5_))
  refine hK.out _ _ ⟨(blk_cell BK192.out 0).trans rfl, (blk_cell BK192.out 1).trans rfl, (blk_cell BK192.out 2).trans rfl, (blk_cell BK192.out 3).trans rfl⟩ (fun hHeld => ?_)
  clear hK K
  refine norm_ (a' := ?_) ?_ ?_
  rotate_left
  ·show Act.put _ (some 13) _ = _
   simp only [Act.put, List.setIfInBounds_toArray, List.set_cons_zero, List.set_cons_succ, i64_w, i32_w]
   rfl
  refine one_ (i := 7) (N := some 14) #[true, true, true, true, true, true, true, true, false, false, false, false, false, false, false] rfl rfl (one_of HT_.out (by kernel_rfl)) (by decide) (fun K hK => ?_)
  refine goes_ Try.func13 (by kernel_rfl) rfl #[.agg #[.int .i64 2, .slice Ao38 y183.length co38, .slice Ao37 y189.length co37, .slice none 0 0], .slice Ao45 t194.length co45] (by rfl) rfl rfl (by (try simp only [List.map_toArray, List.map_cons, List.map_nil]); first | done | rfl | (simp only [List.length_drop, List.length_take]; rfl)) ?_
  refine (topo_Joined.calls k 2 _ _ y183 _ _ y189 _ _ ([] : List (S59)) _ _ t194 false _ ?side1 ?side2 ?side3 ?side4 ?side5 ?side6 ?side7 ?side8 A5.out).mono ?_
  (case side1 => repeat (first | exact (Kd.N_reads' HO185.out).2.2 | (with_reducible refine Kd.C_alloc ?_ _) | (with_reducible refine Kd.C_drewN ?_ _) | (with_reducible refine Kd.C_drew ?_)))
  (case side2 => exact (Kd.N_reads' HO185.out).2.1)
  (case side3 => repeat (first | exact (Kd.N_reads' HO191.out).2.2 | (with_reducible refine Kd.C_alloc ?_ _) | (with_reducible refine Kd.C_drewN ?_ _) | (with_reducible refine Kd.C_drew ?_)))
  (case side4 => exact (Kd.N_reads' HO191.out).2.1)
  (case side5 => exact Kd.C_nil _ _)
  (case side6 => exact Nat.le_refl _)
  (case side7 => repeat (first | exact (Kd.N_reads' HO196.out).2.2 | (with_reducible refine Kd.C_alloc ?_ _) | (with_reducible refine Kd.C_drewN ?_ _) | (with_reducible refine Kd.C_drew ?_)))
  (case side8 => exact (Kd.N_reads' HO196.out).2.1)
  rintro e w46 ⟨rfl, hb⟩
  refine ⟨_, rfl, ?_⟩
  have n0_ := Aside0.mk (Kd.N_below (by (with_reducible repeat (first | apply Kd.N_alloc | apply Kd.N_drewN | apply Kd.N_drew)); exact HO185.out) hb)
  have n1_ := Aside0.mk (Kd.N_below (by (with_reducible repeat (first | apply Kd.N_alloc | apply Kd.N_drewN | apply Kd.N_drew)); exact HO191.out) hb)
  have n2_ := Aside0.mk (Kd.N_below (by (with_reducible repeat (first | apply Kd.N_alloc | apply Kd.N_drewN | apply Kd.N_drew)); exact HO196.out) hb)
  have n3_ := Aside0.mk (blk_below (g := gb192) (o := .cells #[.int .i64 2, .slice Ao38 y183.length co38, .slice Ao37 y189.length co37, .slice none 0 0] 26 (0, 0)) (by (with_reducible repeat (first | refine blk_drewN ?_ _ | refine blk_drew ?_ | refine blk_alloc ?_ _)); exact BK192.out) hb)
  have n4_ := Aside0.mk (below_step (by repeat (first | (with_reducible first | exact HB.out | apply below_alloc | apply pw_below_drewN | apply below_drew1 | refine below_set ?_ GE192.out) | exact HB.out)) hb)
  clear HO185
  clear HO191
  clear HO196
  clear BK192
  clear HB
  have HO185 := n0_
  have HO191 := n1_
  have HO196 := n2_
  have BK192 := n3_
  have HB := n4_
  clear n0_ n1_ n2_ n3_ n4_
  (try clear hb)
  (try clear hb2)
  (try clear hk)
  (try clear hi)
  refine hK.out _ _ ⟨(blk_cell BK192.out 0).trans rfl, (blk_cell BK192.out 1).trans rfl, (blk_cell BK192.out 2).trans rfl, (blk_cell BK192.out 3).trans rfl⟩ (fun hHeld => ?_)
  clear hK K
  refine norm_ (a' := ?_) ?_ ?_
  rotate_left
  ·show Act.put _ (some 14) _ = _
   simp only [Act.put, List.setIfInBounds_toArray, List.set_cons_zero, List.set_cons_succ, i64_w, i32_w]
   rfl
  refine pure_ (i := 8) (N := some 15) (v := ?_) (a' := ?_) #[true, true, true, true, true, true, true, true, true, false, false, false, false, false, false] rfl rfl (any_of HT_.out (by kernel_rfl)) (fun _ _ _ h => h) (Or.inl ⟨by rfl, ?_⟩) ?_ ?_
  rotate_left
  ·intro w'
   go_simp
   with_reducible rfl
  rotate_left
  ·simp only [Act.put, List.setIfInBounds_toArray, List.set_cons_zero, List.set_cons_succ, i64_w, i32_w]
   rfl
  refine pure_ (i := 9) (N := some 16) (v := ?_) (a' := ?_) #[true, true, true, true, true, true, true, true, true, true, false, false, false, false, false] rfl rfl (any_of HT_.out (by kernel_rfl)) (fun _ _ _ h => h) (Or.inl ⟨by rfl, ?_⟩) ?_ ?_
  rotate_left
  ·intro w'
   go_simp
   with_reducible rfl
  rotate_left
  ·simp only [Act.put, List.setIfInBounds_toArray, List.set_cons_zero, List.set_cons_succ, i64_w, i32_w]
   rfl
  refine pure_ (i := 10) (N := some 17) (v := undef) (a' := ?_) #[true, true, true, true, true, true, true, true, true, true, true, false, false, false, false] rfl rfl (any_of HT_.out (by kernel_rfl)) (fun _ _ _ h => h) (Or.inr ⟨by rfl, rfl⟩) ?_ ?_
  rotate_left
  ·simp only [Act.put, List.setIfInBounds_toArray, List.set_cons_zero, List.set_cons_succ, i64_w, i32_w]
   rfl
  refine pure_ (i := 11) (N := some 18) (v := undef) (a' := ?_) #[true, true, true, true, true, true, true, true, true, true, true, true, false, false, false] rfl rfl (any_of HT_.out (by kernel_rfl)) (fun _ _ _ h => h) (Or.inr ⟨by rfl, rfl⟩) ?_ ?_
  rotate_left
  ·simp only [Act.put, List.setIfInBounds_toArray, List.set_cons_zero, List.set_cons_succ, i64_w, i32_w]
   rfl
  refine pure_ (i := 12) (N := some 19) (v := undef) (a' := ?_) #[true, true, true, true, true, true, true, true, true, true, true, true, true, false, false] rfl rfl (any_of HT_.out (by kernel_rfl)) (fun _ _ _ h => h) (Or.inr ⟨by rfl, rfl⟩) ?_ ?_
  rotate_left
  ·simp only [Act.put, List.setIfInBounds_toArray, List.set_cons_zero, List.set_cons_succ, i64_w, i32_w]
   rfl
  refine pure_ (i := 13) (N := some 20) (v := ?_) (a' := ?_) #[true, true, true, true, true, true, true, true, true, true, true, true, true, true, false] rfl rfl (any_of HT_.out (by kernel_rfl)) (fun _ _ _ h => h) (Or.inl ⟨by rfl, ?_⟩) ?_ ?_
  rotate_left
  ·intro w'
   go_simp
   with_reducible rfl
  rotate_left
  ·simp only [Act.put, List.setIfInBounds_toArray, List.set_cons_zero, List.set_cons_succ, i64_w, i32_w]
   rfl
  refine pure_ (i := 14) (N := some 0) (v := ?_) (a' := ?_) #[true, true, true, true, true, true, true, true, true, true, true, true, true, true, true] rfl rfl (any_of HT_.out (by kernel_rfl)) (fun _ _ _ h => h) (Or.inl ⟨by rfl, ?_⟩) ?_ ?_
  rotate_left
  ·intro w'
   go_simp
   with_reducible rfl
  rotate_left
  ·simp only [Act.put, List.setIfInBounds_toArray, List.set_cons_zero, List.set_cons_succ, i64_w, i32_w]
   rfl
  refine done_ (done_of HT_.out (by kernel_rfl)) ?_
  try go_wp2
  go_ret
  exact ⟨by first | rfl | (simp [errW_none, errW_some] <;> rfl) | (simp [*, errW_none, errW_some] <;> rfl), by repeat (first | (with_reducible first | exact HB.out | apply below_alloc | apply pw_below_drewN | apply below_drew1 | refine below_set ?_ GE192.out) | exact HB.out)⟩
 subst c6
 have H1 : ((topo_Joined.f k 2 y183 y189 ([] : List (S59)) ([] : List (List Bool))).bind fun t198 => (some (!t198))) = some r := by rw [if_pos rfl] at H; exact H
 clear H
 have H := H1
 clear H1
 replace H := Option.bind_eq_some_iff.mp H
 obtain ⟨t198, A70, H⟩ := H
 replace H : (some (!t198)) = some r := H
 have A7 := Aside0.mk A70
 clear A70
 obtain rfl := Option.some.inj H
 go_enter Try.func7, Try.ntmps7
 try go_wp2_with (first | ((with_reducible refine gate_callee (f := 18) rfl ?_); refine goesL_ (some 2) rfl rfl Try.func18 (by kernel_rfl) rfl #[.int .u64 1, .int .i64 2] rfl (by (try simp only [List.map_toArray, List.map_cons, List.map_nil]); first | done | rfl | (simp only [List.length_drop, List.length_take]; rfl)) ?_; (with_reducible refine (treelinelaw19_Small.calls k 1 2 t173 t174 t175 t176 t177 t178 t179 t180 _ A1.out).mono ?_); rintro e w8 ⟨v181, rfl, ho0, hb⟩; refine ⟨_, rfl, ?_⟩; have n0_ := Aside0.mk (Kd.R_lower ho0 (below_size (by repeat (first | (with_reducible first | exact HB.out | apply below_alloc | apply pw_below_drewN | apply below_drew1) | exact HB.out)))); have n1_ := Aside0.mk (below_step (by repeat (first | (with_reducible first | exact HB.out | apply below_alloc | apply pw_below_drewN | apply below_drew1) | exact HB.out)) hb); clear HB; have HO182 := n0_; have HB := n1_; clear n0_ n1_; (try clear hb); (try clear hb2); (try clear hk); (try clear hi); (try clear ho0); obtain ⟨Ao9, co9, eo9⟩ := Kd.R_slice HO182.out; subst eo9) | ((with_reducible refine gate_dst (N := 3) rfl ?_); refine Kd.N_lit k48 _ 48 ?hg (N' := 3) ?hd (xs := ([(⟨t173, t174, t175, t176, t177, t178, t179, t180⟩ : S48)] : List (S48))) (inner := [.int .u64 t173, .int .u16 t174, .int .i64 t175, .int .i64 t176, .int .i64 t177, .int .i64 t178, .int .i64 t179, .slice Ao9 t180.length co9]) (ok := (fun _ => True)) (okp := (fun _ => True)) ?hr ?hp (fun _ hk => hk) ((show ∀ k_, w8.heap.size ≤ k_ → (fun _ => True) k_ from fun k_ hk => trivial) _ (Nat.le_refl _)) (Below.refl _ _) (Nat.le_refl _) (by simp) ?_; (case hd => rfl); (case hg => rfl); (case hr => first | (go_simp; done) | (go_simp; rfl)); (case hp => exact (Reps.c8 (show Kd.FK k48 _ _ (⟨t173, t174, t175, t176, t177, t178, t179, t180⟩ : S48) [.int .u64 t173, .int .u16 t174, .int .i64 t175, .int .i64 t176, .int .i64 t177, .int .i64 t178, .int .i64 t179, .slice Ao9 t180.length co9] from (k48_mkF _ _ (⟨t173, t174, t175, t176, t177, t178, t179, t180⟩ : S48) (Kd.R_reads' (Kd.R_mono (ok' := (fun _ => True)) (HO182.out) (fun k_ hk => trivial))).2.1 (Kd.R_F (Kd.R_mono (ok' := (fun _ => True)) (HO182.out) (fun k_ hk => trivial))))) (Reps.none _ _))); intro v184 w10 ho11 hb hg_ hnew_; clear hg_ hnew_; (first | rw [← Ny183.out] at ho11 | (simp only [Int.reduceToNat] at ho11; rw [← Ny183.out] at ho11)); have n0_ := Aside0.mk (Kd.N_lower ho11 (below_size (by repeat (first | (with_reducible first | exact HB.out | apply below_alloc | apply pw_below_drewN | apply below_drew1) | exact HB.out)))); have n1_ := Aside0.mk (below_step (by repeat (first | (with_reducible first | exact HB.out | apply below_alloc | apply pw_below_drewN | apply below_drew1) | exact HB.out)) hb); clear HB; clear HO182; have HO185 := n0_; have HB := n1_; clear n0_ n1_; clear hb ho11) | ((with_reducible refine gate_dst (N := 4) rfl ?_); refine Kd.R_lit (Kd.int .i64) _ 3 ?hg (N := 4) ?hd (xs := ([0, 1] : List Int)) (inner := [.int .i64 0, .int .i64 1]) (ok := fun _ => True) (okp := fun _ => True) ?hr ?hp (fun _ hk => hk) trivial (Below.refl _ _) (Nat.le_refl _) (by simp) ?_; (case hd => rfl); (case hg => rfl); (case hr => first | (go_simp; done) | (go_simp; rfl)); (case hp => exact (Reps.one (show Kd.M (Kd.int .i64) _ _ _ 0 [.int .i64 0] from rfl) (Reps.one (show Kd.M (Kd.int .i64) _ _ _ 1 [.int .i64 1] from rfl) (Reps.none _ _)))); intro v187 w12 ho13 hb hg_ hnew_; clear hg_ hnew_; (first | rw [← Ny186.out] at ho13 | (simp only [Int.reduceToNat] at ho13; rw [← Ny186.out] at ho13)); have n0_ := Aside0.mk (Kd.N_elder' (by (with_reducible repeat (first | apply Kd.N_alloc | apply Kd.N_drewN | apply Kd.N_drew)); exact HO185.out) (Kd.R_base ho13) hb); have n1_ := Aside0.mk (Kd.R_lower ho13 (below_size (by repeat (first | (with_reducible first | exact HB.out | apply below_alloc | apply pw_below_drewN | apply below_drew1) | exact HB.out)))); have n2_ := Aside0.mk (below_step (by repeat (first | (with_reducible first | exact HB.out | apply below_alloc | apply pw_below_drewN | apply below_drew1) | exact HB.out)) hb); clear HO185; clear HB; have HO185 := n0_; have HO188 := n1_; have HB := n2_; clear n0_ n1_ n2_; clear hb ho13; obtain ⟨Ao14, co14, eo14⟩ := Kd.R_slice HO188.out; subst eo14) | ((with_reducible refine gate_dst (N := 5) rfl ?_); refine Kd.N_lit (Kd.slice 3 (Kd.int .i64)) _ 33 ?hg (N' := 5) ?hd (xs := ([y186] : List (List Int))) (inner := [.slice Ao14 y186.length co14]) (ok := (fun k_ => some k_ ≠ (v184 : Value).ownBlock)) (okp := (fun k_ => some k_ ≠ (v184 : Value).ownBlock)) ?hr ?hp (fun _ hk => hk) ((show ∀ k_, w12.heap.size ≤ k_ → (fun k_ => some k_ ≠ (v184 : Value).ownBlock) k_ from fun k_ hk => Kd.fresh' (Kd.N_lt (by (with_reducible repeat (first | apply Kd.N_alloc | apply Kd.N_drewN | apply Kd.N_drew)); exact HO185.out)) k_ hk) _ (Nat.le_refl _)) (Below.refl _ _) (Nat.le_refl _) (by simp) ?_; (case hd => rfl); (case hg => rfl); (case hr => first | (go_simp; done) | (go_simp; rfl)); (case hp => exact (Reps.one (show Kd.FK (Kd.slice 3 (Kd.int .i64)) _ _ y186 [.slice Ao14 y186.length co14] from (Kd.FK_slice_mk (Kd.R_reads' (Kd.R_mono (ok' := (fun k_ => some k_ ≠ (v184 : Value).ownBlock)) (Kd.R_apart' (HO188.out) (Kd.N_typed HO185.out) (by decide)) (fun k_ hk => hk.2))).2.1 (Kd.R_F (Kd.R_mono (ok' := (fun k_ => some k_ ≠ (v184 : Value).ownBlock)) (Kd.R_apart' (HO188.out) (Kd.N_typed HO185.out) (by decide)) (fun k_ hk => hk.2))))) (Reps.none _ _))); intro v190 w15 ho16 hb hg_ hnew_; clear hg_ hnew_; (first | rw [← Ny189.out] at ho16 | (simp only [Int.reduceToNat] at ho16; rw [← Ny189.out] at ho16)); have n0_ := Aside0.mk (Kd.N_elder' (by (with_reducible repeat (first | apply Kd.N_alloc | apply Kd.N_drewN | apply Kd.N_drew)); exact HO185.out) (Kd.N_base ho16) hb); have n1_ := Aside0.mk (Kd.N_lower ho16 (below_size (by repeat (first | (with_reducible first | exact HB.out | apply below_alloc | apply pw_below_drewN | apply below_drew1) | exact HB.out)))); have n2_ := Aside0.mk (below_step (by repeat (first | (with_reducible first | exact HB.out | apply below_alloc | apply pw_below_drewN | apply below_drew1) | exact HB.out)) hb); clear HO185; clear HB; clear HO188; have HO185 := n0_; have HO191 := n1_; have HB := n2_; clear n0_ n1_ n2_; clear hb ho16; obtain ⟨Ao17, co17, eo17⟩ := Kd.N_slice HO191.out; subst eo17; obtain ⟨Ao18, co18, eo18⟩ := Kd.N_slice HO185.out; subst eo18) | ((with_reducible refine gate_dst (N := 1) rfl ?_); refine box_event ?hg (N := 1) ?hd (cs := #[.int .i64 0, .slice none 0 0, .slice none 0 0, .slice none 0 0]) (t := 26) ?hr ?_; (case hd => rfl); (case hg => rfl); (case hr => first | (go_simp; done) | (go_simp; rfl)); intro gb192 hg w19 hbox hb; have n0_ := Aside0.mk (Kd.N_below (Kd.N_elderB (by (with_reducible repeat (first | apply Kd.N_alloc | apply Kd.N_drewN | apply Kd.N_drew)); exact HO185.out) gb192 (Nat.le_of_eq hg.symm)) hb); have n1_ := Aside0.mk (Kd.N_below (Kd.N_elderB (by (with_reducible repeat (first | apply Kd.N_alloc | apply Kd.N_drewN | apply Kd.N_drew)); exact HO191.out) gb192 (Nat.le_of_eq hg.symm)) hb); have n2_ := Aside0.mk (below_step (by repeat (first | (with_reducible first | exact HB.out | apply below_alloc | apply pw_below_drewN | apply below_drew1) | exact HB.out)) hb); have n3_ := Aside0.mk (hbox); have n4_ := Aside0.mk ((by rw [hg]; exact (below_size (by repeat (first | (with_reducible first | exact HB.out | apply below_alloc | apply pw_below_drewN | apply below_drew1) | exact HB.out))) : w.heap.size ≤ gb192)); have n5_ := Aside0.mk ((by rw [hg]; exact (below_size (by repeat (first | (with_reducible first | exact HB.out | apply below_alloc | apply pw_below_drewN | apply below_drew1) | exact HB.out))) : w.heap.size ≤ gb192)); clear HO185; clear HO191; clear HB; have HO185 := n0_; have HO191 := n1_; have HB := n2_; have BK192 := n3_; have GW192 := n4_; have GE192 := n5_; clear n0_ n1_ n2_ n3_ n4_ n5_; clear hb hbox hg; have hcz20_0 : w19.cell? ⟨gb192, 0, none⟩ = some (.int .i64 0) := (blk_cell BK192.out 0).trans rfl; have hcz20_1 : w19.cell? ⟨gb192, 1, none⟩ = some (.slice none 0 0) := (blk_cell BK192.out 1).trans rfl; have hcz20_2 : w19.cell? ⟨gb192, 2, none⟩ = some (.slice none 0 0) := (blk_cell BK192.out 2).trans rfl; have hcz20_3 : w19.cell? ⟨gb192, 3, none⟩ = some (.slice none 0 0) := (blk_cell BK192.out 3).trans rfl; have hfz20_0 := blk_frozen BK192.out 0; have hfz20_1 := blk_frozen BK192.out 1; have hfz20_2 := blk_frozen BK192.out 2; have hfz20_3 := blk_frozen BK192.out 3))
 have n0_ : Aside0 (Kd.N k48 48 ((((w19.setCell ⟨gb192, 0, none⟩ (.int .i64 2)).setCell ⟨gb192, 1, none⟩ (.slice Ao18 y183.length co18)).setCell ⟨gb192, 2, none⟩ (.slice Ao17 y189.length co17)).setCell ⟨gb192, 3, none⟩ (.slice none 0 0)) w.heap.size (fun k_ => some k_ ≠ (.slice Ao17 y189.length co17 : Value).ownBlock ∧ k_ ≠ gb192) (.slice Ao18 y183.length co18) y183) := ⟨by (with_reducible repeat (first | apply Kd.N_alloc | apply Kd.N_drewN | apply Kd.N_drew)); exact Kd.N_mono (Kd.N_far (p := ⟨gb192, 3, none⟩) (Kd.N_far (p := ⟨gb192, 2, none⟩) (Kd.N_far (p := ⟨gb192, 1, none⟩) (Kd.N_far (p := ⟨gb192, 0, none⟩) (Kd.N_mono HO185.out (fun k_ hk => (⟨hk, hk.2⟩ : _ ∧ k_ ≠ gb192))) (fun _ hk => hk.2) (.int .i64 2)) (fun _ hk => hk.2) (.slice Ao18 y183.length co18)) (fun _ hk => hk.2) (.slice Ao17 y189.length co17)) (fun _ hk => hk.2) (.slice none 0 0)) (fun _ hk => ⟨hk.1.1.2, hk.1.2⟩)⟩
 have n1_ : Aside0 (Kd.N (Kd.slice 3 (Kd.int .i64)) 33 ((((w19.setCell ⟨gb192, 0, none⟩ (.int .i64 2)).setCell ⟨gb192, 1, none⟩ (.slice Ao18 y183.length co18)).setCell ⟨gb192, 2, none⟩ (.slice Ao17 y189.length co17)).setCell ⟨gb192, 3, none⟩ (.slice none 0 0)) w.heap.size (fun k_ => some k_ ≠ (.slice Ao18 y183.length co18 : Value).ownBlock ∧ k_ ≠ gb192) (.slice Ao17 y189.length co17) y189) := ⟨by (with_reducible repeat (first | apply Kd.N_alloc | apply Kd.N_drewN | apply Kd.N_drew)); exact Kd.N_mono (Kd.N_far (p := ⟨gb192, 3, none⟩) (Kd.N_far (p := ⟨gb192, 2, none⟩) (Kd.N_far (p := ⟨gb192, 1, none⟩) (Kd.N_far (p := ⟨gb192, 0, none⟩) (Kd.N_mono HO191.out (fun k_ hk => (⟨hk, hk.2⟩ : _ ∧ k_ ≠ gb192))) (fun _ hk => hk.2) (.int .i64 2)) (fun _ hk => hk.2) (.slice Ao18 y183.length co18)) (fun _ hk => hk.2) (.slice Ao17 y189.length co17)) (fun _ hk => hk.2) (.slice none 0 0)) (fun _ hk => ⟨hk.1.1, hk.1.2⟩)⟩
 have n2_ : Aside0 (((((w19.setCell ⟨gb192, 0, none⟩ (.int .i64 2)).setCell ⟨gb192, 1, none⟩ (.slice Ao18 y183.length co18)).setCell ⟨gb192, 2, none⟩ (.slice Ao17 y189.length co17)).setCell ⟨gb192, 3, none⟩ (.slice none 0 0)).heap[gb192]? = some (.cells #[.int .i64 2, .slice Ao18 y183.length co18, .slice Ao17 y189.length co17, .slice none 0 0] 26 (0, 0))) := ⟨by (with_reducible repeat (first | refine blk_drewN ?_ _ | refine blk_drew ?_ | refine blk_alloc ?_ _)); refine blk_put (cs := #[.int .i64 2, .slice Ao18 y183.length co18, .slice Ao17 y189.length co17, .slice none 0 0]) ?_ 3 _ rfl; (with_reducible repeat (first | refine blk_drewN ?_ _ | refine blk_drew ?_ | refine blk_alloc ?_ _)); refine blk_put (cs := #[.int .i64 2, .slice Ao18 y183.length co18, .slice none 0 0, .slice none 0 0]) ?_ 2 _ rfl; (with_reducible repeat (first | refine blk_drewN ?_ _ | refine blk_drew ?_ | refine blk_alloc ?_ _)); refine blk_put (cs := #[.int .i64 2, .slice none 0 0, .slice none 0 0, .slice none 0 0]) ?_ 1 _ rfl; (with_reducible repeat (first | refine blk_drewN ?_ _ | refine blk_drew ?_ | refine blk_alloc ?_ _)); refine blk_put (cs := #[.int .i64 0, .slice none 0 0, .slice none 0 0, .slice none 0 0]) ?_ 0 _ rfl; (with_reducible repeat (first | refine blk_drewN ?_ _ | refine blk_drew ?_ | refine blk_alloc ?_ _)); exact BK192.out⟩
 have n3_ : Aside0 (Below w.heap.size w ((((w19.setCell ⟨gb192, 0, none⟩ (.int .i64 2)).setCell ⟨gb192, 1, none⟩ (.slice Ao18 y183.length co18)).setCell ⟨gb192, 2, none⟩ (.slice Ao17 y189.length co17)).setCell ⟨gb192, 3, none⟩ (.slice none 0 0))) := ⟨by repeat (first | (with_reducible first | exact HB.out | apply below_alloc | apply pw_below_drewN | apply below_drew1 | refine below_set ?_ GE192.out) | exact HB.out)⟩
 (try clear HO185)
 (try clear HO191)
 (try clear BK192)
 (try clear HB)
 (try simp only [setCell_drewN_])
 generalize ((((w19.setCell ⟨gb192, 0, none⟩ (.int .i64 2)).setCell ⟨gb192, 1, none⟩ (.slice Ao18 y183.length co18)).setCell ⟨gb192, 2, none⟩ (.slice Ao17 y189.length co17)).setCell ⟨gb192, 3, none⟩ (.slice none 0 0)) = w21 at n0_ n1_ n2_ n3_ ⊢
 have HO185 := n0_
 have HO191 := n1_
 have BK192 := n2_
 have HB := n3_
 clear n0_ n1_ n2_ n3_
 have n0_ := Aside0.mk (Kd.N_drew HO185.out)
 have n1_ := Aside0.mk (Kd.N_drew HO191.out)
 have n2_ := Aside0.mk (blk_drew BK192.out)
 have n3_ := Aside0.mk (below_drew1 HB.out)
 clear HO185
 clear HO191
 clear BK192
 clear HB
 have HO185 := n0_
 have HO191 := n1_
 have BK192 := n2_
 have HB := n3_
 clear n0_ n1_ n2_ n3_
 refine start_ (n := 15) (S := fun w' => w'.cell? ⟨gb192, 0, none⟩ = some (.int .i64 2) ∧ w'.cell? ⟨gb192, 1, none⟩ = some (.slice Ao18 y183.length co18) ∧ w'.cell? ⟨gb192, 2, none⟩ = some (.slice Ao17 y189.length co17) ∧ w'.cell? ⟨gb192, 3, none⟩ = some (.slice none 0 0)) (ds := []) #[false, false, false, false, false, false, false, false, false, false, false, false, false, false, false] (by kernel_rfl) rfl rfl ⟨(blk_cell BK192.out 0).trans rfl, (blk_cell BK192.out 1).trans rfl, (blk_cell BK192.out 2).trans rfl, (blk_cell BK192.out 3).trans rfl⟩ (fun hHeld => ?_); refine with_tabW treelinelaw20_awake.tab2 treelinelaw20_awake.bits2 (fun HT_ HW_ => ?_)
 generalize w21.drew = w22 at HO185 HO191 BK192 HB hHeld ⊢
 refine take_ (i := 0) (N := some 7) (v := ?_) (a' := ?_) #[true, false, false, false, false, false, false, false, false, false, false, false, false, false, false] rfl rfl (take_ofW HT_.out HW_.out (by kernel_rfl)) (fun _ _ _ h => h) (Or.inl ⟨by rfl, ?_⟩) hHeld ?_ ?_
 rotate_left
 ·rintro w' ⟨s0, s1, s2, s3⟩
  go_simp
  with_reducible rfl
 rotate_left
 ·simp only [Act.put, List.setIfInBounds_toArray, List.set_cons_zero, List.set_cons_succ, i64_w, i32_w]
  rfl
 refine one_ (i := 1) (N := some 8) #[true, true, false, false, false, false, false, false, false, false, false, false, false, false, false] rfl rfl (one_of HT_.out (by kernel_rfl)) (by decide) (fun K hK => ?_)
 refine goes_ Try.func9 (by kernel_rfl) rfl #[.agg #[.int .i64 2, .slice Ao18 y183.length co18, .slice Ao17 y189.length co17, .slice none 0 0]] (by rfl) rfl rfl (by (try simp only [List.map_toArray, List.map_cons, List.map_nil]); first | done | rfl | (simp only [List.length_drop, List.length_take]; rfl)) ?_
 refine (topo_Check.calls k 2 _ _ y183 _ _ y189 _ _ ([] : List (S59)) t193 _ ?side1 ?side2 ?side3 ?side4 ?side5 ?side6 A2.out).mono ?_
 (case side1 => repeat (first | exact (Kd.N_reads' HO185.out).2.2 | (with_reducible refine Kd.C_alloc ?_ _) | (with_reducible refine Kd.C_drewN ?_ _) | (with_reducible refine Kd.C_drew ?_)))
 (case side2 => exact (Kd.N_reads' HO185.out).2.1)
 (case side3 => repeat (first | exact (Kd.N_reads' HO191.out).2.2 | (with_reducible refine Kd.C_alloc ?_ _) | (with_reducible refine Kd.C_drewN ?_ _) | (with_reducible refine Kd.C_drew ?_)))
 (case side4 => exact (Kd.N_reads' HO191.out).2.1)
 (case side5 => exact Kd.C_nil _ _)
 (case side6 => exact Nat.le_refl _)
 rintro e w23 ⟨rfl, hb⟩
 refine ⟨_, rfl, ?_⟩
 have n0_ := Aside0.mk (Kd.N_below (by (with_reducible repeat (first | apply Kd.N_alloc | apply Kd.N_drewN | apply Kd.N_drew)); exact HO185.out) hb)
 have n1_ := Aside0.mk (Kd.N_below (by (with_reducible repeat (first | apply Kd.N_alloc | apply Kd.N_drewN | apply Kd.N_drew)); exact HO191.out) hb)
 have n2_ := Aside0.mk (blk_below (g := gb192) (o := .cells #[.int .i64 2, .slice Ao18 y183.length co18, .slice Ao17 y189.length co17, .slice none 0 0] 26 (0, 0)) (by (with_reducible repeat (first | refine blk_drewN ?_ _ | refine blk_drew ?_ | refine blk_alloc ?_ _)); exact BK192.out) hb)
 have n3_ := Aside0.mk (below_step (by repeat (first | (with_reducible first | exact HB.out | apply below_alloc | apply pw_below_drewN | apply below_drew1 | refine below_set ?_ GE192.out) | exact HB.out)) hb)
 clear HO185
 clear HO191
 clear BK192
 clear HB
 have HO185 := n0_
 have HO191 := n1_
 have BK192 := n2_
 have HB := n3_
 clear n0_ n1_ n2_ n3_
 (try clear hb)
 (try clear hb2)
 (try clear hk)
 (try clear hi)
 refine hK.out _ _ ⟨(blk_cell BK192.out 0).trans rfl, (blk_cell BK192.out 1).trans rfl, (blk_cell BK192.out 2).trans rfl, (blk_cell BK192.out 3).trans rfl⟩ (fun hHeld => ?_)
 clear hK K
 refine norm_ (a' := ?_) ?_ ?_
 rotate_left
 ·show Act.put _ (some 8) _ = _
  simp only [Act.put, List.setIfInBounds_toArray, List.set_cons_zero, List.set_cons_succ, i64_w, i32_w]
  rfl
 refine pure_ (i := 2) (N := some 9) (v := ?_) (a' := ?_) #[true, true, true, false, false, false, false, false, false, false, false, false, false, false, false] rfl rfl (any_of HT_.out (by kernel_rfl)) (fun _ _ _ h => h) (Or.inl ⟨by rfl, ?_⟩) ?_ ?_
 rotate_left
 ·intro w'
  go_simp
  with_reducible rfl
 rotate_left
 ·simp only [Act.put, List.setIfInBounds_toArray, List.set_cons_zero, List.set_cons_succ, i64_w, i32_w]
  rfl
 refine pure_ (i := 3) (N := some 10) (v := ?_) (a' := ?_) #[true, true, true, true, false, false, false, false, false, false, false, false, false, false, false] rfl rfl (any_of HT_.out (by kernel_rfl)) (fun _ _ _ h => h) (Or.inl ⟨by rfl, ?_⟩) ?_ ?_
 rotate_left
 ·intro w'
  go_simp
  with_reducible rfl
 rotate_left
 ·simp only [Act.put, List.setIfInBounds_toArray, List.set_cons_zero, List.set_cons_succ, i64_w, i32_w]
  rfl
 refine take_ (i := 4) (N := some 11) (v := ?_) (a' := ?_) #[true, true, true, true, true, false, false, false, false, false, false, false, false, false, false] rfl rfl (take_ofW HT_.out HW_.out (by kernel_rfl)) (fun _ _ _ h => h) (Or.inl ⟨by rfl, ?_⟩) hHeld ?_ ?_
 rotate_left
 ·rintro w' ⟨s0, s1, s2, s3⟩
  go_simp
  with_reducible rfl
 rotate_left
 ·simp only [Act.put, List.setIfInBounds_toArray, List.set_cons_zero, List.set_cons_succ, i64_w, i32_w]
  rfl
 refine take_ (i := 5) (N := some 12) (v := ?_) (a' := ?_) #[true, true, true, true, true, true, false, false, false, false, false, false, false, false, false] rfl rfl (take_ofW HT_.out HW_.out (by kernel_rfl)) (fun _ _ _ h => h) (Or.inl ⟨by rfl, ?_⟩) hHeld ?_ ?_
 rotate_left
 ·rintro w' ⟨s0, s1, s2, s3⟩
  go_simp
  with_reducible rfl
 rotate_left
 ·simp only [Act.put, List.setIfInBounds_toArray, List.set_cons_zero, List.set_cons_succ, i64_w, i32_w]
  rfl
 refine one_ (i := 6) (N := some 13) #[true, true, true, true, true, true, true, false, false, false, false, false, false, false, false] rfl rfl (one_of HT_.out (by kernel_rfl)) (by decide) (fun K hK => ?_)
 refine goes_ Try.func19 (by kernel_rfl) rfl #[.agg #[.int .i64 2, .slice Ao18 y183.length co18, .slice Ao17 y189.length co17, .slice none 0 0]] (by rfl) rfl rfl (by (try simp only [List.map_toArray, List.map_cons, List.map_nil]); first | done | rfl | (simp only [List.length_drop, List.length_take]; rfl)) ?_
 refine (topo_On.calls k 2 _ _ y183 _ _ y189 _ _ ([] : List (S59)) t194 _ ?side1 ?side2 ?side3 ?side4 ?side5 ?side6 A4.out).mono ?_
 (case side1 => repeat (first | exact (Kd.N_reads' HO185.out).2.2 | (with_reducible refine Kd.C_alloc ?_ _) | (with_reducible refine Kd.C_drewN ?_ _) | (with_reducible refine Kd.C_drew ?_)))
 (case side2 => exact (Kd.N_reads' HO185.out).2.1)
 (case side3 => repeat (first | exact (Kd.N_reads' HO191.out).2.2 | (with_reducible refine Kd.C_alloc ?_ _) | (with_reducible refine Kd.C_drewN ?_ _) | (with_reducible refine Kd.C_drew ?_)))
 (case side4 => exact (Kd.N_reads' HO191.out).2.1)
 (case side5 => exact Kd.C_nil _ _)
 (case side6 => exact Nat.le_refl _)
 rintro e w24 ⟨v195, rfl, ho0, hb⟩
 refine ⟨_, rfl, ?_⟩
 have n0_ := Aside0.mk (Kd.N_elder' (by (with_reducible repeat (first | apply Kd.N_alloc | apply Kd.N_drewN | apply Kd.N_drew)); exact HO185.out) (Kd.N_base (Kd.S_N ho0)) hb)
 have n1_ := Aside0.mk (Kd.N_elder' (by (with_reducible repeat (first | apply Kd.N_alloc | apply Kd.N_drewN | apply Kd.N_drew)); exact HO191.out) (Kd.N_base (Kd.S_N ho0)) hb)
 have n2_ := Aside0.mk (Kd.N_lower (Kd.N_mono (ok' := fun k_ => some k_ ≠ (.slice Ao18 y183.length co18 : Value).ownBlock ∧ some k_ ≠ (.slice Ao17 y189.length co17 : Value).ownBlock ∧ k_ ≠ gb192) (Kd.S_N (Kd.S_bound ho0)) (fun k_ hk_ => ⟨(Kd.fresh' (Kd.N_lt (by (with_reducible repeat (first | apply Kd.N_alloc | apply Kd.N_drewN | apply Kd.N_drew)); exact HO185.out)) k_ hk_.2.1), (Kd.fresh' (Kd.N_lt (by (with_reducible repeat (first | apply Kd.N_alloc | apply Kd.N_drewN | apply Kd.N_drew)); exact HO191.out)) k_ hk_.2.1), (Kd.freshB (g := gb192) (o := .cells #[.int .i64 2, .slice Ao18 y183.length co18, .slice Ao17 y189.length co17, .slice none 0 0] 26 (0, 0)) (by (with_reducible repeat (first | refine blk_drewN ?_ _ | refine blk_drew ?_ | refine blk_alloc ?_ _)); exact BK192.out) k_ hk_.2.1)⟩)) (below_size (by repeat (first | (with_reducible first | exact HB.out | apply below_alloc | apply pw_below_drewN | apply below_drew1 | refine below_set ?_ GE192.out) | exact HB.out))))
 have n3_ := Aside0.mk (blk_below (g := gb192) (o := .cells #[.int .i64 2, .slice Ao18 y183.length co18, .slice Ao17 y189.length co17, .slice none 0 0] 26 (0, 0)) (by (with_reducible repeat (first | refine blk_drewN ?_ _ | refine blk_drew ?_ | refine blk_alloc ?_ _)); exact BK192.out) hb)
 have n4_ := Aside0.mk (below_step (by repeat (first | (with_reducible first | exact HB.out | apply below_alloc | apply pw_below_drewN | apply below_drew1 | refine below_set ?_ GE192.out) | exact HB.out)) hb)
 clear HO185
 clear HO191
 clear BK192
 clear HB
 have HO185 := n0_
 have HO191 := n1_
 have HO196 := n2_
 have BK192 := n3_
 have HB := n4_
 clear n0_ n1_ n2_ n3_ n4_
 (try clear hb)
 (try clear hb2)
 (try clear hk)
 (try clear hi)
 (try clear ho0)
 obtain ⟨Ao25, co25, eo25⟩ := Kd.N_slice HO196.out
 (first | subst eo25 | (injection eo25 with f1_ f2_ f3_; have f4_ := f1_.symm; have f5_ := f3_.symm; clear f1_ f2_ f3_; subst f4_; subst f5_))
 refine hK.out _ _ ⟨(blk_cell BK192.out 0).trans rfl, (blk_cell BK192.out 1).trans rfl, (blk_cell BK192.out 2).trans rfl, (blk_cell BK192.out 3).trans rfl⟩ (fun hHeld => ?_)
 clear hK K
 refine norm_ (a' := ?_) ?_ ?_
 rotate_left
 ·show Act.put _ (some 13) _ = _
  simp only [Act.put, List.setIfInBounds_toArray, List.set_cons_zero, List.set_cons_succ, i64_w, i32_w]
  rfl
 refine one_ (i := 7) (N := some 14) #[true, true, true, true, true, true, true, true, false, false, false, false, false, false, false] rfl rfl (one_of HT_.out (by kernel_rfl)) (by decide) (fun K hK => ?_)
 refine goes_ Try.func13 (by kernel_rfl) rfl #[.agg #[.int .i64 2, .slice Ao18 y183.length co18, .slice Ao17 y189.length co17, .slice none 0 0], .slice Ao25 t194.length co25] (by rfl) rfl rfl (by (try simp only [List.map_toArray, List.map_cons, List.map_nil]); first | done | rfl | (simp only [List.length_drop, List.length_take]; rfl)) ?_
 refine (topo_Joined.calls k 2 _ _ y183 _ _ y189 _ _ ([] : List (S59)) _ _ t194 true _ ?side1 ?side2 ?side3 ?side4 ?side5 ?side6 ?side7 ?side8 A5.out).mono ?_
 (case side1 => repeat (first | exact (Kd.N_reads' HO185.out).2.2 | (with_reducible refine Kd.C_alloc ?_ _) | (with_reducible refine Kd.C_drewN ?_ _) | (with_reducible refine Kd.C_drew ?_)))
 (case side2 => exact (Kd.N_reads' HO185.out).2.1)
 (case side3 => repeat (first | exact (Kd.N_reads' HO191.out).2.2 | (with_reducible refine Kd.C_alloc ?_ _) | (with_reducible refine Kd.C_drewN ?_ _) | (with_reducible refine Kd.C_drew ?_)))
 (case side4 => exact (Kd.N_reads' HO191.out).2.1)
 (case side5 => exact Kd.C_nil _ _)
 (case side6 => exact Nat.le_refl _)
 (case side7 => repeat (first | exact (Kd.N_reads' HO196.out).2.2 | (with_reducible refine Kd.C_alloc ?_ _) | (with_reducible refine Kd.C_drewN ?_ _) | (with_reducible refine Kd.C_drew ?_)))
 (case side8 => exact (Kd.N_reads' HO196.out).2.1)
 rintro e w26 ⟨rfl, hb⟩
 refine ⟨_, rfl, ?_⟩
 have n0_ := Aside0.mk (Kd.N_below (by (with_reducible repeat (first | apply Kd.N_alloc | apply Kd.N_drewN | apply Kd.N_drew)); exact HO185.out) hb)
 have n1_ := Aside0.mk (Kd.N_below (by (with_reducible repeat (first | apply Kd.N_alloc | apply Kd.N_drewN | apply Kd.N_drew)); exact HO191.out) hb)
 have n2_ := Aside0.mk (Kd.N_below (by (with_reducible repeat (first | apply Kd.N_alloc | apply Kd.N_drewN | apply Kd.N_drew)); exact HO196.out) hb)
 have n3_ := Aside0.mk (blk_below (g := gb192) (o := .cells #[.int .i64 2, .slice Ao18 y183.length co18, .slice Ao17 y189.length co17, .slice none 0 0] 26 (0, 0)) (by (with_reducible repeat (first | refine blk_drewN ?_ _ | refine blk_drew ?_ | refine blk_alloc ?_ _)); exact BK192.out) hb)
 have n4_ := Aside0.mk (below_step (by repeat (first | (with_reducible first | exact HB.out | apply below_alloc | apply pw_below_drewN | apply below_drew1 | refine below_set ?_ GE192.out) | exact HB.out)) hb)
 clear HO185
 clear HO191
 clear HO196
 clear BK192
 clear HB
 have HO185 := n0_
 have HO191 := n1_
 have HO196 := n2_
 have BK192 := n3_
 have HB := n4_
 clear n0_ n1_ n2_ n3_ n4_
 (try clear hb)
 (try clear hb2)
 (try clear hk)
 (try clear hi)
 refine hK.out _ _ ⟨(blk_cell BK192.out 0).trans rfl, (blk_cell BK192.out 1).trans rfl, (blk_cell BK192.out 2).trans rfl, (blk_cell BK192.out 3).trans rfl⟩ (fun hHeld => ?_)
 clear hK K
 refine norm_ (a' := ?_) ?_ ?_
 rotate_left
 ·show Act.put _ (some 14) _ = _
  simp only [Act.put, List.setIfInBounds_toArray, List.set_cons_zero, List.set_cons_succ, i64_w, i32_w]
  rfl
 refine pure_ (i := 8) (N := some 15) (v := ?_) (a' := ?_) #[true, true, true, true, true, true, true, true, true, false, false, false, false, false, false] rfl rfl (any_of HT_.out (by kernel_rfl)) (fun _ _ _ h => h) (Or.inl ⟨by rfl, ?_⟩) ?_ ?_
 rotate_left
 ·intro w'
  go_simp
  with_reducible rfl
 rotate_left
 ·simp only [Act.put, List.setIfInBounds_toArray, List.set_cons_zero, List.set_cons_succ, i64_w, i32_w]
  rfl
 refine pure_ (i := 9) (N := some 16) (v := ?_) (a' := ?_) #[true, true, true, true, true, true, true, true, true, true, false, false, false, false, false] rfl rfl (any_of HT_.out (by kernel_rfl)) (fun _ _ _ h => h) (Or.inl ⟨by rfl, ?_⟩) ?_ ?_
 rotate_left
 ·intro w'
  go_simp
  with_reducible rfl
 rotate_left
 ·simp only [Act.put, List.setIfInBounds_toArray, List.set_cons_zero, List.set_cons_succ, i64_w, i32_w]
  rfl
 refine take_ (i := 10) (N := some 17) (v := ?_) (a' := ?_) #[true, true, true, true, true, true, true, true, true, true, true, false, false, false, false] rfl rfl (take_ofW HT_.out HW_.out (by kernel_rfl)) (fun _ _ _ h => h) (Or.inl ⟨by rfl, ?_⟩) hHeld ?_ ?_
 rotate_left
 ·rintro w' ⟨s0, s1, s2, s3⟩
  go_simp
  with_reducible rfl
 rotate_left
 ·simp only [Act.put, List.setIfInBounds_toArray, List.set_cons_zero, List.set_cons_succ, i64_w, i32_w]
  rfl
 refine one_ (i := 11) (N := some 18) #[true, true, true, true, true, true, true, true, true, true, true, true, false, false, false] rfl rfl (one_of HT_.out (by kernel_rfl)) (by decide) (fun K hK => ?_)
 refine goes_ Try.func13 (by kernel_rfl) rfl #[.agg #[.int .i64 2, .slice Ao18 y183.length co18, .slice Ao17 y189.length co17, .slice none 0 0], .slice none 0 0] (by rfl) rfl rfl (by (try simp only [List.map_toArray, List.map_cons, List.map_nil]); first | done | rfl | (simp only [List.length_drop, List.length_take]; rfl)) ?_
 refine (topo_Joined.calls k 2 _ _ y183 _ _ y189 _ _ ([] : List (S59)) _ _ ([] : List (List Bool)) t198 _ ?side1 ?side2 ?side3 ?side4 ?side5 ?side6 ?side7 ?side8 A7.out).mono ?_
 (case side1 => repeat (first | exact (Kd.N_reads' HO185.out).2.2 | (with_reducible refine Kd.C_alloc ?_ _) | (with_reducible refine Kd.C_drewN ?_ _) | (with_reducible refine Kd.C_drew ?_)))
 (case side2 => exact (Kd.N_reads' HO185.out).2.1)
 (case side3 => repeat (first | exact (Kd.N_reads' HO191.out).2.2 | (with_reducible refine Kd.C_alloc ?_ _) | (with_reducible refine Kd.C_drewN ?_ _) | (with_reducible refine Kd.C_drew ?_)))
 (case side4 => exact (Kd.N_reads' HO191.out).2.1)
 (case side5 => exact Kd.C_nil _ _)
 (case side6 => exact Nat.le_refl _)
 (case side7 => exact Kd.C_nil _ _)
 (case side8 => exact Nat.le_refl _)
 rintro e w27 ⟨rfl, hb⟩
 refine ⟨_, rfl, ?_⟩
 have n0_ := Aside0.mk (Kd.N_below (by (with_reducible repeat (first | apply Kd.N_alloc | apply Kd.N_drewN | apply Kd.N_drew)); exact HO185.out) hb)
 have n1_ := Aside0.mk (Kd.N_below (by (with_reducible repeat (first | apply Kd.N_alloc | apply Kd.N_drewN | apply Kd.N_drew)); exact HO191.out) hb)
 have n2_ := Aside0.mk (Kd.N_below (by (with_reducible repeat (first | apply Kd.N_alloc | apply Kd.N_drewN | apply Kd.N_drew)); exact HO196.out) hb)
 have n3_ := Aside0.mk (blk_below (g := gb192) (o := .cells #[.int .i64 2, .slice Ao18 y183.length co18, .slice Ao17 y189.length co17, .slice none 0 0] 26 (0, 0)) (by (with_reducible repeat (first | refine blk_drewN ?_ _ | refine blk_drew ?_ | refine blk_alloc ?_ _)); exact BK192.out) hb)
 have n4_ := Aside0.mk (below_step (by repeat (first | (with_reducible first | exact HB.out | apply below_alloc | apply pw_below_drewN | apply below_drew1 | refine below_set ?_ GE192.out) | exact HB.out)) hb)
 clear HO185
 clear HO191
 clear HO196
 clear BK192
 clear HB
 have HO185 := n0_
 have HO191 := n1_
 have HO196 := n2_
 have BK192 := n3_
 have HB := n4_
 clear n0_ n1_ n2_ n3_ n4_
 (try clear hb)
 (try clear hb2)
 (try clear hk)
 (try clear hi)
 refine hK.out _ _ ⟨(blk_cell BK192.out 0).trans rfl, (blk_cell BK192.out 1).trans rfl, (blk_cell BK192.out 2).trans rfl, (blk_cell BK192.out 3).trans rfl⟩ (fun hHeld => ?_)
 clear hK K
 refine norm_ (a' := ?_) ?_ ?_
 rotate_left
 ·show Act.put _ (some 18) _ = _
  simp only [Act.put, List.setIfInBounds_toArray, List.set_cons_zero, List.set_cons_succ, i64_w, i32_w]
  rfl
 refine pure_ (i := 12) (N := some 19) (v := ?_) (a' := ?_) #[true, true, true, true, true, true, true, true, true, true, true, true, true, false, false] rfl rfl (any_of HT_.out (by kernel_rfl)) (fun _ _ _ h => h) (Or.inl ⟨by rfl, ?_⟩) ?_ ?_
 rotate_left
 ·intro w'
  go_simp
  with_reducible rfl
 rotate_left
 ·simp only [Act.put, List.setIfInBounds_toArray, List.set_cons_zero, List.set_cons_succ, i64_w, i32_w]
  rfl
 refine pure_ (i := 13) (N := some 20) (v := ?_) (a' := ?_) #[true, true, true, true, true, true, true, true, true, true, true, true, true, true, false] rfl rfl (any_of HT_.out (by kernel_rfl)) (fun _ _ _ h => h) (Or.inl ⟨by rfl, ?_⟩) ?_ ?_
 rotate_left
 ·intro w'
  go_simp
  with_reducible rfl
 rotate_left
 ·simp only [Act.put, List.setIfInBounds_toArray, List.set_cons_zero, List.set_cons_succ, i64_w, i32_w]
  rfl
 refine pure_ (i := 14) (N := some 0) (v := ?_) (a' := ?_) #[true, true, true, true, true, true, true, true, true, true, true, true, true, true, true] rfl rfl (any_of HT_.out (by kernel_rfl)) (fun _ _ _ h => h) (Or.inl ⟨by rfl, ?_⟩) ?_ ?_
 rotate_left
 ·intro w'
  go_simp
  with_reducible rfl
 rotate_left
 ·simp only [Act.put, List.setIfInBounds_toArray, List.set_cons_zero, List.set_cons_succ, i64_w, i32_w]
  rfl
 refine done_ (done_of HT_.out (by kernel_rfl)) ?_
 try go_wp2
 go_ret
 exact ⟨by first | rfl | (simp [errW_none, errW_some] <;> rfl) | (simp [*, errW_none, errW_some] <;> rfl), by repeat (first | (with_reducible first | exact HB.out | apply below_alloc | apply pw_below_drewN | apply below_drew1 | refine below_set ?_ GE192.out) | exact HB.out)⟩
end Go.Proofs.Ytkgfpagfmdefgaa.OTopoRight
