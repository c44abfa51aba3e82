/- What Go functions that the law ScriptFront uses come to, and why: part 15. Made out of the kit's print by a program of this session (wip/tools/stub.py, splice.py), functions that it does not take told by hand. -/
import Derived.Test.YtiikllgppmmiaaaDoorOScriptFrontx14
namespace Go.Proofs.YtiikllgppmmiaaaDoor.OScriptFront
open Go.RowKit Go.Proofs.YtiikllgppmmiaaaDoorW.PrintWords Go.Proofs.YtiikllgppmmiaaaDoorW.PrintLast Go.Proofs.YtiikllgppmmiaaaDoorW.PrintMore
attribute [local go_sem] max2_int min2_int max_two min_two max_three min_three max_four min_four   -- for this text's walks alone
set_option linter.unusedVariables false
set_option linter.unusedSimpArgs false
private theorem setCell_drewN_ (w : World) (n : Nat) (p : Addr) (u : Value) : (w.drewN n).setCell p u = (w.setCell p u).drewN n := by
  unfold World.setCell World.drewN
  split <;> rfl

/-! ### treelinelaw24_ScriptFront: function 6 -/
mutual
def treelinelaw24_ScriptFront.j0 : Nat → List Int → Int → Bool → Option (Bool)
  | 0, _, _, _ => none
  | k + 1, x0, x1, x18 => if x18 = true then ((treelinelaw24_awake.f k).bind fun t311 => (some t311)) else ((some (([0, 0, 0, 0, 0, 0, 0, 0, 0, 0, 0, 0] : List Int) : List Int)).bind fun y312 => (if (x0.length : Int) > 0 then (if (x0.length : Int) = 0 then (none) else (treelinelaw24_ScriptFront.j1 k x0 y312 (Int.tmod (wrap64 (x1)) (x0.length : Int)))) else (treelinelaw24_ScriptFront.j1 k x0 y312 0)))
def treelinelaw24_ScriptFront.j1 : Nat → List Int → List Int → Int → Option (Bool)
  | 0, _, _, _ => none
  | k + 1, x0, x5, x6 => (some (([] : List Int) : List Int)).bind fun y315 => (if y315.length + x5.length < 140737488355328 then ((some (y315 ++ x5 : List Int)).bind fun y318 => (if 0 ≤ x6 then (if x6 ≤ (x0.length : Int) then (if y318.length + (x0.take (x6 : Int).toNat).length < 140737488355328 then ((script_Read.f k (y318 ++ (x0.take (x6 : Int).toNat))).bind fun bt325 => ((some (([] : List Int) : List Int)).bind fun y339 => (if y339.length + x5.length < 140737488355328 then ((some (y339 ++ x5 : List Int)).bind fun y342 => (if y342.length + x0.length < 140737488355328 then ((script_Read.f k (y342 ++ x0)).bind fun bt348 => (if (bt325.2.2.2.2.length : Int) > (bt348.2.2.2.2.length : Int) then (some false) else (if 0 ≤ (mx (wrap64 ((bt325.2.2.2.2.length : Int) - 1)) 0) then (if (mx (wrap64 ((bt325.2.2.2.2.length : Int) - 1)) 0) ≤ (bt325.2.2.2.2.length : Int) then (if (mx (wrap64 ((bt325.2.2.2.2.length : Int) - 1)) 0) ≤ (bt348.2.2.2.2.length : Int) then ((treelineref24_SameOps.f k (bt325.2.2.2.2.take ((mx (wrap64 ((bt325.2.2.2.2.length : Int) - 1)) 0) : Int).toNat) (bt348.2.2.2.2.take ((mx (wrap64 ((bt325.2.2.2.2.length : Int) - 1)) 0) : Int).toNat)).bind fun t372 => (some t372)) else (none)) else (none)) else (none)))) else (none))) else (none)))) else (none)) else (none)) else (none))) else (none))
end
def treelinelaw24_ScriptFront.f (k : Nat) (l0 : List Int) (a1 : Int) : Option (Bool) := (treelinelaw24_awake.f k).bind fun t310 => (if t310 = true then (treelinelaw24_ScriptFront.j0 k l0 a1 (decide ((l0.length : Int) > 5000))) else (treelinelaw24_ScriptFront.j0 k l0 a1 true))
theorem treelinelaw24_ScriptFront.mono_l : ∀ k, (∀ y0 y1 y2, LeO (treelinelaw24_ScriptFront.j0 k y0 y1 y2) (treelinelaw24_ScriptFront.j0 (k + 1) y0 y1 y2)) ∧ (∀ y0 y1 y2, LeO (treelinelaw24_ScriptFront.j1 k y0 y1 y2) (treelinelaw24_ScriptFront.j1 (k + 1) y0 y1 y2))
  | 0 => ⟨fun _ _ _ r h => by simp [treelinelaw24_ScriptFront.j0] at h, fun _ _ _ r h => by simp [treelinelaw24_ScriptFront.j1] at h⟩
  | k + 1 => by
    obtain ⟨ih0, ih1⟩ := treelinelaw24_ScriptFront.mono_l k
    refine ⟨?_, ?_⟩
    · intro y0 y1 y2
      unfold treelinelaw24_ScriptFront.j0
      repeat' first
      | (with_reducible exact ih0 _ _ _)
      | (with_reducible exact ih1 _ _ _)
      | (with_reducible exact script_Read.mono _ _)
      | (with_reducible exact treelinelaw24_awake.mono _)
      | (with_reducible exact treelineref24_SameOps.mono _ _ _)
      | (with_reducible exact LeO.refl _)
      | (with_reducible exact LeO.none _)
      | (with_reducible refine LeO.ite ?_ ?_)
      | (with_reducible refine LeO.bind ?_ (fun _ => ?_))
      | exact ih0 _ _ _
      | exact ih1 _ _ _
      | exact script_Read.mono _ _
      | exact treelinelaw24_awake.mono _
      | exact treelineref24_SameOps.mono _ _ _
      | exact LeO.none _
      | refine LeO.ite ?_ ?_
      | refine LeO.bind ?_ (fun _ => ?_)
    · intro y0 y1 y2
      unfold treelinelaw24_ScriptFront.j1
      repeat' first
      | (with_reducible exact ih0 _ _ _)
      | (with_reducible exact ih1 _ _ _)
      | (with_reducible exact script_Read.mono _ _)
      | (with_reducible exact treelinelaw24_awake.mono _)
      | (with_reducible exact treelineref24_SameOps.mono _ _ _)
      | (with_reducible exact LeO.refl _)
      | (with_reducible exact LeO.none _)
      | (with_reducible refine LeO.ite ?_ ?_)
      | (with_reducible refine LeO.bind ?_ (fun _ => ?_))
      | exact ih0 _ _ _
      | exact ih1 _ _ _
      | exact script_Read.mono _ _
      | exact treelinelaw24_awake.mono _
      | exact treelineref24_SameOps.mono _ _ _
      | exact LeO.none _
      | refine LeO.ite ?_ ?_
      | refine LeO.bind ?_ (fun _ => ?_)
theorem treelinelaw24_ScriptFront.mono : ∀ a0 a1 k, LeO (treelinelaw24_ScriptFront.f k a0 a1) (treelinelaw24_ScriptFront.f (k + 1) a0 a1) := by
  intro a0 a1 k
  obtain ⟨ih0, ih1⟩ := treelinelaw24_ScriptFront.mono_l k
  unfold treelinelaw24_ScriptFront.f
  repeat' first
      | (with_reducible exact ih0 _ _ _)
      | (with_reducible exact ih1 _ _ _)
      | (with_reducible exact script_Read.mono _ _)
      | (with_reducible exact treelinelaw24_awake.mono _)
      | (with_reducible exact treelineref24_SameOps.mono _ _ _)
      | (with_reducible exact LeO.refl _)
      | (with_reducible exact LeO.none _)
      | (with_reducible refine LeO.ite ?_ ?_)
      | (with_reducible refine LeO.bind ?_ (fun _ => ?_))
      | exact ih0 _ _ _
      | exact ih1 _ _ _
      | exact script_Read.mono _ _
      | exact treelinelaw24_awake.mono _
      | exact treelineref24_SameOps.mono _ _ _
      | exact LeO.none _
      | refine LeO.ite ?_ ?_
      | refine LeO.bind ?_ (fun _ => ?_)
def treelinelaw24_ScriptFront.T7 : Bool × List (List Nat × List Nat) := (true, [([], []), ([], []), ([0, 1], [0, 1]), ([], []), ([], []), ([3, 4], [3, 4]), ([2, 5, 2], [2, 5]), ([6, 6], [6]), ([7], [7]), ([8], [8]), ([8], [8]), ([], []), ([11, 9, 7, 0, 1, 2, 3, 4, 5, 6, 7, 8, 9, 11], [9, 11]), ([10, 12, 0, 1, 2, 3, 4, 5, 6, 7, 8, 9, 10, 11, 12], [10])])
def treelinelaw24_ScriptFront.B7 : List Nat := [0, 0, 3, 0, 0, 24, 63, 127, 255, 511, 511, 0, 3071, 8191]
theorem treelinelaw24_ScriptFront.tab7 : rtab .any (opsOf Tryd.f6 7) = treelinelaw24_ScriptFront.T7 := by kernel_rfl
theorem treelinelaw24_ScriptFront.bits7 : waitsOk treelinelaw24_ScriptFront.T7.2 treelinelaw24_ScriptFront.B7 = true := by kernel_rfl
def treelinelaw24_ScriptFront.T12 : Bool × List (List Nat × List Nat) := (true, [([], []), ([], []), ([0, 1], [0, 1]), ([], []), ([], []), ([3, 4], [3, 4]), ([2, 5], [2, 5]), ([6, 6, 0, 1, 2, 3, 4, 5, 6], [6])])
def treelinelaw24_ScriptFront.B12 : List Nat := [0, 0, 3, 0, 0, 24, 63, 127]
theorem treelinelaw24_ScriptFront.tab12 : rtab .any (opsOf Tryd.f6 12) = treelinelaw24_ScriptFront.T12 := by kernel_rfl
theorem treelinelaw24_ScriptFront.bits12 : waitsOk treelinelaw24_ScriptFront.T12.2 treelinelaw24_ScriptFront.B12 = true := by kernel_rfl
set_option maxHeartbeats 8000000 in
set_option maxRecDepth 100000 in
theorem treelinelaw24_ScriptFront.calls (k : Nat) (A0 : Option Addr) (c0 : Nat) (l0 : List Int) (a1 : Int) (r : Bool) (w : World) (hr0 : Kd.C (Kd.int .u8) w A0 l0.length l0) (hc0 : l0.length ≤ c0) (h : treelinelaw24_ScriptFront.f k l0 a1 = some r) (HG : Aside0 (Llc.Glob w)) :
  Calls Tryd.prog 6 #[.slice A0 l0.length c0, .int .u8 a1] w fun e w' => e = .returned (.bool r) ∧ Below w.heap.size w w' := by
 have hu28 := Tryd.underlying28
 have HR0 := Aside0.mk hr0
 have HC0 := Aside0.mk hc0
 clear hr0 hc0
 have HB := Aside0.mk (Below.refl w.heap.size w)
 have H : ((treelinelaw24_awake.f k).bind fun t310 => (if t310 = true then (treelinelaw24_ScriptFront.j0 k l0 a1 (decide ((l0.length : Int) > 5000))) else (treelinelaw24_ScriptFront.j0 k l0 a1 true))) = some r := h
 clear h
 have HC3 := Aside0.mk H
 clear H
 go_enter Tryd.func6, Tryd.ntmps6
 go_upto_region 1 with (fail)
 go_cut [18] (fun v18 wc => ∃ (kq : Nat) (x18_2 : Bool), v18 = .bool x18_2 ∧ Aside0 (treelinelaw24_ScriptFront.j0 kq l0 a1 x18_2 = some r) ∧ Aside0 (kq ≤ k) ∧ Aside0 (Below w.heap.size w wc))
 case first =>
  have H := HC3.out
  clear HC3
  replace H := Option.bind_eq_some_iff.mp H
  obtain ⟨t310, A40, H⟩ := H
  replace H : (if t310 = true then (treelinelaw24_ScriptFront.j0 k l0 a1 (decide ((l0.length : Int) > 5000))) else (treelinelaw24_ScriptFront.j0 k l0 a1 true)) = some r := H
  have A4 := Aside0.mk A40
  clear A40
  by_cases c5 : t310 = true
  ·subst c5
   have H1 : (treelinelaw24_ScriptFront.j0 k l0 a1 (decide ((l0.length : Int) > 5000))) = some r := by rw [if_pos rfl] at H; exact H
   clear H
   have H := H1
   clear H1
   have H' := Aside0.mk H
   clear H
   go_wp2_with (first | ((with_reducible refine gate_callee (f := 8) rfl ?_); refine goesL_ (some 12) rfl rfl Tryd.func8 (by kernel_rfl) rfl #[] rfl (by (try simp only [List.map_toArray, List.map_cons, List.map_nil]); first | done | rfl | (simp only [List.length_drop, List.length_take]; rfl)) ?_; (with_reducible refine (treelinelaw24_awake.calls k  true _ A4.out ?sideG).mono ?_); (case sideG => first | exact HG | exact ⟨HG.out.below (by repeat (first | (with_reducible first | exact HB.out | apply below_alloc | apply pw_below_drewN | apply below_drew1) | exact HB.out))⟩); rintro e w6 ⟨rfl, hb⟩; refine ⟨_, rfl, ?_⟩; have n0_ := Aside0.mk (below_step (by repeat (first | (with_reducible first | exact HB.out | apply below_alloc | apply pw_below_drewN | apply below_drew1) | exact HB.out)) hb); clear HB; have HB := n0_; clear n0_; (try clear hb); (try clear hb2); (try clear hk); (try clear hi)) | (go_at_call 8; (with_reducible refine (treelinelaw24_awake.calls k  true _ A4.out ?sideG).mono ?_); (case sideG => first | exact HG | exact ⟨HG.out.below (by repeat (first | (with_reducible first | exact HB.out | apply below_alloc | apply pw_below_drewN | apply below_drew1) | exact HB.out))⟩); rintro e w6 ⟨rfl, hb⟩; have n0_ := Aside0.mk (below_step (by repeat (first | (with_reducible first | exact HB.out | apply below_alloc | apply pw_below_drewN | apply below_drew1) | exact HB.out)) hb); clear HB; have HB := n0_; clear n0_; (try clear hb); (try clear hb2); (try clear hk); (try clear hi)))
   go_meet
   case rel => exact ⟨_, (decide ((l0.length : Int) > 5000)), (by first | rfl | (simp; done) | (simp [*]; done)), H', ⟨by first | omega | exact Nat.le_refl _⟩, ⟨by repeat (first | (with_reducible first | exact HB.out | apply below_alloc | apply pw_below_drewN | apply below_drew1) | exact HB.out)⟩⟩
  replace c5 := Bool.eq_false_iff.mpr c5
  subst c5
  have H1 : (treelinelaw24_ScriptFront.j0 k l0 a1 true) = some r := by rw [if_neg (show ¬ (false = true) by decide)] at H; exact H
  clear H
  have H := H1
  clear H1
  have H' := Aside0.mk H
  clear H
  go_wp2_with (first | ((with_reducible refine gate_callee (f := 8) rfl ?_); refine goesL_ (some 12) rfl rfl Tryd.func8 (by kernel_rfl) rfl #[] rfl (by (try simp only [List.map_toArray, List.map_cons, List.map_nil]); first | done | rfl | (simp only [List.length_drop, List.length_take]; rfl)) ?_; (with_reducible refine (treelinelaw24_awake.calls k  false _ A4.out ?sideG).mono ?_); (case sideG => first | exact HG | exact ⟨HG.out.below (by repeat (first | (with_reducible first | exact HB.out | apply below_alloc | apply pw_below_drewN | apply below_drew1) | exact HB.out))⟩); rintro e w7 ⟨rfl, hb⟩; refine ⟨_, rfl, ?_⟩; have n0_ := Aside0.mk (below_step (by repeat (first | (with_reducible first | exact HB.out | apply below_alloc | apply pw_below_drewN | apply below_drew1) | exact HB.out)) hb); clear HB; have HB := n0_; clear n0_; (try clear hb); (try clear hb2); (try clear hk); (try clear hi)) | (go_at_call 8; (with_reducible refine (treelinelaw24_awake.calls k  false _ A4.out ?sideG).mono ?_); (case sideG => first | exact HG | exact ⟨HG.out.below (by repeat (first | (with_reducible first | exact HB.out | apply below_alloc | apply pw_below_drewN | apply below_drew1) | exact HB.out))⟩); rintro e w7 ⟨rfl, hb⟩; have n0_ := Aside0.mk (below_step (by repeat (first | (with_reducible first | exact HB.out | apply below_alloc | apply pw_below_drewN | apply below_drew1) | exact HB.out)) hb); clear HB; have HB := n0_; clear n0_; (try clear hb); (try clear hb2); (try clear hk); (try clear hi)))
  go_meet
  case rel => exact ⟨_, (true), (by first | rfl | (simp; done) | (simp [*]; done)), H', ⟨by first | omega | exact Nat.le_refl _⟩, ⟨by repeat (first | (with_reducible first | exact HB.out | apply below_alloc | apply pw_below_drewN | apply below_drew1) | exact HB.out)⟩⟩
 clear HC3
 try clear p2
 try clear c5
 try clear c6
 obtain ⟨kq, x18_2, rfl, HA, HJ2, HB⟩ := hcut
 cases kq with
 | zero => exact absurd HA.out (by simp [treelinelaw24_ScriptFront.j0])
 | succ kj2 => ?_
 have H := HA.out
 clear HA
 simp only [treelinelaw24_ScriptFront.j0] at H
 by_cases c8 : x18_2 = true
 ·subst c8
  have H1 : ((treelinelaw24_awake.f kj2).bind fun t311 => (some t311)) = some r := by rw [if_pos rfl] at H; exact H
  clear H
  have H := H1
  clear H1
  replace H := Option.bind_eq_some_iff.mp H
  obtain ⟨t311, A90, H⟩ := H
  replace H : (some t311) = some r := H
  have A9 := Aside0.mk A90
  clear A90
  obtain rfl := Option.some.inj H
  go_wp2_with (first | ((with_reducible refine gate_callee (f := 8) rfl ?_); refine goesL_ (some 19) rfl rfl Tryd.func8 (by kernel_rfl) rfl #[] rfl (by (try simp only [List.map_toArray, List.map_cons, List.map_nil]); first | done | rfl | (simp only [List.length_drop, List.length_take]; rfl)) ?_; (with_reducible refine (treelinelaw24_awake.calls kj2  t311 _ A9.out ?sideG).mono ?_); (case sideG => first | exact HG | exact ⟨HG.out.below (by repeat (first | (with_reducible first | exact HB.out | apply below_alloc | apply pw_below_drewN | apply below_drew1) | exact HB.out))⟩); rintro e w10 ⟨rfl, hb⟩; refine ⟨_, rfl, ?_⟩; have n0_ := Aside0.mk (below_step (by repeat (first | (with_reducible first | exact HB.out | apply below_alloc | apply pw_below_drewN | apply below_drew1) | exact HB.out)) hb); clear HB; have HB := n0_; clear n0_; (try clear hb); (try clear hb2); (try clear hk); (try clear hi)) | (go_at_call 8; (with_reducible refine (treelinelaw24_awake.calls kj2  t311 _ A9.out ?sideG).mono ?_); (case sideG => first | exact HG | exact ⟨HG.out.below (by repeat (first | (with_reducible first | exact HB.out | apply below_alloc | apply pw_below_drewN | apply below_drew1) | exact HB.out))⟩); rintro e w10 ⟨rfl, hb⟩; have n0_ := Aside0.mk (below_step (by repeat (first | (with_reducible first | exact HB.out | apply below_alloc | apply pw_below_drewN | apply below_drew1) | exact HB.out)) hb); clear HB; have HB := n0_; clear n0_; (try clear hb); (try clear hb2); (try clear hk); (try clear hi)))
  go_ret
  exact ⟨by first | rfl | (simp [errW_none, errW_some] <;> rfl) | (simp [*, errW_none, errW_some] <;> rfl), by repeat (first | (with_reducible first | exact HB.out | apply below_alloc | apply pw_below_drewN | apply below_drew1) | exact HB.out)⟩
 replace c8 := Bool.eq_false_iff.mpr c8
 subst c8
 have H1 : ((some (([0, 0, 0, 0, 0, 0, 0, 0, 0, 0, 0, 0] : List Int) : List Int)).bind fun y312 => (if (l0.length : Int) > 0 then (if (l0.length : Int) = 0 then (none) else (treelinelaw24_ScriptFront.j1 kj2 l0 y312 (Int.tmod (wrap64 (a1)) (l0.length : Int)))) else (treelinelaw24_ScriptFront.j1 kj2 l0 y312 0))) = some r := by rw [if_neg (show ¬ (false = true) by decide)] at H; exact H
 clear H
 have H := H1
 clear H1
 obtain ⟨y312, hy312⟩ : ∃ y_ : List Int, y_ = (([0, 0, 0, 0, 0, 0, 0, 0, 0, 0, 0, 0] : List Int)) := ⟨_, rfl⟩
 replace H : (if (l0.length : Int) > 0 then (if (l0.length : Int) = 0 then (none) else (treelinelaw24_ScriptFront.j1 kj2 l0 y312 (Int.tmod (wrap64 (a1)) (l0.length : Int)))) else (treelinelaw24_ScriptFront.j1 kj2 l0 y312 0)) = some r := by first | (rw [hy312]; with_reducible exact H) | (have H2_ := (Option.bind_some _ _).symm.trans H; rw [hy312]; with_reducible exact H2_) | (have H2_ := (Option.bind_some _ _).symm.trans H; with_reducible exact H2_) | with_reducible exact H | (rw [hy312]; exact H) | exact H
 have Ny312 := Aside0.mk hy312
 clear hy312
 have HC11 := Aside0.mk H
 clear H
 go_upto_if 23 with (first | ((with_reducible refine gate_dst (N := 20) rfl ?_); (try (refine gate_guard (by rfl) ?_; dsimp only)); refine Kd.R_lit (Kd.int .u8) _ 5 ?hg (N := 20) ?hd (xs := ([0, 0, 0, 0, 0, 0, 0, 0, 0, 0, 0, 0] : List Int)) (inner := [.int .u8 0, .int .u8 0, .int .u8 0, .int .u8 0, .int .u8 0, .int .u8 0, .int .u8 0, .int .u8 0, .int .u8 0, .int .u8 0, .int .u8 0, .int .u8 0]) (ok := fun _ => True) (okp := fun _ => True) ?hr ?hp (fun _ hk => hk) trivial (Below.refl _ _) (Nat.le_refl _) (by simp) ?_; (case hd => rfl); (case hg => rfl); (case hr => first | (go_simp; done) | (go_simp; rfl)); (case hp => exact (Reps.one (show Kd.M (Kd.int .u8) _ _ _ 0 [.int .u8 0] from rfl) (Reps.one (show Kd.M (Kd.int .u8) _ _ _ 0 [.int .u8 0] from rfl) (Reps.one (show Kd.M (Kd.int .u8) _ _ _ 0 [.int .u8 0] from rfl) (Reps.one (show Kd.M (Kd.int .u8) _ _ _ 0 [.int .u8 0] from rfl) (Reps.one (show Kd.M (Kd.int .u8) _ _ _ 0 [.int .u8 0] from rfl) (Reps.one (show Kd.M (Kd.int .u8) _ _ _ 0 [.int .u8 0] from rfl) (Reps.one (show Kd.M (Kd.int .u8) _ _ _ 0 [.int .u8 0] from rfl) (Reps.one (show Kd.M (Kd.int .u8) _ _ _ 0 [.int .u8 0] from rfl) (Reps.one (show Kd.M (Kd.int .u8) _ _ _ 0 [.int .u8 0] from rfl) (Reps.one (show Kd.M (Kd.int .u8) _ _ _ 0 [.int .u8 0] from rfl) (Reps.one (show Kd.M (Kd.int .u8) _ _ _ 0 [.int .u8 0] from rfl) (Reps.one (show Kd.M (Kd.int .u8) _ _ _ 0 [.int .u8 0] from rfl) (Reps.none _ _)))))))))))))); intro v313 w12 ho13 hb hg_ hnew_; clear hg_ hnew_; (first | rw [← Ny312.out] at ho13 | (simp only [Int.reduceToNat] at ho13; rw [← Ny312.out] at ho13)); have n0_ := Aside0.mk (Kd.R_lower ho13 (below_size (by repeat (first | (with_reducible first | exact HB.out | apply below_alloc | apply pw_below_drewN | apply below_drew1) | exact HB.out)))); have n1_ := Aside0.mk (below_step (by repeat (first | (with_reducible first | exact HB.out | apply below_alloc | apply pw_below_drewN | apply below_drew1) | exact HB.out)) hb); clear HB; have HO314 := n0_; have HB := n1_; clear n0_ n1_; clear hb ho13))
 (try simp only [Act.put, List.setIfInBounds_toArray, List.set_cons_zero, List.set_cons_succ])
 go_cut [6] (fun v6 wc => ∃ (kq : Nat) (x6_10 : Int), v6 = .int .i64 x6_10 ∧ Aside0 (treelinelaw24_ScriptFront.j1 kq l0 y312 x6_10 = some r) ∧ Aside0 (kq ≤ kj2) ∧ Aside0 (Kd.R (Kd.int .u8) 5 wc w.heap.size (fun _ => True) v313 y312) ∧ Aside0 (Below w.heap.size w wc))
 case first =>
  have H := HC11.out
  clear HC11
  by_cases c14 : (l0.length : Int) > 0
  rotate_left
  ·rw [if_neg c14] at H
   have c14b0 : decide (0 < (l0.length : Int)) = false := decide_eq_false c14
   have c14b1 : decide (0 < l0.length) = false := decide_eq_false (by omega)
   clear c14
   (first | rw [c14b0] | rw [c14b1] | (simp only [i64_w, i32_w]; rw [c14b0]) | skip)
   have H' := Aside0.mk H
   clear H
   go_wp2
   go_meet
   case rel => exact ⟨_, (0), (by first | rfl | (simp; done) | (simp [*]; done)), H', ⟨by have := HJ2.out; first | omega | exact Nat.le_refl _⟩, ⟨by (with_reducible repeat (first | apply Kd.R_alloc | apply Kd.R_drewN | apply Kd.R_drew)); exact HO314.out⟩, ⟨by repeat (first | (with_reducible first | exact HB.out | apply below_alloc | apply pw_below_drewN | apply below_drew1) | exact HB.out)⟩⟩
  rw [if_pos c14] at H
  have c14b0 : decide (0 < (l0.length : Int)) = true := decide_eq_true c14
  have c14b1 : decide (0 < l0.length) = true := decide_eq_true (by omega)
  clear c14
  (first | rw [c14b0] | rw [c14b1] | (simp only [i64_w, i32_w]; rw [c14b0]) | skip)
  by_cases c15 : (l0.length : Int) = 0
  ·rw [if_pos c15] at H
   exact absurd H (by simp)
  rw [if_neg c15] at H
  have c15b0 : ((l0.length : Int) == 0) = false := beq_eq_false_iff_ne.mpr c15
  have c15b1 : ((l0.length : Int) != 0) = true := bne_iff_ne.mpr c15
  have c15b2 : ¬ (l0 = []) := fun h_ => c15 (by rw [h_]; rfl)
  have H' := Aside0.mk H
  clear H
  go_wp2
  go_meet
  case rel => exact ⟨_, (Int.tmod (wrap64 (a1)) (l0.length : Int)), (by first | rfl | (simp; done) | (simp [*]; done)), H', ⟨by have := HJ2.out; first | omega | exact Nat.le_refl _⟩, ⟨by (with_reducible repeat (first | apply Kd.R_alloc | apply Kd.R_drewN | apply Kd.R_drew)); exact HO314.out⟩, ⟨by repeat (first | (with_reducible first | exact HB.out | apply below_alloc | apply pw_below_drewN | apply below_drew1) | exact HB.out)⟩⟩
 clear HC11
 try clear c1
 try clear p2
 try clear c5
 try clear c6
 try clear p6
 try clear c8
 try clear c14
 try clear c14b0
 try clear c14b1
 try clear c15
 try clear c15b0
 try clear c15b1
 try clear c15b2
 try clear p2
 obtain ⟨kq, x6_10, rfl, HA, HJ10, HO_5, HB⟩ := hcut
 cases kq with
 | zero => exact absurd HA.out (by simp [treelinelaw24_ScriptFront.j1])
 | succ kj10 => ?_
 have H := HA.out
 clear HA
 simp only [treelinelaw24_ScriptFront.j1] at H
 obtain ⟨y315, hy315⟩ : ∃ y_ : List Int, y_ = (([] : List Int)) := ⟨_, rfl⟩
 replace H : (if y315.length + y312.length < 140737488355328 then ((some (y315 ++ y312 : List Int)).bind fun y318 => (if 0 ≤ x6_10 then (if x6_10 ≤ (l0.length : Int) then (if y318.length + (l0.take (x6_10 : Int).toNat).length < 140737488355328 then ((script_Read.f kj10 (y318 ++ (l0.take (x6_10 : Int).toNat))).bind fun bt325 => ((some (([] : List Int) : List Int)).bind fun y339 => (if y339.length + y312.length < 140737488355328 then ((some (y339 ++ y312 : List Int)).bind fun y342 => (if y342.length + l0.length < 140737488355328 then ((script_Read.f kj10 (y342 ++ l0)).bind fun bt348 => (if (bt325.2.2.2.2.length : Int) > (bt348.2.2.2.2.length : Int) then (some false) else (if 0 ≤ (mx (wrap64 ((bt325.2.2.2.2.length : Int) - 1)) 0) then (if (mx (wrap64 ((bt325.2.2.2.2.length : Int) - 1)) 0) ≤ (bt325.2.2.2.2.length : Int) then (if (mx (wrap64 ((bt325.2.2.2.2.length : Int) - 1)) 0) ≤ (bt348.2.2.2.2.length : Int) then ((treelineref24_SameOps.f kj10 (bt325.2.2.2.2.take ((mx (wrap64 ((bt325.2.2.2.2.length : Int) - 1)) 0) : Int).toNat) (bt348.2.2.2.2.take ((mx (wrap64 ((bt325.2.2.2.2.length : Int) - 1)) 0) : Int).toNat)).bind fun t372 => (some t372)) else (none)) else (none)) else (none)))) else (none))) else (none)))) else (none)) else (none)) else (none))) else (none)) = some r := by first | (rw [hy315]; with_reducible exact H) | (have H2_ := (Option.bind_some _ _).symm.trans H; rw [hy315]; with_reducible exact H2_) | (have H2_ := (Option.bind_some _ _).symm.trans H; with_reducible exact H2_) | with_reducible exact H | (rw [hy315]; exact H) | exact H
 have Ny315 := Aside0.mk hy315
 clear hy315
 by_cases c16 : y315.length + y312.length < 140737488355328
 rotate_left
 ·rw [if_neg c16] at H
  exact absurd H (by simp)
 rw [if_pos c16] at H
 have LMc16 := Aside0.mk c16
 clear c16
 obtain ⟨y318, hy318⟩ : ∃ y_ : List Int, y_ = (y315 ++ y312) := ⟨_, rfl⟩
 replace H : (if 0 ≤ x6_10 then (if x6_10 ≤ (l0.length : Int) then (if y318.length + (l0.take (x6_10 : Int).toNat).length < 140737488355328 then ((script_Read.f kj10 (y318 ++ (l0.take (x6_10 : Int).toNat))).bind fun bt325 => ((some (([] : List Int) : List Int)).bind fun y339 => (if y339.length + y312.length < 140737488355328 then ((some (y339 ++ y312 : List Int)).bind fun y342 => (if y342.length + l0.length < 140737488355328 then ((script_Read.f kj10 (y342 ++ l0)).bind fun bt348 => (if (bt325.2.2.2.2.length : Int) > (bt348.2.2.2.2.length : Int) then (some false) else (if 0 ≤ (mx (wrap64 ((bt325.2.2.2.2.length : Int) - 1)) 0) then (if (mx (wrap64 ((bt325.2.2.2.2.length : Int) - 1)) 0) ≤ (bt325.2.2.2.2.length : Int) then (if (mx (wrap64 ((bt325.2.2.2.2.length : Int) - 1)) 0) ≤ (bt348.2.2.2.2.length : Int) then ((treelineref24_SameOps.f kj10 (bt325.2.2.2.2.take ((mx (wrap64 ((bt325.2.2.2.2.length : Int) - 1)) 0) : Int).toNat) (bt348.2.2.2.2.take ((mx (wrap64 ((bt325.2.2.2.2.length : Int) - 1)) 0) : Int).toNat)).bind fun t372 => (some t372)) else (none)) else (none)) else (none)))) else (none))) else (none)))) else (none)) else (none)) else (none)) = some r := by first | (rw [hy318]; with_reducible exact H) | (have H2_ := (Option.bind_some _ _).symm.trans H; rw [hy318]; with_reducible exact H2_) | (have H2_ := (Option.bind_some _ _).symm.trans H; with_reducible exact H2_) | with_reducible exact H | (rw [hy318]; exact H) | exact H
 have Ny318 := Aside0.mk hy318
 clear hy318
 by_cases c17 : 0 ≤ x6_10
 rotate_left
 ·rw [if_neg c17] at H
  exact absurd H (by simp)
 rw [if_pos c17] at H
 have c17b0 := eq_true c17
 have c17b1 : decide (0 ≤ x6_10) = true := decide_eq_true c17
 clear c17
 by_cases c18 : x6_10 ≤ (l0.length : Int)
 rotate_left
 ·rw [if_neg c18] at H
  exact absurd H (by simp)
 rw [if_pos c18] at H
 have c18b0 := eq_true c18
 have c18b1 : decide (x6_10 ≤ (l0.length : Int)) = true := decide_eq_true c18
 clear c18
 by_cases c19 : y318.length + (l0.take (x6_10 : Int).toNat).length < 140737488355328
 rotate_left
 ·rw [if_neg c19] at H
  exact absurd H (by simp)
 rw [if_pos c19] at H
 have LMc19 := Aside0.mk c19
 clear c19
 obtain ⟨y322, hy322⟩ : ∃ y_ : List Int, y_ = (y318 ++ (l0.take (x6_10 : Int).toNat)) := ⟨_, rfl⟩
 replace H : ((script_Read.f kj10 y322).bind fun bt325 => ((some (([] : List Int) : List Int)).bind fun y339 => (if y339.length + y312.length < 140737488355328 then ((some (y339 ++ y312 : List Int)).bind fun y342 => (if y342.length + l0.length < 140737488355328 then ((script_Read.f kj10 (y342 ++ l0)).bind fun bt348 => (if (bt325.2.2.2.2.length : Int) > (bt348.2.2.2.2.length : Int) then (some false) else (if 0 ≤ (mx (wrap64 ((bt325.2.2.2.2.length : Int) - 1)) 0) then (if (mx (wrap64 ((bt325.2.2.2.2.length : Int) - 1)) 0) ≤ (bt325.2.2.2.2.length : Int) then (if (mx (wrap64 ((bt325.2.2.2.2.length : Int) - 1)) 0) ≤ (bt348.2.2.2.2.length : Int) then ((treelineref24_SameOps.f kj10 (bt325.2.2.2.2.take ((mx (wrap64 ((bt325.2.2.2.2.length : Int) - 1)) 0) : Int).toNat) (bt348.2.2.2.2.take ((mx (wrap64 ((bt325.2.2.2.2.length : Int) - 1)) 0) : Int).toNat)).bind fun t372 => (some t372)) else (none)) else (none)) else (none)))) else (none))) else (none)))) = some r := by first | (rw [hy322]; with_reducible exact H) | (have H2_ := (Option.bind_some _ _).symm.trans H; rw [hy322]; with_reducible exact H2_) | (have H2_ := (Option.bind_some _ _).symm.trans H; with_reducible exact H2_) | with_reducible exact H | (rw [hy322]; exact H) | exact H
 have Ny322 := Aside0.mk hy322
 clear hy322
 replace H := Option.bind_eq_some_iff.mp H
 obtain ⟨⟨t325, t326, t329, t332, t335⟩, A200, H⟩ := H
 replace H : ((some (([] : List Int) : List Int)).bind fun y339 => (if y339.length + y312.length < 140737488355328 then ((some (y339 ++ y312 : List Int)).bind fun y342 => (if y342.length + l0.length < 140737488355328 then ((script_Read.f kj10 (y342 ++ l0)).bind fun bt348 => (if (t335.length : Int) > (bt348.2.2.2.2.length : Int) then (some false) else (if 0 ≤ (mx (wrap64 ((t335.length : Int) - 1)) 0) then (if (mx (wrap64 ((t335.length : Int) - 1)) 0) ≤ (t335.length : Int) then (if (mx (wrap64 ((t335.length : Int) - 1)) 0) ≤ (bt348.2.2.2.2.length : Int) then ((treelineref24_SameOps.f kj10 (t335.take ((mx (wrap64 ((t335.length : Int) - 1)) 0) : Int).toNat) (bt348.2.2.2.2.take ((mx (wrap64 ((t335.length : Int) - 1)) 0) : Int).toNat)).bind fun t372 => (some t372)) else (none)) else (none)) else (none)))) else (none))) else (none))) = some r := H
 have A20 := Aside0.mk A200
 clear A200
 obtain ⟨y339, hy339⟩ : ∃ y_ : List Int, y_ = (([] : List Int)) := ⟨_, rfl⟩
 replace H : (if y339.length + y312.length < 140737488355328 then ((some (y339 ++ y312 : List Int)).bind fun y342 => (if y342.length + l0.length < 140737488355328 then ((script_Read.f kj10 (y342 ++ l0)).bind fun bt348 => (if (t335.length : Int) > (bt348.2.2.2.2.length : Int) then (some false) else (if 0 ≤ (mx (wrap64 ((t335.length : Int) - 1)) 0) then (if (mx (wrap64 ((t335.length : Int) - 1)) 0) ≤ (t335.length : Int) then (if (mx (wrap64 ((t335.length : Int) - 1)) 0) ≤ (bt348.2.2.2.2.length : Int) then ((treelineref24_SameOps.f kj10 (t335.take ((mx (wrap64 ((t335.length : Int) - 1)) 0) : Int).toNat) (bt348.2.2.2.2.take ((mx (wrap64 ((t335.length : Int) - 1)) 0) : Int).toNat)).bind fun t372 => (some t372)) else (none)) else (none)) else (none)))) else (none))) else (none)) = some r := by first | (rw [hy339]; with_reducible exact H) | (have H2_ := (Option.bind_some _ _).symm.trans H; rw [hy339]; with_reducible exact H2_) | (have H2_ := (Option.bind_some _ _).symm.trans H; with_reducible exact H2_) | with_reducible exact H | (rw [hy339]; exact H) | exact H
 have Ny339 := Aside0.mk hy339
 clear hy339
 by_cases c21 : y339.length + y312.length < 140737488355328
 rotate_left
 ·rw [if_neg c21] at H
  exact absurd H (by simp)
 rw [if_pos c21] at H
 have LMc21 := Aside0.mk c21
 clear c21
 obtain ⟨y342, hy342⟩ : ∃ y_ : List Int, y_ = (y339 ++ y312) := ⟨_, rfl⟩
 replace H : (if y342.length + l0.length < 140737488355328 then ((script_Read.f kj10 (y342 ++ l0)).bind fun bt348 => (if (t335.length : Int) > (bt348.2.2.2.2.length : Int) then (some false) else (if 0 ≤ (mx (wrap64 ((t335.length : Int) - 1)) 0) then (if (mx (wrap64 ((t335.length : Int) - 1)) 0) ≤ (t335.length : Int) then (if (mx (wrap64 ((t335.length : Int) - 1)) 0) ≤ (bt348.2.2.2.2.length : Int) then ((treelineref24_SameOps.f kj10 (t335.take ((mx (wrap64 ((t335.length : Int) - 1)) 0) : Int).toNat) (bt348.2.2.2.2.take ((mx (wrap64 ((t335.length : Int) - 1)) 0) : Int).toNat)).bind fun t372 => (some t372)) else (none)) else (none)) else (none)))) else (none)) = some r := by first | (rw [hy342]; with_reducible exact H) | (have H2_ := (Option.bind_some _ _).symm.trans H; rw [hy342]; with_reducible exact H2_) | (have H2_ := (Option.bind_some _ _).symm.trans H; with_reducible exact H2_) | with_reducible exact H | (rw [hy342]; exact H) | exact H
 have Ny342 := Aside0.mk hy342
 clear hy342
 by_cases c22 : y342.length + l0.length < 140737488355328
 rotate_left
 ·rw [if_neg c22] at H
  exact absurd H (by simp)
 rw [if_pos c22] at H
 have LMc22 := Aside0.mk c22
 clear c22
 obtain ⟨y345, hy345⟩ : ∃ y_ : List Int, y_ = (y342 ++ l0) := ⟨_, rfl⟩
 replace H : ((script_Read.f kj10 y345).bind fun bt348 => (if (t335.length : Int) > (bt348.2.2.2.2.length : Int) then (some false) else (if 0 ≤ (mx (wrap64 ((t335.length : Int) - 1)) 0) then (if (mx (wrap64 ((t335.length : Int) - 1)) 0) ≤ (t335.length : Int) then (if (mx (wrap64 ((t335.length : Int) - 1)) 0) ≤ (bt348.2.2.2.2.length : Int) then ((treelineref24_SameOps.f kj10 (t335.take ((mx (wrap64 ((t335.length : Int) - 1)) 0) : Int).toNat) (bt348.2.2.2.2.take ((mx (wrap64 ((t335.length : Int) - 1)) 0) : Int).toNat)).bind fun t372 => (some t372)) else (none)) else (none)) else (none)))) = some r := by first | (rw [hy345]; with_reducible exact H) | (have H2_ := (Option.bind_some _ _).symm.trans H; rw [hy345]; with_reducible exact H2_) | (have H2_ := (Option.bind_some _ _).symm.trans H; with_reducible exact H2_) | with_reducible exact H | (rw [hy345]; exact H) | exact H
 have Ny345 := Aside0.mk hy345
 clear hy345
 replace H := Option.bind_eq_some_iff.mp H
 obtain ⟨⟨t348, t349, t352, t355, t358⟩, A230, H⟩ := H
 replace H : (if (t335.length : Int) > (t358.length : Int) then (some false) else (if 0 ≤ (mx (wrap64 ((t335.length : Int) - 1)) 0) then (if (mx (wrap64 ((t335.length : Int) - 1)) 0) ≤ (t335.length : Int) then (if (mx (wrap64 ((t335.length : Int) - 1)) 0) ≤ (t358.length : Int) then ((treelineref24_SameOps.f kj10 (t335.take ((mx (wrap64 ((t335.length : Int) - 1)) 0) : Int).toNat) (t358.take ((mx (wrap64 ((t335.length : Int) - 1)) 0) : Int).toNat)).bind fun t372 => (some t372)) else (none)) else (none)) else (none))) = some r := H
 have A23 := Aside0.mk A230
 clear A230
 by_cases c24 : (t335.length : Int) > (t358.length : Int)
 ·rw [if_pos c24] at H
  have c24b0 : decide ((t358.length : Int) < (t335.length : Int)) = true := decide_eq_true c24
  have c24b1 : decide (t358.length < t335.length) = true := decide_eq_true (Int.ofNat_lt.mp c24)
  clear c24
  obtain rfl := Option.some.inj H
  obtain ⟨Ao25, co25, eo25⟩ := Kd.R_slice HO_5.out
  subst eo25
  try go_wp2
  have n0_ := Aside0.mk (Kd.R_drew HO_5.out)
  have n1_ := Aside0.mk (below_drew1 HB.out)
  clear HO_5
  clear HB
  have HO_5 := n0_
  have HB := n1_
  clear n0_ n1_
  obtain ⟨i027, hi027, _, hsz27, _⟩ := info_parts info5
  obtain ⟨hcut27, hA27, hC27⟩ := print_take_of (P := Tryd.prog) (Value.int .u8) 0 22 5 .i64 Tryd.underlying22 hi027 hsz27 A0 c0 l0 x6_10 (of_decide_eq_true (by first | (with_reducible assumption) | assumption)) (of_decide_eq_true (by first | (with_reducible assumption) | assumption)) HC0.out
  have HR321 := Aside0.mk (Kd.C_of_reads (h1 := fun _ => rfl) (hA27 _ (Kd.reads_of_C HR0.out)))
  have HC321 := Aside0.mk hC27
  clear hA27 hC27 hi027 hsz27
  refine start_ (n := 14) (S := fun w' => True) (ds := []) #[false, false, false, false, false, false, false, false, false, false, false, false, false, false] (by kernel_rfl) rfl rfl trivial (fun hHeld => ?_); refine with_tabW treelinelaw24_ScriptFront.tab7 treelinelaw24_ScriptFront.bits7 (fun HT_ HW_ => ?_)
  generalize wc.drew = w26 at HO_5 HB HR321 hHeld ⊢
  refine pure_ (i := 1) (N := some 31) (v := ?_) (a' := ?_) #[false, true, false, false, false, false, false, false, false, false, false, false, false, false] rfl rfl (any_of HT_.out (by kernel_rfl)) (fun _ _ _ h => h) (Or.inl ⟨by rfl, ?_⟩) ?_ ?_
  rotate_left
  ·intro w'
   go_simp
   with_reducible rfl
  rotate_left
  ·simp only [Act.put, List.setIfInBounds_toArray, List.set_cons_zero, List.set_cons_succ, i64_w, i32_w]
   rfl
  refine pure_ (i := 3) (N := some 33) (v := ?_) (a' := ?_) #[false, true, false, true, false, false, false, false, false, false, false, false, false, false] rfl rfl (any_of HT_.out (by kernel_rfl)) (fun _ _ _ h => h) (Or.inl ⟨by rfl, ?_⟩) ?_ ?_
  rotate_left
  ·intro w'
   go_simp
   with_reducible rfl
  rotate_left
  ·simp only [Act.put, List.setIfInBounds_toArray, List.set_cons_zero, List.set_cons_succ, i64_w, i32_w]
   rfl
  refine pure_ (i := 4) (N := some 34) (v := ?_) (a' := ?_) #[false, true, false, true, true, false, false, false, false, false, false, false, false, false] rfl rfl (any_of HT_.out (by kernel_rfl)) (fun _ _ _ h => h) (Or.inl ⟨by rfl, ?_⟩) ?_ ?_
  rotate_left
  ·intro w'
   go_simp
   with_reducible rfl
  rotate_left
  ·simp only [Act.put, List.setIfInBounds_toArray, List.set_cons_zero, List.set_cons_succ, i64_w, i32_w]
   rfl
  refine pure_ (i := 5) (N := some 35) (v := ?_) (a' := ?_) #[false, true, false, true, true, true, false, false, false, false, false, false, false, false] rfl rfl (any_of HT_.out (by kernel_rfl)) (fun _ _ _ h => h) (Or.inl ⟨by rfl, ?_⟩) ?_ ?_
  rotate_left
  ·intro w'
   go_simp
   with_reducible rfl
  rotate_left
  ·simp only [Act.put, List.setIfInBounds_toArray, List.set_cons_zero, List.set_cons_succ, i64_w, i32_w]
   rfl
  refine join_ (σ := Value × Value × Value × Value × Value × Value × Value × Nat) 2 #[true, true, true, true, true, true, true, true, true, true, true, true, false, false] (fun s_ => [(30, s_.1), (32, s_.2.1), (36, s_.2.2.1), (37, .tuple #[.agg #[.int .i64 t325, s_.2.2.2.1, s_.2.2.2.2.1, s_.2.2.2.2.2.1], s_.2.2.2.2.2.2.1]), (7, .pointer (some ⟨s_.2.2.2.2.2.2.2, 0, none⟩)), (29, .tuple #[.agg #[.int .i64 t325, s_.2.2.2.1, s_.2.2.2.2.1, s_.2.2.2.2.2.1], s_.2.2.2.2.2.2.1]), (38, .agg #[.int .i64 t325, s_.2.2.2.1, s_.2.2.2.2.1, s_.2.2.2.2.2.1]), (39, s_.2.2.2.2.2.2.1)]) (fun s_ w' => (Kd.R (Kd.int .u8) 5 w' w.heap.size (fun k_ => some k_ ≠ (.slice Ao25 y312.length co25 : Value).ownBlock) s_.2.2.1 y322) ∧ (Kd.N k51 51 w' w.heap.size (fun k_ => some k_ ≠ (s_.2.2.1 : Value).ownBlock ∧ some k_ ≠ (s_.2.2.2.2.1 : Value).ownBlock ∧ some k_ ≠ (s_.2.2.2.2.2.1 : Value).ownBlock ∧ some k_ ≠ (s_.2.2.2.2.2.2.1 : Value).ownBlock ∧ some k_ ≠ (.slice Ao25 y312.length co25 : Value).ownBlock ∧ k_ ≠ s_.2.2.2.2.2.2.2) s_.2.2.2.1 t326) ∧ (Kd.N (Kd.slice 3 (Kd.int .i64)) 64 w' w.heap.size (fun k_ => some k_ ≠ (s_.2.2.1 : Value).ownBlock ∧ some k_ ≠ (s_.2.2.2.1 : Value).ownBlock ∧ some k_ ≠ (s_.2.2.2.2.2.1 : Value).ownBlock ∧ some k_ ≠ (s_.2.2.2.2.2.2.1 : Value).ownBlock ∧ some k_ ≠ (.slice Ao25 y312.length co25 : Value).ownBlock ∧ k_ ≠ s_.2.2.2.2.2.2.2) s_.2.2.2.2.1 t329) ∧ (Kd.R k66 66 w' w.heap.size (fun _ => True) s_.2.2.2.2.2.1 t332) ∧ (Kd.N k39 39 w' w.heap.size (fun k_ => some k_ ≠ (s_.2.2.1 : Value).ownBlock ∧ some k_ ≠ (s_.2.2.2.1 : Value).ownBlock ∧ some k_ ≠ (s_.2.2.2.2.1 : Value).ownBlock ∧ some k_ ≠ (s_.2.2.2.2.2.1 : Value).ownBlock ∧ some k_ ≠ (.slice Ao25 y312.length co25 : Value).ownBlock ∧ k_ ≠ s_.2.2.2.2.2.2.2) s_.2.2.2.2.2.2.1 t335) ∧ (Kd.R (Kd.int .u8) 5 w' w.heap.size (fun k_ => some k_ ≠ (s_.2.2.1 : Value).ownBlock) (.slice Ao25 y312.length co25) y312) ∧ (w'.heap[s_.2.2.2.2.2.2.2]? = some (.cells #[.int .i64 0, .slice none 0 0, .slice none 0 0, .slice none 0 0] 28 (0, 0))) ∧ (w.heap.size ≤ s_.2.2.2.2.2.2.2) ∧ (w.heap.size ≤ s_.2.2.2.2.2.2.2) ∧ (Below w.heap.size w w')) ?_ ?_
  rotate_left
  ·intro hJ0_2_6_7_11
   refine join_ (σ := Value × Value × Value × Value × Value × Value × Value) 3 #[true, true, true, true, true, true, true, true, true, true, true, false, false, false] (fun s_ => [(30, s_.1), (32, s_.2.1), (36, s_.2.2.1), (37, .tuple #[.agg #[.int .i64 t325, s_.2.2.2.1, s_.2.2.2.2.1, s_.2.2.2.2.2.1], s_.2.2.2.2.2.2]), (29, .tuple #[.agg #[.int .i64 t325, s_.2.2.2.1, s_.2.2.2.2.1, s_.2.2.2.2.2.1], s_.2.2.2.2.2.2]), (38, .agg #[.int .i64 t325, s_.2.2.2.1, s_.2.2.2.2.1, s_.2.2.2.2.2.1]), (39, s_.2.2.2.2.2.2)]) (fun s_ w' => (Kd.R (Kd.int .u8) 5 w' w.heap.size (fun k_ => some k_ ≠ (.slice Ao25 y312.length co25 : Value).ownBlock) s_.2.2.1 y322) ∧ (Kd.N k51 51 w' w.heap.size (fun k_ => some k_ ≠ (s_.2.2.1 : Value).ownBlock ∧ some k_ ≠ (s_.2.2.2.2.1 : Value).ownBlock ∧ some k_ ≠ (s_.2.2.2.2.2.1 : Value).ownBlock ∧ some k_ ≠ (s_.2.2.2.2.2.2 : Value).ownBlock ∧ some k_ ≠ (.slice Ao25 y312.length co25 : Value).ownBlock) s_.2.2.2.1 t326) ∧ (Kd.N (Kd.slice 3 (Kd.int .i64)) 64 w' w.heap.size (fun k_ => some k_ ≠ (s_.2.2.1 : Value).ownBlock ∧ some k_ ≠ (s_.2.2.2.1 : Value).ownBlock ∧ some k_ ≠ (s_.2.2.2.2.2.1 : Value).ownBlock ∧ some k_ ≠ (s_.2.2.2.2.2.2 : Value).ownBlock ∧ some k_ ≠ (.slice Ao25 y312.length co25 : Value).ownBlock) s_.2.2.2.2.1 t329) ∧ (Kd.R k66 66 w' w.heap.size (fun _ => True) s_.2.2.2.2.2.1 t332) ∧ (Kd.N k39 39 w' w.heap.size (fun k_ => some k_ ≠ (s_.2.2.1 : Value).ownBlock ∧ some k_ ≠ (s_.2.2.2.1 : Value).ownBlock ∧ some k_ ≠ (s_.2.2.2.2.1 : Value).ownBlock ∧ some k_ ≠ (s_.2.2.2.2.2.1 : Value).ownBlock ∧ some k_ ≠ (.slice Ao25 y312.length co25 : Value).ownBlock) s_.2.2.2.2.2.2 t335) ∧ (Kd.R (Kd.int .u8) 5 w' w.heap.size (fun k_ => some k_ ≠ (s_.2.2.1 : Value).ownBlock) (.slice Ao25 y312.length co25) y312) ∧ (Below w.heap.size w w')) ?_ ?_
   rotate_left
   ·intro hJ0_2_6_7
    refine join_ (σ := Value × Value × Value × Nat) 6 #[true, true, true, true, true, true, true, false, false, false, false, true, false, false] (fun s_ => [(30, s_.1), (32, s_.2.1), (36, s_.2.2.1), (7, .pointer (some ⟨s_.2.2.2, 0, none⟩))]) (fun s_ w' => (Kd.R (Kd.int .u8) 5 w' w.heap.size (fun k_ => some k_ ≠ (.slice Ao25 y312.length co25 : Value).ownBlock) s_.2.2.1 y322) ∧ (Kd.R (Kd.int .u8) 5 w' w.heap.size (fun k_ => some k_ ≠ (s_.2.2.1 : Value).ownBlock) (.slice Ao25 y312.length co25) y312) ∧ (w'.heap[s_.2.2.2]? = some (.cells #[.int .i64 0, .slice none 0 0, .slice none 0 0, .slice none 0 0] 28 (0, 0))) ∧ (w.heap.size ≤ s_.2.2.2) ∧ (w.heap.size ≤ s_.2.2.2) ∧ (Below w.heap.size w w')) ?_ ?_
    rotate_left
    ·intro hJ0_2_6_11
     refine join_ (σ := Value × Value × Value) 7 #[true, true, true, true, true, true, true, false, false, false, false, false, false, false] (fun s_ => [(30, s_.1), (32, s_.2.1), (36, s_.2.2)]) (fun s_ w' => (Kd.R (Kd.int .u8) 5 w' w.heap.size (fun k_ => some k_ ≠ (.slice Ao25 y312.length co25 : Value).ownBlock) s_.2.2 y322) ∧ (Kd.R (Kd.int .u8) 5 w' w.heap.size (fun k_ => some k_ ≠ (s_.2.2 : Value).ownBlock) (.slice Ao25 y312.length co25) y312) ∧ (Below w.heap.size w w')) ?_ ?_
     rotate_left
     ·intro hJ0_2_6
      refine join_ (σ := Value × Value × Nat) 7 #[true, true, true, true, true, true, false, false, false, false, false, true, false, false] (fun s_ => [(30, s_.1), (32, s_.2.1), (7, .pointer (some ⟨s_.2.2, 0, none⟩))]) (fun s_ w' => (Kd.R (Kd.int .u8) 5 w' w.heap.size (fun k_ => some k_ ≠ (.slice Ao25 y312.length co25 : Value).ownBlock) s_.2.1 y318) ∧ (Kd.R (Kd.int .u8) 5 w' w.heap.size (fun k_ => some k_ ≠ (s_.2.1 : Value).ownBlock) (.slice Ao25 y312.length co25) y312) ∧ (w'.heap[s_.2.2]? = some (.cells #[.int .i64 0, .slice none 0 0, .slice none 0 0, .slice none 0 0] 28 (0, 0))) ∧ (w.heap.size ≤ s_.2.2) ∧ (w.heap.size ≤ s_.2.2) ∧ (Below w.heap.size w w')) ?_ ?_
      rotate_left
      ·intro hJ0_2_11
       refine join_ (σ := Value × Value) 8 #[true, true, true, true, true, true, false, false, false, false, false, false, false, false] (fun s_ => [(30, s_.1), (32, s_.2)]) (fun s_ w' => (Kd.R (Kd.int .u8) 5 w' w.heap.size (fun k_ => some k_ ≠ (.slice Ao25 y312.length co25 : Value).ownBlock) s_.2 y318) ∧ (Kd.R (Kd.int .u8) 5 w' w.heap.size (fun k_ => some k_ ≠ (s_.2 : Value).ownBlock) (.slice Ao25 y312.length co25) y312) ∧ (Below w.heap.size w w')) ?_ ?_
       rotate_left
       ·intro hJ0_2
        refine join_ (σ := Value × Nat) 8 #[true, true, false, true, true, true, false, false, false, false, false, true, false, false] (fun s_ => [(30, s_.1), (7, .pointer (some ⟨s_.2, 0, none⟩))]) (fun s_ w' => (Kd.R (Kd.int .u8) 5 w' w.heap.size (fun k_ => some k_ ≠ (.slice Ao25 y312.length co25 : Value).ownBlock) s_.1 y315) ∧ (Kd.R (Kd.int .u8) 5 w' w.heap.size (fun k_ => some k_ ≠ (s_.1 : Value).ownBlock) (.slice Ao25 y312.length co25) y312) ∧ (w'.heap[s_.2]? = some (.cells #[.int .i64 0, .slice none 0 0, .slice none 0 0, .slice none 0 0] 28 (0, 0))) ∧ (w.heap.size ≤ s_.2) ∧ (w.heap.size ≤ s_.2) ∧ (Below w.heap.size w w')) ?_ ?_
        rotate_left
        ·intro hJ0_11
         refine join_ (σ := Value) 9 #[true, true, false, true, true, true, false, false, false, false, false, false, false, false] (fun s_ => [(30, s_)]) (fun s_ w' => (Kd.R (Kd.int .u8) 5 w' w.heap.size (fun k_ => some k_ ≠ (.slice Ao25 y312.length co25 : Value).ownBlock) s_ y315) ∧ (Kd.R (Kd.int .u8) 5 w' w.heap.size (fun k_ => some k_ ≠ (s_ : Value).ownBlock) (.slice Ao25 y312.length co25) y312) ∧ (Below w.heap.size w w')) ?_ ?_
         rotate_left
         ·intro hJ0
          refine join_ (σ := Nat) 9 #[false, true, false, true, true, true, false, false, false, false, false, true, false, false] (fun s_ => [(7, .pointer (some ⟨s_, 0, none⟩))]) (fun s_ w' => (Kd.R (Kd.int .u8) 5 w' w.heap.size (fun _ => True) (.slice Ao25 y312.length co25) y312) ∧ (w'.heap[s_]? = some (.cells #[.int .i64 0, .slice none 0 0, .slice none 0 0, .slice none 0 0] 28 (0, 0))) ∧ (w.heap.size ≤ s_) ∧ (w.heap.size ≤ s_) ∧ (Below w.heap.size w w')) ?_ ?_
          rotate_left
          ·intro hJ11
           refine two_ (i := 0) (j := 11) (Ni := some 30) (Nj := some 7) #[true, true, false, true, true, true, false, false, false, false, false, false, false, false] #[false, true, false, true, true, true, false, false, false, false, false, true, false, false] rfl rfl rfl rfl (two_of HT_.out (by kernel_rfl)) (by decide) (by decide) (fun K hK => ?_) (fun K hK => ?_)
           ·skip
            refine Kd.R_lit_step (Kd.int .u8) _ 5 ?hg (N := 30) ?hd (xs := ([] : List Int)) (inner := []) (ok := fun _ => True) (okp := fun _ => True) ?hr ?hp (fun _ hk => hk) trivial (Below.refl _ _) (Nat.le_refl _) (by simp) ?_; (case hd => rfl); (case hg => rfl); (case hr => first | (go_simp; done) | (go_simp; rfl)); (case hp => exact (Reps.none _ _))
            intro v316 w28 ho29 hb hg_ hnew_
            clear hg_ hnew_
            (first | rw [← Ny315.out] at ho29 | (simp only [Int.reduceToNat] at ho29; rw [← Ny315.out] at ho29))
            have n0_ := Aside0.mk (Kd.R_elder' (by (with_reducible repeat (first | apply Kd.R_alloc | apply Kd.R_drewN | apply Kd.R_drew)); exact HO_5.out) (Kd.R_base ho29) hb)
            have n1_ := Aside0.mk (Kd.R_lower (Kd.R_new' ho29 (Kd.R_lt (by (with_reducible repeat (first | apply Kd.R_alloc | apply Kd.R_drewN | apply Kd.R_drew)); exact HO_5.out))) (below_size (by repeat (first | (with_reducible first | exact HB.out | apply below_alloc | apply pw_below_drewN | apply below_drew1) | exact HB.out))))
            have n2_ := Aside0.mk (below_step (by repeat (first | (with_reducible first | exact HB.out | apply below_alloc | apply pw_below_drewN | apply below_drew1) | exact HB.out)) hb)
            clear HO_5
            clear HB
            have HO_5 := n0_
            have HO317 := n1_
            have HB := n2_
            clear n0_ n1_ n2_
            clear hb ho29
            refine hK.out _ _ trivial (fun hHeld => ?_)
            clear hK K
            refine norm_ (a' := ?_) ?_ ?_
            rotate_left
            ·show Act.put _ (some 30) _ = _
             simp only [Act.put, List.setIfInBounds_toArray, List.set_cons_zero, List.set_cons_succ, i64_w, i32_w]
             rfl
            exact norm_ (by first | (simp only [putAll, Act.put, List.setIfInBounds_toArray, List.set_cons_zero, List.set_cons_succ]; done) | (simp only [putAll, Act.put, List.setIfInBounds_toArray, List.set_cons_zero, List.set_cons_succ]; rfl)) (hJ0 (v316) _ ⟨(by (with_reducible repeat (first | apply Kd.R_alloc | apply Kd.R_drewN | apply Kd.R_drew)); exact Kd.R_mono HO317.out (fun _ hk => hk.2)), (by (with_reducible repeat (first | apply Kd.R_alloc | apply Kd.R_drewN | apply Kd.R_drew)); exact Kd.R_mono HO_5.out (fun _ hk => hk.2)), (by repeat (first | (with_reducible first | exact HB.out | apply below_alloc | apply pw_below_drewN | apply below_drew1) | exact HB.out))⟩)
           skip
           refine box_step ?hg (N := 7) ?hd (cs := #[.int .i64 0, .slice none 0 0, .slice none 0 0, .slice none 0 0]) (t := 28) ?hr ?_; (case hd => rfl); (case hg => rfl); (case hr => first | (go_simp; done) | (go_simp; rfl))
           intro gb338 hg w28 hbox hb
           have n0_ := Aside0.mk (Kd.R_below (by (with_reducible repeat (first | apply Kd.R_alloc | apply Kd.R_drewN | apply Kd.R_drew)); exact HO_5.out) hb)
           have n1_ := Aside0.mk (below_step (by repeat (first | (with_reducible first | exact HB.out | apply below_alloc | apply pw_below_drewN | apply below_drew1) | exact HB.out)) hb)
           have n2_ := Aside0.mk (hbox)
           have n3_ := Aside0.mk ((by rw [hg]; exact (below_size (by repeat (first | (with_reducible first | exact HB.out | apply below_alloc | apply pw_below_drewN | apply below_drew1) | exact HB.out))) : w.heap.size ≤ gb338))
           have n4_ := Aside0.mk ((by rw [hg]; exact (below_size (by repeat (first | (with_reducible first | exact HB.out | apply below_alloc | apply pw_below_drewN | apply below_drew1) | exact HB.out))) : w.heap.size ≤ gb338))
           clear HO_5
           clear HB
           have HO_5 := n0_
           have HB := n1_
           have BK338 := n2_
           have GW338 := n3_
           have GE338 := n4_
           clear n0_ n1_ n2_ n3_ n4_
           clear hb hbox hg
           refine hK.out _ _ trivial (fun hHeld => ?_)
           clear hK K
           refine norm_ (a' := ?_) ?_ ?_
           rotate_left
           ·show Act.put _ (some 7) _ = _
            simp only [Act.put, List.setIfInBounds_toArray, List.set_cons_zero, List.set_cons_succ, i64_w, i32_w]
            rfl
           exact norm_ (by first | (simp only [putAll, Act.put, List.setIfInBounds_toArray, List.set_cons_zero, List.set_cons_succ]; done) | (simp only [putAll, Act.put, List.setIfInBounds_toArray, List.set_cons_zero, List.set_cons_succ]; rfl)) (hJ11 (gb338) _ ⟨(by (with_reducible repeat (first | apply Kd.R_alloc | apply Kd.R_drewN | apply Kd.R_drew)); exact HO_5.out), (by (with_reducible repeat (first | refine blk_drewN ?_ _ | refine blk_drew ?_ | refine blk_alloc ?_ _)); exact BK338.out), GW338.out, GE338.out, (by repeat (first | (with_reducible first | exact HB.out | apply below_alloc | apply pw_below_drewN | apply below_drew1 | refine below_set ?_ GE338.out) | exact HB.out))⟩)
          skip
          rintro gb338 w29 ⟨h0_, h1_, h2_, h3_, h4_⟩
          have n0_ : Aside0 (Kd.R (Kd.int .u8) 5 w29 w.heap.size (fun _ => True) (.slice Ao25 y312.length co25) y312) := ⟨h0_⟩
          have n1_ : Aside0 (w29.heap[gb338]? = some (.cells #[.int .i64 0, .slice none 0 0, .slice none 0 0, .slice none 0 0] 28 (0, 0))) := ⟨h1_⟩
          have n2_ : Aside0 (w.heap.size ≤ gb338) := ⟨h2_⟩
          have n3_ : Aside0 (w.heap.size ≤ gb338) := ⟨h3_⟩
          have n4_ : Aside0 (Below w.heap.size w w29) := ⟨h4_⟩
          clear HO_5
          clear HB
          clear h0_ h1_ h2_ h3_ h4_
          have HO_5 := n0_
          have BK338 := n1_
          have GW338 := n2_
          have GE338 := n3_
          have HB := n4_
          clear n0_ n1_ n2_ n3_ n4_
          have hHeld := trivial
          refine norm_ (a' := ?_) ?_ ?_
          rotate_left
          ·simp only [putAll, Act.put, List.setIfInBounds_toArray, List.set_cons_zero, List.set_cons_succ]
           rfl
          refine one_ (i := 0) (N := some 30) #[true, true, false, true, true, true, false, false, false, false, false, true, false, false] rfl rfl (one_of HT_.out (by kernel_rfl)) (by decide) (fun K hK => ?_)
          refine Kd.R_lit_step (Kd.int .u8) _ 5 ?hg (N := 30) ?hd (xs := ([] : List Int)) (inner := []) (ok := fun _ => True) (okp := fun _ => True) ?hr ?hp (fun _ hk => hk) trivial (Below.refl _ _) (Nat.le_refl _) (by simp) ?_; (case hd => rfl); (case hg => rfl); (case hr => first | (go_simp; done) | (go_simp; rfl)); (case hp => exact (Reps.none _ _))
          intro v316 w30 ho31 hb hg_ hnew_
          clear hg_ hnew_
          (first | rw [← Ny315.out] at ho31 | (simp only [Int.reduceToNat] at ho31; rw [← Ny315.out] at ho31))
          have n0_ := Aside0.mk (Kd.R_elder' (by (with_reducible repeat (first | apply Kd.R_alloc | apply Kd.R_drewN | apply Kd.R_drew)); exact HO_5.out) (Kd.R_base ho31) hb)
          have n1_ := Aside0.mk (Kd.R_lower (Kd.R_new' ho31 (Kd.R_lt (by (with_reducible repeat (first | apply Kd.R_alloc | apply Kd.R_drewN | apply Kd.R_drew)); exact HO_5.out))) (below_size (by repeat (first | (with_reducible first | exact HB.out | apply below_alloc | apply pw_below_drewN | apply below_drew1 | refine below_set ?_ GE338.out) | exact HB.out))))
          have n2_ := Aside0.mk (blk_below (g := gb338) (o := .cells #[.int .i64 0, .slice none 0 0, .slice none 0 0, .slice none 0 0] 28 (0, 0)) (by (with_reducible repeat (first | refine blk_drewN ?_ _ | refine blk_drew ?_ | refine blk_alloc ?_ _)); exact BK338.out) hb)
          have n3_ := Aside0.mk (below_step (by repeat (first | (with_reducible first | exact HB.out | apply below_alloc | apply pw_below_drewN | apply below_drew1 | refine below_set ?_ GE338.out) | exact HB.out)) hb)
          clear HO_5
          clear BK338
          clear HB
          have HO_5 := n0_
          have HO317 := n1_
          have BK338 := n2_
          have HB := n3_
          clear n0_ n1_ n2_ n3_
          clear hb ho31
          refine hK.out _ _ trivial (fun hHeld => ?_)
          clear hK K
          refine norm_ (a' := ?_) ?_ ?_
          rotate_left
          ·show Act.put _ (some 30) _ = _
           simp only [Act.put, List.setIfInBounds_toArray, List.set_cons_zero, List.set_cons_succ, i64_w, i32_w]
           rfl
          exact norm_ (by first | (simp only [putAll, Act.put, List.setIfInBounds_toArray, List.set_cons_zero, List.set_cons_succ]; done) | (simp only [putAll, Act.put, List.setIfInBounds_toArray, List.set_cons_zero, List.set_cons_succ]; rfl)) (hJ0_11 (v316, gb338) _ ⟨(by (with_reducible repeat (first | apply Kd.R_alloc | apply Kd.R_drewN | apply Kd.R_drew)); exact Kd.R_mono HO317.out (fun _ hk => hk.2)), (by (with_reducible repeat (first | apply Kd.R_alloc | apply Kd.R_drewN | apply Kd.R_drew)); exact Kd.R_mono HO_5.out (fun _ hk => hk.2)), (by (with_reducible repeat (first | refine blk_drewN ?_ _ | refine blk_drew ?_ | refine blk_alloc ?_ _)); exact BK338.out), GW338.out, GE338.out, (by repeat (first | (with_reducible first | exact HB.out | apply below_alloc | apply pw_below_drewN | apply below_drew1 | refine below_set ?_ GE338.out) | exact HB.out))⟩)
         skip
         rintro v316 w30 ⟨h0_, h1_, h2_⟩
         have n0_ : Aside0 (Kd.R (Kd.int .u8) 5 w30 w.heap.size (fun k_ => some k_ ≠ (.slice Ao25 y312.length co25 : Value).ownBlock) v316 y315) := ⟨h0_⟩
         have n1_ : Aside0 (Kd.R (Kd.int .u8) 5 w30 w.heap.size (fun k_ => some k_ ≠ (v316 : Value).ownBlock) (.slice Ao25 y312.length co25) y312) := ⟨h1_⟩
         have n2_ : Aside0 (Below w.heap.size w w30) := ⟨h2_⟩
         clear HO_5
         clear HB
         clear h0_ h1_ h2_
         have HO317 := n0_
         have HO_5 := n1_
         have HB := n2_
         clear n0_ n1_ n2_
         have hHeld := trivial
         refine norm_ (a' := ?_) ?_ ?_
         rotate_left
         ·simp only [putAll, Act.put, List.setIfInBounds_toArray, List.set_cons_zero, List.set_cons_succ]
          rfl
         refine two_ (i := 2) (j := 11) (Ni := some 32) (Nj := some 7) #[true, true, true, true, true, true, false, false, false, false, false, false, false, false] #[true, true, false, true, true, true, false, false, false, false, false, true, false, false] rfl rfl rfl rfl (two_of HT_.out (by kernel_rfl)) (by decide) (by decide) (fun K hK => ?_) (fun K hK => ?_)
         ·skip
          refine Kd.R_append_rows_step (Kd.int .u8) (w0 := w) w.heap.size (by rfl) (.tmp 30) (.tmp 31) 22 5 (.int .u8 0) 1 rfl Tryd.underlying22 info5 rfl (by decide) (by omega) v316 y315 y312 _ _ _ (fun k_ => some k_ ≠ (.slice Ao25 y312.length co25 : Value).ownBlock) (fun _ => False) rfl rfl ?aO ?aR (fun _ _ h => h) (fun _ h => h.elim) ?aF ?aB ?aS ?aL ?_
          (case aR => repeat (first | exact (Kd.R_reads' HO_5.out).2.2 | (with_reducible refine Kd.C_alloc ?_ _) | (with_reducible refine Kd.C_drewN ?_ _) | (with_reducible refine Kd.C_drew ?_)))
          (case aB => exact (by repeat (first | (with_reducible first | exact HB.out | apply below_alloc | apply pw_below_drewN | apply below_drew1) | exact HB.out)))
          (case aF => exact (fun k_ hk => Kd.fresh' (Kd.R_lt (by (with_reducible repeat (first | apply Kd.R_alloc | apply Kd.R_drewN | apply Kd.R_drew)); exact HO_5.out)) k_ hk))
          (case aO => exact (by (with_reducible repeat (first | apply Kd.R_alloc | apply Kd.R_drewN | apply Kd.R_drew)); exact HO317.out))
          (case aS => exact (below_size (by repeat (first | (with_reducible first | exact HB.out | apply below_alloc | apply pw_below_drewN | apply below_drew1) | exact HB.out))))
          (case aL => have := LMc16.out; omega)
          intro v319 w31 ho hb hg hat
          rw [← Ny318.out] at ho
          have n0_ := Aside0.mk (Kd.R_after (ok := (fun _ => True)) (by (with_reducible repeat (first | apply Kd.R_alloc | apply Kd.R_drewN | apply Kd.R_drew)); exact Kd.R_mono HO_5.out (fun _ hk => ⟨trivial, hk⟩)) hg hat)
          have n1_ := Aside0.mk (hb)
          have n2_ := Aside0.mk (ho)
          clear HO_5
          clear HB
          clear HO317
          have HO_5 := n0_
          have HB := n1_
          have HO320 := n2_
          clear n0_ n1_ n2_
          clear ho hb hg hat
          refine hK.out _ _ trivial (fun hHeld => ?_)
          clear hK K
          refine norm_ (a' := ?_) ?_ ?_
          rotate_left
          ·show Act.put _ (some 32) _ = _
           simp only [Act.put, List.setIfInBounds_toArray, List.set_cons_zero, List.set_cons_succ, i64_w, i32_w]
           rfl
          exact norm_ (by first | (simp only [putAll, Act.put, List.setIfInBounds_toArray, List.set_cons_zero, List.set_cons_succ]; done) | (simp only [putAll, Act.put, List.setIfInBounds_toArray, List.set_cons_zero, List.set_cons_succ]; rfl)) (hJ0_2 (v316, v319) _ ⟨(by (with_reducible repeat (first | apply Kd.R_alloc | apply Kd.R_drewN | apply Kd.R_drew)); exact HO320.out), (by (with_reducible repeat (first | apply Kd.R_alloc | apply Kd.R_drewN | apply Kd.R_drew)); exact Kd.R_mono HO_5.out (fun _ hk => hk.2)), (by repeat (first | (with_reducible first | exact HB.out | apply below_alloc | apply pw_below_drewN | apply below_drew1) | exact HB.out))⟩)
         skip
         refine box_step ?hg (N := 7) ?hd (cs := #[.int .i64 0, .slice none 0 0, .slice none 0 0, .slice none 0 0]) (t := 28) ?hr ?_; (case hd => rfl); (case hg => rfl); (case hr => first | (go_simp; done) | (go_simp; rfl))
         intro gb338 hg w31 hbox hb
         have n0_ := Aside0.mk (Kd.R_below (by (with_reducible repeat (first | apply Kd.R_alloc | apply Kd.R_drewN | apply Kd.R_drew)); exact HO_5.out) hb)
         have n1_ := Aside0.mk (Kd.R_below (by (with_reducible repeat (first | apply Kd.R_alloc | apply Kd.R_drewN | apply Kd.R_drew)); exact HO317.out) hb)
         have n2_ := Aside0.mk (below_step (by repeat (first | (with_reducible first | exact HB.out | apply below_alloc | apply pw_below_drewN | apply below_drew1) | exact HB.out)) hb)
         have n3_ := Aside0.mk (hbox)
         have n4_ := Aside0.mk ((by rw [hg]; exact (below_size (by repeat (first | (with_reducible first | exact HB.out | apply below_alloc | apply pw_below_drewN | apply below_drew1) | exact HB.out))) : w.heap.size ≤ gb338))
         have n5_ := Aside0.mk ((by rw [hg]; exact (below_size (by repeat (first | (with_reducible first | exact HB.out | apply below_alloc | apply pw_below_drewN | apply below_drew1) | exact HB.out))) : w.heap.size ≤ gb338))
         clear HO_5
         clear HO317
         clear HB
         have HO_5 := n0_
         have HO317 := n1_
         have HB := n2_
         have BK338 := n3_
         have GW338 := n4_
         have GE338 := n5_
         clear n0_ n1_ n2_ n3_ n4_ n5_
         clear hb hbox hg
         refine hK.out _ _ trivial (fun hHeld => ?_)
         clear hK K
         refine norm_ (a' := ?_) ?_ ?_
         rotate_left
         ·show Act.put _ (some 7) _ = _
          simp only [Act.put, List.setIfInBounds_toArray, List.set_cons_zero, List.set_cons_succ, i64_w, i32_w]
          rfl
         exact norm_ (by first | (simp only [putAll, Act.put, List.setIfInBounds_toArray, List.set_cons_zero, List.set_cons_succ]; done) | (simp only [putAll, Act.put, List.setIfInBounds_toArray, List.set_cons_zero, List.set_cons_succ]; rfl)) (hJ0_11 (v316, gb338) _ ⟨(by (with_reducible repeat (first | apply Kd.R_alloc | apply Kd.R_drewN | apply Kd.R_drew)); exact HO317.out), (by (with_reducible repeat (first | apply Kd.R_alloc | apply Kd.R_drewN | apply Kd.R_drew)); exact HO_5.out), (by (with_reducible repeat (first | refine blk_drewN ?_ _ | refine blk_drew ?_ | refine blk_alloc ?_ _)); exact BK338.out), GW338.out, GE338.out, (by repeat (first | (with_reducible first | exact HB.out | apply below_alloc | apply pw_below_drewN | apply below_drew1 | refine below_set ?_ GE338.out) | exact HB.out))⟩)
        skip
        rintro ⟨v316, gb338⟩ w31 ⟨h0_, h1_, h2_, h3_, h4_, h5_⟩
        have n0_ : Aside0 (Kd.R (Kd.int .u8) 5 w31 w.heap.size (fun k_ => some k_ ≠ (.slice Ao25 y312.length co25 : Value).ownBlock) v316 y315) := ⟨h0_⟩
        have n1_ : Aside0 (Kd.R (Kd.int .u8) 5 w31 w.heap.size (fun k_ => some k_ ≠ (v316 : Value).ownBlock) (.slice Ao25 y312.length co25) y312) := ⟨h1_⟩
        have n2_ : Aside0 (w31.heap[gb338]? = some (.cells #[.int .i64 0, .slice none 0 0, .slice none 0 0, .slice none 0 0] 28 (0, 0))) := ⟨h2_⟩
        have n3_ : Aside0 (w.heap.size ≤ gb338) := ⟨h3_⟩
        have n4_ : Aside0 (w.heap.size ≤ gb338) := ⟨h4_⟩
        have n5_ : Aside0 (Below w.heap.size w w31) := ⟨h5_⟩
        clear HO_5
        clear HB
        clear h0_ h1_ h2_ h3_ h4_ h5_
        have HO317 := n0_
        have HO_5 := n1_
        have BK338 := n2_
        have GW338 := n3_
        have GE338 := n4_
        have HB := n5_
        clear n0_ n1_ n2_ n3_ n4_ n5_
        have hHeld := trivial
        refine norm_ (a' := ?_) ?_ ?_
        rotate_left
        ·simp only [putAll, Act.put, List.setIfInBounds_toArray, List.set_cons_zero, List.set_cons_succ]
         rfl
        refine one_ (i := 2) (N := some 32) #[true, true, true, true, true, true, false, false, false, false, false, true, false, false] rfl rfl (one_of HT_.out (by kernel_rfl)) (by decide) (fun K hK => ?_)
        refine Kd.R_append_rows_step (Kd.int .u8) (w0 := w) w.heap.size (by rfl) (.tmp 30) (.tmp 31) 22 5 (.int .u8 0) 1 rfl Tryd.underlying22 info5 rfl (by decide) (by omega) v316 y315 y312 _ _ _ (fun k_ => some k_ ≠ (.slice Ao25 y312.length co25 : Value).ownBlock) (fun _ => False) rfl rfl ?aO ?aR (fun _ _ h => h) (fun _ h => h.elim) ?aF ?aB ?aS ?aL ?_
        (case aR => repeat (first | exact (Kd.R_reads' HO_5.out).2.2 | (with_reducible refine Kd.C_alloc ?_ _) | (with_reducible refine Kd.C_drewN ?_ _) | (with_reducible refine Kd.C_drew ?_)))
        (case aB => exact (by repeat (first | (with_reducible first | exact HB.out | apply below_alloc | apply pw_below_drewN | apply below_drew1 | refine below_set ?_ GE338.out) | exact HB.out)))
        (case aF => exact (fun k_ hk => Kd.fresh' (Kd.R_lt (by (with_reducible repeat (first | apply Kd.R_alloc | apply Kd.R_drewN | apply Kd.R_drew)); exact HO_5.out)) k_ hk))
        (case aO => exact (by (with_reducible repeat (first | apply Kd.R_alloc | apply Kd.R_drewN | apply Kd.R_drew)); exact HO317.out))
        (case aS => exact (below_size (by repeat (first | (with_reducible first | exact HB.out | apply below_alloc | apply pw_below_drewN | apply below_drew1 | refine below_set ?_ GE338.out) | exact HB.out))))
        (case aL => have := LMc16.out; omega)
        intro v319 w32 ho hb hg hat
        rw [← Ny318.out] at ho
        have n0_ := Aside0.mk (Kd.R_after (ok := (fun _ => True)) (by (with_reducible repeat (first | apply Kd.R_alloc | apply Kd.R_drewN | apply Kd.R_drew)); exact Kd.R_mono HO_5.out (fun _ hk => ⟨trivial, hk⟩)) hg hat)
        have n1_ := Aside0.mk (blk_grown (g := gb338) (o := .cells #[.int .i64 0, .slice none 0 0, .slice none 0 0, .slice none 0 0] 28 (0, 0)) (by (with_reducible repeat (first | refine blk_drewN ?_ _ | refine blk_drew ?_ | refine blk_alloc ?_ _)); exact BK338.out) hg (Kd.R_ne HO317.out BK338.out (by decide)))
        have n2_ := Aside0.mk (hb)
        have n3_ := Aside0.mk (ho)
        clear HO_5
        clear BK338
        clear HB
        clear HO317
        have HO_5 := n0_
        have BK338 := n1_
        have HB := n2_
        have HO320 := n3_
        clear n0_ n1_ n2_ n3_
        clear ho hb hg hat
        refine hK.out _ _ trivial (fun hHeld => ?_)
        clear hK K
        refine norm_ (a' := ?_) ?_ ?_
        rotate_left
        ·show Act.put _ (some 32) _ = _
         simp only [Act.put, List.setIfInBounds_toArray, List.set_cons_zero, List.set_cons_succ, i64_w, i32_w]
         rfl
        exact norm_ (by first | (simp only [putAll, Act.put, List.setIfInBounds_toArray, List.set_cons_zero, List.set_cons_succ]; done) | (simp only [putAll, Act.put, List.setIfInBounds_toArray, List.set_cons_zero, List.set_cons_succ]; rfl)) (hJ0_2_11 (v316, v319, gb338) _ ⟨(by (with_reducible repeat (first | apply Kd.R_alloc | apply Kd.R_drewN | apply Kd.R_drew)); exact HO320.out), (by (with_reducible repeat (first | apply Kd.R_alloc | apply Kd.R_drewN | apply Kd.R_drew)); exact Kd.R_mono HO_5.out (fun _ hk => hk.2)), (by (with_reducible repeat (first | refine blk_drewN ?_ _ | refine blk_drew ?_ | refine blk_alloc ?_ _)); exact BK338.out), GW338.out, GE338.out, (by repeat (first | (with_reducible first | exact HB.out | apply below_alloc | apply pw_below_drewN | apply below_drew1 | refine below_set ?_ GE338.out) | exact HB.out))⟩)
       skip
       rintro ⟨v316, v319⟩ w31 ⟨h0_, h1_, h2_⟩
       have n0_ : Aside0 (Kd.R (Kd.int .u8) 5 w31 w.heap.size (fun k_ => some k_ ≠ (.slice Ao25 y312.length co25 : Value).ownBlock) v319 y318) := ⟨h0_⟩
       have n1_ : Aside0 (Kd.R (Kd.int .u8) 5 w31 w.heap.size (fun k_ => some k_ ≠ (v319 : Value).ownBlock) (.slice Ao25 y312.length co25) y312) := ⟨h1_⟩
       have n2_ : Aside0 (Below w.heap.size w w31) := ⟨h2_⟩
       clear HO_5
       clear HB
       clear h0_ h1_ h2_
       have HO320 := n0_
       have HO_5 := n1_
       have HB := n2_
       clear n0_ n1_ n2_
       have hHeld := trivial
       refine norm_ (a' := ?_) ?_ ?_
       rotate_left
       ·simp only [putAll, Act.put, List.setIfInBounds_toArray, List.set_cons_zero, List.set_cons_succ]
        rfl
       refine two_ (i := 6) (j := 11) (Ni := some 36) (Nj := some 7) #[true, true, true, true, true, true, true, false, false, false, false, false, false, false] #[true, true, true, true, true, true, false, false, false, false, false, true, false, false] rfl rfl rfl rfl (two_of HT_.out (by kernel_rfl)) (by decide) (by decide) (fun K hK => ?_) (fun K hK => ?_)
       ·skip
        refine Kd.R_append_rows_step (Kd.int .u8) (w0 := w) w.heap.size (by rfl) (.tmp 32) (.tmp 35) 22 5 (.int .u8 0) 1 rfl Tryd.underlying22 info5 rfl (by decide) (by omega) v319 y318 (l0.take (x6_10 : Int).toNat) _ _ _ (fun k_ => some k_ ≠ (.slice Ao25 y312.length co25 : Value).ownBlock) (fun _ => False) rfl rfl ?aO ?aR (fun _ _ h => h) (fun _ h => h.elim) ?aF ?aB ?aS ?aL ?_
        (case aR => first | (have hl_ : (l0.take (x6_10 : Int).toNat).length = x6_10.toNat := (by rw [List.length_take]; have h_ : (x6_10 : Int) ≤ (l0.length : Int) := of_decide_eq_true (by first | (with_reducible assumption) | assumption); omega); have hC_ := Kd.C_below HR321.out HB.out; rw [hl_] at hC_; repeat (first | exact hC_ | (with_reducible refine Kd.C_alloc ?_ _) | (with_reducible refine Kd.C_drewN ?_ _) | (with_reducible refine Kd.C_drew ?_))) | (repeat (first | exact (Kd.C_below HR321.out HB.out) | (with_reducible refine Kd.C_alloc ?_ _) | (with_reducible refine Kd.C_drewN ?_ _) | (with_reducible refine Kd.C_drew ?_))))
        (case aB => exact (by repeat (first | (with_reducible first | exact HB.out | apply below_alloc | apply pw_below_drewN | apply below_drew1) | exact HB.out)))
        (case aF => exact (fun k_ hk => Kd.fresh' (Kd.R_lt (by (with_reducible repeat (first | apply Kd.R_alloc | apply Kd.R_drewN | apply Kd.R_drew)); exact HO_5.out)) k_ hk))
        (case aO => exact (by (with_reducible repeat (first | apply Kd.R_alloc | apply Kd.R_drewN | apply Kd.R_drew)); exact HO320.out))
        (case aS => exact (below_size (by repeat (first | (with_reducible first | exact HB.out | apply below_alloc | apply pw_below_drewN | apply below_drew1) | exact HB.out))))
        (case aL => have := LMc19.out; have hlx_ := (show (l0.take (x6_10 : Int).toNat).length = x6_10.toNat from (by rw [List.length_take]; have h_ : (x6_10 : Int) ≤ (l0.length : Int) := of_decide_eq_true (by first | (with_reducible assumption) | assumption); omega)); omega)
        intro v323 w32 ho hb hg hat
        rw [← Ny322.out] at ho
        have n0_ := Aside0.mk (Kd.R_after (ok := (fun _ => True)) (by (with_reducible repeat (first | apply Kd.R_alloc | apply Kd.R_drewN | apply Kd.R_drew)); exact Kd.R_mono HO_5.out (fun _ hk => ⟨trivial, hk⟩)) hg hat)
        have n1_ := Aside0.mk (hb)
        have n2_ := Aside0.mk (ho)
        clear HO_5
        clear HB
        clear HO320
        have HO_5 := n0_
        have HB := n1_
        have HO324 := n2_
        clear n0_ n1_ n2_
        clear ho hb hg hat
        refine hK.out _ _ trivial (fun hHeld => ?_)
        clear hK K
        refine norm_ (a' := ?_) ?_ ?_
        rotate_left
        ·show Act.put _ (some 36) _ = _
         simp only [Act.put, List.setIfInBounds_toArray, List.set_cons_zero, List.set_cons_succ, i64_w, i32_w]
         rfl
        exact norm_ (by first | (simp only [putAll, Act.put, List.setIfInBounds_toArray, List.set_cons_zero, List.set_cons_succ]; done) | (simp only [putAll, Act.put, List.setIfInBounds_toArray, List.set_cons_zero, List.set_cons_succ]; rfl)) (hJ0_2_6 (v316, v319, v323) _ ⟨(by (with_reducible repeat (first | apply Kd.R_alloc | apply Kd.R_drewN | apply Kd.R_drew)); exact HO324.out), (by (with_reducible repeat (first | apply Kd.R_alloc | apply Kd.R_drewN | apply Kd.R_drew)); exact Kd.R_mono HO_5.out (fun _ hk => hk.2)), (by repeat (first | (with_reducible first | exact HB.out | apply below_alloc | apply pw_below_drewN | apply below_drew1) | exact HB.out))⟩)
       skip
       refine box_step ?hg (N := 7) ?hd (cs := #[.int .i64 0, .slice none 0 0, .slice none 0 0, .slice none 0 0]) (t := 28) ?hr ?_; (case hd => rfl); (case hg => rfl); (case hr => first | (go_simp; done) | (go_simp; rfl))
       intro gb338 hg w32 hbox hb
       have n0_ := Aside0.mk (Kd.R_below (by (with_reducible repeat (first | apply Kd.R_alloc | apply Kd.R_drewN | apply Kd.R_drew)); exact HO_5.out) hb)
       have n1_ := Aside0.mk (Kd.R_below (by (with_reducible repeat (first | apply Kd.R_alloc | apply Kd.R_drewN | apply Kd.R_drew)); exact HO320.out) hb)
       have n2_ := Aside0.mk (below_step (by repeat (first | (with_reducible first | exact HB.out | apply below_alloc | apply pw_below_drewN | apply below_drew1) | exact HB.out)) hb)
       have n3_ := Aside0.mk (hbox)
       have n4_ := Aside0.mk ((by rw [hg]; exact (below_size (by repeat (first | (with_reducible first | exact HB.out | apply below_alloc | apply pw_below_drewN | apply below_drew1) | exact HB.out))) : w.heap.size ≤ gb338))
       have n5_ := Aside0.mk ((by rw [hg]; exact (below_size (by repeat (first | (with_reducible first | exact HB.out | apply below_alloc | apply pw_below_drewN | apply below_drew1) | exact HB.out))) : w.heap.size ≤ gb338))
       clear HO_5
       clear HO320
       clear HB
       have HO_5 := n0_
       have HO320 := n1_
       have HB := n2_
       have BK338 := n3_
       have GW338 := n4_
       have GE338 := n5_
       clear n0_ n1_ n2_ n3_ n4_ n5_
       clear hb hbox hg
       refine hK.out _ _ trivial (fun hHeld => ?_)
       clear hK K
       refine norm_ (a' := ?_) ?_ ?_
       rotate_left
       ·show Act.put _ (some 7) _ = _
        simp only [Act.put, List.setIfInBounds_toArray, List.set_cons_zero, List.set_cons_succ, i64_w, i32_w]
        rfl
       exact norm_ (by first | (simp only [putAll, Act.put, List.setIfInBounds_toArray, List.set_cons_zero, List.set_cons_succ]; done) | (simp only [putAll, Act.put, List.setIfInBounds_toArray, List.set_cons_zero, List.set_cons_succ]; rfl)) (hJ0_2_11 (v316, v319, gb338) _ ⟨(by (with_reducible repeat (first | apply Kd.R_alloc | apply Kd.R_drewN | apply Kd.R_drew)); exact HO320.out), (by (with_reducible repeat (first | apply Kd.R_alloc | apply Kd.R_drewN | apply Kd.R_drew)); exact HO_5.out), (by (with_reducible repeat (first | refine blk_drewN ?_ _ | refine blk_drew ?_ | refine blk_alloc ?_ _)); exact BK338.out), GW338.out, GE338.out, (by repeat (first | (with_reducible first | exact HB.out | apply below_alloc | apply pw_below_drewN | apply below_drew1 | refine below_set ?_ GE338.out) | exact HB.out))⟩)
      skip
      rintro ⟨v316, v319, gb338⟩ w32 ⟨h0_, h1_, h2_, h3_, h4_, h5_⟩
      have n0_ : Aside0 (Kd.R (Kd.int .u8) 5 w32 w.heap.size (fun k_ => some k_ ≠ (.slice Ao25 y312.length co25 : Value).ownBlock) v319 y318) := ⟨h0_⟩
      have n1_ : Aside0 (Kd.R (Kd.int .u8) 5 w32 w.heap.size (fun k_ => some k_ ≠ (v319 : Value).ownBlock) (.slice Ao25 y312.length co25) y312) := ⟨h1_⟩
      have n2_ : Aside0 (w32.heap[gb338]? = some (.cells #[.int .i64 0, .slice none 0 0, .slice none 0 0, .slice none 0 0] 28 (0, 0))) := ⟨h2_⟩
      have n3_ : Aside0 (w.heap.size ≤ gb338) := ⟨h3_⟩
      have n4_ : Aside0 (w.heap.size ≤ gb338) := ⟨h4_⟩
      have n5_ : Aside0 (Below w.heap.size w w32) := ⟨h5_⟩
      clear HO_5
      clear HB
      clear h0_ h1_ h2_ h3_ h4_ h5_
      have HO320 := n0_
      have HO_5 := n1_
      have BK338 := n2_
      have GW338 := n3_
      have GE338 := n4_
      have HB := n5_
      clear n0_ n1_ n2_ n3_ n4_ n5_
      have hHeld := trivial
      refine norm_ (a' := ?_) ?_ ?_
      rotate_left
      ·simp only [putAll, Act.put, List.setIfInBounds_toArray, List.set_cons_zero, List.set_cons_succ]
       rfl
      refine one_ (i := 6) (N := some 36) #[true, true, true, true, true, true, true, false, false, false, false, true, false, false] rfl rfl (one_of HT_.out (by kernel_rfl)) (by decide) (fun K hK => ?_)
      refine Kd.R_append_rows_step (Kd.int .u8) (w0 := w) w.heap.size (by rfl) (.tmp 32) (.tmp 35) 22 5 (.int .u8 0) 1 rfl Tryd.underlying22 info5 rfl (by decide) (by omega) v319 y318 (l0.take (x6_10 : Int).toNat) _ _ _ (fun k_ => some k_ ≠ (.slice Ao25 y312.length co25 : Value).ownBlock) (fun _ => False) rfl rfl ?aO ?aR (fun _ _ h => h) (fun _ h => h.elim) ?aF ?aB ?aS ?aL ?_
      (case aR => first | (have hl_ : (l0.take (x6_10 : Int).toNat).length = x6_10.toNat := (by rw [List.length_take]; have h_ : (x6_10 : Int) ≤ (l0.length : Int) := of_decide_eq_true (by first | (with_reducible assumption) | assumption); omega); have hC_ := Kd.C_below HR321.out HB.out; rw [hl_] at hC_; repeat (first | exact hC_ | (with_reducible refine Kd.C_alloc ?_ _) | (with_reducible refine Kd.C_drewN ?_ _) | (with_reducible refine Kd.C_drew ?_))) | (repeat (first | exact (Kd.C_below HR321.out HB.out) | (with_reducible refine Kd.C_alloc ?_ _) | (with_reducible refine Kd.C_drewN ?_ _) | (with_reducible refine Kd.C_drew ?_))))
      (case aB => exact (by repeat (first | (with_reducible first | exact HB.out | apply below_alloc | apply pw_below_drewN | apply below_drew1 | refine below_set ?_ GE338.out) | exact HB.out)))
      (case aF => exact (fun k_ hk => Kd.fresh' (Kd.R_lt (by (with_reducible repeat (first | apply Kd.R_alloc | apply Kd.R_drewN | apply Kd.R_drew)); exact HO_5.out)) k_ hk))
      (case aO => exact (by (with_reducible repeat (first | apply Kd.R_alloc | apply Kd.R_drewN | apply Kd.R_drew)); exact HO320.out))
      (case aS => exact (below_size (by repeat (first | (with_reducible first | exact HB.out | apply below_alloc | apply pw_below_drewN | apply below_drew1 | refine below_set ?_ GE338.out) | exact HB.out))))
      (case aL => have := LMc19.out; have hlx_ := (show (l0.take (x6_10 : Int).toNat).length = x6_10.toNat from (by rw [List.length_take]; have h_ : (x6_10 : Int) ≤ (l0.length : Int) := of_decide_eq_true (by first | (with_reducible assumption) | assumption); omega)); omega)
      intro v323 w33 ho hb hg hat
      rw [← Ny322.out] at ho
      have n0_ := Aside0.mk (Kd.R_after (ok := (fun _ => True)) (by (with_reducible repeat (first | apply Kd.R_alloc | apply Kd.R_drewN | apply Kd.R_drew)); exact Kd.R_mono HO_5.out (fun _ hk => ⟨trivial, hk⟩)) hg hat)
      have n1_ := Aside0.mk (blk_grown (g := gb338) (o := .cells #[.int .i64 0, .slice none 0 0, .slice none 0 0, .slice none 0 0] 28 (0, 0)) (by (with_reducible repeat (first | refine blk_drewN ?_ _ | refine blk_drew ?_ | refine blk_alloc ?_ _)); exact BK338.out) hg (Kd.R_ne HO320.out BK338.out (by decide)))
      have n2_ := Aside0.mk (hb)
      have n3_ := Aside0.mk (ho)
      clear HO_5
      clear BK338
      clear HB
      clear HO320
      have HO_5 := n0_
      have BK338 := n1_
      have HB := n2_
      have HO324 := n3_
      clear n0_ n1_ n2_ n3_
      clear ho hb hg hat
      refine hK.out _ _ trivial (fun hHeld => ?_)
      clear hK K
      refine norm_ (a' := ?_) ?_ ?_
      rotate_left
      ·show Act.put _ (some 36) _ = _
       simp only [Act.put, List.setIfInBounds_toArray, List.set_cons_zero, List.set_cons_succ, i64_w, i32_w]
       rfl
      exact norm_ (by first | (simp only [putAll, Act.put, List.setIfInBounds_toArray, List.set_cons_zero, List.set_cons_succ]; done) | (simp only [putAll, Act.put, List.setIfInBounds_toArray, List.set_cons_zero, List.set_cons_succ]; rfl)) (hJ0_2_6_11 (v316, v319, v323, gb338) _ ⟨(by (with_reducible repeat (first | apply Kd.R_alloc | apply Kd.R_drewN | apply Kd.R_drew)); exact HO324.out), (by (with_reducible repeat (first | apply Kd.R_alloc | apply Kd.R_drewN | apply Kd.R_drew)); exact Kd.R_mono HO_5.out (fun _ hk => hk.2)), (by (with_reducible repeat (first | refine blk_drewN ?_ _ | refine blk_drew ?_ | refine blk_alloc ?_ _)); exact BK338.out), GW338.out, GE338.out, (by repeat (first | (with_reducible first | exact HB.out | apply below_alloc | apply pw_below_drewN | apply below_drew1 | refine below_set ?_ GE338.out) | exact HB.out))⟩)
     skip
     rintro ⟨v316, v319, v323⟩ w32 ⟨h0_, h1_, h2_⟩
     have n0_ : Aside0 (Kd.R (Kd.int .u8) 5 w32 w.heap.size (fun k_ => some k_ ≠ (.slice Ao25 y312.length co25 : Value).ownBlock) v323 y322) := ⟨h0_⟩
     have n1_ : Aside0 (Kd.R (Kd.int .u8) 5 w32 w.heap.size (fun k_ => some k_ ≠ (v323 : Value).ownBlock) (.slice Ao25 y312.length co25) y312) := ⟨h1_⟩
     have n2_ : Aside0 (Below w.heap.size w w32) := ⟨h2_⟩
     clear HO_5
     clear HB
     clear h0_ h1_ h2_
     have HO324 := n0_
     have HO_5 := n1_
     have HB := n2_
     clear n0_ n1_ n2_
     have hHeld := trivial
     obtain ⟨Ao33, co33, eo33⟩ := Kd.R_slice HO324.out
     (first | subst eo33 | (injection eo33 with f1_ f2_ f3_; have f4_ := f1_.symm; have f5_ := f3_.symm; clear f1_ f2_ f3_; subst f4_; subst f5_))
     refine norm_ (a' := ?_) ?_ ?_
     rotate_left
     ·simp only [putAll, Act.put, List.setIfInBounds_toArray, List.set_cons_zero, List.set_cons_succ]
      rfl
     refine two_ (i := 7) (j := 11) (Ni := some 37) (Nj := some 7) #[true, true, true, true, true, true, true, true, false, false, false, false, false, false] #[true, true, true, true, true, true, true, false, false, false, false, true, false, false] rfl rfl rfl rfl (two_of HT_.out (by kernel_rfl)) (by decide) (by decide) (fun K hK => ?_) (fun K hK => ?_)
     ·skip
      refine goes_ Tryd.func9 (by kernel_rfl) rfl #[.slice Ao33 y322.length co33] (by rfl) rfl rfl (by (try simp only [List.map_toArray, List.map_cons, List.map_nil]); first | done | rfl | (simp only [List.length_drop, List.length_take]; rfl)) ?_
      with_reducible refine (script_Read.calls kj10 _ _ y322 t325 t326 t329 t332 t335 _ ?side1 ?side2 A20.out ?sideG).mono ?_
      (case sideG => first | exact HG | exact ⟨HG.out.below (by repeat (first | (with_reducible first | exact HB.out | apply below_alloc | apply pw_below_drewN | apply below_drew1) | exact HB.out))⟩)
      (case side1 => repeat (first | exact (Kd.R_reads' HO324.out).2.2 | (with_reducible refine Kd.C_alloc ?_ _) | (with_reducible refine Kd.C_drewN ?_ _) | (with_reducible refine Kd.C_drew ?_)))
      (case side2 => exact (Kd.R_reads' HO324.out).2.1)
      rintro e w34 ⟨v327, v330, v333, v336, rfl, ho0, ho1, ho2, ho3, hb⟩
      refine ⟨_, rfl, ?_⟩
      have n0_ := Aside0.mk (Kd.R_below (by (with_reducible repeat (first | apply Kd.R_alloc | apply Kd.R_drewN | apply Kd.R_drew)); exact HO_5.out) hb)
      have n1_ := Aside0.mk (Kd.R_below (by (with_reducible repeat (first | apply Kd.R_alloc | apply Kd.R_drewN | apply Kd.R_drew)); exact HO324.out) hb)
      have n2_ := Aside0.mk (Kd.N_lower (Kd.N_mono (ok' := fun k_ => some k_ ≠ (v330 : Value).ownBlock ∧ some k_ ≠ (v333 : Value).ownBlock ∧ some k_ ≠ (v336 : Value).ownBlock ∧ some k_ ≠ (.slice Ao25 y312.length co25 : Value).ownBlock ∧ some k_ ≠ (.slice Ao33 y322.length co33 : Value).ownBlock) ho0 (fun k_ hk_ => ⟨hk_.2.1, hk_.2.2.1, hk_.2.2.2, (Kd.fresh' (Kd.R_lt (by (with_reducible repeat (first | apply Kd.R_alloc | apply Kd.R_drewN | apply Kd.R_drew)); exact HO_5.out)) k_ hk_.1), (Kd.fresh' (Kd.R_lt (by (with_reducible repeat (first | apply Kd.R_alloc | apply Kd.R_drewN | apply Kd.R_drew)); exact HO324.out)) k_ hk_.1)⟩)) (below_size (by repeat (first | (with_reducible first | exact HB.out | apply below_alloc | apply pw_below_drewN | apply below_drew1) | exact HB.out))))
      have n3_ := Aside0.mk (Kd.N_lower (Kd.N_mono (ok' := fun k_ => some k_ ≠ (v327 : Value).ownBlock ∧ some k_ ≠ (v333 : Value).ownBlock ∧ some k_ ≠ (v336 : Value).ownBlock ∧ some k_ ≠ (.slice Ao25 y312.length co25 : Value).ownBlock ∧ some k_ ≠ (.slice Ao33 y322.length co33 : Value).ownBlock) ho1 (fun k_ hk_ => ⟨hk_.2.1, hk_.2.2.1, hk_.2.2.2, (Kd.fresh' (Kd.R_lt (by (with_reducible repeat (first | apply Kd.R_alloc | apply Kd.R_drewN | apply Kd.R_drew)); exact HO_5.out)) k_ hk_.1), (Kd.fresh' (Kd.R_lt (by (with_reducible repeat (first | apply Kd.R_alloc | apply Kd.R_drewN | apply Kd.R_drew)); exact HO324.out)) k_ hk_.1)⟩)) (below_size (by repeat (first | (with_reducible first | exact HB.out | apply below_alloc | apply pw_below_drewN | apply below_drew1) | exact HB.out))))
      have n4_ := Aside0.mk (Kd.R_lower (Kd.R_mono (ok' := fun k_ => True) ho2 (fun _ hk_ => trivial)) (below_size (by repeat (first | (with_reducible first | exact HB.out | apply below_alloc | apply pw_below_drewN | apply below_drew1) | exact HB.out))))
      have n5_ := Aside0.mk (Kd.N_lower (Kd.N_mono (ok' := fun k_ => some k_ ≠ (v327 : Value).ownBlock ∧ some k_ ≠ (v330 : Value).ownBlock ∧ some k_ ≠ (v333 : Value).ownBlock ∧ some k_ ≠ (.slice Ao25 y312.length co25 : Value).ownBlock ∧ some k_ ≠ (.slice Ao33 y322.length co33 : Value).ownBlock) ho3 (fun k_ hk_ => ⟨hk_.2.1, hk_.2.2.1, hk_.2.2.2, (Kd.fresh' (Kd.R_lt (by (with_reducible repeat (first | apply Kd.R_alloc | apply Kd.R_drewN | apply Kd.R_drew)); exact HO_5.out)) k_ hk_.1), (Kd.fresh' (Kd.R_lt (by (with_reducible repeat (first | apply Kd.R_alloc | apply Kd.R_drewN | apply Kd.R_drew)); exact HO324.out)) k_ hk_.1)⟩)) (below_size (by repeat (first | (with_reducible first | exact HB.out | apply below_alloc | apply pw_below_drewN | apply below_drew1) | exact HB.out))))
      have n6_ := Aside0.mk (below_step (by repeat (first | (with_reducible first | exact HB.out | apply below_alloc | apply pw_below_drewN | apply below_drew1) | exact HB.out)) hb)
      clear HO_5
      clear HO324
      clear HB
      have HO_5 := n0_
      have HO324 := n1_
      have HO328 := n2_
      have HO331 := n3_
      have HO334 := n4_
      have HO337 := n5_
      have HB := n6_
      clear n0_ n1_ n2_ n3_ n4_ n5_ n6_
      (try clear hb)
      (try clear hb2)
      (try clear hk)
      (try clear hi)
      (try clear ho0)
      (try clear ho1)
      (try clear ho2)
      (try clear ho3)
      refine hK.out _ _ trivial (fun hHeld => ?_)
      clear hK K
      refine norm_ (a' := ?_) ?_ ?_
      rotate_left
      ·show Act.put _ (some 37) _ = _
       simp only [Act.put, List.setIfInBounds_toArray, List.set_cons_zero, List.set_cons_succ, i64_w, i32_w]
       rfl
      refine pure_ (i := 8) (N := some 29) (v := ?_) (a' := ?_) #[true, true, true, true, true, true, true, true, true, false, false, false, false, false] rfl rfl (any_of HT_.out (by kernel_rfl)) (fun _ _ _ h => h) (Or.inl ⟨by rfl, ?_⟩) ?_ ?_
      rotate_left
      ·intro w'
       go_simp
       with_reducible rfl
      rotate_left
      ·simp only [Act.put, List.setIfInBounds_toArray, List.set_cons_zero, List.set_cons_succ, i64_w, i32_w]
       rfl
      refine pure_ (i := 9) (N := some 38) (v := ?_) (a' := ?_) #[true, true, true, true, true, true, true, true, true, true, false, false, false, false] rfl rfl (any_of HT_.out (by kernel_rfl)) (fun _ _ _ h => h) (Or.inl ⟨by rfl, ?_⟩) ?_ ?_
      rotate_left
      ·intro w'
       go_simp
       with_reducible rfl
      rotate_left
      ·simp only [Act.put, List.setIfInBounds_toArray, List.set_cons_zero, List.set_cons_succ, i64_w, i32_w]
       rfl
      refine pure_ (i := 10) (N := some 39) (v := ?_) (a' := ?_) #[true, true, true, true, true, true, true, true, true, true, true, false, false, false] rfl rfl (any_of HT_.out (by kernel_rfl)) (fun _ _ _ h => h) (Or.inl ⟨by rfl, ?_⟩) ?_ ?_
      rotate_left
      ·intro w'
       go_simp
       with_reducible rfl
      rotate_left
      ·simp only [Act.put, List.setIfInBounds_toArray, List.set_cons_zero, List.set_cons_succ, i64_w, i32_w]
       rfl
      exact norm_ (by first | (simp only [putAll, Act.put, List.setIfInBounds_toArray, List.set_cons_zero, List.set_cons_succ]; done) | (simp only [putAll, Act.put, List.setIfInBounds_toArray, List.set_cons_zero, List.set_cons_succ]; rfl)) (hJ0_2_6_7 (v316, v319, .slice Ao33 y322.length co33, v327, v330, v333, v336) _ ⟨(by (with_reducible repeat (first | apply Kd.R_alloc | apply Kd.R_drewN | apply Kd.R_drew)); exact HO324.out), (by (with_reducible repeat (first | apply Kd.N_alloc | apply Kd.N_drewN | apply Kd.N_drew)); exact Kd.N_mono HO328.out (fun _ hk => ⟨hk.2.2.2.2, ⟨hk.1, ⟨hk.2.1, ⟨hk.2.2.1, hk.2.2.2.1⟩⟩⟩⟩)), (by (with_reducible repeat (first | apply Kd.N_alloc | apply Kd.N_drewN | apply Kd.N_drew)); exact Kd.N_mono HO331.out (fun _ hk => ⟨hk.2.2.2.2, ⟨hk.1, ⟨hk.2.1, ⟨hk.2.2.1, hk.2.2.2.1⟩⟩⟩⟩)), (by (with_reducible repeat (first | apply Kd.R_alloc | apply Kd.R_drewN | apply Kd.R_drew)); exact HO334.out), (by (with_reducible repeat (first | apply Kd.N_alloc | apply Kd.N_drewN | apply Kd.N_drew)); exact Kd.N_mono HO337.out (fun _ hk => ⟨hk.2.2.2.2, ⟨hk.1, ⟨hk.2.1, ⟨hk.2.2.1, hk.2.2.2.1⟩⟩⟩⟩)), (by (with_reducible repeat (first | apply Kd.R_alloc | apply Kd.R_drewN | apply Kd.R_drew)); exact HO_5.out), (by repeat (first | (with_reducible first | exact HB.out | apply below_alloc | apply pw_below_drewN | apply below_drew1) | exact HB.out))⟩)
     skip
     refine box_step ?hg (N := 7) ?hd (cs := #[.int .i64 0, .slice none 0 0, .slice none 0 0, .slice none 0 0]) (t := 28) ?hr ?_; (case hd => rfl); (case hg => rfl); (case hr => first | (go_simp; done) | (go_simp; rfl))
     intro gb338 hg w33 hbox hb
     have n0_ := Aside0.mk (Kd.R_below (by (with_reducible repeat (first | apply Kd.R_alloc | apply Kd.R_drewN | apply Kd.R_drew)); exact HO_5.out) hb)
     have n1_ := Aside0.mk (Kd.R_below (by (with_reducible repeat (first | apply Kd.R_alloc | apply Kd.R_drewN | apply Kd.R_drew)); exact HO324.out) hb)
     have n2_ := Aside0.mk (below_step (by repeat (first | (with_reducible first | exact HB.out | apply below_alloc | apply pw_below_drewN | apply below_drew1) | exact HB.out)) hb)
     have n3_ := Aside0.mk (hbox)
     have n4_ := Aside0.mk ((by rw [hg]; exact (below_size (by repeat (first | (with_reducible first | exact HB.out | apply below_alloc | apply pw_below_drewN | apply below_drew1) | exact HB.out))) : w.heap.size ≤ gb338))
     have n5_ := Aside0.mk ((by rw [hg]; exact (below_size (by repeat (first | (with_reducible first | exact HB.out | apply below_alloc | apply pw_below_drewN | apply below_drew1) | exact HB.out))) : w.heap.size ≤ gb338))
     clear HO_5
     clear HO324
     clear HB
     have HO_5 := n0_
     have HO324 := n1_
     have HB := n2_
     have BK338 := n3_
     have GW338 := n4_
     have GE338 := n5_
     clear n0_ n1_ n2_ n3_ n4_ n5_
     clear hb hbox hg
     refine hK.out _ _ trivial (fun hHeld => ?_)
     clear hK K
     refine norm_ (a' := ?_) ?_ ?_
     rotate_left
     ·show Act.put _ (some 7) _ = _
      simp only [Act.put, List.setIfInBounds_toArray, List.set_cons_zero, List.set_cons_succ, i64_w, i32_w]
      rfl
     exact norm_ (by first | (simp only [putAll, Act.put, List.setIfInBounds_toArray, List.set_cons_zero, List.set_cons_succ]; done) | (simp only [putAll, Act.put, List.setIfInBounds_toArray, List.set_cons_zero, List.set_cons_succ]; rfl)) (hJ0_2_6_11 (v316, v319, (.slice Ao33 y322.length co33 : Value), gb338) _ ⟨(by (with_reducible repeat (first | apply Kd.R_alloc | apply Kd.R_drewN | apply Kd.R_drew)); exact HO324.out), (by (with_reducible repeat (first | apply Kd.R_alloc | apply Kd.R_drewN | apply Kd.R_drew)); exact HO_5.out), (by (with_reducible repeat (first | refine blk_drewN ?_ _ | refine blk_drew ?_ | refine blk_alloc ?_ _)); exact BK338.out), GW338.out, GE338.out, (by repeat (first | (with_reducible first | exact HB.out | apply below_alloc | apply pw_below_drewN | apply below_drew1 | refine below_set ?_ GE338.out) | exact HB.out))⟩)
    skip
    rintro ⟨v316, v319, v323, gb338⟩ w33 ⟨h0_, h1_, h2_, h3_, h4_, h5_⟩
    have n0_ : Aside0 (Kd.R (Kd.int .u8) 5 w33 w.heap.size (fun k_ => some k_ ≠ (.slice Ao25 y312.length co25 : Value).ownBlock) v323 y322) := ⟨h0_⟩
    have n1_ : Aside0 (Kd.R (Kd.int .u8) 5 w33 w.heap.size (fun k_ => some k_ ≠ (v323 : Value).ownBlock) (.slice Ao25 y312.length co25) y312) := ⟨h1_⟩
    have n2_ : Aside0 (w33.heap[gb338]? = some (.cells #[.int .i64 0, .slice none 0 0, .slice none 0 0, .slice none 0 0] 28 (0, 0))) := ⟨h2_⟩
    have n3_ : Aside0 (w.heap.size ≤ gb338) := ⟨h3_⟩
    have n4_ : Aside0 (w.heap.size ≤ gb338) := ⟨h4_⟩
    have n5_ : Aside0 (Below w.heap.size w w33) := ⟨h5_⟩
    clear HO_5
    clear HB
    clear h0_ h1_ h2_ h3_ h4_ h5_
    have HO324 := n0_
    have HO_5 := n1_
    have BK338 := n2_
    have GW338 := n3_
    have GE338 := n4_
    have HB := n5_
    clear n0_ n1_ n2_ n3_ n4_ n5_
    have hHeld := trivial
    obtain ⟨Ao34, co34, eo34⟩ := Kd.R_slice HO324.out
    (first | subst eo34 | (injection eo34 with f1_ f2_ f3_; have f4_ := f1_.symm; have f5_ := f3_.symm; clear f1_ f2_ f3_; subst f4_; subst f5_))
    refine norm_ (a' := ?_) ?_ ?_
    rotate_left
    ·simp only [putAll, Act.put, List.setIfInBounds_toArray, List.set_cons_zero, List.set_cons_succ]
     rfl
    refine one_ (i := 7) (N := some 37) #[true, true, true, true, true, true, true, true, false, false, false, true, false, false] rfl rfl (one_of HT_.out (by kernel_rfl)) (by decide) (fun K hK => ?_)
    refine goes_ Tryd.func9 (by kernel_rfl) rfl #[.slice Ao34 y322.length co34] (by rfl) rfl rfl (by (try simp only [List.map_toArray, List.map_cons, List.map_nil]); first | done | rfl | (simp only [List.length_drop, List.length_take]; rfl)) ?_
    with_reducible refine (script_Read.calls kj10 _ _ y322 t325 t326 t329 t332 t335 _ ?side1 ?side2 A20.out ?sideG).mono ?_
    (case sideG => first | exact HG | exact ⟨HG.out.below (by repeat (first | (with_reducible first | exact HB.out | apply below_alloc | apply pw_below_drewN | apply below_drew1) | exact HB.out))⟩)
    (case side1 => repeat (first | exact (Kd.R_reads' HO324.out).2.2 | (with_reducible refine Kd.C_alloc ?_ _) | (with_reducible refine Kd.C_drewN ?_ _) | (with_reducible refine Kd.C_drew ?_)))
    (case side2 => exact (Kd.R_reads' HO324.out).2.1)
    rintro e w35 ⟨v327, v330, v333, v336, rfl, ho0, ho1, ho2, ho3, hb⟩
    refine ⟨_, rfl, ?_⟩
    have n0_ := Aside0.mk (Kd.R_below (by (with_reducible repeat (first | apply Kd.R_alloc | apply Kd.R_drewN | apply Kd.R_drew)); exact HO_5.out) hb)
    have n1_ := Aside0.mk (Kd.R_below (by (with_reducible repeat (first | apply Kd.R_alloc | apply Kd.R_drewN | apply Kd.R_drew)); exact HO324.out) hb)
    have n2_ := Aside0.mk (Kd.N_lower (Kd.N_mono (ok' := fun k_ => some k_ ≠ (v330 : Value).ownBlock ∧ some k_ ≠ (v333 : Value).ownBlock ∧ some k_ ≠ (v336 : Value).ownBlock ∧ some k_ ≠ (.slice Ao25 y312.length co25 : Value).ownBlock ∧ some k_ ≠ (.slice Ao34 y322.length co34 : Value).ownBlock ∧ k_ ≠ gb338) ho0 (fun k_ hk_ => ⟨hk_.2.1, hk_.2.2.1, hk_.2.2.2, (Kd.fresh' (Kd.R_lt (by (with_reducible repeat (first | apply Kd.R_alloc | apply Kd.R_drewN | apply Kd.R_drew)); exact HO_5.out)) k_ hk_.1), (Kd.fresh' (Kd.R_lt (by (with_reducible repeat (first | apply Kd.R_alloc | apply Kd.R_drewN | apply Kd.R_drew)); exact HO324.out)) k_ hk_.1), (Kd.freshB (g := gb338) (o := .cells #[.int .i64 0, .slice none 0 0, .slice none 0 0, .slice none 0 0] 28 (0, 0)) (by (with_reducible repeat (first | refine blk_drewN ?_ _ | refine blk_drew ?_ | refine blk_alloc ?_ _)); exact BK338.out) k_ hk_.1)⟩)) (below_size (by repeat (first | (with_reducible first | exact HB.out | apply below_alloc | apply pw_below_drewN | apply below_drew1 | refine below_set ?_ GE338.out) | exact HB.out))))
    have n3_ := Aside0.mk (Kd.N_lower (Kd.N_mono (ok' := fun k_ => some k_ ≠ (v327 : Value).ownBlock ∧ some k_ ≠ (v333 : Value).ownBlock ∧ some k_ ≠ (v336 : Value).ownBlock ∧ some k_ ≠ (.slice Ao25 y312.length co25 : Value).ownBlock ∧ some k_ ≠ (.slice Ao34 y322.length co34 : Value).ownBlock ∧ k_ ≠ gb338) ho1 (fun k_ hk_ => ⟨hk_.2.1, hk_.2.2.1, hk_.2.2.2, (Kd.fresh' (Kd.R_lt (by (with_reducible repeat (first | apply Kd.R_alloc | apply Kd.R_drewN | apply Kd.R_drew)); exact HO_5.out)) k_ hk_.1), (Kd.fresh' (Kd.R_lt (by (with_reducible repeat (first | apply Kd.R_alloc | apply Kd.R_drewN | apply Kd.R_drew)); exact HO324.out)) k_ hk_.1), (Kd.freshB (g := gb338) (o := .cells #[.int .i64 0, .slice none 0 0, .slice none 0 0, .slice none 0 0] 28 (0, 0)) (by (with_reducible repeat (first | refine blk_drewN ?_ _ | refine blk_drew ?_ | refine blk_alloc ?_ _)); exact BK338.out) k_ hk_.1)⟩)) (below_size (by repeat (first | (with_reducible first | exact HB.out | apply below_alloc | apply pw_below_drewN | apply below_drew1 | refine below_set ?_ GE338.out) | exact HB.out))))
    have n4_ := Aside0.mk (Kd.R_lower (Kd.R_mono (ok' := fun k_ => True) ho2 (fun _ hk_ => trivial)) (below_size (by repeat (first | (with_reducible first | exact HB.out | apply below_alloc | apply pw_below_drewN | apply below_drew1 | refine below_set ?_ GE338.out) | exact HB.out))))
    have n5_ := Aside0.mk (Kd.N_lower (Kd.N_mono (ok' := fun k_ => some k_ ≠ (v327 : Value).ownBlock ∧ some k_ ≠ (v330 : Value).ownBlock ∧ some k_ ≠ (v333 : Value).ownBlock ∧ some k_ ≠ (.slice Ao25 y312.length co25 : Value).ownBlock ∧ some k_ ≠ (.slice Ao34 y322.length co34 : Value).ownBlock ∧ k_ ≠ gb338) ho3 (fun k_ hk_ => ⟨hk_.2.1, hk_.2.2.1, hk_.2.2.2, (Kd.fresh' (Kd.R_lt (by (with_reducible repeat (first | apply Kd.R_alloc | apply Kd.R_drewN | apply Kd.R_drew)); exact HO_5.out)) k_ hk_.1), (Kd.fresh' (Kd.R_lt (by (with_reducible repeat (first | apply Kd.R_alloc | apply Kd.R_drewN | apply Kd.R_drew)); exact HO324.out)) k_ hk_.1), (Kd.freshB (g := gb338) (o := .cells #[.int .i64 0, .slice none 0 0, .slice none 0 0, .slice none 0 0] 28 (0, 0)) (by (with_reducible repeat (first | refine blk_drewN ?_ _ | refine blk_drew ?_ | refine blk_alloc ?_ _)); exact BK338.out) k_ hk_.1)⟩)) (below_size (by repeat (first | (with_reducible first | exact HB.out | apply below_alloc | apply pw_below_drewN | apply below_drew1 | refine below_set ?_ GE338.out) | exact HB.out))))
    have n6_ := Aside0.mk (blk_below (g := gb338) (o := .cells #[.int .i64 0, .slice none 0 0, .slice none 0 0, .slice none 0 0] 28 (0, 0)) (by (with_reducible repeat (first | refine blk_drewN ?_ _ | refine blk_drew ?_ | refine blk_alloc ?_ _)); exact BK338.out) hb)
    have n7_ := Aside0.mk (below_step (by repeat (first | (with_reducible first | exact HB.out | apply below_alloc | apply pw_below_drewN | apply below_drew1 | refine below_set ?_ GE338.out) | exact HB.out)) hb)
    clear HO_5
    clear HO324
    clear BK338
    clear HB
    have HO_5 := n0_
    have HO324 := n1_
    have HO328 := n2_
    have HO331 := n3_
    have HO334 := n4_
    have HO337 := n5_
    have BK338 := n6_
    have HB := n7_
    clear n0_ n1_ n2_ n3_ n4_ n5_ n6_ n7_
    (try clear hb)
    (try clear hb2)
    (try clear hk)
    (try clear hi)
    (try clear ho0)
    (try clear ho1)
    (try clear ho2)
    (try clear ho3)
    refine hK.out _ _ trivial (fun hHeld => ?_)
    clear hK K
    refine norm_ (a' := ?_) ?_ ?_
    rotate_left
    ·show Act.put _ (some 37) _ = _
     simp only [Act.put, List.setIfInBounds_toArray, List.set_cons_zero, List.set_cons_succ, i64_w, i32_w]
     rfl
    refine pure_ (i := 8) (N := some 29) (v := ?_) (a' := ?_) #[true, true, true, true, true, true, true, true, true, false, false, true, false, false] rfl rfl (any_of HT_.out (by kernel_rfl)) (fun _ _ _ h => h) (Or.inl ⟨by rfl, ?_⟩) ?_ ?_
    rotate_left
    ·intro w'
     go_simp
     with_reducible rfl
    rotate_left
    ·simp only [Act.put, List.setIfInBounds_toArray, List.set_cons_zero, List.set_cons_succ, i64_w, i32_w]
     rfl
    refine pure_ (i := 9) (N := some 38) (v := ?_) (a' := ?_) #[true, true, true, true, true, true, true, true, true, true, false, true, false, false] rfl rfl (any_of HT_.out (by kernel_rfl)) (fun _ _ _ h => h) (Or.inl ⟨by rfl, ?_⟩) ?_ ?_
    rotate_left
    ·intro w'
     go_simp
     with_reducible rfl
    rotate_left
    ·simp only [Act.put, List.setIfInBounds_toArray, List.set_cons_zero, List.set_cons_succ, i64_w, i32_w]
     rfl
    refine pure_ (i := 10) (N := some 39) (v := ?_) (a' := ?_) #[true, true, true, true, true, true, true, true, true, true, true, true, false, false] rfl rfl (any_of HT_.out (by kernel_rfl)) (fun _ _ _ h => h) (Or.inl ⟨by rfl, ?_⟩) ?_ ?_
    rotate_left
    ·intro w'
     go_simp
     with_reducible rfl
    rotate_left
    ·simp only [Act.put, List.setIfInBounds_toArray, List.set_cons_zero, List.set_cons_succ, i64_w, i32_w]
     rfl
    exact norm_ (by first | (simp only [putAll, Act.put, List.setIfInBounds_toArray, List.set_cons_zero, List.set_cons_succ]; done) | (simp only [putAll, Act.put, List.setIfInBounds_toArray, List.set_cons_zero, List.set_cons_succ]; rfl)) (hJ0_2_6_7_11 (v316, v319, .slice Ao34 y322.length co34, v327, v330, v333, v336, gb338) _ ⟨(by (with_reducible repeat (first | apply Kd.R_alloc | apply Kd.R_drewN | apply Kd.R_drew)); exact HO324.out), (by (with_reducible repeat (first | apply Kd.N_alloc | apply Kd.N_drewN | apply Kd.N_drew)); exact Kd.N_mono HO328.out (fun _ hk => ⟨hk.2.2.2.2.1, ⟨hk.1, ⟨hk.2.1, ⟨hk.2.2.1, ⟨hk.2.2.2.1, hk.2.2.2.2.2⟩⟩⟩⟩⟩)), (by (with_reducible repeat (first | apply Kd.N_alloc | apply Kd.N_drewN | apply Kd.N_drew)); exact Kd.N_mono HO331.out (fun _ hk => ⟨hk.2.2.2.2.1, ⟨hk.1, ⟨hk.2.1, ⟨hk.2.2.1, ⟨hk.2.2.2.1, hk.2.2.2.2.2⟩⟩⟩⟩⟩)), (by (with_reducible repeat (first | apply Kd.R_alloc | apply Kd.R_drewN | apply Kd.R_drew)); exact HO334.out), (by (with_reducible repeat (first | apply Kd.N_alloc | apply Kd.N_drewN | apply Kd.N_drew)); exact Kd.N_mono HO337.out (fun _ hk => ⟨hk.2.2.2.2.1, ⟨hk.1, ⟨hk.2.1, ⟨hk.2.2.1, ⟨hk.2.2.2.1, hk.2.2.2.2.2⟩⟩⟩⟩⟩)), (by (with_reducible repeat (first | apply Kd.R_alloc | apply Kd.R_drewN | apply Kd.R_drew)); exact HO_5.out), (by (with_reducible repeat (first | refine blk_drewN ?_ _ | refine blk_drew ?_ | refine blk_alloc ?_ _)); exact BK338.out), GW338.out, GE338.out, (by repeat (first | (with_reducible first | exact HB.out | apply below_alloc | apply pw_below_drewN | apply below_drew1 | refine below_set ?_ GE338.out) | exact HB.out))⟩)
   skip
   rintro ⟨v316, v319, v323, v327, v330, v333, v336⟩ w34 ⟨h0_, h1_, h2_, h3_, h4_, h5_, h6_⟩
   have n0_ : Aside0 (Kd.R (Kd.int .u8) 5 w34 w.heap.size (fun k_ => some k_ ≠ (.slice Ao25 y312.length co25 : Value).ownBlock) v323 y322) := ⟨h0_⟩
   have n1_ : Aside0 (Kd.N k51 51 w34 w.heap.size (fun k_ => some k_ ≠ (v323 : Value).ownBlock ∧ some k_ ≠ (v330 : Value).ownBlock ∧ some k_ ≠ (v333 : Value).ownBlock ∧ some k_ ≠ (v336 : Value).ownBlock ∧ some k_ ≠ (.slice Ao25 y312.length co25 : Value).ownBlock) v327 t326) := ⟨h1_⟩
   have n2_ : Aside0 (Kd.N (Kd.slice 3 (Kd.int .i64)) 64 w34 w.heap.size (fun k_ => some k_ ≠ (v323 : Value).ownBlock ∧ some k_ ≠ (v327 : Value).ownBlock ∧ some k_ ≠ (v333 : Value).ownBlock ∧ some k_ ≠ (v336 : Value).ownBlock ∧ some k_ ≠ (.slice Ao25 y312.length co25 : Value).ownBlock) v330 t329) := ⟨h2_⟩
   have n3_ : Aside0 (Kd.R k66 66 w34 w.heap.size (fun _ => True) v333 t332) := ⟨h3_⟩
   have n4_ : Aside0 (Kd.N k39 39 w34 w.heap.size (fun k_ => some k_ ≠ (v323 : Value).ownBlock ∧ some k_ ≠ (v327 : Value).ownBlock ∧ some k_ ≠ (v330 : Value).ownBlock ∧ some k_ ≠ (v333 : Value).ownBlock ∧ some k_ ≠ (.slice Ao25 y312.length co25 : Value).ownBlock) v336 t335) := ⟨h4_⟩
   have n5_ : Aside0 (Kd.R (Kd.int .u8) 5 w34 w.heap.size (fun k_ => some k_ ≠ (v323 : Value).ownBlock) (.slice Ao25 y312.length co25) y312) := ⟨h5_⟩
   have n6_ : Aside0 (Below w.heap.size w w34) := ⟨h6_⟩
   clear HO_5
   clear HB
   clear h0_ h1_ h2_ h3_ h4_ h5_ h6_
   have HO324 := n0_
   have HO328 := n1_
   have HO331 := n2_
   have HO334 := n3_
   have HO337 := n4_
   have HO_5 := n5_
   have HB := n6_
   clear n0_ n1_ n2_ n3_ n4_ n5_ n6_
   have hHeld := trivial
   refine norm_ (a' := ?_) ?_ ?_
   rotate_left
   ·simp only [putAll, Act.put, List.setIfInBounds_toArray, List.set_cons_zero, List.set_cons_succ]
    rfl
   refine one_ (i := 11) (N := some 7) #[true, true, true, true, true, true, true, true, true, true, true, true, false, false] rfl rfl (one_of HT_.out (by kernel_rfl)) (by decide) (fun K hK => ?_)
   refine box_step ?hg (N := 7) ?hd (cs := #[.int .i64 0, .slice none 0 0, .slice none 0 0, .slice none 0 0]) (t := 28) ?hr ?_; (case hd => rfl); (case hg => rfl); (case hr => first | (go_simp; done) | (go_simp; rfl))
   intro gb338 hg w35 hbox hb
   have n0_ := Aside0.mk (Kd.R_below (by (with_reducible repeat (first | apply Kd.R_alloc | apply Kd.R_drewN | apply Kd.R_drew)); exact HO_5.out) hb)
   have n1_ := Aside0.mk (Kd.R_below (by (with_reducible repeat (first | apply Kd.R_alloc | apply Kd.R_drewN | apply Kd.R_drew)); exact HO324.out) hb)
   have n2_ := Aside0.mk (Kd.N_below (Kd.N_elderB (by (with_reducible repeat (first | apply Kd.N_alloc | apply Kd.N_drewN | apply Kd.N_drew)); exact HO328.out) gb338 (Nat.le_of_eq hg.symm)) hb)
   have n3_ := Aside0.mk (Kd.N_below (Kd.N_elderB (by (with_reducible repeat (first | apply Kd.N_alloc | apply Kd.N_drewN | apply Kd.N_drew)); exact HO331.out) gb338 (Nat.le_of_eq hg.symm)) hb)
   have n4_ := Aside0.mk (Kd.R_below (by (with_reducible repeat (first | apply Kd.R_alloc | apply Kd.R_drewN | apply Kd.R_drew)); exact HO334.out) hb)
   have n5_ := Aside0.mk (Kd.N_below (Kd.N_elderB (by (with_reducible repeat (first | apply Kd.N_alloc | apply Kd.N_drewN | apply Kd.N_drew)); exact HO337.out) gb338 (Nat.le_of_eq hg.symm)) hb)
   have n6_ := Aside0.mk (below_step (by repeat (first | (with_reducible first | exact HB.out | apply below_alloc | apply pw_below_drewN | apply below_drew1) | exact HB.out)) hb)
   have n7_ := Aside0.mk (hbox)
   have n8_ := Aside0.mk ((by rw [hg]; exact (below_size (by repeat (first | (with_reducible first | exact HB.out | apply below_alloc | apply pw_below_drewN | apply below_drew1) | exact HB.out))) : w.heap.size ≤ gb338))
   have n9_ := Aside0.mk ((by rw [hg]; exact (below_size (by repeat (first | (with_reducible first | exact HB.out | apply below_alloc | apply pw_below_drewN | apply below_drew1) | exact HB.out))) : w.heap.size ≤ gb338))
   clear HO_5
   clear HO324
   clear HO328
   clear HO331
   clear HO334
   clear HO337
   clear HB
   have HO_5 := n0_
   have HO324 := n1_
   have HO328 := n2_
   have HO331 := n3_
   have HO334 := n4_
   have HO337 := n5_
   have HB := n6_
   have BK338 := n7_
   have GW338 := n8_
   have GE338 := n9_
   clear n0_ n1_ n2_ n3_ n4_ n5_ n6_ n7_ n8_ n9_
   clear hb hbox hg
   refine hK.out _ _ trivial (fun hHeld => ?_)
   clear hK K
   refine norm_ (a' := ?_) ?_ ?_
   rotate_left
   ·show Act.put _ (some 7) _ = _
    simp only [Act.put, List.setIfInBounds_toArray, List.set_cons_zero, List.set_cons_succ, i64_w, i32_w]
    rfl
   exact norm_ (by first | (simp only [putAll, Act.put, List.setIfInBounds_toArray, List.set_cons_zero, List.set_cons_succ]; done) | (simp only [putAll, Act.put, List.setIfInBounds_toArray, List.set_cons_zero, List.set_cons_succ]; rfl)) (hJ0_2_6_7_11 (v316, v319, v323, v327, v330, v333, v336, gb338) _ ⟨(by (with_reducible repeat (first | apply Kd.R_alloc | apply Kd.R_drewN | apply Kd.R_drew)); exact HO324.out), (by (with_reducible repeat (first | apply Kd.N_alloc | apply Kd.N_drewN | apply Kd.N_drew)); exact Kd.N_mono HO328.out (fun _ hk => ⟨hk.1.1, ⟨hk.1.2.1, ⟨hk.1.2.2.1, ⟨hk.1.2.2.2.1, ⟨hk.1.2.2.2.2, hk.2⟩⟩⟩⟩⟩)), (by (with_reducible repeat (first | apply Kd.N_alloc | apply Kd.N_drewN | apply Kd.N_drew)); exact Kd.N_mono HO331.out (fun _ hk => ⟨hk.1.1, ⟨hk.1.2.1, ⟨hk.1.2.2.1, ⟨hk.1.2.2.2.1, ⟨hk.1.2.2.2.2, hk.2⟩⟩⟩⟩⟩)), (by (with_reducible repeat (first | apply Kd.R_alloc | apply Kd.R_drewN | apply Kd.R_drew)); exact HO334.out), (by (with_reducible repeat (first | apply Kd.N_alloc | apply Kd.N_drewN | apply Kd.N_drew)); exact Kd.N_mono HO337.out (fun _ hk => ⟨hk.1.1, ⟨hk.1.2.1, ⟨hk.1.2.2.1, ⟨hk.1.2.2.2.1, ⟨hk.1.2.2.2.2, hk.2⟩⟩⟩⟩⟩)), (by (with_reducible repeat (first | apply Kd.R_alloc | apply Kd.R_drewN | apply Kd.R_drew)); exact HO_5.out), (by (with_reducible repeat (first | refine blk_drewN ?_ _ | refine blk_drew ?_ | refine blk_alloc ?_ _)); exact BK338.out), GW338.out, GE338.out, (by repeat (first | (with_reducible first | exact HB.out | apply below_alloc | apply pw_below_drewN | apply below_drew1 | refine below_set ?_ GE338.out) | exact HB.out))⟩)
  rintro ⟨v316, v319, v323, v327, v330, v333, v336, gb338⟩ w35 ⟨h0_, h1_, h2_, h3_, h4_, h5_, h6_, h7_, h8_, h9_⟩
  have n0_ : Aside0 (Kd.R (Kd.int .u8) 5 w35 w.heap.size (fun k_ => some k_ ≠ (.slice Ao25 y312.length co25 : Value).ownBlock) v323 y322) := ⟨h0_⟩
  have n1_ : Aside0 (Kd.N k51 51 w35 w.heap.size (fun k_ => some k_ ≠ (v323 : Value).ownBlock ∧ some k_ ≠ (v330 : Value).ownBlock ∧ some k_ ≠ (v333 : Value).ownBlock ∧ some k_ ≠ (v336 : Value).ownBlock ∧ some k_ ≠ (.slice Ao25 y312.length co25 : Value).ownBlock ∧ k_ ≠ gb338) v327 t326) := ⟨h1_⟩
  have n2_ : Aside0 (Kd.N (Kd.slice 3 (Kd.int .i64)) 64 w35 w.heap.size (fun k_ => some k_ ≠ (v323 : Value).ownBlock ∧ some k_ ≠ (v327 : Value).ownBlock ∧ some k_ ≠ (v333 : Value).ownBlock ∧ some k_ ≠ (v336 : Value).ownBlock ∧ some k_ ≠ (.slice Ao25 y312.length co25 : Value).ownBlock ∧ k_ ≠ gb338) v330 t329) := ⟨h2_⟩
  have n3_ : Aside0 (Kd.R k66 66 w35 w.heap.size (fun _ => True) v333 t332) := ⟨h3_⟩
  have n4_ : Aside0 (Kd.N k39 39 w35 w.heap.size (fun k_ => some k_ ≠ (v323 : Value).ownBlock ∧ some k_ ≠ (v327 : Value).ownBlock ∧ some k_ ≠ (v330 : Value).ownBlock ∧ some k_ ≠ (v333 : Value).ownBlock ∧ some k_ ≠ (.slice Ao25 y312.length co25 : Value).ownBlock ∧ k_ ≠ gb338) v336 t335) := ⟨h4_⟩
  have n5_ : Aside0 (Kd.R (Kd.int .u8) 5 w35 w.heap.size (fun k_ => some k_ ≠ (v323 : Value).ownBlock) (.slice Ao25 y312.length co25) y312) := ⟨h5_⟩
  have n6_ : Aside0 (w35.heap[gb338]? = some (.cells #[.int .i64 0, .slice none 0 0, .slice none 0 0, .slice none 0 0] 28 (0, 0))) := ⟨h6_⟩
  have n7_ : Aside0 (w.heap.size ≤ gb338) := ⟨h7_⟩
  have n8_ : Aside0 (w.heap.size ≤ gb338) := ⟨h8_⟩
  have n9_ : Aside0 (Below w.heap.size w w35) := ⟨h9_⟩
  clear HO_5
  clear HB
  clear h0_ h1_ h2_ h3_ h4_ h5_ h6_ h7_ h8_ h9_
  have HO324 := n0_
  have HO328 := n1_
  have HO331 := n2_
  have HO334 := n3_
  have HO337 := n4_
  have HO_5 := n5_
  have BK338 := n6_
  have GW338 := n7_
  have GE338 := n8_
  have HB := n9_
  clear n0_ n1_ n2_ n3_ n4_ n5_ n6_ n7_ n8_ n9_
  have hHeld := trivial
  obtain ⟨Ao37, co37, eo37⟩ := Kd.N_slice HO328.out
  (first | subst eo37 | (injection eo37 with f1_ f2_ f3_; have f4_ := f1_.symm; have f5_ := f3_.symm; clear f1_ f2_ f3_; subst f4_; subst f5_))
  obtain ⟨Ao39, co39, eo39⟩ := Kd.N_slice HO331.out
  (first | subst eo39 | (injection eo39 with f1_ f2_ f3_; have f4_ := f1_.symm; have f5_ := f3_.symm; clear f1_ f2_ f3_; subst f4_; subst f5_))
  obtain ⟨Ao41, co41, eo41⟩ := Kd.R_slice HO334.out
  (first | subst eo41 | (injection eo41 with f1_ f2_ f3_; have f4_ := f1_.symm; have f5_ := f3_.symm; clear f1_ f2_ f3_; subst f4_; subst f5_))
  refine norm_ (a' := ?_) ?_ ?_
  rotate_left
  ·simp only [putAll, Act.put, List.setIfInBounds_toArray, List.set_cons_zero, List.set_cons_succ]
   rfl
  refine one_ (i := 12) (N := none) #[true, true, true, true, true, true, true, true, true, true, true, true, true, false] rfl rfl (one_of HT_.out (by kernel_rfl)) (by decide) (fun K hK => ?_)
  have hs36 : w35.cell? ⟨gb338, 0, none⟩ = some (.int .i64 0) := (blk_cell BK338.out 0).trans rfl
  have hfs36 := blk_frozen BK338.out 0
  have hs38 : w35.cell? ⟨gb338, 1, none⟩ = some (.slice none 0 0) := (blk_cell BK338.out 1).trans rfl
  have hfs38 := blk_frozen BK338.out 1
  have hs40 : w35.cell? ⟨gb338, 2, none⟩ = some (.slice none 0 0) := (blk_cell BK338.out 2).trans rfl
  have hfs40 := blk_frozen BK338.out 2
  have hs42 : w35.cell? ⟨gb338, 3, none⟩ = some (.slice none 0 0) := (blk_cell BK338.out 3).trans rfl
  have hfs42 := blk_frozen BK338.out 3
  refine skip_ (w1 := ?_) (by rfl) rfl ?_ ?_
  rotate_left
  ·go_simp
   rfl
  refine hK.out _ _ trivial (fun hHeld => ?_)
  clear hK K
  refine pure_ (i := 13) (N := some 8) (v := ?_) (a' := ?_) #[true, true, true, true, true, true, true, true, true, true, true, true, true, true] rfl rfl (any_of HT_.out (by kernel_rfl)) (fun _ _ _ h => h) (Or.inl ⟨by rfl, ?_⟩) ?_ ?_
  rotate_left
  ·intro w'
   go_simp
   with_reducible rfl
  rotate_left
  ·simp only [Act.put, List.setIfInBounds_toArray, List.set_cons_zero, List.set_cons_succ, i64_w, i32_w]
   rfl
  refine done_ (done_of HT_.out (by kernel_rfl)) ?_
  try go_wp2_with (first | ((with_reducible refine gate_dst (N := 41) rfl ?_); (try (refine gate_guard (by rfl) ?_; dsimp only)); refine Kd.R_lit (Kd.int .u8) _ 5 ?hg (N := 41) ?hd (xs := ([] : List Int)) (inner := []) (ok := fun _ => True) (okp := fun _ => True) ?hr ?hp (fun _ hk => hk) trivial (Below.refl _ _) (Nat.le_refl _) (by simp) ?_; (case hd => rfl); (case hg => rfl); (case hr => first | (go_simp; done) | (go_simp; rfl)); (case hp => exact (Reps.none _ _)); intro v340 w43 ho44 hb hg_ hnew_; clear hg_ hnew_; (first | rw [← Ny339.out] at ho44 | (simp only [Int.reduceToNat] at ho44; rw [← Ny339.out] at ho44)); have n0_ := Aside0.mk (Kd.R_elder' (by (with_reducible repeat (first | apply Kd.R_alloc | apply Kd.R_drewN | apply Kd.R_drew)); exact (Kd.R_mono (Kd.R_far (p := ⟨gb338, 3, none⟩) (Kd.R_far (p := ⟨gb338, 2, none⟩) (Kd.R_far (p := ⟨gb338, 1, none⟩) (Kd.R_far (p := ⟨gb338, 0, none⟩) (Kd.R_types HO_5.out BK338.out (by decide)) (fun _ hk => hk.2) (.int .i64 t325)) (fun _ hk => hk.2) (.slice Ao37 t326.length co37)) (fun _ hk => hk.2) (.slice Ao39 t329.length co39)) (fun _ hk => hk.2) (.slice Ao41 t332.length co41)) (fun _ h_ => h_.1))) (Kd.R_base ho44) hb); have n1_ := Aside0.mk (Kd.R_elder' (by (with_reducible repeat (first | apply Kd.R_alloc | apply Kd.R_drewN | apply Kd.R_drew)); exact (Kd.R_mono (Kd.R_far (p := ⟨gb338, 3, none⟩) (Kd.R_far (p := ⟨gb338, 2, none⟩) (Kd.R_far (p := ⟨gb338, 1, none⟩) (Kd.R_far (p := ⟨gb338, 0, none⟩) (Kd.R_types HO324.out BK338.out (by decide)) (fun _ hk => hk.2) (.int .i64 t325)) (fun _ hk => hk.2) (.slice Ao37 t326.length co37)) (fun _ hk => hk.2) (.slice Ao39 t329.length co39)) (fun _ hk => hk.2) (.slice Ao41 t332.length co41)) (fun _ h_ => h_.1))) (Kd.R_base ho44) hb); have n2_ := Aside0.mk (Kd.N_elder' (by (with_reducible repeat (first | apply Kd.N_alloc | apply Kd.N_drewN | apply Kd.N_drew)); exact (Kd.N_mono (Kd.N_far (p := ⟨gb338, 3, none⟩) (Kd.N_far (p := ⟨gb338, 2, none⟩) (Kd.N_far (p := ⟨gb338, 1, none⟩) (Kd.N_far (p := ⟨gb338, 0, none⟩) (Kd.N_mono HO328.out (fun k_ hk => (⟨hk, hk.2.2.2.2.2⟩ : _ ∧ k_ ≠ gb338))) (fun _ hk => hk.2) (.int .i64 t325)) (fun _ hk => hk.2) (.slice Ao37 t326.length co37)) (fun _ hk => hk.2) (.slice Ao39 t329.length co39)) (fun _ hk => hk.2) (.slice Ao41 t332.length co41)) (fun _ h_ => h_.1))) (Kd.R_base ho44) hb); have n3_ := Aside0.mk (Kd.N_elder' (by (with_reducible repeat (first | apply Kd.N_alloc | apply Kd.N_drewN | apply Kd.N_drew)); exact (Kd.N_mono (Kd.N_far (p := ⟨gb338, 3, none⟩) (Kd.N_far (p := ⟨gb338, 2, none⟩) (Kd.N_far (p := ⟨gb338, 1, none⟩) (Kd.N_far (p := ⟨gb338, 0, none⟩) (Kd.N_mono HO331.out (fun k_ hk => (⟨hk, hk.2.2.2.2.2⟩ : _ ∧ k_ ≠ gb338))) (fun _ hk => hk.2) (.int .i64 t325)) (fun _ hk => hk.2) (.slice Ao37 t326.length co37)) (fun _ hk => hk.2) (.slice Ao39 t329.length co39)) (fun _ hk => hk.2) (.slice Ao41 t332.length co41)) (fun _ h_ => h_.1))) (Kd.R_base ho44) hb); have n4_ := Aside0.mk (Kd.R_below (by (with_reducible repeat (first | apply Kd.R_alloc | apply Kd.R_drewN | apply Kd.R_drew)); exact (Kd.R_mono (Kd.R_far (p := ⟨gb338, 3, none⟩) (Kd.R_far (p := ⟨gb338, 2, none⟩) (Kd.R_far (p := ⟨gb338, 1, none⟩) (Kd.R_far (p := ⟨gb338, 0, none⟩) (Kd.R_types HO334.out BK338.out (by decide)) (fun _ hk => hk.2) (.int .i64 t325)) (fun _ hk => hk.2) (.slice Ao37 t326.length co37)) (fun _ hk => hk.2) (.slice Ao39 t329.length co39)) (fun _ hk => hk.2) (.slice Ao41 t332.length co41)) (fun _ h_ => h_.1))) hb); have n5_ := Aside0.mk (Kd.N_elder' (by (with_reducible repeat (first | apply Kd.N_alloc | apply Kd.N_drewN | apply Kd.N_drew)); exact (Kd.N_mono (Kd.N_far (p := ⟨gb338, 3, none⟩) (Kd.N_far (p := ⟨gb338, 2, none⟩) (Kd.N_far (p := ⟨gb338, 1, none⟩) (Kd.N_far (p := ⟨gb338, 0, none⟩) (Kd.N_mono HO337.out (fun k_ hk => (⟨hk, hk.2.2.2.2.2⟩ : _ ∧ k_ ≠ gb338))) (fun _ hk => hk.2) (.int .i64 t325)) (fun _ hk => hk.2) (.slice Ao37 t326.length co37)) (fun _ hk => hk.2) (.slice Ao39 t329.length co39)) (fun _ hk => hk.2) (.slice Ao41 t332.length co41)) (fun _ h_ => h_.1))) (Kd.R_base ho44) hb); have n6_ := Aside0.mk (Kd.R_lower (Kd.R_new' (Kd.R_new' ho44 (Kd.R_lt (by (with_reducible repeat (first | apply Kd.R_alloc | apply Kd.R_drewN | apply Kd.R_drew)); exact (Kd.R_mono (Kd.R_far (p := ⟨gb338, 3, none⟩) (Kd.R_far (p := ⟨gb338, 2, none⟩) (Kd.R_far (p := ⟨gb338, 1, none⟩) (Kd.R_far (p := ⟨gb338, 0, none⟩) (Kd.R_types HO_5.out BK338.out (by decide)) (fun _ hk => hk.2) (.int .i64 t325)) (fun _ hk => hk.2) (.slice Ao37 t326.length co37)) (fun _ hk => hk.2) (.slice Ao39 t329.length co39)) (fun _ hk => hk.2) (.slice Ao41 t332.length co41)) (fun _ h_ => h_.1))))) (Kd.R_lt (by (with_reducible repeat (first | apply Kd.R_alloc | apply Kd.R_drewN | apply Kd.R_drew)); exact (Kd.R_mono (Kd.R_far (p := ⟨gb338, 3, none⟩) (Kd.R_far (p := ⟨gb338, 2, none⟩) (Kd.R_far (p := ⟨gb338, 1, none⟩) (Kd.R_far (p := ⟨gb338, 0, none⟩) (Kd.R_types HO324.out BK338.out (by decide)) (fun _ hk => hk.2) (.int .i64 t325)) (fun _ hk => hk.2) (.slice Ao37 t326.length co37)) (fun _ hk => hk.2) (.slice Ao39 t329.length co39)) (fun _ hk => hk.2) (.slice Ao41 t332.length co41)) (fun _ h_ => h_.1))))) (below_size (by repeat (first | (with_reducible first | exact HB.out | apply below_alloc | apply pw_below_drewN | apply below_drew1 | refine below_set ?_ GE338.out) | exact HB.out)))); have n7_ := Aside0.mk (blk_below (g := gb338) (o := .cells #[.int .i64 t325, .slice Ao37 t326.length co37, .slice Ao39 t329.length co39, .slice Ao41 t332.length co41] 28 (0, 0)) (by (with_reducible repeat (first | refine blk_drewN ?_ _ | refine blk_drew ?_ | refine blk_alloc ?_ _)); refine blk_put (cs := #[.int .i64 t325, .slice Ao37 t326.length co37, .slice Ao39 t329.length co39, .slice none 0 0]) ?_ 3 _ rfl; (with_reducible repeat (first | refine blk_drewN ?_ _ | refine blk_drew ?_ | refine blk_alloc ?_ _)); refine blk_put (cs := #[.int .i64 t325, .slice Ao37 t326.length co37, .slice none 0 0, .slice none 0 0]) ?_ 2 _ rfl; (with_reducible repeat (first | refine blk_drewN ?_ _ | refine blk_drew ?_ | refine blk_alloc ?_ _)); refine blk_put (cs := #[.int .i64 t325, .slice none 0 0, .slice none 0 0, .slice none 0 0]) ?_ 1 _ rfl; (with_reducible repeat (first | refine blk_drewN ?_ _ | refine blk_drew ?_ | refine blk_alloc ?_ _)); refine blk_put (cs := #[.int .i64 0, .slice none 0 0, .slice none 0 0, .slice none 0 0]) ?_ 0 _ rfl; (with_reducible repeat (first | refine blk_drewN ?_ _ | refine blk_drew ?_ | refine blk_alloc ?_ _)); exact BK338.out) hb); have n8_ := Aside0.mk (below_step (by repeat (first | (with_reducible first | exact HB.out | apply below_alloc | apply pw_below_drewN | apply below_drew1 | refine below_set ?_ GE338.out) | exact HB.out)) hb); clear HO_5; clear HO324; clear HO328; clear HO331; clear HO334; clear HO337; clear BK338; clear HB; have HO_5 := n0_; have HO324 := n1_; have HO328 := n2_; have HO331 := n3_; have HO334 := n4_; have HO337 := n5_; have HO341 := n6_; have BK338 := n7_; have HB := n8_; clear n0_ n1_ n2_ n3_ n4_ n5_ n6_ n7_ n8_; clear hb ho44) | ((with_reducible refine gate_builtin (b := .append) (xs := #[.tmp 41, .tmp 42]) rfl ?_); (try (refine gate_guard (by rfl) ?_; dsimp only)); at_builtin; refine Kd.R_append_rows (Kd.int .u8) (w0 := w) w.heap.size rfl (.tmp 41) (.tmp 42) 22 5 (.int .u8 0) 1 rfl Tryd.underlying22 info5 rfl (by decide) (by omega) v340 y339 y312 _ _ _ (fun k_ => some k_ ≠ (.slice Ao25 y312.length co25 : Value).ownBlock ∧ some k_ ≠ (v323 : Value).ownBlock) (fun _ => False) rfl rfl ?aO ?aR (fun _ _ h => h) (fun _ h => h.elim) ?aF ?aB ?aS ?aL ?_; (case aR => repeat (first | exact (Kd.R_reads' HO_5.out).2.2 | (with_reducible refine Kd.C_alloc ?_ _) | (with_reducible refine Kd.C_drewN ?_ _) | (with_reducible refine Kd.C_drew ?_))); (case aB => exact (by repeat (first | (with_reducible first | exact HB.out | apply below_alloc | apply pw_below_drewN | apply below_drew1 | refine below_set ?_ GE338.out) | exact HB.out))); (case aF => exact (fun k_ hk => ⟨Kd.fresh' (Kd.R_lt (by (with_reducible repeat (first | apply Kd.R_alloc | apply Kd.R_drewN | apply Kd.R_drew)); exact HO_5.out)) k_ hk, Kd.fresh' (Kd.R_lt (by (with_reducible repeat (first | apply Kd.R_alloc | apply Kd.R_drewN | apply Kd.R_drew)); exact HO324.out)) k_ hk⟩)); (case aO => exact (by (with_reducible repeat (first | apply Kd.R_alloc | apply Kd.R_drewN | apply Kd.R_drew)); exact Kd.R_mono HO341.out (fun _ hk => ⟨hk.1.2, hk.2⟩))); (case aS => exact (below_size (by repeat (first | (with_reducible first | exact HB.out | apply below_alloc | apply pw_below_drewN | apply below_drew1 | refine below_set ?_ GE338.out) | exact HB.out)))); (case aL => have := LMc21.out; omega); intro v343 w45 ho hb hg hat; rw [← Ny342.out] at ho; have n0_ := Aside0.mk (Kd.R_after (ok := (fun k_ => some k_ ≠ (v323 : Value).ownBlock)) (by (with_reducible repeat (first | apply Kd.R_alloc | apply Kd.R_drewN | apply Kd.R_drew)); exact HO_5.out) hg hat); have n1_ := Aside0.mk (Kd.R_after (ok := (fun k_ => some k_ ≠ (.slice Ao25 y312.length co25 : Value).ownBlock)) (by (with_reducible repeat (first | apply Kd.R_alloc | apply Kd.R_drewN | apply Kd.R_drew)); exact HO324.out) hg hat); have n2_ := Aside0.mk (Kd.N_afterv (ok := (fun k_ => some k_ ≠ (.slice Ao25 y312.length co25 : Value).ownBlock ∧ some k_ ≠ (v323 : Value).ownBlock ∧ some k_ ≠ (.slice Ao39 t329.length co39 : Value).ownBlock ∧ some k_ ≠ (.slice Ao41 t332.length co41 : Value).ownBlock ∧ some k_ ≠ (v336 : Value).ownBlock ∧ k_ ≠ gb338)) (by (with_reducible repeat (first | apply Kd.N_alloc | apply Kd.N_drewN | apply Kd.N_drew)); exact Kd.N_mono HO328.out (fun _ hk => ⟨⟨hk.1.2.2.2.2.1, ⟨hk.1.1, ⟨hk.1.2.1, ⟨hk.1.2.2.1, ⟨hk.1.2.2.2.1, hk.1.2.2.2.2.2⟩⟩⟩⟩⟩, hk.2⟩)) hg hat); have n3_ := Aside0.mk (Kd.N_afterv (ok := (fun k_ => some k_ ≠ (.slice Ao25 y312.length co25 : Value).ownBlock ∧ some k_ ≠ (v323 : Value).ownBlock ∧ some k_ ≠ (.slice Ao37 t326.length co37 : Value).ownBlock ∧ some k_ ≠ (.slice Ao41 t332.length co41 : Value).ownBlock ∧ some k_ ≠ (v336 : Value).ownBlock ∧ k_ ≠ gb338)) (by (with_reducible repeat (first | apply Kd.N_alloc | apply Kd.N_drewN | apply Kd.N_drew)); exact Kd.N_mono HO331.out (fun _ hk => ⟨⟨hk.1.2.2.2.2.1, ⟨hk.1.1, ⟨hk.1.2.1, ⟨hk.1.2.2.1, ⟨hk.1.2.2.2.1, hk.1.2.2.2.2.2⟩⟩⟩⟩⟩, hk.2⟩)) hg hat); have n4_ := Aside0.mk (Kd.R_over' (by (with_reducible repeat (first | apply Kd.R_alloc | apply Kd.R_drewN | apply Kd.R_drew)); exact HO334.out) (Kd.R_typed (by (with_reducible repeat (first | apply Kd.R_alloc | apply Kd.R_drewN | apply Kd.R_drew)); exact HO341.out)) (by decide) hg); have n5_ := Aside0.mk (Kd.N_afterv (ok := (fun k_ => some k_ ≠ (.slice Ao25 y312.length co25 : Value).ownBlock ∧ some k_ ≠ (v323 : Value).ownBlock ∧ some k_ ≠ (.slice Ao37 t326.length co37 : Value).ownBlock ∧ some k_ ≠ (.slice Ao39 t329.length co39 : Value).ownBlock ∧ some k_ ≠ (.slice Ao41 t332.length co41 : Value).ownBlock ∧ k_ ≠ gb338)) (by (with_reducible repeat (first | apply Kd.N_alloc | apply Kd.N_drewN | apply Kd.N_drew)); exact Kd.N_mono HO337.out (fun _ hk => ⟨⟨hk.1.2.2.2.2.1, ⟨hk.1.1, ⟨hk.1.2.1, ⟨hk.1.2.2.1, ⟨hk.1.2.2.2.1, hk.1.2.2.2.2.2⟩⟩⟩⟩⟩, hk.2⟩)) hg hat); have n6_ := Aside0.mk (blk_grown (g := gb338) (o := .cells #[.int .i64 t325, .slice Ao37 t326.length co37, .slice Ao39 t329.length co39, .slice Ao41 t332.length co41] 28 (0, 0)) (by (with_reducible repeat (first | refine blk_drewN ?_ _ | refine blk_drew ?_ | refine blk_alloc ?_ _)); exact BK338.out) hg (Kd.R_ne HO341.out BK338.out (by decide))); have n7_ := Aside0.mk (hb); have n8_ := Aside0.mk (ho); clear HO_5; clear HO324; clear HO328; clear HO331; clear HO334; clear HO337; clear BK338; clear HB; clear HO341; have HO_5 := n0_; have HO324 := n1_; have HO328 := n2_; have HO331 := n3_; have HO334 := n4_; have HO337 := n5_; have BK338 := n6_; have HB := n7_; have HO344 := n8_; clear n0_ n1_ n2_ n3_ n4_ n5_ n6_ n7_ n8_; clear ho hb hg hat) | ((with_reducible refine gate_builtin (b := .append) (xs := #[.tmp 43, .tmp 44]) rfl ?_); (try (refine gate_guard (by rfl) ?_; dsimp only)); at_builtin; refine Kd.R_append_rows (Kd.int .u8) (w0 := w) w.heap.size rfl (.tmp 43) (.tmp 44) 22 5 (.int .u8 0) 1 rfl Tryd.underlying22 info5 rfl (by decide) (by omega) v343 y342 l0 _ _ _ (fun k_ => some k_ ≠ (.slice Ao25 y312.length co25 : Value).ownBlock ∧ some k_ ≠ (v323 : Value).ownBlock) (fun _ => False) rfl rfl ?aO ?aR (fun _ _ h => h) (fun _ h => h.elim) ?aF ?aB ?aS ?aL ?_; (case aR => repeat (first | exact (Kd.C_below HR0.out HB.out) | (with_reducible refine Kd.C_alloc ?_ _) | (with_reducible refine Kd.C_drewN ?_ _) | (with_reducible refine Kd.C_drew ?_))); (case aB => exact (by repeat (first | (with_reducible first | exact HB.out | apply below_alloc | apply pw_below_drewN | apply below_drew1 | refine below_set ?_ GE338.out) | exact HB.out))); (case aF => exact (fun k_ hk => ⟨Kd.fresh' (Kd.R_lt (by (with_reducible repeat (first | apply Kd.R_alloc | apply Kd.R_drewN | apply Kd.R_drew)); exact HO_5.out)) k_ hk, Kd.fresh' (Kd.R_lt (by (with_reducible repeat (first | apply Kd.R_alloc | apply Kd.R_drewN | apply Kd.R_drew)); exact HO324.out)) k_ hk⟩)); (case aO => exact (by (with_reducible repeat (first | apply Kd.R_alloc | apply Kd.R_drewN | apply Kd.R_drew)); exact HO344.out)); (case aS => exact (below_size (by repeat (first | (with_reducible first | exact HB.out | apply below_alloc | apply pw_below_drewN | apply below_drew1 | refine below_set ?_ GE338.out) | exact HB.out)))); (case aL => have := LMc22.out; omega); intro v346 w46 ho hb hg hat; rw [← Ny345.out] at ho; have n0_ := Aside0.mk (Kd.R_after (ok := (fun k_ => some k_ ≠ (v323 : Value).ownBlock)) (by (with_reducible repeat (first | apply Kd.R_alloc | apply Kd.R_drewN | apply Kd.R_drew)); exact HO_5.out) hg hat); have n1_ := Aside0.mk (Kd.R_after (ok := (fun k_ => some k_ ≠ (.slice Ao25 y312.length co25 : Value).ownBlock)) (by (with_reducible repeat (first | apply Kd.R_alloc | apply Kd.R_drewN | apply Kd.R_drew)); exact HO324.out) hg hat); have n2_ := Aside0.mk (Kd.N_afterv (ok := (fun k_ => some k_ ≠ (.slice Ao25 y312.length co25 : Value).ownBlock ∧ some k_ ≠ (v323 : Value).ownBlock ∧ some k_ ≠ (.slice Ao39 t329.length co39 : Value).ownBlock ∧ some k_ ≠ (.slice Ao41 t332.length co41 : Value).ownBlock ∧ some k_ ≠ (v336 : Value).ownBlock ∧ k_ ≠ gb338)) (by (with_reducible repeat (first | apply Kd.N_alloc | apply Kd.N_drewN | apply Kd.N_drew)); exact HO328.out) hg hat); have n3_ := Aside0.mk (Kd.N_afterv (ok := (fun k_ => some k_ ≠ (.slice Ao25 y312.length co25 : Value).ownBlock ∧ some k_ ≠ (v323 : Value).ownBlock ∧ some k_ ≠ (.slice Ao37 t326.length co37 : Value).ownBlock ∧ some k_ ≠ (.slice Ao41 t332.length co41 : Value).ownBlock ∧ some k_ ≠ (v336 : Value).ownBlock ∧ k_ ≠ gb338)) (by (with_reducible repeat (first | apply Kd.N_alloc | apply Kd.N_drewN | apply Kd.N_drew)); exact HO331.out) hg hat); have n4_ := Aside0.mk (Kd.R_over' (by (with_reducible repeat (first | apply Kd.R_alloc | apply Kd.R_drewN | apply Kd.R_drew)); exact HO334.out) (Kd.R_typed (by (with_reducible repeat (first | apply Kd.R_alloc | apply Kd.R_drewN | apply Kd.R_drew)); exact HO344.out)) (by decide) hg); have n5_ := Aside0.mk (Kd.N_afterv (ok := (fun k_ => some k_ ≠ (.slice Ao25 y312.length co25 : Value).ownBlock ∧ some k_ ≠ (v323 : Value).ownBlock ∧ some k_ ≠ (.slice Ao37 t326.length co37 : Value).ownBlock ∧ some k_ ≠ (.slice Ao39 t329.length co39 : Value).ownBlock ∧ some k_ ≠ (.slice Ao41 t332.length co41 : Value).ownBlock ∧ k_ ≠ gb338)) (by (with_reducible repeat (first | apply Kd.N_alloc | apply Kd.N_drewN | apply Kd.N_drew)); exact HO337.out) hg hat); have n6_ := Aside0.mk (blk_grown (g := gb338) (o := .cells #[.int .i64 t325, .slice Ao37 t326.length co37, .slice Ao39 t329.length co39, .slice Ao41 t332.length co41] 28 (0, 0)) (by (with_reducible repeat (first | refine blk_drewN ?_ _ | refine blk_drew ?_ | refine blk_alloc ?_ _)); exact BK338.out) hg (Kd.R_ne HO344.out BK338.out (by decide))); have n7_ := Aside0.mk (hb); have n8_ := Aside0.mk (ho); clear HO_5; clear HO324; clear HO328; clear HO331; clear HO334; clear HO337; clear BK338; clear HB; clear HO344; have HO_5 := n0_; have HO324 := n1_; have HO328 := n2_; have HO331 := n3_; have HO334 := n4_; have HO337 := n5_; have BK338 := n6_; have HB := n7_; have HO347 := n8_; clear n0_ n1_ n2_ n3_ n4_ n5_ n6_ n7_ n8_; clear ho hb hg hat; obtain ⟨Ao47, co47, eo47⟩ := Kd.R_slice HO347.out; subst eo47) | ((with_reducible refine gate_callee (f := 9) rfl ?_); refine goesL_ (some 46) rfl rfl Tryd.func9 (by kernel_rfl) rfl #[.slice Ao47 y345.length co47] rfl (by (try simp only [List.map_toArray, List.map_cons, List.map_nil]); first | done | rfl | (simp only [List.length_drop, List.length_take]; rfl)) ?_; (with_reducible refine (script_Read.calls kj10 _ _ y345 t348 t349 t352 t355 t358 _ ?side1 ?side2 A23.out ?sideG).mono ?_); (case sideG => first | exact HG | exact ⟨HG.out.below (by repeat (first | (with_reducible first | exact HB.out | apply below_alloc | apply pw_below_drewN | apply below_drew1) | exact HB.out))⟩); (case side1 => repeat (first | exact (Kd.R_reads' HO347.out).2.2 | (with_reducible refine Kd.C_alloc ?_ _) | (with_reducible refine Kd.C_drewN ?_ _) | (with_reducible refine Kd.C_drew ?_))); (case side2 => exact (Kd.R_reads' HO347.out).2.1); rintro e w48 ⟨v350, v353, v356, v359, rfl, ho0, ho1, ho2, ho3, hb⟩; refine ⟨_, rfl, ?_⟩; have n0_ := Aside0.mk (Kd.R_below (by (with_reducible repeat (first | apply Kd.R_alloc | apply Kd.R_drewN | apply Kd.R_drew)); exact HO_5.out) hb); have n1_ := Aside0.mk (Kd.R_below (by (with_reducible repeat (first | apply Kd.R_alloc | apply Kd.R_drewN | apply Kd.R_drew)); exact HO324.out) hb); have n2_ := Aside0.mk (Kd.N_mono (Kd.N_told (Kd.N_told (Kd.N_told (Kd.N_told (Kd.N_old (by (with_reducible repeat (first | apply Kd.N_alloc | apply Kd.N_drewN | apply Kd.N_drew)); exact HO328.out) hb) (Kd.N_base ho0)) (Kd.N_base ho1)) (Kd.R_base ho2)) (Kd.N_base ho3)) (fun _ h_ => h_.1)); have n3_ := Aside0.mk (Kd.N_mono (Kd.N_told (Kd.N_told (Kd.N_told (Kd.N_told (Kd.N_old (by (with_reducible repeat (first | apply Kd.N_alloc | apply Kd.N_drewN | apply Kd.N_drew)); exact HO331.out) hb) (Kd.N_base ho0)) (Kd.N_base ho1)) (Kd.R_base ho2)) (Kd.N_base ho3)) (fun _ h_ => h_.1)); have n4_ := Aside0.mk (Kd.R_elder' (by (with_reducible repeat (first | apply Kd.R_alloc | apply Kd.R_drewN | apply Kd.R_drew)); exact HO334.out) (Kd.R_base ho2) hb); have n5_ := Aside0.mk (Kd.N_mono (Kd.N_told (Kd.N_told (Kd.N_told (Kd.N_told (Kd.N_old (by (with_reducible repeat (first | apply Kd.N_alloc | apply Kd.N_drewN | apply Kd.N_drew)); exact HO337.out) hb) (Kd.N_base ho0)) (Kd.N_base ho1)) (Kd.R_base ho2)) (Kd.N_base ho3)) (fun _ h_ => h_.1)); have n6_ := Aside0.mk (Kd.R_below (by (with_reducible repeat (first | apply Kd.R_alloc | apply Kd.R_drewN | apply Kd.R_drew)); exact HO347.out) hb); have n7_ := Aside0.mk (Kd.N_lower (Kd.N_mono (ok' := fun k_ => some k_ ≠ (v353 : Value).ownBlock ∧ some k_ ≠ (v356 : Value).ownBlock ∧ some k_ ≠ (v359 : Value).ownBlock ∧ some k_ ≠ (.slice Ao25 y312.length co25 : Value).ownBlock ∧ some k_ ≠ (v323 : Value).ownBlock ∧ some k_ ≠ (.slice Ao37 t326.length co37 : Value).ownBlock ∧ some k_ ≠ (.slice Ao39 t329.length co39 : Value).ownBlock ∧ some k_ ≠ (.slice Ao41 t332.length co41 : Value).ownBlock ∧ some k_ ≠ (v336 : Value).ownBlock ∧ some k_ ≠ (.slice Ao47 y345.length co47 : Value).ownBlock ∧ k_ ≠ gb338) ho0 (fun k_ hk_ => ⟨hk_.2.1, hk_.2.2.1, hk_.2.2.2, (Kd.fresh' (Kd.R_lt (by (with_reducible repeat (first | apply Kd.R_alloc | apply Kd.R_drewN | apply Kd.R_drew)); exact HO_5.out)) k_ hk_.1), (Kd.fresh' (Kd.R_lt (by (with_reducible repeat (first | apply Kd.R_alloc | apply Kd.R_drewN | apply Kd.R_drew)); exact HO324.out)) k_ hk_.1), (Kd.fresh' (Kd.N_lt (by (with_reducible repeat (first | apply Kd.N_alloc | apply Kd.N_drewN | apply Kd.N_drew)); exact HO328.out)) k_ hk_.1), (Kd.fresh' (Kd.N_lt (by (with_reducible repeat (first | apply Kd.N_alloc | apply Kd.N_drewN | apply Kd.N_drew)); exact HO331.out)) k_ hk_.1), (Kd.fresh' (Kd.R_lt (by (with_reducible repeat (first | apply Kd.R_alloc | apply Kd.R_drewN | apply Kd.R_drew)); exact HO334.out)) k_ hk_.1), (Kd.fresh' (Kd.N_lt (by (with_reducible repeat (first | apply Kd.N_alloc | apply Kd.N_drewN | apply Kd.N_drew)); exact HO337.out)) k_ hk_.1), (Kd.fresh' (Kd.R_lt (by (with_reducible repeat (first | apply Kd.R_alloc | apply Kd.R_drewN | apply Kd.R_drew)); exact HO347.out)) k_ hk_.1), (Kd.freshB (g := gb338) (o := .cells #[.int .i64 t325, .slice Ao37 t326.length co37, .slice Ao39 t329.length co39, .slice Ao41 t332.length co41] 28 (0, 0)) (by (with_reducible repeat (first | refine blk_drewN ?_ _ | refine blk_drew ?_ | refine blk_alloc ?_ _)); exact BK338.out) k_ hk_.1)⟩)) (below_size (by repeat (first | (with_reducible first | exact HB.out | apply below_alloc | apply pw_below_drewN | apply below_drew1 | refine below_set ?_ GE338.out) | exact HB.out)))); have n8_ := Aside0.mk (Kd.N_lower (Kd.N_mono (ok' := fun k_ => some k_ ≠ (v350 : Value).ownBlock ∧ some k_ ≠ (v356 : Value).ownBlock ∧ some k_ ≠ (v359 : Value).ownBlock ∧ some k_ ≠ (.slice Ao25 y312.length co25 : Value).ownBlock ∧ some k_ ≠ (v323 : Value).ownBlock ∧ some k_ ≠ (.slice Ao37 t326.length co37 : Value).ownBlock ∧ some k_ ≠ (.slice Ao39 t329.length co39 : Value).ownBlock ∧ some k_ ≠ (.slice Ao41 t332.length co41 : Value).ownBlock ∧ some k_ ≠ (v336 : Value).ownBlock ∧ some k_ ≠ (.slice Ao47 y345.length co47 : Value).ownBlock ∧ k_ ≠ gb338) ho1 (fun k_ hk_ => ⟨hk_.2.1, hk_.2.2.1, hk_.2.2.2, (Kd.fresh' (Kd.R_lt (by (with_reducible repeat (first | apply Kd.R_alloc | apply Kd.R_drewN | apply Kd.R_drew)); exact HO_5.out)) k_ hk_.1), (Kd.fresh' (Kd.R_lt (by (with_reducible repeat (first | apply Kd.R_alloc | apply Kd.R_drewN | apply Kd.R_drew)); exact HO324.out)) k_ hk_.1), (Kd.fresh' (Kd.N_lt (by (with_reducible repeat (first | apply Kd.N_alloc | apply Kd.N_drewN | apply Kd.N_drew)); exact HO328.out)) k_ hk_.1), (Kd.fresh' (Kd.N_lt (by (with_reducible repeat (first | apply Kd.N_alloc | apply Kd.N_drewN | apply Kd.N_drew)); exact HO331.out)) k_ hk_.1), (Kd.fresh' (Kd.R_lt (by (with_reducible repeat (first | apply Kd.R_alloc | apply Kd.R_drewN | apply Kd.R_drew)); exact HO334.out)) k_ hk_.1), (Kd.fresh' (Kd.N_lt (by (with_reducible repeat (first | apply Kd.N_alloc | apply Kd.N_drewN | apply Kd.N_drew)); exact HO337.out)) k_ hk_.1), (Kd.fresh' (Kd.R_lt (by (with_reducible repeat (first | apply Kd.R_alloc | apply Kd.R_drewN | apply Kd.R_drew)); exact HO347.out)) k_ hk_.1), (Kd.freshB (g := gb338) (o := .cells #[.int .i64 t325, .slice Ao37 t326.length co37, .slice Ao39 t329.length co39, .slice Ao41 t332.length co41] 28 (0, 0)) (by (with_reducible repeat (first | refine blk_drewN ?_ _ | refine blk_drew ?_ | refine blk_alloc ?_ _)); exact BK338.out) k_ hk_.1)⟩)) (below_size (by repeat (first | (with_reducible first | exact HB.out | apply below_alloc | apply pw_below_drewN | apply below_drew1 | refine below_set ?_ GE338.out) | exact HB.out)))); have n9_ := Aside0.mk (Kd.R_lower (Kd.R_new' (Kd.R_mono (ok' := fun k_ => True) ho2 (fun _ hk_ => trivial)) (Kd.R_lt (by (with_reducible repeat (first | apply Kd.R_alloc | apply Kd.R_drewN | apply Kd.R_drew)); exact HO334.out))) (below_size (by repeat (first | (with_reducible first | exact HB.out | apply below_alloc | apply pw_below_drewN | apply below_drew1 | refine below_set ?_ GE338.out) | exact HB.out)))); have n10_ := Aside0.mk (Kd.N_lower (Kd.N_mono (ok' := fun k_ => some k_ ≠ (v350 : Value).ownBlock ∧ some k_ ≠ (v353 : Value).ownBlock ∧ some k_ ≠ (v356 : Value).ownBlock ∧ some k_ ≠ (.slice Ao25 y312.length co25 : Value).ownBlock ∧ some k_ ≠ (v323 : Value).ownBlock ∧ some k_ ≠ (.slice Ao37 t326.length co37 : Value).ownBlock ∧ some k_ ≠ (.slice Ao39 t329.length co39 : Value).ownBlock ∧ some k_ ≠ (.slice Ao41 t332.length co41 : Value).ownBlock ∧ some k_ ≠ (v336 : Value).ownBlock ∧ some k_ ≠ (.slice Ao47 y345.length co47 : Value).ownBlock ∧ k_ ≠ gb338) ho3 (fun k_ hk_ => ⟨hk_.2.1, hk_.2.2.1, hk_.2.2.2, (Kd.fresh' (Kd.R_lt (by (with_reducible repeat (first | apply Kd.R_alloc | apply Kd.R_drewN | apply Kd.R_drew)); exact HO_5.out)) k_ hk_.1), (Kd.fresh' (Kd.R_lt (by (with_reducible repeat (first | apply Kd.R_alloc | apply Kd.R_drewN | apply Kd.R_drew)); exact HO324.out)) k_ hk_.1), (Kd.fresh' (Kd.N_lt (by (with_reducible repeat (first | apply Kd.N_alloc | apply Kd.N_drewN | apply Kd.N_drew)); exact HO328.out)) k_ hk_.1), (Kd.fresh' (Kd.N_lt (by (with_reducible repeat (first | apply Kd.N_alloc | apply Kd.N_drewN | apply Kd.N_drew)); exact HO331.out)) k_ hk_.1), (Kd.fresh' (Kd.R_lt (by (with_reducible repeat (first | apply Kd.R_alloc | apply Kd.R_drewN | apply Kd.R_drew)); exact HO334.out)) k_ hk_.1), (Kd.fresh' (Kd.N_lt (by (with_reducible repeat (first | apply Kd.N_alloc | apply Kd.N_drewN | apply Kd.N_drew)); exact HO337.out)) k_ hk_.1), (Kd.fresh' (Kd.R_lt (by (with_reducible repeat (first | apply Kd.R_alloc | apply Kd.R_drewN | apply Kd.R_drew)); exact HO347.out)) k_ hk_.1), (Kd.freshB (g := gb338) (o := .cells #[.int .i64 t325, .slice Ao37 t326.length co37, .slice Ao39 t329.length co39, .slice Ao41 t332.length co41] 28 (0, 0)) (by (with_reducible repeat (first | refine blk_drewN ?_ _ | refine blk_drew ?_ | refine blk_alloc ?_ _)); exact BK338.out) k_ hk_.1)⟩)) (below_size (by repeat (first | (with_reducible first | exact HB.out | apply below_alloc | apply pw_below_drewN | apply below_drew1 | refine below_set ?_ GE338.out) | exact HB.out)))); have n11_ := Aside0.mk (blk_below (g := gb338) (o := .cells #[.int .i64 t325, .slice Ao37 t326.length co37, .slice Ao39 t329.length co39, .slice Ao41 t332.length co41] 28 (0, 0)) (by (with_reducible repeat (first | refine blk_drewN ?_ _ | refine blk_drew ?_ | refine blk_alloc ?_ _)); exact BK338.out) hb); have n12_ := Aside0.mk (below_step (by repeat (first | (with_reducible first | exact HB.out | apply below_alloc | apply pw_below_drewN | apply below_drew1 | refine below_set ?_ GE338.out) | exact HB.out)) hb); clear HO_5; clear HO324; clear HO328; clear HO331; clear HO334; clear HO337; clear HO347; clear BK338; clear HB; have HO_5 := n0_; have HO324 := n1_; have HO328 := n2_; have HO331 := n3_; have HO334 := n4_; have HO337 := n5_; have HO347 := n6_; have HO351 := n7_; have HO354 := n8_; have HO357 := n9_; have HO360 := n10_; have BK338 := n11_; have HB := n12_; clear n0_ n1_ n2_ n3_ n4_ n5_ n6_ n7_ n8_ n9_ n10_ n11_ n12_; (try clear hb); (try clear hb2); (try clear hk); (try clear hi); (try clear ho0); (try clear ho1); (try clear ho2); (try clear ho3)) | ((with_reducible refine gate_dst (N := 9) rfl ?_); (try (refine gate_guard (by rfl) ?_; dsimp only)); refine box_event ?hg (N := 9) ?hd (cs := #[.int .i64 0, .slice none 0 0, .slice none 0 0, .slice none 0 0]) (t := 28) ?hr ?_; (case hd => rfl); (case hg => rfl); (case hr => first | (go_simp; done) | (go_simp; rfl)); intro gb361 hg w49 hbox hb; have n0_ := Aside0.mk (Kd.R_below (by (with_reducible repeat (first | apply Kd.R_alloc | apply Kd.R_drewN | apply Kd.R_drew)); exact HO_5.out) hb); have n1_ := Aside0.mk (Kd.R_below (by (with_reducible repeat (first | apply Kd.R_alloc | apply Kd.R_drewN | apply Kd.R_drew)); exact HO324.out) hb); have n2_ := Aside0.mk (Kd.N_below (Kd.N_elderB (by (with_reducible repeat (first | apply Kd.N_alloc | apply Kd.N_drewN | apply Kd.N_drew)); exact HO328.out) gb361 (Nat.le_of_eq hg.symm)) hb); have n3_ := Aside0.mk (Kd.N_below (Kd.N_elderB (by (with_reducible repeat (first | apply Kd.N_alloc | apply Kd.N_drewN | apply Kd.N_drew)); exact HO331.out) gb361 (Nat.le_of_eq hg.symm)) hb); have n4_ := Aside0.mk (Kd.R_below (by (with_reducible repeat (first | apply Kd.R_alloc | apply Kd.R_drewN | apply Kd.R_drew)); exact HO334.out) hb); have n5_ := Aside0.mk (Kd.N_below (Kd.N_elderB (by (with_reducible repeat (first | apply Kd.N_alloc | apply Kd.N_drewN | apply Kd.N_drew)); exact HO337.out) gb361 (Nat.le_of_eq hg.symm)) hb); have n6_ := Aside0.mk (Kd.R_below (by (with_reducible repeat (first | apply Kd.R_alloc | apply Kd.R_drewN | apply Kd.R_drew)); exact HO347.out) hb); have n7_ := Aside0.mk (Kd.N_below (Kd.N_elderB (by (with_reducible repeat (first | apply Kd.N_alloc | apply Kd.N_drewN | apply Kd.N_drew)); exact HO351.out) gb361 (Nat.le_of_eq hg.symm)) hb); have n8_ := Aside0.mk (Kd.N_below (Kd.N_elderB (by (with_reducible repeat (first | apply Kd.N_alloc | apply Kd.N_drewN | apply Kd.N_drew)); exact HO354.out) gb361 (Nat.le_of_eq hg.symm)) hb); have n9_ := Aside0.mk (Kd.R_below (by (with_reducible repeat (first | apply Kd.R_alloc | apply Kd.R_drewN | apply Kd.R_drew)); exact HO357.out) hb); have n10_ := Aside0.mk (Kd.N_below (Kd.N_elderB (by (with_reducible repeat (first | apply Kd.N_alloc | apply Kd.N_drewN | apply Kd.N_drew)); exact HO360.out) gb361 (Nat.le_of_eq hg.symm)) hb); have n11_ := Aside0.mk (blk_below (g := gb338) (o := .cells #[.int .i64 t325, .slice Ao37 t326.length co37, .slice Ao39 t329.length co39, .slice Ao41 t332.length co41] 28 (0, 0)) (by (with_reducible repeat (first | refine blk_drewN ?_ _ | refine blk_drew ?_ | refine blk_alloc ?_ _)); exact BK338.out) hb); have n12_ := Aside0.mk (below_step (by repeat (first | (with_reducible first | exact HB.out | apply below_alloc | apply pw_below_drewN | apply below_drew1 | refine below_set ?_ GE338.out) | exact HB.out)) hb); have n13_ := Aside0.mk (hbox); have n14_ := Aside0.mk ((by rw [hg]; exact (below_size (by repeat (first | (with_reducible first | exact HB.out | apply below_alloc | apply pw_below_drewN | apply below_drew1 | refine below_set ?_ GE338.out) | exact HB.out))) : w.heap.size ≤ gb361)); have n15_ := Aside0.mk ((by rw [hg]; exact (below_size (by repeat (first | (with_reducible first | exact HB.out | apply below_alloc | apply pw_below_drewN | apply below_drew1 | refine below_set ?_ GE338.out) | exact HB.out))) : w.heap.size ≤ gb361)); have n16_ := Aside0.mk ((by rw [hg]; exact Nat.ne_of_lt (blk_lt (g := gb338) (o := .cells #[.int .i64 t325, .slice Ao37 t326.length co37, .slice Ao39 t329.length co39, .slice Ao41 t332.length co41] 28 (0, 0)) (by (with_reducible repeat (first | refine blk_drewN ?_ _ | refine blk_drew ?_ | refine blk_alloc ?_ _)); exact BK338.out)) : gb338 ≠ gb361)); have n17_ := Aside0.mk ((by rw [hg]; exact Nat.ne_of_gt (blk_lt (g := gb338) (o := .cells #[.int .i64 t325, .slice Ao37 t326.length co37, .slice Ao39 t329.length co39, .slice Ao41 t332.length co41] 28 (0, 0)) (by (with_reducible repeat (first | refine blk_drewN ?_ _ | refine blk_drew ?_ | refine blk_alloc ?_ _)); exact BK338.out)) : gb361 ≠ gb338)); clear HO_5; clear HO324; clear HO328; clear HO331; clear HO334; clear HO337; clear HO347; clear HO351; clear HO354; clear HO357; clear HO360; clear BK338; clear HB; have HO_5 := n0_; have HO324 := n1_; have HO328 := n2_; have HO331 := n3_; have HO334 := n4_; have HO337 := n5_; have HO347 := n6_; have HO351 := n7_; have HO354 := n8_; have HO357 := n9_; have HO360 := n10_; have BK338 := n11_; have HB := n12_; have BK361 := n13_; have GW361 := n14_; have GE361 := n15_; have NB338_361 := n16_; have NB361_338 := n17_; clear n0_ n1_ n2_ n3_ n4_ n5_ n6_ n7_ n8_ n9_ n10_ n11_ n12_ n13_ n14_ n15_ n16_ n17_; clear hb hbox hg; have hnb50 := NB361_338.out; have hnc50 := NB338_361.out; have hcz51_0 : w49.cell? ⟨gb361, 0, none⟩ = some (.int .i64 0) := (blk_cell BK361.out 0).trans rfl; have hcz51_1 : w49.cell? ⟨gb361, 1, none⟩ = some (.slice none 0 0) := (blk_cell BK361.out 1).trans rfl; have hcz51_2 : w49.cell? ⟨gb361, 2, none⟩ = some (.slice none 0 0) := (blk_cell BK361.out 2).trans rfl; have hcz51_3 : w49.cell? ⟨gb361, 3, none⟩ = some (.slice none 0 0) := (blk_cell BK361.out 3).trans rfl; have hfz51_0 := blk_frozen BK361.out 0; have hfz51_1 := blk_frozen BK361.out 1; have hfz51_2 := blk_frozen BK361.out 2; have hfz51_3 := blk_frozen BK361.out 3; obtain ⟨Ao52, co52, eo52⟩ := Kd.N_slice HO351.out; subst eo52; obtain ⟨Ao53, co53, eo53⟩ := Kd.N_slice HO354.out; subst eo53; obtain ⟨Ao54, co54, eo54⟩ := Kd.R_slice HO357.out; subst eo54; obtain ⟨Ao55, co55, eo55⟩ := Kd.N_slice HO337.out; subst eo55; obtain ⟨Ao56, co56, eo56⟩ := Kd.N_slice HO360.out; subst eo56))
  go_ret
  exact ⟨by first | rfl | (simp [errW_none, errW_some] <;> rfl) | (simp [*, errW_none, errW_some] <;> rfl), by repeat (first | (with_reducible first | exact HB.out | apply below_alloc | apply pw_below_drewN | apply below_drew1 | refine below_set ?_ GE338.out | refine below_set ?_ GE361.out) | exact HB.out)⟩
 rw [if_neg c24] at H
 have c24b0 : decide ((t358.length : Int) < (t335.length : Int)) = false := decide_eq_false c24
 have c24b1 : decide (t358.length < t335.length) = false := decide_eq_false (fun h => c24 (Int.ofNat_lt.mpr h))
 clear c24
 obtain ⟨ji57, hji57⟩ : ∃ j_ : Int, (mx (wrap64 ((t335.length : Int) - 1)) 0) = j_ := ⟨_, rfl⟩
 replace H : (if 0 ≤ (ji57) then (if (ji57) ≤ (t335.length : Int) then (if (ji57) ≤ (t358.length : Int) then ((treelineref24_SameOps.f kj10 (t335.take ((ji57) : Int).toNat) (t358.take ((ji57) : Int).toNat)).bind fun t372 => (some t372)) else (none)) else (none)) else (none)) = some r := by first | (rw [hji57] at H; exact H) | (simp only [hji57] at H ⊢; exact H)
 (try rw [hji57] at A20)
 (try rw [hji57] at A23)
 (try (have hji57l : 0 ≤ ji57 := by (rw [← hji57]; unfold mx; (repeat' split) <;> omega)))
 (try (have hji57m : 0 ≤ ji57 := by omega))
 have hji57_ : (if (wrap64 ((t335.length : Int) - 1)) < 0 then 0 else (wrap64 ((t335.length : Int) - 1))) = ji57 := hji57
 by_cases c58 : 0 ≤ (ji57)
 rotate_left
 ·rw [if_neg c58] at H
  exact absurd H (by simp)
 rw [if_pos c58] at H
 have c58b0 := eq_true c58
 have c58b1 : decide (0 ≤ (ji57)) = true := decide_eq_true c58
 clear c58
 by_cases c59 : (ji57) ≤ (t335.length : Int)
 rotate_left
 ·rw [if_neg c59] at H
  exact absurd H (by simp)
 rw [if_pos c59] at H
 have c59b0 := eq_true c59
 have c59b1 : decide ((ji57) ≤ (t335.length : Int)) = true := decide_eq_true c59
 clear c59
 obtain ⟨y362, hy362⟩ : ∃ y_ : List (S39), y_ = (t335.take ((ji57) : Int).toNat) := ⟨_, rfl⟩
 replace H : (if (ji57) ≤ (t358.length : Int) then ((treelineref24_SameOps.f kj10 y362 (t358.take ((ji57) : Int).toNat)).bind fun t372 => (some t372)) else (none)) = some r := by first | (rw [hy362]; with_reducible exact H) | (have H2_ := (Option.bind_some _ _).symm.trans H; rw [hy362]; with_reducible exact H2_) | (have H2_ := (Option.bind_some _ _).symm.trans H; with_reducible exact H2_) | with_reducible exact H | (rw [hy362]; exact H) | exact H
 have Ny362 := Aside0.mk hy362
 clear hy362
 have c60b0 := eq_true (of_decide_eq_true (by first | (with_reducible assumption) | assumption) : 0 ≤ (ji57))
 by_cases c61 : (ji57) ≤ (t358.length : Int)
 rotate_left
 ·rw [if_neg c61] at H
  exact absurd H (by simp)
 rw [if_pos c61] at H
 have c61b0 := eq_true c61
 have c61b1 : decide ((ji57) ≤ (t358.length : Int)) = true := decide_eq_true c61
 clear c61
 obtain ⟨y367, hy367⟩ : ∃ y_ : List (S39), y_ = (t358.take ((ji57) : Int).toNat) := ⟨_, rfl⟩
 replace H : ((treelineref24_SameOps.f kj10 y362 y367).bind fun t372 => (some t372)) = some r := by first | (rw [hy367]; with_reducible exact H) | (have H2_ := (Option.bind_some _ _).symm.trans H; rw [hy367]; with_reducible exact H2_) | (have H2_ := (Option.bind_some _ _).symm.trans H; with_reducible exact H2_) | with_reducible exact H | (rw [hy367]; exact H) | exact H
 have Ny367 := Aside0.mk hy367
 clear hy367
 replace H := Option.bind_eq_some_iff.mp H
 obtain ⟨t372, A620, H⟩ := H
 replace H : (some t372) = some r := H
 have A62 := Aside0.mk A620
 clear A620
 obtain rfl := Option.some.inj H
 obtain ⟨Ao63, co63, eo63⟩ := Kd.R_slice HO_5.out
 subst eo63
 try go_wp2
 have n0_ := Aside0.mk (Kd.R_drew HO_5.out)
 have n1_ := Aside0.mk (below_drew1 HB.out)
 clear HO_5
 clear HB
 have HO_5 := n0_
 have HB := n1_
 clear n0_ n1_
 obtain ⟨i065, hi065, _, hsz65, _⟩ := info_parts info5
 obtain ⟨hcut65, hA65, hC65⟩ := print_take_of (P := Tryd.prog) (Value.int .u8) 0 22 5 .i64 Tryd.underlying22 hi065 hsz65 A0 c0 l0 x6_10 (of_decide_eq_true (by first | (with_reducible assumption) | assumption)) (of_decide_eq_true (by first | (with_reducible assumption) | assumption)) HC0.out
 have HR321 := Aside0.mk (Kd.C_of_reads (h1 := fun _ => rfl) (hA65 _ (Kd.reads_of_C HR0.out)))
 have HC321 := Aside0.mk hC65
 clear hA65 hC65 hi065 hsz65
 refine start_ (n := 14) (S := fun w' => True) (ds := []) #[false, false, false, false, false, false, false, false, false, false, false, false, false, false] (by kernel_rfl) rfl rfl trivial (fun hHeld => ?_); refine with_tabW treelinelaw24_ScriptFront.tab7 treelinelaw24_ScriptFront.bits7 (fun HT_ HW_ => ?_)
 generalize wc.drew = w64 at HO_5 HB HR321 hHeld ⊢
 refine pure_ (i := 1) (N := some 31) (v := ?_) (a' := ?_) #[false, true, false, false, false, false, false, false, false, false, false, false, false, false] rfl rfl (any_of HT_.out (by kernel_rfl)) (fun _ _ _ h => h) (Or.inl ⟨by rfl, ?_⟩) ?_ ?_
 rotate_left
 ·intro w'
  go_simp
  with_reducible rfl
 rotate_left
 ·simp only [Act.put, List.setIfInBounds_toArray, List.set_cons_zero, List.set_cons_succ, i64_w, i32_w]
  rfl
 refine pure_ (i := 3) (N := some 33) (v := ?_) (a' := ?_) #[false, true, false, true, false, false, false, false, false, false, false, false, false, false] rfl rfl (any_of HT_.out (by kernel_rfl)) (fun _ _ _ h => h) (Or.inl ⟨by rfl, ?_⟩) ?_ ?_
 rotate_left
 ·intro w'
  go_simp
  with_reducible rfl
 rotate_left
 ·simp only [Act.put, List.setIfInBounds_toArray, List.set_cons_zero, List.set_cons_succ, i64_w, i32_w]
  rfl
 refine pure_ (i := 4) (N := some 34) (v := ?_) (a' := ?_) #[false, true, false, true, true, false, false, false, false, false, false, false, false, false] rfl rfl (any_of HT_.out (by kernel_rfl)) (fun _ _ _ h => h) (Or.inl ⟨by rfl, ?_⟩) ?_ ?_
 rotate_left
 ·intro w'
  go_simp
  with_reducible rfl
 rotate_left
 ·simp only [Act.put, List.setIfInBounds_toArray, List.set_cons_zero, List.set_cons_succ, i64_w, i32_w]
  rfl
 refine pure_ (i := 5) (N := some 35) (v := ?_) (a' := ?_) #[false, true, false, true, true, true, false, false, false, false, false, false, false, false] rfl rfl (any_of HT_.out (by kernel_rfl)) (fun _ _ _ h => h) (Or.inl ⟨by rfl, ?_⟩) ?_ ?_
 rotate_left
 ·intro w'
  go_simp
  with_reducible rfl
 rotate_left
 ·simp only [Act.put, List.setIfInBounds_toArray, List.set_cons_zero, List.set_cons_succ, i64_w, i32_w]
  rfl
 refine join_ (σ := Value × Value × Value × Value × Value × Value × Value × Nat) 2 #[true, true, true, true, true, true, true, true, true, true, true, true, false, false] (fun s_ => [(30, s_.1), (32, s_.2.1), (36, s_.2.2.1), (37, .tuple #[.agg #[.int .i64 t325, s_.2.2.2.1, s_.2.2.2.2.1, s_.2.2.2.2.2.1], s_.2.2.2.2.2.2.1]), (7, .pointer (some ⟨s_.2.2.2.2.2.2.2, 0, none⟩)), (29, .tuple #[.agg #[.int .i64 t325, s_.2.2.2.1, s_.2.2.2.2.1, s_.2.2.2.2.2.1], s_.2.2.2.2.2.2.1]), (38, .agg #[.int .i64 t325, s_.2.2.2.1, s_.2.2.2.2.1, s_.2.2.2.2.2.1]), (39, s_.2.2.2.2.2.2.1)]) (fun s_ w' => (Kd.R (Kd.int .u8) 5 w' w.heap.size (fun k_ => some k_ ≠ (.slice Ao63 y312.length co63 : Value).ownBlock) s_.2.2.1 y322) ∧ (Kd.N k51 51 w' w.heap.size (fun k_ => some k_ ≠ (s_.2.2.1 : Value).ownBlock ∧ some k_ ≠ (s_.2.2.2.2.1 : Value).ownBlock ∧ some k_ ≠ (s_.2.2.2.2.2.1 : Value).ownBlock ∧ some k_ ≠ (s_.2.2.2.2.2.2.1 : Value).ownBlock ∧ some k_ ≠ (.slice Ao63 y312.length co63 : Value).ownBlock ∧ k_ ≠ s_.2.2.2.2.2.2.2) s_.2.2.2.1 t326) ∧ (Kd.N (Kd.slice 3 (Kd.int .i64)) 64 w' w.heap.size (fun k_ => some k_ ≠ (s_.2.2.1 : Value).ownBlock ∧ some k_ ≠ (s_.2.2.2.1 : Value).ownBlock ∧ some k_ ≠ (s_.2.2.2.2.2.1 : Value).ownBlock ∧ some k_ ≠ (s_.2.2.2.2.2.2.1 : Value).ownBlock ∧ some k_ ≠ (.slice Ao63 y312.length co63 : Value).ownBlock ∧ k_ ≠ s_.2.2.2.2.2.2.2) s_.2.2.2.2.1 t329) ∧ (Kd.R k66 66 w' w.heap.size (fun _ => True) s_.2.2.2.2.2.1 t332) ∧ (Kd.N k39 39 w' w.heap.size (fun k_ => some k_ ≠ (s_.2.2.1 : Value).ownBlock ∧ some k_ ≠ (s_.2.2.2.1 : Value).ownBlock ∧ some k_ ≠ (s_.2.2.2.2.1 : Value).ownBlock ∧ some k_ ≠ (s_.2.2.2.2.2.1 : Value).ownBlock ∧ some k_ ≠ (.slice Ao63 y312.length co63 : Value).ownBlock ∧ k_ ≠ s_.2.2.2.2.2.2.2) s_.2.2.2.2.2.2.1 t335) ∧ (Kd.R (Kd.int .u8) 5 w' w.heap.size (fun k_ => some k_ ≠ (s_.2.2.1 : Value).ownBlock) (.slice Ao63 y312.length co63) y312) ∧ (w'.heap[s_.2.2.2.2.2.2.2]? = some (.cells #[.int .i64 0, .slice none 0 0, .slice none 0 0, .slice none 0 0] 28 (0, 0))) ∧ (w.heap.size ≤ s_.2.2.2.2.2.2.2) ∧ (w.heap.size ≤ s_.2.2.2.2.2.2.2) ∧ (Below w.heap.size w w')) ?_ ?_
 rotate_left
 ·intro hJ0_2_6_7_11
  refine join_ (σ := Value × Value × Value × Value × Value × Value × Value) 3 #[true, true, true, true, true, true, true, true, true, true, true, false, false, false] (fun s_ => [(30, s_.1), (32, s_.2.1), (36, s_.2.2.1), (37, .tuple #[.agg #[.int .i64 t325, s_.2.2.2.1, s_.2.2.2.2.1, s_.2.2.2.2.2.1], s_.2.2.2.2.2.2]), (29, .tuple #[.agg #[.int .i64 t325, s_.2.2.2.1, s_.2.2.2.2.1, s_.2.2.2.2.2.1], s_.2.2.2.2.2.2]), (38, .agg #[.int .i64 t325, s_.2.2.2.1, s_.2.2.2.2.1, s_.2.2.2.2.2.1]), (39, s_.2.2.2.2.2.2)]) (fun s_ w' => (Kd.R (Kd.int .u8) 5 w' w.heap.size (fun k_ => some k_ ≠ (.slice Ao63 y312.length co63 : Value).ownBlock) s_.2.2.1 y322) ∧ (Kd.N k51 51 w' w.heap.size (fun k_ => some k_ ≠ (s_.2.2.1 : Value).ownBlock ∧ some k_ ≠ (s_.2.2.2.2.1 : Value).ownBlock ∧ some k_ ≠ (s_.2.2.2.2.2.1 : Value).ownBlock ∧ some k_ ≠ (s_.2.2.2.2.2.2 : Value).ownBlock ∧ some k_ ≠ (.slice Ao63 y312.length co63 : Value).ownBlock) s_.2.2.2.1 t326) ∧ (Kd.N (Kd.slice 3 (Kd.int .i64)) 64 w' w.heap.size (fun k_ => some k_ ≠ (s_.2.2.1 : Value).ownBlock ∧ some k_ ≠ (s_.2.2.2.1 : Value).ownBlock ∧ some k_ ≠ (s_.2.2.2.2.2.1 : Value).ownBlock ∧ some k_ ≠ (s_.2.2.2.2.2.2 : Value).ownBlock ∧ some k_ ≠ (.slice Ao63 y312.length co63 : Value).ownBlock) s_.2.2.2.2.1 t329) ∧ (Kd.R k66 66 w' w.heap.size (fun _ => True) s_.2.2.2.2.2.1 t332) ∧ (Kd.N k39 39 w' w.heap.size (fun k_ => some k_ ≠ (s_.2.2.1 : Value).ownBlock ∧ some k_ ≠ (s_.2.2.2.1 : Value).ownBlock ∧ some k_ ≠ (s_.2.2.2.2.1 : Value).ownBlock ∧ some k_ ≠ (s_.2.2.2.2.2.1 : Value).ownBlock ∧ some k_ ≠ (.slice Ao63 y312.length co63 : Value).ownBlock) s_.2.2.2.2.2.2 t335) ∧ (Kd.R (Kd.int .u8) 5 w' w.heap.size (fun k_ => some k_ ≠ (s_.2.2.1 : Value).ownBlock) (.slice Ao63 y312.length co63) y312) ∧ (Below w.heap.size w w')) ?_ ?_
  rotate_left
  ·intro hJ0_2_6_7
   refine join_ (σ := Value × Value × Value × Nat) 6 #[true, true, true, true, true, true, true, false, false, false, false, true, false, false] (fun s_ => [(30, s_.1), (32, s_.2.1), (36, s_.2.2.1), (7, .pointer (some ⟨s_.2.2.2, 0, none⟩))]) (fun s_ w' => (Kd.R (Kd.int .u8) 5 w' w.heap.size (fun k_ => some k_ ≠ (.slice Ao63 y312.length co63 : Value).ownBlock) s_.2.2.1 y322) ∧ (Kd.R (Kd.int .u8) 5 w' w.heap.size (fun k_ => some k_ ≠ (s_.2.2.1 : Value).ownBlock) (.slice Ao63 y312.length co63) y312) ∧ (w'.heap[s_.2.2.2]? = some (.cells #[.int .i64 0, .slice none 0 0, .slice none 0 0, .slice none 0 0] 28 (0, 0))) ∧ (w.heap.size ≤ s_.2.2.2) ∧ (w.heap.size ≤ s_.2.2.2) ∧ (Below w.heap.size w w')) ?_ ?_
   rotate_left
   ·intro hJ0_2_6_11
    refine join_ (σ := Value × Value × Value) 7 #[true, true, true, true, true, true, true, false, false, false, false, false, false, false] (fun s_ => [(30, s_.1), (32, s_.2.1), (36, s_.2.2)]) (fun s_ w' => (Kd.R (Kd.int .u8) 5 w' w.heap.size (fun k_ => some k_ ≠ (.slice Ao63 y312.length co63 : Value).ownBlock) s_.2.2 y322) ∧ (Kd.R (Kd.int .u8) 5 w' w.heap.size (fun k_ => some k_ ≠ (s_.2.2 : Value).ownBlock) (.slice Ao63 y312.length co63) y312) ∧ (Below w.heap.size w w')) ?_ ?_
    rotate_left
    ·intro hJ0_2_6
     refine join_ (σ := Value × Value × Nat) 7 #[true, true, true, true, true, true, false, false, false, false, false, true, false, false] (fun s_ => [(30, s_.1), (32, s_.2.1), (7, .pointer (some ⟨s_.2.2, 0, none⟩))]) (fun s_ w' => (Kd.R (Kd.int .u8) 5 w' w.heap.size (fun k_ => some k_ ≠ (.slice Ao63 y312.length co63 : Value).ownBlock) s_.2.1 y318) ∧ (Kd.R (Kd.int .u8) 5 w' w.heap.size (fun k_ => some k_ ≠ (s_.2.1 : Value).ownBlock) (.slice Ao63 y312.length co63) y312) ∧ (w'.heap[s_.2.2]? = some (.cells #[.int .i64 0, .slice none 0 0, .slice none 0 0, .slice none 0 0] 28 (0, 0))) ∧ (w.heap.size ≤ s_.2.2) ∧ (w.heap.size ≤ s_.2.2) ∧ (Below w.heap.size w w')) ?_ ?_
     rotate_left
     ·intro hJ0_2_11
      refine join_ (σ := Value × Value) 8 #[true, true, true, true, true, true, false, false, false, false, false, false, false, false] (fun s_ => [(30, s_.1), (32, s_.2)]) (fun s_ w' => (Kd.R (Kd.int .u8) 5 w' w.heap.size (fun k_ => some k_ ≠ (.slice Ao63 y312.length co63 : Value).ownBlock) s_.2 y318) ∧ (Kd.R (Kd.int .u8) 5 w' w.heap.size (fun k_ => some k_ ≠ (s_.2 : Value).ownBlock) (.slice Ao63 y312.length co63) y312) ∧ (Below w.heap.size w w')) ?_ ?_
      rotate_left
      ·intro hJ0_2
       refine join_ (σ := Value × Nat) 8 #[true, true, false, true, true, true, false, false, false, false, false, true, false, false] (fun s_ => [(30, s_.1), (7, .pointer (some ⟨s_.2, 0, none⟩))]) (fun s_ w' => (Kd.R (Kd.int .u8) 5 w' w.heap.size (fun k_ => some k_ ≠ (.slice Ao63 y312.length co63 : Value).ownBlock) s_.1 y315) ∧ (Kd.R (Kd.int .u8) 5 w' w.heap.size (fun k_ => some k_ ≠ (s_.1 : Value).ownBlock) (.slice Ao63 y312.length co63) y312) ∧ (w'.heap[s_.2]? = some (.cells #[.int .i64 0, .slice none 0 0, .slice none 0 0, .slice none 0 0] 28 (0, 0))) ∧ (w.heap.size ≤ s_.2) ∧ (w.heap.size ≤ s_.2) ∧ (Below w.heap.size w w')) ?_ ?_
       rotate_left
       ·intro hJ0_11
        refine join_ (σ := Value) 9 #[true, true, false, true, true, true, false, false, false, false, false, false, false, false] (fun s_ => [(30, s_)]) (fun s_ w' => (Kd.R (Kd.int .u8) 5 w' w.heap.size (fun k_ => some k_ ≠ (.slice Ao63 y312.length co63 : Value).ownBlock) s_ y315) ∧ (Kd.R (Kd.int .u8) 5 w' w.heap.size (fun k_ => some k_ ≠ (s_ : Value).ownBlock) (.slice Ao63 y312.length co63) y312) ∧ (Below w.heap.size w w')) ?_ ?_
        rotate_left
        ·intro hJ0
         refine join_ (σ := Nat) 9 #[false, true, false, true, true, true, false, false, false, false, false, true, false, false] (fun s_ => [(7, .pointer (some ⟨s_, 0, none⟩))]) (fun s_ w' => (Kd.R (Kd.int .u8) 5 w' w.heap.size (fun _ => True) (.slice Ao63 y312.length co63) y312) ∧ (w'.heap[s_]? = some (.cells #[.int .i64 0, .slice none 0 0, .slice none 0 0, .slice none 0 0] 28 (0, 0))) ∧ (w.heap.size ≤ s_) ∧ (w.heap.size ≤ s_) ∧ (Below w.heap.size w w')) ?_ ?_
         rotate_left
         ·intro hJ11
          refine two_ (i := 0) (j := 11) (Ni := some 30) (Nj := some 7) #[true, true, false, true, true, true, false, false, false, false, false, false, false, false] #[false, true, false, true, true, true, false, false, false, false, false, true, false, false] rfl rfl rfl rfl (two_of HT_.out (by kernel_rfl)) (by decide) (by decide) (fun K hK => ?_) (fun K hK => ?_)
          ·skip
           refine Kd.R_lit_step (Kd.int .u8) _ 5 ?hg (N := 30) ?hd (xs := ([] : List Int)) (inner := []) (ok := fun _ => True) (okp := fun _ => True) ?hr ?hp (fun _ hk => hk) trivial (Below.refl _ _) (Nat.le_refl _) (by simp) ?_; (case hd => rfl); (case hg => rfl); (case hr => first | (go_simp; done) | (go_simp; rfl)); (case hp => exact (Reps.none _ _))
           intro v316 w66 ho67 hb hg_ hnew_
           clear hg_ hnew_
           (first | rw [← Ny315.out] at ho67 | (simp only [Int.reduceToNat] at ho67; rw [← Ny315.out] at ho67))
           have n0_ := Aside0.mk (Kd.R_elder' (by (with_reducible repeat (first | apply Kd.R_alloc | apply Kd.R_drewN | apply Kd.R_drew)); exact HO_5.out) (Kd.R_base ho67) hb)
           have n1_ := Aside0.mk (Kd.R_lower (Kd.R_new' ho67 (Kd.R_lt (by (with_reducible repeat (first | apply Kd.R_alloc | apply Kd.R_drewN | apply Kd.R_drew)); exact HO_5.out))) (below_size (by repeat (first | (with_reducible first | exact HB.out | apply below_alloc | apply pw_below_drewN | apply below_drew1) | exact HB.out))))
           have n2_ := Aside0.mk (below_step (by repeat (first | (with_reducible first | exact HB.out | apply below_alloc | apply pw_below_drewN | apply below_drew1) | exact HB.out)) hb)
           clear HO_5
           clear HB
           have HO_5 := n0_
           have HO317 := n1_
           have HB := n2_
           clear n0_ n1_ n2_
           clear hb ho67
           refine hK.out _ _ trivial (fun hHeld => ?_)
           clear hK K
           refine norm_ (a' := ?_) ?_ ?_
           rotate_left
           ·show Act.put _ (some 30) _ = _
            simp only [Act.put, List.setIfInBounds_toArray, List.set_cons_zero, List.set_cons_succ, i64_w, i32_w]
            rfl
           exact norm_ (by first | (simp only [putAll, Act.put, List.setIfInBounds_toArray, List.set_cons_zero, List.set_cons_succ]; done) | (simp only [putAll, Act.put, List.setIfInBounds_toArray, List.set_cons_zero, List.set_cons_succ]; rfl)) (hJ0 (v316) _ ⟨(by (with_reducible repeat (first | apply Kd.R_alloc | apply Kd.R_drewN | apply Kd.R_drew)); exact Kd.R_mono HO317.out (fun _ hk => hk.2)), (by (with_reducible repeat (first | apply Kd.R_alloc | apply Kd.R_drewN | apply Kd.R_drew)); exact Kd.R_mono HO_5.out (fun _ hk => hk.2)), (by repeat (first | (with_reducible first | exact HB.out | apply below_alloc | apply pw_below_drewN | apply below_drew1) | exact HB.out))⟩)
          skip
          refine box_step ?hg (N := 7) ?hd (cs := #[.int .i64 0, .slice none 0 0, .slice none 0 0, .slice none 0 0]) (t := 28) ?hr ?_; (case hd => rfl); (case hg => rfl); (case hr => first | (go_simp; done) | (go_simp; rfl))
          intro gb338 hg w66 hbox hb
          have n0_ := Aside0.mk (Kd.R_below (by (with_reducible repeat (first | apply Kd.R_alloc | apply Kd.R_drewN | apply Kd.R_drew)); exact HO_5.out) hb)
          have n1_ := Aside0.mk (below_step (by repeat (first | (with_reducible first | exact HB.out | apply below_alloc | apply pw_below_drewN | apply below_drew1) | exact HB.out)) hb)
          have n2_ := Aside0.mk (hbox)
          have n3_ := Aside0.mk ((by rw [hg]; exact (below_size (by repeat (first | (with_reducible first | exact HB.out | apply below_alloc | apply pw_below_drewN | apply below_drew1) | exact HB.out))) : w.heap.size ≤ gb338))
          have n4_ := Aside0.mk ((by rw [hg]; exact (below_size (by repeat (first | (with_reducible first | exact HB.out | apply below_alloc | apply pw_below_drewN | apply below_drew1) | exact HB.out))) : w.heap.size ≤ gb338))
          clear HO_5
          clear HB
          have HO_5 := n0_
          have HB := n1_
          have BK338 := n2_
          have GW338 := n3_
          have GE338 := n4_
          clear n0_ n1_ n2_ n3_ n4_
          clear hb hbox hg
          refine hK.out _ _ trivial (fun hHeld => ?_)
          clear hK K
          refine norm_ (a' := ?_) ?_ ?_
          rotate_left
          ·show Act.put _ (some 7) _ = _
           simp only [Act.put, List.setIfInBounds_toArray, List.set_cons_zero, List.set_cons_succ, i64_w, i32_w]
           rfl
          exact norm_ (by first | (simp only [putAll, Act.put, List.setIfInBounds_toArray, List.set_cons_zero, List.set_cons_succ]; done) | (simp only [putAll, Act.put, List.setIfInBounds_toArray, List.set_cons_zero, List.set_cons_succ]; rfl)) (hJ11 (gb338) _ ⟨(by (with_reducible repeat (first | apply Kd.R_alloc | apply Kd.R_drewN | apply Kd.R_drew)); exact HO_5.out), (by (with_reducible repeat (first | refine blk_drewN ?_ _ | refine blk_drew ?_ | refine blk_alloc ?_ _)); exact BK338.out), GW338.out, GE338.out, (by repeat (first | (with_reducible first | exact HB.out | apply below_alloc | apply pw_below_drewN | apply below_drew1 | refine below_set ?_ GE338.out) | exact HB.out))⟩)
         skip
         rintro gb338 w67 ⟨h0_, h1_, h2_, h3_, h4_⟩
         have n0_ : Aside0 (Kd.R (Kd.int .u8) 5 w67 w.heap.size (fun _ => True) (.slice Ao63 y312.length co63) y312) := ⟨h0_⟩
         have n1_ : Aside0 (w67.heap[gb338]? = some (.cells #[.int .i64 0, .slice none 0 0, .slice none 0 0, .slice none 0 0] 28 (0, 0))) := ⟨h1_⟩
         have n2_ : Aside0 (w.heap.size ≤ gb338) := ⟨h2_⟩
         have n3_ : Aside0 (w.heap.size ≤ gb338) := ⟨h3_⟩
         have n4_ : Aside0 (Below w.heap.size w w67) := ⟨h4_⟩
         clear HO_5
         clear HB
         clear h0_ h1_ h2_ h3_ h4_
         have HO_5 := n0_
         have BK338 := n1_
         have GW338 := n2_
         have GE338 := n3_
         have HB := n4_
         clear n0_ n1_ n2_ n3_ n4_
         have hHeld := trivial
         refine norm_ (a' := ?_) ?_ ?_
         rotate_left
         ·simp only [putAll, Act.put, List.setIfInBounds_toArray, List.set_cons_zero, List.set_cons_succ]
          rfl
         refine one_ (i := 0) (N := some 30) #[true, true, false, true, true, true, false, false, false, false, false, true, false, false] rfl rfl (one_of HT_.out (by kernel_rfl)) (by decide) (fun K hK => ?_)
         refine Kd.R_lit_step (Kd.int .u8) _ 5 ?hg (N := 30) ?hd (xs := ([] : List Int)) (inner := []) (ok := fun _ => True) (okp := fun _ => True) ?hr ?hp (fun _ hk => hk) trivial (Below.refl _ _) (Nat.le_refl _) (by simp) ?_; (case hd => rfl); (case hg => rfl); (case hr => first | (go_simp; done) | (go_simp; rfl)); (case hp => exact (Reps.none _ _))
         intro v316 w68 ho69 hb hg_ hnew_
         clear hg_ hnew_
         (first | rw [← Ny315.out] at ho69 | (simp only [Int.reduceToNat] at ho69; rw [← Ny315.out] at ho69))
         have n0_ := Aside0.mk (Kd.R_elder' (by (with_reducible repeat (first | apply Kd.R_alloc | apply Kd.R_drewN | apply Kd.R_drew)); exact HO_5.out) (Kd.R_base ho69) hb)
         have n1_ := Aside0.mk (Kd.R_lower (Kd.R_new' ho69 (Kd.R_lt (by (with_reducible repeat (first | apply Kd.R_alloc | apply Kd.R_drewN | apply Kd.R_drew)); exact HO_5.out))) (below_size (by repeat (first | (with_reducible first | exact HB.out | apply below_alloc | apply pw_below_drewN | apply below_drew1 | refine below_set ?_ GE338.out) | exact HB.out))))
         have n2_ := Aside0.mk (blk_below (g := gb338) (o := .cells #[.int .i64 0, .slice none 0 0, .slice none 0 0, .slice none 0 0] 28 (0, 0)) (by (with_reducible repeat (first | refine blk_drewN ?_ _ | refine blk_drew ?_ | refine blk_alloc ?_ _)); exact BK338.out) hb)
         have n3_ := Aside0.mk (below_step (by repeat (first | (with_reducible first | exact HB.out | apply below_alloc | apply pw_below_drewN | apply below_drew1 | refine below_set ?_ GE338.out) | exact HB.out)) hb)
         clear HO_5
         clear BK338
         clear HB
         have HO_5 := n0_
         have HO317 := n1_
         have BK338 := n2_
         have HB := n3_
         clear n0_ n1_ n2_ n3_
         clear hb ho69
         refine hK.out _ _ trivial (fun hHeld => ?_)
         clear hK K
         refine norm_ (a' := ?_) ?_ ?_
         rotate_left
         ·show Act.put _ (some 30) _ = _
          simp only [Act.put, List.setIfInBounds_toArray, List.set_cons_zero, List.set_cons_succ, i64_w, i32_w]
          rfl
         exact norm_ (by first | (simp only [putAll, Act.put, List.setIfInBounds_toArray, List.set_cons_zero, List.set_cons_succ]; done) | (simp only [putAll, Act.put, List.setIfInBounds_toArray, List.set_cons_zero, List.set_cons_succ]; rfl)) (hJ0_11 (v316, gb338) _ ⟨(by (with_reducible repeat (first | apply Kd.R_alloc | apply Kd.R_drewN | apply Kd.R_drew)); exact Kd.R_mono HO317.out (fun _ hk => hk.2)), (by (with_reducible repeat (first | apply Kd.R_alloc | apply Kd.R_drewN | apply Kd.R_drew)); exact Kd.R_mono HO_5.out (fun _ hk => hk.2)), (by (with_reducible repeat (first | refine blk_drewN ?_ _ | refine blk_drew ?_ | refine blk_alloc ?_ _)); exact BK338.out), GW338.out, GE338.out, (by repeat (first | (with_reducible first | exact HB.out | apply below_alloc | apply pw_below_drewN | apply below_drew1 | refine below_set ?_ GE338.out) | exact HB.out))⟩)
        skip
        rintro v316 w68 ⟨h0_, h1_, h2_⟩
        have n0_ : Aside0 (Kd.R (Kd.int .u8) 5 w68 w.heap.size (fun k_ => some k_ ≠ (.slice Ao63 y312.length co63 : Value).ownBlock) v316 y315) := ⟨h0_⟩
        have n1_ : Aside0 (Kd.R (Kd.int .u8) 5 w68 w.heap.size (fun k_ => some k_ ≠ (v316 : Value).ownBlock) (.slice Ao63 y312.length co63) y312) := ⟨h1_⟩
        have n2_ : Aside0 (Below w.heap.size w w68) := ⟨h2_⟩
        clear HO_5
        clear HB
        clear h0_ h1_ h2_
        have HO317 := n0_
        have HO_5 := n1_
        have HB := n2_
        clear n0_ n1_ n2_
        have hHeld := trivial
        refine norm_ (a' := ?_) ?_ ?_
        rotate_left
        ·simp only [putAll, Act.put, List.setIfInBounds_toArray, List.set_cons_zero, List.set_cons_succ]
         rfl
        refine two_ (i := 2) (j := 11) (Ni := some 32) (Nj := some 7) #[true, true, true, true, true, true, false, false, false, false, false, false, false, false] #[true, true, false, true, true, true, false, false, false, false, false, true, false, false] rfl rfl rfl rfl (two_of HT_.out (by kernel_rfl)) (by decide) (by decide) (fun K hK => ?_) (fun K hK => ?_)
        ·skip
         refine Kd.R_append_rows_step (Kd.int .u8) (w0 := w) w.heap.size (by rfl) (.tmp 30) (.tmp 31) 22 5 (.int .u8 0) 1 rfl Tryd.underlying22 info5 rfl (by decide) (by omega) v316 y315 y312 _ _ _ (fun k_ => some k_ ≠ (.slice Ao63 y312.length co63 : Value).ownBlock) (fun _ => False) rfl rfl ?aO ?aR (fun _ _ h => h) (fun _ h => h.elim) ?aF ?aB ?aS ?aL ?_
         (case aR => repeat (first | exact (Kd.R_reads' HO_5.out).2.2 | (with_reducible refine Kd.C_alloc ?_ _) | (with_reducible refine Kd.C_drewN ?_ _) | (with_reducible refine Kd.C_drew ?_)))
         (case aB => exact (by repeat (first | (with_reducible first | exact HB.out | apply below_alloc | apply pw_below_drewN | apply below_drew1) | exact HB.out)))
         (case aF => exact (fun k_ hk => Kd.fresh' (Kd.R_lt (by (with_reducible repeat (first | apply Kd.R_alloc | apply Kd.R_drewN | apply Kd.R_drew)); exact HO_5.out)) k_ hk))
         (case aO => exact (by (with_reducible repeat (first | apply Kd.R_alloc | apply Kd.R_drewN | apply Kd.R_drew)); exact HO317.out))
         (case aS => exact (below_size (by repeat (first | (with_reducible first | exact HB.out | apply below_alloc | apply pw_below_drewN | apply below_drew1) | exact HB.out))))
         (case aL => have := LMc16.out; omega)
         intro v319 w69 ho hb hg hat
         rw [← Ny318.out] at ho
         have n0_ := Aside0.mk (Kd.R_after (ok := (fun _ => True)) (by (with_reducible repeat (first | apply Kd.R_alloc | apply Kd.R_drewN | apply Kd.R_drew)); exact Kd.R_mono HO_5.out (fun _ hk => ⟨trivial, hk⟩)) hg hat)
         have n1_ := Aside0.mk (hb)
         have n2_ := Aside0.mk (ho)
         clear HO_5
         clear HB
         clear HO317
         have HO_5 := n0_
         have HB := n1_
         have HO320 := n2_
         clear n0_ n1_ n2_
         clear ho hb hg hat
         refine hK.out _ _ trivial (fun hHeld => ?_)
         clear hK K
         refine norm_ (a' := ?_) ?_ ?_
         rotate_left
         ·show Act.put _ (some 32) _ = _
          simp only [Act.put, List.setIfInBounds_toArray, List.set_cons_zero, List.set_cons_succ, i64_w, i32_w]
          rfl
         exact norm_ (by first | (simp only [putAll, Act.put, List.setIfInBounds_toArray, List.set_cons_zero, List.set_cons_succ]; done) | (simp only [putAll, Act.put, List.setIfInBounds_toArray, List.set_cons_zero, List.set_cons_succ]; rfl)) (hJ0_2 (v316, v319) _ ⟨(by (with_reducible repeat (first | apply Kd.R_alloc | apply Kd.R_drewN | apply Kd.R_drew)); exact HO320.out), (by (with_reducible repeat (first | apply Kd.R_alloc | apply Kd.R_drewN | apply Kd.R_drew)); exact Kd.R_mono HO_5.out (fun _ hk => hk.2)), (by repeat (first | (with_reducible first | exact HB.out | apply below_alloc | apply pw_below_drewN | apply below_drew1) | exact HB.out))⟩)
        skip
        refine box_step ?hg (N := 7) ?hd (cs := #[.int .i64 0, .slice none 0 0, .slice none 0 0, .slice none 0 0]) (t := 28) ?hr ?_; (case hd => rfl); (case hg => rfl); (case hr => first | (go_simp; done) | (go_simp; rfl))
        intro gb338 hg w69 hbox hb
        have n0_ := Aside0.mk (Kd.R_below (by (with_reducible repeat (first | apply Kd.R_alloc | apply Kd.R_drewN | apply Kd.R_drew)); exact HO_5.out) hb)
        have n1_ := Aside0.mk (Kd.R_below (by (with_reducible repeat (first | apply Kd.R_alloc | apply Kd.R_drewN | apply Kd.R_drew)); exact HO317.out) hb)
        have n2_ := Aside0.mk (below_step (by repeat (first | (with_reducible first | exact HB.out | apply below_alloc | apply pw_below_drewN | apply below_drew1) | exact HB.out)) hb)
        have n3_ := Aside0.mk (hbox)
        have n4_ := Aside0.mk ((by rw [hg]; exact (below_size (by repeat (first | (with_reducible first | exact HB.out | apply below_alloc | apply pw_below_drewN | apply below_drew1) | exact HB.out))) : w.heap.size ≤ gb338))
        have n5_ := Aside0.mk ((by rw [hg]; exact (below_size (by repeat (first | (with_reducible first | exact HB.out | apply below_alloc | apply pw_below_drewN | apply below_drew1) | exact HB.out))) : w.heap.size ≤ gb338))
        clear HO_5
        clear HO317
        clear HB
        have HO_5 := n0_
        have HO317 := n1_
        have HB := n2_
        have BK338 := n3_
        have GW338 := n4_
        have GE338 := n5_
        clear n0_ n1_ n2_ n3_ n4_ n5_
        clear hb hbox hg
        refine hK.out _ _ trivial (fun hHeld => ?_)
        clear hK K
        refine norm_ (a' := ?_) ?_ ?_
        rotate_left
        ·show Act.put _ (some 7) _ = _
         simp only [Act.put, List.setIfInBounds_toArray, List.set_cons_zero, List.set_cons_succ, i64_w, i32_w]
         rfl
        exact norm_ (by first | (simp only [putAll, Act.put, List.setIfInBounds_toArray, List.set_cons_zero, List.set_cons_succ]; done) | (simp only [putAll, Act.put, List.setIfInBounds_toArray, List.set_cons_zero, List.set_cons_succ]; rfl)) (hJ0_11 (v316, gb338) _ ⟨(by (with_reducible repeat (first | apply Kd.R_alloc | apply Kd.R_drewN | apply Kd.R_drew)); exact HO317.out), (by (with_reducible repeat (first | apply Kd.R_alloc | apply Kd.R_drewN | apply Kd.R_drew)); exact HO_5.out), (by (with_reducible repeat (first | refine blk_drewN ?_ _ | refine blk_drew ?_ | refine blk_alloc ?_ _)); exact BK338.out), GW338.out, GE338.out, (by repeat (first | (with_reducible first | exact HB.out | apply below_alloc | apply pw_below_drewN | apply below_drew1 | refine below_set ?_ GE338.out) | exact HB.out))⟩)
       skip
       rintro ⟨v316, gb338⟩ w69 ⟨h0_, h1_, h2_, h3_, h4_, h5_⟩
       have n0_ : Aside0 (Kd.R (Kd.int .u8) 5 w69 w.heap.size (fun k_ => some k_ ≠ (.slice Ao63 y312.length co63 : Value).ownBlock) v316 y315) := ⟨h0_⟩
       have n1_ : Aside0 (Kd.R (Kd.int .u8) 5 w69 w.heap.size (fun k_ => some k_ ≠ (v316 : Value).ownBlock) (.slice Ao63 y312.length co63) y312) := ⟨h1_⟩
       have n2_ : Aside0 (w69.heap[gb338]? = some (.cells #[.int .i64 0, .slice none 0 0, .slice none 0 0, .slice none 0 0] 28 (0, 0))) := ⟨h2_⟩
       have n3_ : Aside0 (w.heap.size ≤ gb338) := ⟨h3_⟩
       have n4_ : Aside0 (w.heap.size ≤ gb338) := ⟨h4_⟩
       have n5_ : Aside0 (Below w.heap.size w w69) := ⟨h5_⟩
       clear HO_5
       clear HB
       clear h0_ h1_ h2_ h3_ h4_ h5_
       have HO317 := n0_
       have HO_5 := n1_
       have BK338 := n2_
       have GW338 := n3_
       have GE338 := n4_
       have HB := n5_
       clear n0_ n1_ n2_ n3_ n4_ n5_
       have hHeld := trivial
       refine norm_ (a' := ?_) ?_ ?_
       rotate_left
       ·simp only [putAll, Act.put, List.setIfInBounds_toArray, List.set_cons_zero, List.set_cons_succ]
        rfl
       refine one_ (i := 2) (N := some 32) #[true, true, true, true, true, true, false, false, false, false, false, true, false, false] rfl rfl (one_of HT_.out (by kernel_rfl)) (by decide) (fun K hK => ?_)
       refine Kd.R_append_rows_step (Kd.int .u8) (w0 := w) w.heap.size (by rfl) (.tmp 30) (.tmp 31) 22 5 (.int .u8 0) 1 rfl Tryd.underlying22 info5 rfl (by decide) (by omega) v316 y315 y312 _ _ _ (fun k_ => some k_ ≠ (.slice Ao63 y312.length co63 : Value).ownBlock) (fun _ => False) rfl rfl ?aO ?aR (fun _ _ h => h) (fun _ h => h.elim) ?aF ?aB ?aS ?aL ?_
       (case aR => repeat (first | exact (Kd.R_reads' HO_5.out).2.2 | (with_reducible refine Kd.C_alloc ?_ _) | (with_reducible refine Kd.C_drewN ?_ _) | (with_reducible refine Kd.C_drew ?_)))
       (case aB => exact (by repeat (first | (with_reducible first | exact HB.out | apply below_alloc | apply pw_below_drewN | apply below_drew1 | refine below_set ?_ GE338.out) | exact HB.out)))
       (case aF => exact (fun k_ hk => Kd.fresh' (Kd.R_lt (by (with_reducible repeat (first | apply Kd.R_alloc | apply Kd.R_drewN | apply Kd.R_drew)); exact HO_5.out)) k_ hk))
       (case aO => exact (by (with_reducible repeat (first | apply Kd.R_alloc | apply Kd.R_drewN | apply Kd.R_drew)); exact HO317.out))
       (case aS => exact (below_size (by repeat (first | (with_reducible first | exact HB.out | apply below_alloc | apply pw_below_drewN | apply below_drew1 | refine below_set ?_ GE338.out) | exact HB.out))))
       (case aL => have := LMc16.out; omega)
       intro v319 w70 ho hb hg hat
       rw [← Ny318.out] at ho
       have n0_ := Aside0.mk (Kd.R_after (ok := (fun _ => True)) (by (with_reducible repeat (first | apply Kd.R_alloc | apply Kd.R_drewN | apply Kd.R_drew)); exact Kd.R_mono HO_5.out (fun _ hk => ⟨trivial, hk⟩)) hg hat)
       have n1_ := Aside0.mk (blk_grown (g := gb338) (o := .cells #[.int .i64 0, .slice none 0 0, .slice none 0 0, .slice none 0 0] 28 (0, 0)) (by (with_reducible repeat (first | refine blk_drewN ?_ _ | refine blk_drew ?_ | refine blk_alloc ?_ _)); exact BK338.out) hg (Kd.R_ne HO317.out BK338.out (by decide)))
       have n2_ := Aside0.mk (hb)
       have n3_ := Aside0.mk (ho)
       clear HO_5
       clear BK338
       clear HB
       clear HO317
       have HO_5 := n0_
       have BK338 := n1_
       have HB := n2_
       have HO320 := n3_
       clear n0_ n1_ n2_ n3_
       clear ho hb hg hat
       refine hK.out _ _ trivial (fun hHeld => ?_)
       clear hK K
       refine norm_ (a' := ?_) ?_ ?_
       rotate_left
       ·show Act.put _ (some 32) _ = _
        simp only [Act.put, List.setIfInBounds_toArray, List.set_cons_zero, List.set_cons_succ, i64_w, i32_w]
        rfl
       exact norm_ (by first | (simp only [putAll, Act.put, List.setIfInBounds_toArray, List.set_cons_zero, List.set_cons_succ]; done) | (simp only [putAll, Act.put, List.setIfInBounds_toArray, List.set_cons_zero, List.set_cons_succ]; rfl)) (hJ0_2_11 (v316, v319, gb338) _ ⟨(by (with_reducible repeat (first | apply Kd.R_alloc | apply Kd.R_drewN | apply Kd.R_drew)); exact HO320.out), (by (with_reducible repeat (first | apply Kd.R_alloc | apply Kd.R_drewN | apply Kd.R_drew)); exact Kd.R_mono HO_5.out (fun _ hk => hk.2)), (by (with_reducible repeat (first | refine blk_drewN ?_ _ | refine blk_drew ?_ | refine blk_alloc ?_ _)); exact BK338.out), GW338.out, GE338.out, (by repeat (first | (with_reducible first | exact HB.out | apply below_alloc | apply pw_below_drewN | apply below_drew1 | refine below_set ?_ GE338.out) | exact HB.out))⟩)
      skip
      rintro ⟨v316, v319⟩ w69 ⟨h0_, h1_, h2_⟩
      have n0_ : Aside0 (Kd.R (Kd.int .u8) 5 w69 w.heap.size (fun k_ => some k_ ≠ (.slice Ao63 y312.length co63 : Value).ownBlock) v319 y318) := ⟨h0_⟩
      have n1_ : Aside0 (Kd.R (Kd.int .u8) 5 w69 w.heap.size (fun k_ => some k_ ≠ (v319 : Value).ownBlock) (.slice Ao63 y312.length co63) y312) := ⟨h1_⟩
      have n2_ : Aside0 (Below w.heap.size w w69) := ⟨h2_⟩
      clear HO_5
      clear HB
      clear h0_ h1_ h2_
      have HO320 := n0_
      have HO_5 := n1_
      have HB := n2_
      clear n0_ n1_ n2_
      have hHeld := trivial
      refine norm_ (a' := ?_) ?_ ?_
      rotate_left
      ·simp only [putAll, Act.put, List.setIfInBounds_toArray, List.set_cons_zero, List.set_cons_succ]
       rfl
      refine two_ (i := 6) (j := 11) (Ni := some 36) (Nj := some 7) #[true, true, true, true, true, true, true, false, false, false, false, false, false, false] #[true, true, true, true, true, true, false, false, false, false, false, true, false, false] rfl rfl rfl rfl (two_of HT_.out (by kernel_rfl)) (by decide) (by decide) (fun K hK => ?_) (fun K hK => ?_)
      ·skip
       refine Kd.R_append_rows_step (Kd.int .u8) (w0 := w) w.heap.size (by rfl) (.tmp 32) (.tmp 35) 22 5 (.int .u8 0) 1 rfl Tryd.underlying22 info5 rfl (by decide) (by omega) v319 y318 (l0.take (x6_10 : Int).toNat) _ _ _ (fun k_ => some k_ ≠ (.slice Ao63 y312.length co63 : Value).ownBlock) (fun _ => False) rfl rfl ?aO ?aR (fun _ _ h => h) (fun _ h => h.elim) ?aF ?aB ?aS ?aL ?_
       (case aR => first | (have hl_ : (l0.take (x6_10 : Int).toNat).length = x6_10.toNat := (by rw [List.length_take]; have h_ : (x6_10 : Int) ≤ (l0.length : Int) := of_decide_eq_true (by first | (with_reducible assumption) | assumption); omega); have hC_ := Kd.C_below HR321.out HB.out; rw [hl_] at hC_; repeat (first | exact hC_ | (with_reducible refine Kd.C_alloc ?_ _) | (with_reducible refine Kd.C_drewN ?_ _) | (with_reducible refine Kd.C_drew ?_))) | (repeat (first | exact (Kd.C_below HR321.out HB.out) | (with_reducible refine Kd.C_alloc ?_ _) | (with_reducible refine Kd.C_drewN ?_ _) | (with_reducible refine Kd.C_drew ?_))))
       (case aB => exact (by repeat (first | (with_reducible first | exact HB.out | apply below_alloc | apply pw_below_drewN | apply below_drew1) | exact HB.out)))
       (case aF => exact (fun k_ hk => Kd.fresh' (Kd.R_lt (by (with_reducible repeat (first | apply Kd.R_alloc | apply Kd.R_drewN | apply Kd.R_drew)); exact HO_5.out)) k_ hk))
       (case aO => exact (by (with_reducible repeat (first | apply Kd.R_alloc | apply Kd.R_drewN | apply Kd.R_drew)); exact HO320.out))
       (case aS => exact (below_size (by repeat (first | (with_reducible first | exact HB.out | apply below_alloc | apply pw_below_drewN | apply below_drew1) | exact HB.out))))
       (case aL => have := LMc19.out; have hlx_ := (show (l0.take (x6_10 : Int).toNat).length = x6_10.toNat from (by rw [List.length_take]; have h_ : (x6_10 : Int) ≤ (l0.length : Int) := of_decide_eq_true (by first | (with_reducible assumption) | assumption); omega)); omega)
       intro v323 w70 ho hb hg hat
       rw [← Ny322.out] at ho
       have n0_ := Aside0.mk (Kd.R_after (ok := (fun _ => True)) (by (with_reducible repeat (first | apply Kd.R_alloc | apply Kd.R_drewN | apply Kd.R_drew)); exact Kd.R_mono HO_5.out (fun _ hk => ⟨trivial, hk⟩)) hg hat)
       have n1_ := Aside0.mk (hb)
       have n2_ := Aside0.mk (ho)
       clear HO_5
       clear HB
       clear HO320
       have HO_5 := n0_
       have HB := n1_
       have HO324 := n2_
       clear n0_ n1_ n2_
       clear ho hb hg hat
       refine hK.out _ _ trivial (fun hHeld => ?_)
       clear hK K
       refine norm_ (a' := ?_) ?_ ?_
       rotate_left
       ·show Act.put _ (some 36) _ = _
        simp only [Act.put, List.setIfInBounds_toArray, List.set_cons_zero, List.set_cons_succ, i64_w, i32_w]
        rfl
       exact norm_ (by first | (simp only [putAll, Act.put, List.setIfInBounds_toArray, List.set_cons_zero, List.set_cons_succ]; done) | (simp only [putAll, Act.put, List.setIfInBounds_toArray, List.set_cons_zero, List.set_cons_succ]; rfl)) (hJ0_2_6 (v316, v319, v323) _ ⟨(by (with_reducible repeat (first | apply Kd.R_alloc | apply Kd.R_drewN | apply Kd.R_drew)); exact HO324.out), (by (with_reducible repeat (first | apply Kd.R_alloc | apply Kd.R_drewN | apply Kd.R_drew)); exact Kd.R_mono HO_5.out (fun _ hk => hk.2)), (by repeat (first | (with_reducible first | exact HB.out | apply below_alloc | apply pw_below_drewN | apply below_drew1) | exact HB.out))⟩)
      skip
      refine box_step ?hg (N := 7) ?hd (cs := #[.int .i64 0, .slice none 0 0, .slice none 0 0, .slice none 0 0]) (t := 28) ?hr ?_; (case hd => rfl); (case hg => rfl); (case hr => first | (go_simp; done) | (go_simp; rfl))
      intro gb338 hg w70 hbox hb
      have n0_ := Aside0.mk (Kd.R_below (by (with_reducible repeat (first | apply Kd.R_alloc | apply Kd.R_drewN | apply Kd.R_drew)); exact HO_5.out) hb)
      have n1_ := Aside0.mk (Kd.R_below (by (with_reducible repeat (first | apply Kd.R_alloc | apply Kd.R_drewN | apply Kd.R_drew)); exact HO320.out) hb)
      have n2_ := Aside0.mk (below_step (by repeat (first | (with_reducible first | exact HB.out | apply below_alloc | apply pw_below_drewN | apply below_drew1) | exact HB.out)) hb)
      have n3_ := Aside0.mk (hbox)
      have n4_ := Aside0.mk ((by rw [hg]; exact (below_size (by repeat (first | (with_reducible first | exact HB.out | apply below_alloc | apply pw_below_drewN | apply below_drew1) | exact HB.out))) : w.heap.size ≤ gb338))
      have n5_ := Aside0.mk ((by rw [hg]; exact (below_size (by repeat (first | (with_reducible first | exact HB.out | apply below_alloc | apply pw_below_drewN | apply below_drew1) | exact HB.out))) : w.heap.size ≤ gb338))
      clear HO_5
      clear HO320
      clear HB
      have HO_5 := n0_
      have HO320 := n1_
      have HB := n2_
      have BK338 := n3_
      have GW338 := n4_
      have GE338 := n5_
      clear n0_ n1_ n2_ n3_ n4_ n5_
      clear hb hbox hg
      refine hK.out _ _ trivial (fun hHeld => ?_)
      clear hK K
      refine norm_ (a' := ?_) ?_ ?_
      rotate_left
      ·show Act.put _ (some 7) _ = _
       simp only [Act.put, List.setIfInBounds_toArray, List.set_cons_zero, List.set_cons_succ, i64_w, i32_w]
       rfl
      exact norm_ (by first | (simp only [putAll, Act.put, List.setIfInBounds_toArray, List.set_cons_zero, List.set_cons_succ]; done) | (simp only [putAll, Act.put, List.setIfInBounds_toArray, List.set_cons_zero, List.set_cons_succ]; rfl)) (hJ0_2_11 (v316, v319, gb338) _ ⟨(by (with_reducible repeat (first | apply Kd.R_alloc | apply Kd.R_drewN | apply Kd.R_drew)); exact HO320.out), (by (with_reducible repeat (first | apply Kd.R_alloc | apply Kd.R_drewN | apply Kd.R_drew)); exact HO_5.out), (by (with_reducible repeat (first | refine blk_drewN ?_ _ | refine blk_drew ?_ | refine blk_alloc ?_ _)); exact BK338.out), GW338.out, GE338.out, (by repeat (first | (with_reducible first | exact HB.out | apply below_alloc | apply pw_below_drewN | apply below_drew1 | refine below_set ?_ GE338.out) | exact HB.out))⟩)
     skip
     rintro ⟨v316, v319, gb338⟩ w70 ⟨h0_, h1_, h2_, h3_, h4_, h5_⟩
     have n0_ : Aside0 (Kd.R (Kd.int .u8) 5 w70 w.heap.size (fun k_ => some k_ ≠ (.slice Ao63 y312.length co63 : Value).ownBlock) v319 y318) := ⟨h0_⟩
     have n1_ : Aside0 (Kd.R (Kd.int .u8) 5 w70 w.heap.size (fun k_ => some k_ ≠ (v319 : Value).ownBlock) (.slice Ao63 y312.length co63) y312) := ⟨h1_⟩
     have n2_ : Aside0 (w70.heap[gb338]? = some (.cells #[.int .i64 0, .slice none 0 0, .slice none 0 0, .slice none 0 0] 28 (0, 0))) := ⟨h2_⟩
     have n3_ : Aside0 (w.heap.size ≤ gb338) := ⟨h3_⟩
     have n4_ : Aside0 (w.heap.size ≤ gb338) := ⟨h4_⟩
     have n5_ : Aside0 (Below w.heap.size w w70) := ⟨h5_⟩
     clear HO_5
     clear HB
     clear h0_ h1_ h2_ h3_ h4_ h5_
     have HO320 := n0_
     have HO_5 := n1_
     have BK338 := n2_
     have GW338 := n3_
     have GE338 := n4_
     have HB := n5_
     clear n0_ n1_ n2_ n3_ n4_ n5_
     have hHeld := trivial
     refine norm_ (a' := ?_) ?_ ?_
     rotate_left
     ·simp only [putAll, Act.put, List.setIfInBounds_toArray, List.set_cons_zero, List.set_cons_succ]
      rfl
     refine one_ (i := 6) (N := some 36) #[true, true, true, true, true, true, true, false, false, false, false, true, false, false] rfl rfl (one_of HT_.out (by kernel_rfl)) (by decide) (fun K hK => ?_)
     refine Kd.R_append_rows_step (Kd.int .u8) (w0 := w) w.heap.size (by rfl) (.tmp 32) (.tmp 35) 22 5 (.int .u8 0) 1 rfl Tryd.underlying22 info5 rfl (by decide) (by omega) v319 y318 (l0.take (x6_10 : Int).toNat) _ _ _ (fun k_ => some k_ ≠ (.slice Ao63 y312.length co63 : Value).ownBlock) (fun _ => False) rfl rfl ?aO ?aR (fun _ _ h => h) (fun _ h => h.elim) ?aF ?aB ?aS ?aL ?_
     (case aR => first | (have hl_ : (l0.take (x6_10 : Int).toNat).length = x6_10.toNat := (by rw [List.length_take]; have h_ : (x6_10 : Int) ≤ (l0.length : Int) := of_decide_eq_true (by first | (with_reducible assumption) | assumption); omega); have hC_ := Kd.C_below HR321.out HB.out; rw [hl_] at hC_; repeat (first | exact hC_ | (with_reducible refine Kd.C_alloc ?_ _) | (with_reducible refine Kd.C_drewN ?_ _) | (with_reducible refine Kd.C_drew ?_))) | (repeat (first | exact (Kd.C_below HR321.out HB.out) | (with_reducible refine Kd.C_alloc ?_ _) | (with_reducible refine Kd.C_drewN ?_ _) | (with_reducible refine Kd.C_drew ?_))))
     (case aB => exact (by repeat (first | (with_reducible first | exact HB.out | apply below_alloc | apply pw_below_drewN | apply below_drew1 | refine below_set ?_ GE338.out) | exact HB.out)))
     (case aF => exact (fun k_ hk => Kd.fresh' (Kd.R_lt (by (with_reducible repeat (first | apply Kd.R_alloc | apply Kd.R_drewN | apply Kd.R_drew)); exact HO_5.out)) k_ hk))
     (case aO => exact (by (with_reducible repeat (first | apply Kd.R_alloc | apply Kd.R_drewN | apply Kd.R_drew)); exact HO320.out))
     (case aS => exact (below_size (by repeat (first | (with_reducible first | exact HB.out | apply below_alloc | apply pw_below_drewN | apply below_drew1 | refine below_set ?_ GE338.out) | exact HB.out))))
     (case aL => have := LMc19.out; have hlx_ := (show (l0.take (x6_10 : Int).toNat).length = x6_10.toNat from (by rw [List.length_take]; have h_ : (x6_10 : Int) ≤ (l0.length : Int) := of_decide_eq_true (by first | (with_reducible assumption) | assumption); omega)); omega)
     intro v323 w71 ho hb hg hat
     rw [← Ny322.out] at ho
     have n0_ := Aside0.mk (Kd.R_after (ok := (fun _ => True)) (by (with_reducible repeat (first | apply Kd.R_alloc | apply Kd.R_drewN | apply Kd.R_drew)); exact Kd.R_mono HO_5.out (fun _ hk => ⟨trivial, hk⟩)) hg hat)
     have n1_ := Aside0.mk (blk_grown (g := gb338) (o := .cells #[.int .i64 0, .slice none 0 0, .slice none 0 0, .slice none 0 0] 28 (0, 0)) (by (with_reducible repeat (first | refine blk_drewN ?_ _ | refine blk_drew ?_ | refine blk_alloc ?_ _)); exact BK338.out) hg (Kd.R_ne HO320.out BK338.out (by decide)))
     have n2_ := Aside0.mk (hb)
     have n3_ := Aside0.mk (ho)
     clear HO_5
     clear BK338
     clear HB
     clear HO320
     have HO_5 := n0_
     have BK338 := n1_
     have HB := n2_
     have HO324 := n3_
     clear n0_ n1_ n2_ n3_
     clear ho hb hg hat
     refine hK.out _ _ trivial (fun hHeld => ?_)
     clear hK K
     refine norm_ (a' := ?_) ?_ ?_
     rotate_left
     ·show Act.put _ (some 36) _ = _
      simp only [Act.put, List.setIfInBounds_toArray, List.set_cons_zero, List.set_cons_succ, i64_w, i32_w]
      rfl
     exact norm_ (by first | (simp only [putAll, Act.put, List.setIfInBounds_toArray, List.set_cons_zero, List.set_cons_succ]; done) | (simp only [putAll, Act.put, List.setIfInBounds_toArray, List.set_cons_zero, List.set_cons_succ]; rfl)) (hJ0_2_6_11 (v316, v319, v323, gb338) _ ⟨(by (with_reducible repeat (first | apply Kd.R_alloc | apply Kd.R_drewN | apply Kd.R_drew)); exact HO324.out), (by (with_reducible repeat (first | apply Kd.R_alloc | apply Kd.R_drewN | apply Kd.R_drew)); exact Kd.R_mono HO_5.out (fun _ hk => hk.2)), (by (with_reducible repeat (first | refine blk_drewN ?_ _ | refine blk_drew ?_ | refine blk_alloc ?_ _)); exact BK338.out), GW338.out, GE338.out, (by repeat (first | (with_reducible first | exact HB.out | apply below_alloc | apply pw_below_drewN | apply below_drew1 | refine below_set ?_ GE338.out) | exact HB.out))⟩)
    skip
    rintro ⟨v316, v319, v323⟩ w70 ⟨h0_, h1_, h2_⟩
    have n0_ : Aside0 (Kd.R (Kd.int .u8) 5 w70 w.heap.size (fun k_ => some k_ ≠ (.slice Ao63 y312.length co63 : Value).ownBlock) v323 y322) := ⟨h0_⟩
    have n1_ : Aside0 (Kd.R (Kd.int .u8) 5 w70 w.heap.size (fun k_ => some k_ ≠ (v323 : Value).ownBlock) (.slice Ao63 y312.length co63) y312) := ⟨h1_⟩
    have n2_ : Aside0 (Below w.heap.size w w70) := ⟨h2_⟩
    clear HO_5
    clear HB
    clear h0_ h1_ h2_
    have HO324 := n0_
    have HO_5 := n1_
    have HB := n2_
    clear n0_ n1_ n2_
    have hHeld := trivial
    obtain ⟨Ao71, co71, eo71⟩ := Kd.R_slice HO324.out
    (first | subst eo71 | (injection eo71 with f1_ f2_ f3_; have f4_ := f1_.symm; have f5_ := f3_.symm; clear f1_ f2_ f3_; subst f4_; subst f5_))
    refine norm_ (a' := ?_) ?_ ?_
    rotate_left
    ·simp only [putAll, Act.put, List.setIfInBounds_toArray, List.set_cons_zero, List.set_cons_succ]
     rfl
    refine two_ (i := 7) (j := 11) (Ni := some 37) (Nj := some 7) #[true, true, true, true, true, true, true, true, false, false, false, false, false, false] #[true, true, true, true, true, true, true, false, false, false, false, true, false, false] rfl rfl rfl rfl (two_of HT_.out (by kernel_rfl)) (by decide) (by decide) (fun K hK => ?_) (fun K hK => ?_)
    ·skip
     refine goes_ Tryd.func9 (by kernel_rfl) rfl #[.slice Ao71 y322.length co71] (by rfl) rfl rfl (by (try simp only [List.map_toArray, List.map_cons, List.map_nil]); first | done | rfl | (simp only [List.length_drop, List.length_take]; rfl)) ?_
     with_reducible refine (script_Read.calls kj10 _ _ y322 t325 t326 t329 t332 t335 _ ?side1 ?side2 A20.out ?sideG).mono ?_
     (case sideG => first | exact HG | exact ⟨HG.out.below (by repeat (first | (with_reducible first | exact HB.out | apply below_alloc | apply pw_below_drewN | apply below_drew1) | exact HB.out))⟩)
     (case side1 => repeat (first | exact (Kd.R_reads' HO324.out).2.2 | (with_reducible refine Kd.C_alloc ?_ _) | (with_reducible refine Kd.C_drewN ?_ _) | (with_reducible refine Kd.C_drew ?_)))
     (case side2 => exact (Kd.R_reads' HO324.out).2.1)
     rintro e w72 ⟨v327, v330, v333, v336, rfl, ho0, ho1, ho2, ho3, hb⟩
     refine ⟨_, rfl, ?_⟩
     have n0_ := Aside0.mk (Kd.R_below (by (with_reducible repeat (first | apply Kd.R_alloc | apply Kd.R_drewN | apply Kd.R_drew)); exact HO_5.out) hb)
     have n1_ := Aside0.mk (Kd.R_below (by (with_reducible repeat (first | apply Kd.R_alloc | apply Kd.R_drewN | apply Kd.R_drew)); exact HO324.out) hb)
     have n2_ := Aside0.mk (Kd.N_lower (Kd.N_mono (ok' := fun k_ => some k_ ≠ (v330 : Value).ownBlock ∧ some k_ ≠ (v333 : Value).ownBlock ∧ some k_ ≠ (v336 : Value).ownBlock ∧ some k_ ≠ (.slice Ao63 y312.length co63 : Value).ownBlock ∧ some k_ ≠ (.slice Ao71 y322.length co71 : Value).ownBlock) ho0 (fun k_ hk_ => ⟨hk_.2.1, hk_.2.2.1, hk_.2.2.2, (Kd.fresh' (Kd.R_lt (by (with_reducible repeat (first | apply Kd.R_alloc | apply Kd.R_drewN | apply Kd.R_drew)); exact HO_5.out)) k_ hk_.1), (Kd.fresh' (Kd.R_lt (by (with_reducible repeat (first | apply Kd.R_alloc | apply Kd.R_drewN | apply Kd.R_drew)); exact HO324.out)) k_ hk_.1)⟩)) (below_size (by repeat (first | (with_reducible first | exact HB.out | apply below_alloc | apply pw_below_drewN | apply below_drew1) | exact HB.out))))
     have n3_ := Aside0.mk (Kd.N_lower (Kd.N_mono (ok' := fun k_ => some k_ ≠ (v327 : Value).ownBlock ∧ some k_ ≠ (v333 : Value).ownBlock ∧ some k_ ≠ (v336 : Value).ownBlock ∧ some k_ ≠ (.slice Ao63 y312.length co63 : Value).ownBlock ∧ some k_ ≠ (.slice Ao71 y322.length co71 : Value).ownBlock) ho1 (fun k_ hk_ => ⟨hk_.2.1, hk_.2.2.1, hk_.2.2.2, (Kd.fresh' (Kd.R_lt (by (with_reducible repeat (first | apply Kd.R_alloc | apply Kd.R_drewN | apply Kd.R_drew)); exact HO_5.out)) k_ hk_.1), (Kd.fresh' (Kd.R_lt (by (with_reducible repeat (first | apply Kd.R_alloc | apply Kd.R_drewN | apply Kd.R_drew)); exact HO324.out)) k_ hk_.1)⟩)) (below_size (by repeat (first | (with_reducible first | exact HB.out | apply below_alloc | apply pw_below_drewN | apply below_drew1) | exact HB.out))))
     have n4_ := Aside0.mk (Kd.R_lower (Kd.R_mono (ok' := fun k_ => True) ho2 (fun _ hk_ => trivial)) (below_size (by repeat (first | (with_reducible first | exact HB.out | apply below_alloc | apply pw_below_drewN | apply below_drew1) | exact HB.out))))
     have n5_ := Aside0.mk (Kd.N_lower (Kd.N_mono (ok' := fun k_ => some k_ ≠ (v327 : Value).ownBlock ∧ some k_ ≠ (v330 : Value).ownBlock ∧ some k_ ≠ (v333 : Value).ownBlock ∧ some k_ ≠ (.slice Ao63 y312.length co63 : Value).ownBlock ∧ some k_ ≠ (.slice Ao71 y322.length co71 : Value).ownBlock) ho3 (fun k_ hk_ => ⟨hk_.2.1, hk_.2.2.1, hk_.2.2.2, (Kd.fresh' (Kd.R_lt (by (with_reducible repeat (first | apply Kd.R_alloc | apply Kd.R_drewN | apply Kd.R_drew)); exact HO_5.out)) k_ hk_.1), (Kd.fresh' (Kd.R_lt (by (with_reducible repeat (first | apply Kd.R_alloc | apply Kd.R_drewN | apply Kd.R_drew)); exact HO324.out)) k_ hk_.1)⟩)) (below_size (by repeat (first | (with_reducible first | exact HB.out | apply below_alloc | apply pw_below_drewN | apply below_drew1) | exact HB.out))))
     have n6_ := Aside0.mk (below_step (by repeat (first | (with_reducible first | exact HB.out | apply below_alloc | apply pw_below_drewN | apply below_drew1) | exact HB.out)) hb)
     clear HO_5
     clear HO324
     clear HB
     have HO_5 := n0_
     have HO324 := n1_
     have HO328 := n2_
     have HO331 := n3_
     have HO334 := n4_
     have HO337 := n5_
     have HB := n6_
     clear n0_ n1_ n2_ n3_ n4_ n5_ n6_
     (try clear hb)
     (try clear hb2)
     (try clear hk)
     (try clear hi)
     (try clear ho0)
     (try clear ho1)
     (try clear ho2)
     (try clear ho3)
     refine hK.out _ _ trivial (fun hHeld => ?_)
     clear hK K
     refine norm_ (a' := ?_) ?_ ?_
     rotate_left
     ·show Act.put _ (some 37) _ = _
      simp only [Act.put, List.setIfInBounds_toArray, List.set_cons_zero, List.set_cons_succ, i64_w, i32_w]
      rfl
     refine pure_ (i := 8) (N := some 29) (v := ?_) (a' := ?_) #[true, true, true, true, true, true, true, true, true, false, false, false, false, false] rfl rfl (any_of HT_.out (by kernel_rfl)) (fun _ _ _ h => h) (Or.inl ⟨by rfl, ?_⟩) ?_ ?_
     rotate_left
     ·intro w'
      go_simp
      with_reducible rfl
     rotate_left
     ·simp only [Act.put, List.setIfInBounds_toArray, List.set_cons_zero, List.set_cons_succ, i64_w, i32_w]
      rfl
     refine pure_ (i := 9) (N := some 38) (v := ?_) (a' := ?_) #[true, true, true, true, true, true, true, true, true, true, false, false, false, false] rfl rfl (any_of HT_.out (by kernel_rfl)) (fun _ _ _ h => h) (Or.inl ⟨by rfl, ?_⟩) ?_ ?_
     rotate_left
     ·intro w'
      go_simp
      with_reducible rfl
     rotate_left
     ·simp only [Act.put, List.setIfInBounds_toArray, List.set_cons_zero, List.set_cons_succ, i64_w, i32_w]
      rfl
     refine pure_ (i := 10) (N := some 39) (v := ?_) (a' := ?_) #[true, true, true, true, true, true, true, true, true, true, true, false, false, false] rfl rfl (any_of HT_.out (by kernel_rfl)) (fun _ _ _ h => h) (Or.inl ⟨by rfl, ?_⟩) ?_ ?_
     rotate_left
     ·intro w'
      go_simp
      with_reducible rfl
     rotate_left
     ·simp only [Act.put, List.setIfInBounds_toArray, List.set_cons_zero, List.set_cons_succ, i64_w, i32_w]
      rfl
     exact norm_ (by first | (simp only [putAll, Act.put, List.setIfInBounds_toArray, List.set_cons_zero, List.set_cons_succ]; done) | (simp only [putAll, Act.put, List.setIfInBounds_toArray, List.set_cons_zero, List.set_cons_succ]; rfl)) (hJ0_2_6_7 (v316, v319, .slice Ao71 y322.length co71, v327, v330, v333, v336) _ ⟨(by (with_reducible repeat (first | apply Kd.R_alloc | apply Kd.R_drewN | apply Kd.R_drew)); exact HO324.out), (by (with_reducible repeat (first | apply Kd.N_alloc | apply Kd.N_drewN | apply Kd.N_drew)); exact Kd.N_mono HO328.out (fun _ hk => ⟨hk.2.2.2.2, ⟨hk.1, ⟨hk.2.1, ⟨hk.2.2.1, hk.2.2.2.1⟩⟩⟩⟩)), (by (with_reducible repeat (first | apply Kd.N_alloc | apply Kd.N_drewN | apply Kd.N_drew)); exact Kd.N_mono HO331.out (fun _ hk => ⟨hk.2.2.2.2, ⟨hk.1, ⟨hk.2.1, ⟨hk.2.2.1, hk.2.2.2.1⟩⟩⟩⟩)), (by (with_reducible repeat (first | apply Kd.R_alloc | apply Kd.R_drewN | apply Kd.R_drew)); exact HO334.out), (by (with_reducible repeat (first | apply Kd.N_alloc | apply Kd.N_drewN | apply Kd.N_drew)); exact Kd.N_mono HO337.out (fun _ hk => ⟨hk.2.2.2.2, ⟨hk.1, ⟨hk.2.1, ⟨hk.2.2.1, hk.2.2.2.1⟩⟩⟩⟩)), (by (with_reducible repeat (first | apply Kd.R_alloc | apply Kd.R_drewN | apply Kd.R_drew)); exact HO_5.out), (by repeat (first | (with_reducible first | exact HB.out | apply below_alloc | apply pw_below_drewN | apply below_drew1) | exact HB.out))⟩)
    skip
    refine box_step ?hg (N := 7) ?hd (cs := #[.int .i64 0, .slice none 0 0, .slice none 0 0, .slice none 0 0]) (t := 28) ?hr ?_; (case hd => rfl); (case hg => rfl); (case hr => first | (go_simp; done) | (go_simp; rfl))
    intro gb338 hg w71 hbox hb
    have n0_ := Aside0.mk (Kd.R_below (by (with_reducible repeat (first | apply Kd.R_alloc | apply Kd.R_drewN | apply Kd.R_drew)); exact HO_5.out) hb)
    have n1_ := Aside0.mk (Kd.R_below (by (with_reducible repeat (first | apply Kd.R_alloc | apply Kd.R_drewN | apply Kd.R_drew)); exact HO324.out) hb)
    have n2_ := Aside0.mk (below_step (by repeat (first | (with_reducible first | exact HB.out | apply below_alloc | apply pw_below_drewN | apply below_drew1) | exact HB.out)) hb)
    have n3_ := Aside0.mk (hbox)
    have n4_ := Aside0.mk ((by rw [hg]; exact (below_size (by repeat (first | (with_reducible first | exact HB.out | apply below_alloc | apply pw_below_drewN | apply below_drew1) | exact HB.out))) : w.heap.size ≤ gb338))
    have n5_ := Aside0.mk ((by rw [hg]; exact (below_size (by repeat (first | (with_reducible first | exact HB.out | apply below_alloc | apply pw_below_drewN | apply below_drew1) | exact HB.out))) : w.heap.size ≤ gb338))
    clear HO_5
    clear HO324
    clear HB
    have HO_5 := n0_
    have HO324 := n1_
    have HB := n2_
    have BK338 := n3_
    have GW338 := n4_
    have GE338 := n5_
    clear n0_ n1_ n2_ n3_ n4_ n5_
    clear hb hbox hg
    refine hK.out _ _ trivial (fun hHeld => ?_)
    clear hK K
    refine norm_ (a' := ?_) ?_ ?_
    rotate_left
    ·show Act.put _ (some 7) _ = _
     simp only [Act.put, List.setIfInBounds_toArray, List.set_cons_zero, List.set_cons_succ, i64_w, i32_w]
     rfl
    exact norm_ (by first | (simp only [putAll, Act.put, List.setIfInBounds_toArray, List.set_cons_zero, List.set_cons_succ]; done) | (simp only [putAll, Act.put, List.setIfInBounds_toArray, List.set_cons_zero, List.set_cons_succ]; rfl)) (hJ0_2_6_11 (v316, v319, (.slice Ao71 y322.length co71 : Value), gb338) _ ⟨(by (with_reducible repeat (first | apply Kd.R_alloc | apply Kd.R_drewN | apply Kd.R_drew)); exact HO324.out), (by (with_reducible repeat (first | apply Kd.R_alloc | apply Kd.R_drewN | apply Kd.R_drew)); exact HO_5.out), (by (with_reducible repeat (first | refine blk_drewN ?_ _ | refine blk_drew ?_ | refine blk_alloc ?_ _)); exact BK338.out), GW338.out, GE338.out, (by repeat (first | (with_reducible first | exact HB.out | apply below_alloc | apply pw_below_drewN | apply below_drew1 | refine below_set ?_ GE338.out) | exact HB.out))⟩)
   skip
   rintro ⟨v316, v319, v323, gb338⟩ w71 ⟨h0_, h1_, h2_, h3_, h4_, h5_⟩
   have n0_ : Aside0 (Kd.R (Kd.int .u8) 5 w71 w.heap.size (fun k_ => some k_ ≠ (.slice Ao63 y312.length co63 : Value).ownBlock) v323 y322) := ⟨h0_⟩
   have n1_ : Aside0 (Kd.R (Kd.int .u8) 5 w71 w.heap.size (fun k_ => some k_ ≠ (v323 : Value).ownBlock) (.slice Ao63 y312.length co63) y312) := ⟨h1_⟩
   have n2_ : Aside0 (w71.heap[gb338]? = some (.cells #[.int .i64 0, .slice none 0 0, .slice none 0 0, .slice none 0 0] 28 (0, 0))) := ⟨h2_⟩
   have n3_ : Aside0 (w.heap.size ≤ gb338) := ⟨h3_⟩
   have n4_ : Aside0 (w.heap.size ≤ gb338) := ⟨h4_⟩
   have n5_ : Aside0 (Below w.heap.size w w71) := ⟨h5_⟩
   clear HO_5
   clear HB
   clear h0_ h1_ h2_ h3_ h4_ h5_
   have HO324 := n0_
   have HO_5 := n1_
   have BK338 := n2_
   have GW338 := n3_
   have GE338 := n4_
   have HB := n5_
   clear n0_ n1_ n2_ n3_ n4_ n5_
   have hHeld := trivial
   obtain ⟨Ao72, co72, eo72⟩ := Kd.R_slice HO324.out
   (first | subst eo72 | (injection eo72 with f1_ f2_ f3_; have f4_ := f1_.symm; have f5_ := f3_.symm; clear f1_ f2_ f3_; subst f4_; subst f5_))
   refine norm_ (a' := ?_) ?_ ?_
   rotate_left
   ·simp only [putAll, Act.put, List.setIfInBounds_toArray, List.set_cons_zero, List.set_cons_succ]
    rfl
   refine one_ (i := 7) (N := some 37) #[true, true, true, true, true, true, true, true, false, false, false, true, false, false] rfl rfl (one_of HT_.out (by kernel_rfl)) (by decide) (fun K hK => ?_)
   refine goes_ Tryd.func9 (by kernel_rfl) rfl #[.slice Ao72 y322.length co72] (by rfl) rfl rfl (by (try simp only [List.map_toArray, List.map_cons, List.map_nil]); first | done | rfl | (simp only [List.length_drop, List.length_take]; rfl)) ?_
   with_reducible refine (script_Read.calls kj10 _ _ y322 t325 t326 t329 t332 t335 _ ?side1 ?side2 A20.out ?sideG).mono ?_
   (case sideG => first | exact HG | exact ⟨HG.out.below (by repeat (first | (with_reducible first | exact HB.out | apply below_alloc | apply pw_below_drewN | apply below_drew1) | exact HB.out))⟩)
   (case side1 => repeat (first | exact (Kd.R_reads' HO324.out).2.2 | (with_reducible refine Kd.C_alloc ?_ _) | (with_reducible refine Kd.C_drewN ?_ _) | (with_reducible refine Kd.C_drew ?_)))
   (case side2 => exact (Kd.R_reads' HO324.out).2.1)
   rintro e w73 ⟨v327, v330, v333, v336, rfl, ho0, ho1, ho2, ho3, hb⟩
   refine ⟨_, rfl, ?_⟩
   have n0_ := Aside0.mk (Kd.R_below (by (with_reducible repeat (first | apply Kd.R_alloc | apply Kd.R_drewN | apply Kd.R_drew)); exact HO_5.out) hb)
   have n1_ := Aside0.mk (Kd.R_below (by (with_reducible repeat (first | apply Kd.R_alloc | apply Kd.R_drewN | apply Kd.R_drew)); exact HO324.out) hb)
   have n2_ := Aside0.mk (Kd.N_lower (Kd.N_mono (ok' := fun k_ => some k_ ≠ (v330 : Value).ownBlock ∧ some k_ ≠ (v333 : Value).ownBlock ∧ some k_ ≠ (v336 : Value).ownBlock ∧ some k_ ≠ (.slice Ao63 y312.length co63 : Value).ownBlock ∧ some k_ ≠ (.slice Ao72 y322.length co72 : Value).ownBlock ∧ k_ ≠ gb338) ho0 (fun k_ hk_ => ⟨hk_.2.1, hk_.2.2.1, hk_.2.2.2, (Kd.fresh' (Kd.R_lt (by (with_reducible repeat (first | apply Kd.R_alloc | apply Kd.R_drewN | apply Kd.R_drew)); exact HO_5.out)) k_ hk_.1), (Kd.fresh' (Kd.R_lt (by (with_reducible repeat (first | apply Kd.R_alloc | apply Kd.R_drewN | apply Kd.R_drew)); exact HO324.out)) k_ hk_.1), (Kd.freshB (g := gb338) (o := .cells #[.int .i64 0, .slice none 0 0, .slice none 0 0, .slice none 0 0] 28 (0, 0)) (by (with_reducible repeat (first | refine blk_drewN ?_ _ | refine blk_drew ?_ | refine blk_alloc ?_ _)); exact BK338.out) k_ hk_.1)⟩)) (below_size (by repeat (first | (with_reducible first | exact HB.out | apply below_alloc | apply pw_below_drewN | apply below_drew1 | refine below_set ?_ GE338.out) | exact HB.out))))
   have n3_ := Aside0.mk (Kd.N_lower (Kd.N_mono (ok' := fun k_ => some k_ ≠ (v327 : Value).ownBlock ∧ some k_ ≠ (v333 : Value).ownBlock ∧ some k_ ≠ (v336 : Value).ownBlock ∧ some k_ ≠ (.slice Ao63 y312.length co63 : Value).ownBlock ∧ some k_ ≠ (.slice Ao72 y322.length co72 : Value).ownBlock ∧ k_ ≠ gb338) ho1 (fun k_ hk_ => ⟨hk_.2.1, hk_.2.2.1, hk_.2.2.2, (Kd.fresh' (Kd.R_lt (by (with_reducible repeat (first | apply Kd.R_alloc | apply Kd.R_drewN | apply Kd.R_drew)); exact HO_5.out)) k_ hk_.1), (Kd.fresh' (Kd.R_lt (by (with_reducible repeat (first | apply Kd.R_alloc | apply Kd.R_drewN | apply Kd.R_drew)); exact HO324.out)) k_ hk_.1), (Kd.freshB (g := gb338) (o := .cells #[.int .i64 0, .slice none 0 0, .slice none 0 0, .slice none 0 0] 28 (0, 0)) (by (with_reducible repeat (first | refine blk_drewN ?_ _ | refine blk_drew ?_ | refine blk_alloc ?_ _)); exact BK338.out) k_ hk_.1)⟩)) (below_size (by repeat (first | (with_reducible first | exact HB.out | apply below_alloc | apply pw_below_drewN | apply below_drew1 | refine below_set ?_ GE338.out) | exact HB.out))))
   have n4_ := Aside0.mk (Kd.R_lower (Kd.R_mono (ok' := fun k_ => True) ho2 (fun _ hk_ => trivial)) (below_size (by repeat (first | (with_reducible first | exact HB.out | apply below_alloc | apply pw_below_drewN | apply below_drew1 | refine below_set ?_ GE338.out) | exact HB.out))))
   have n5_ := Aside0.mk (Kd.N_lower (Kd.N_mono (ok' := fun k_ => some k_ ≠ (v327 : Value).ownBlock ∧ some k_ ≠ (v330 : Value).ownBlock ∧ some k_ ≠ (v333 : Value).ownBlock ∧ some k_ ≠ (.slice Ao63 y312.length co63 : Value).ownBlock ∧ some k_ ≠ (.slice Ao72 y322.length co72 : Value).ownBlock ∧ k_ ≠ gb338) ho3 (fun k_ hk_ => ⟨hk_.2.1, hk_.2.2.1, hk_.2.2.2, (Kd.fresh' (Kd.R_lt (by (with_reducible repeat (first | apply Kd.R_alloc | apply Kd.R_drewN | apply Kd.R_drew)); exact HO_5.out)) k_ hk_.1), (Kd.fresh' (Kd.R_lt (by (with_reducible repeat (first | apply Kd.R_alloc | apply Kd.R_drewN | apply Kd.R_drew)); exact HO324.out)) k_ hk_.1), (Kd.freshB (g := gb338) (o := .cells #[.int .i64 0, .slice none 0 0, .slice none 0 0, .slice none 0 0] 28 (0, 0)) (by (with_reducible repeat (first | refine blk_drewN ?_ _ | refine blk_drew ?_ | refine blk_alloc ?_ _)); exact BK338.out) k_ hk_.1)⟩)) (below_size (by repeat (first | (with_reducible first | exact HB.out | apply below_alloc | apply pw_below_drewN | apply below_drew1 | refine below_set ?_ GE338.out) | exact HB.out))))
   have n6_ := Aside0.mk (blk_below (g := gb338) (o := .cells #[.int .i64 0, .slice none 0 0, .slice none 0 0, .slice none 0 0] 28 (0, 0)) (by (with_reducible repeat (first | refine blk_drewN ?_ _ | refine blk_drew ?_ | refine blk_alloc ?_ _)); exact BK338.out) hb)
   have n7_ := Aside0.mk (below_step (by repeat (first | (with_reducible first | exact HB.out | apply below_alloc | apply pw_below_drewN | apply below_drew1 | refine below_set ?_ GE338.out) | exact HB.out)) hb)
   clear HO_5
   clear HO324
   clear BK338
   clear HB
   have HO_5 := n0_
   have HO324 := n1_
   have HO328 := n2_
   have HO331 := n3_
   have HO334 := n4_
   have HO337 := n5_
   have BK338 := n6_
   have HB := n7_
   clear n0_ n1_ n2_ n3_ n4_ n5_ n6_ n7_
   (try clear hb)
   (try clear hb2)
   (try clear hk)
   (try clear hi)
   (try clear ho0)
   (try clear ho1)
   (try clear ho2)
   (try clear ho3)
   refine hK.out _ _ trivial (fun hHeld => ?_)
   clear hK K
   refine norm_ (a' := ?_) ?_ ?_
   rotate_left
   ·show Act.put _ (some 37) _ = _
    simp only [Act.put, List.setIfInBounds_toArray, List.set_cons_zero, List.set_cons_succ, i64_w, i32_w]
    rfl
   refine pure_ (i := 8) (N := some 29) (v := ?_) (a' := ?_) #[true, true, true, true, true, true, true, true, true, false, false, true, false, false] rfl rfl (any_of HT_.out (by kernel_rfl)) (fun _ _ _ h => h) (Or.inl ⟨by rfl, ?_⟩) ?_ ?_
   rotate_left
   ·intro w'
    go_simp
    with_reducible rfl
   rotate_left
   ·simp only [Act.put, List.setIfInBounds_toArray, List.set_cons_zero, List.set_cons_succ, i64_w, i32_w]
    rfl
   refine pure_ (i := 9) (N := some 38) (v := ?_) (a' := ?_) #[true, true, true, true, true, true, true, true, true, true, false, true, false, false] rfl rfl (any_of HT_.out (by kernel_rfl)) (fun _ _ _ h => h) (Or.inl ⟨by rfl, ?_⟩) ?_ ?_
   rotate_left
   ·intro w'
    go_simp
    with_reducible rfl
   rotate_left
   ·simp only [Act.put, List.setIfInBounds_toArray, List.set_cons_zero, List.set_cons_succ, i64_w, i32_w]
    rfl
   refine pure_ (i := 10) (N := some 39) (v := ?_) (a' := ?_) #[true, true, true, true, true, true, true, true, true, true, true, true, false, false] rfl rfl (any_of HT_.out (by kernel_rfl)) (fun _ _ _ h => h) (Or.inl ⟨by rfl, ?_⟩) ?_ ?_
   rotate_left
   ·intro w'
    go_simp
    with_reducible rfl
   rotate_left
   ·simp only [Act.put, List.setIfInBounds_toArray, List.set_cons_zero, List.set_cons_succ, i64_w, i32_w]
    rfl
   exact norm_ (by first | (simp only [putAll, Act.put, List.setIfInBounds_toArray, List.set_cons_zero, List.set_cons_succ]; done) | (simp only [putAll, Act.put, List.setIfInBounds_toArray, List.set_cons_zero, List.set_cons_succ]; rfl)) (hJ0_2_6_7_11 (v316, v319, .slice Ao72 y322.length co72, v327, v330, v333, v336, gb338) _ ⟨(by (with_reducible repeat (first | apply Kd.R_alloc | apply Kd.R_drewN | apply Kd.R_drew)); exact HO324.out), (by (with_reducible repeat (first | apply Kd.N_alloc | apply Kd.N_drewN | apply Kd.N_drew)); exact Kd.N_mono HO328.out (fun _ hk => ⟨hk.2.2.2.2.1, ⟨hk.1, ⟨hk.2.1, ⟨hk.2.2.1, ⟨hk.2.2.2.1, hk.2.2.2.2.2⟩⟩⟩⟩⟩)), (by (with_reducible repeat (first | apply Kd.N_alloc | apply Kd.N_drewN | apply Kd.N_drew)); exact Kd.N_mono HO331.out (fun _ hk => ⟨hk.2.2.2.2.1, ⟨hk.1, ⟨hk.2.1, ⟨hk.2.2.1, ⟨hk.2.2.2.1, hk.2.2.2.2.2⟩⟩⟩⟩⟩)), (by (with_reducible repeat (first | apply Kd.R_alloc | apply Kd.R_drewN | apply Kd.R_drew)); exact HO334.out), (by (with_reducible repeat (first | apply Kd.N_alloc | apply Kd.N_drewN | apply Kd.N_drew)); exact Kd.N_mono HO337.out (fun _ hk => ⟨hk.2.2.2.2.1, ⟨hk.1, ⟨hk.2.1, ⟨hk.2.2.1, ⟨hk.2.2.2.1, hk.2.2.2.2.2⟩⟩⟩⟩⟩)), (by (with_reducible repeat (first | apply Kd.R_alloc | apply Kd.R_drewN | apply Kd.R_drew)); exact HO_5.out), (by (with_reducible repeat (first | refine blk_drewN ?_ _ | refine blk_drew ?_ | refine blk_alloc ?_ _)); exact BK338.out), GW338.out, GE338.out, (by repeat (first | (with_reducible first | exact HB.out | apply below_alloc | apply pw_below_drewN | apply below_drew1 | refine below_set ?_ GE338.out) | exact HB.out))⟩)
  skip
  rintro ⟨v316, v319, v323, v327, v330, v333, v336⟩ w72 ⟨h0_, h1_, h2_, h3_, h4_, h5_, h6_⟩
  have n0_ : Aside0 (Kd.R (Kd.int .u8) 5 w72 w.heap.size (fun k_ => some k_ ≠ (.slice Ao63 y312.length co63 : Value).ownBlock) v323 y322) := ⟨h0_⟩
  have n1_ : Aside0 (Kd.N k51 51 w72 w.heap.size (fun k_ => some k_ ≠ (v323 : Value).ownBlock ∧ some k_ ≠ (v330 : Value).ownBlock ∧ some k_ ≠ (v333 : Value).ownBlock ∧ some k_ ≠ (v336 : Value).ownBlock ∧ some k_ ≠ (.slice Ao63 y312.length co63 : Value).ownBlock) v327 t326) := ⟨h1_⟩
  have n2_ : Aside0 (Kd.N (Kd.slice 3 (Kd.int .i64)) 64 w72 w.heap.size (fun k_ => some k_ ≠ (v323 : Value).ownBlock ∧ some k_ ≠ (v327 : Value).ownBlock ∧ some k_ ≠ (v333 : Value).ownBlock ∧ some k_ ≠ (v336 : Value).ownBlock ∧ some k_ ≠ (.slice Ao63 y312.length co63 : Value).ownBlock) v330 t329) := ⟨h2_⟩
  have n3_ : Aside0 (Kd.R k66 66 w72 w.heap.size (fun _ => True) v333 t332) := ⟨h3_⟩
  have n4_ : Aside0 (Kd.N k39 39 w72 w.heap.size (fun k_ => some k_ ≠ (v323 : Value).ownBlock ∧ some k_ ≠ (v327 : Value).ownBlock ∧ some k_ ≠ (v330 : Value).ownBlock ∧ some k_ ≠ (v333 : Value).ownBlock ∧ some k_ ≠ (.slice Ao63 y312.length co63 : Value).ownBlock) v336 t335) := ⟨h4_⟩
  have n5_ : Aside0 (Kd.R (Kd.int .u8) 5 w72 w.heap.size (fun k_ => some k_ ≠ (v323 : Value).ownBlock) (.slice Ao63 y312.length co63) y312) := ⟨h5_⟩
  have n6_ : Aside0 (Below w.heap.size w w72) := ⟨h6_⟩
  clear HO_5
  clear HB
  clear h0_ h1_ h2_ h3_ h4_ h5_ h6_
  have HO324 := n0_
  have HO328 := n1_
  have HO331 := n2_
  have HO334 := n3_
  have HO337 := n4_
  have HO_5 := n5_
  have HB := n6_
  clear n0_ n1_ n2_ n3_ n4_ n5_ n6_
  have hHeld := trivial
  refine norm_ (a' := ?_) ?_ ?_
  rotate_left
  ·simp only [putAll, Act.put, List.setIfInBounds_toArray, List.set_cons_zero, List.set_cons_succ]
   rfl
  refine one_ (i := 11) (N := some 7) #[true, true, true, true, true, true, true, true, true, true, true, true, false, false] rfl rfl (one_of HT_.out (by kernel_rfl)) (by decide) (fun K hK => ?_)
  refine box_step ?hg (N := 7) ?hd (cs := #[.int .i64 0, .slice none 0 0, .slice none 0 0, .slice none 0 0]) (t := 28) ?hr ?_; (case hd => rfl); (case hg => rfl); (case hr => first | (go_simp; done) | (go_simp; rfl))
  intro gb338 hg w73 hbox hb
  have n0_ := Aside0.mk (Kd.R_below (by (with_reducible repeat (first | apply Kd.R_alloc | apply Kd.R_drewN | apply Kd.R_drew)); exact HO_5.out) hb)
  have n1_ := Aside0.mk (Kd.R_below (by (with_reducible repeat (first | apply Kd.R_alloc | apply Kd.R_drewN | apply Kd.R_drew)); exact HO324.out) hb)
  have n2_ := Aside0.mk (Kd.N_below (Kd.N_elderB (by (with_reducible repeat (first | apply Kd.N_alloc | apply Kd.N_drewN | apply Kd.N_drew)); exact HO328.out) gb338 (Nat.le_of_eq hg.symm)) hb)
  have n3_ := Aside0.mk (Kd.N_below (Kd.N_elderB (by (with_reducible repeat (first | apply Kd.N_alloc | apply Kd.N_drewN | apply Kd.N_drew)); exact HO331.out) gb338 (Nat.le_of_eq hg.symm)) hb)
  have n4_ := Aside0.mk (Kd.R_below (by (with_reducible repeat (first | apply Kd.R_alloc | apply Kd.R_drewN | apply Kd.R_drew)); exact HO334.out) hb)
  have n5_ := Aside0.mk (Kd.N_below (Kd.N_elderB (by (with_reducible repeat (first | apply Kd.N_alloc | apply Kd.N_drewN | apply Kd.N_drew)); exact HO337.out) gb338 (Nat.le_of_eq hg.symm)) hb)
  have n6_ := Aside0.mk (below_step (by repeat (first | (with_reducible first | exact HB.out | apply below_alloc | apply pw_below_drewN | apply below_drew1) | exact HB.out)) hb)
  have n7_ := Aside0.mk (hbox)
  have n8_ := Aside0.mk ((by rw [hg]; exact (below_size (by repeat (first | (with_reducible first | exact HB.out | apply below_alloc | apply pw_below_drewN | apply below_drew1) | exact HB.out))) : w.heap.size ≤ gb338))
  have n9_ := Aside0.mk ((by rw [hg]; exact (below_size (by repeat (first | (with_reducible first | exact HB.out | apply below_alloc | apply pw_below_drewN | apply below_drew1) | exact HB.out))) : w.heap.size ≤ gb338))
  clear HO_5
  clear HO324
  clear HO328
  clear HO331
  clear HO334
  clear HO337
  clear HB
  have HO_5 := n0_
  have HO324 := n1_
  have HO328 := n2_
  have HO331 := n3_
  have HO334 := n4_
  have HO337 := n5_
  have HB := n6_
  have BK338 := n7_
  have GW338 := n8_
  have GE338 := n9_
  clear n0_ n1_ n2_ n3_ n4_ n5_ n6_ n7_ n8_ n9_
  clear hb hbox hg
  refine hK.out _ _ trivial (fun hHeld => ?_)
  clear hK K
  refine norm_ (a' := ?_) ?_ ?_
  rotate_left
  ·show Act.put _ (some 7) _ = _
   simp only [Act.put, List.setIfInBounds_toArray, List.set_cons_zero, List.set_cons_succ, i64_w, i32_w]
   rfl
  exact norm_ (by first | (simp only [putAll, Act.put, List.setIfInBounds_toArray, List.set_cons_zero, List.set_cons_succ]; done) | (simp only [putAll, Act.put, List.setIfInBounds_toArray, List.set_cons_zero, List.set_cons_succ]; rfl)) (hJ0_2_6_7_11 (v316, v319, v323, v327, v330, v333, v336, gb338) _ ⟨(by (with_reducible repeat (first | apply Kd.R_alloc | apply Kd.R_drewN | apply Kd.R_drew)); exact HO324.out), (by (with_reducible repeat (first | apply Kd.N_alloc | apply Kd.N_drewN | apply Kd.N_drew)); exact Kd.N_mono HO328.out (fun _ hk => ⟨hk.1.1, ⟨hk.1.2.1, ⟨hk.1.2.2.1, ⟨hk.1.2.2.2.1, ⟨hk.1.2.2.2.2, hk.2⟩⟩⟩⟩⟩)), (by (with_reducible repeat (first | apply Kd.N_alloc | apply Kd.N_drewN | apply Kd.N_drew)); exact Kd.N_mono HO331.out (fun _ hk => ⟨hk.1.1, ⟨hk.1.2.1, ⟨hk.1.2.2.1, ⟨hk.1.2.2.2.1, ⟨hk.1.2.2.2.2, hk.2⟩⟩⟩⟩⟩)), (by (with_reducible repeat (first | apply Kd.R_alloc | apply Kd.R_drewN | apply Kd.R_drew)); exact HO334.out), (by (with_reducible repeat (first | apply Kd.N_alloc | apply Kd.N_drewN | apply Kd.N_drew)); exact Kd.N_mono HO337.out (fun _ hk => ⟨hk.1.1, ⟨hk.1.2.1, ⟨hk.1.2.2.1, ⟨hk.1.2.2.2.1, ⟨hk.1.2.2.2.2, hk.2⟩⟩⟩⟩⟩)), (by (with_reducible repeat (first | apply Kd.R_alloc | apply Kd.R_drewN | apply Kd.R_drew)); exact HO_5.out), (by (with_reducible repeat (first | refine blk_drewN ?_ _ | refine blk_drew ?_ | refine blk_alloc ?_ _)); exact BK338.out), GW338.out, GE338.out, (by repeat (first | (with_reducible first | exact HB.out | apply below_alloc | apply pw_below_drewN | apply below_drew1 | refine below_set ?_ GE338.out) | exact HB.out))⟩)
 rintro ⟨v316, v319, v323, v327, v330, v333, v336, gb338⟩ w73 ⟨h0_, h1_, h2_, h3_, h4_, h5_, h6_, h7_, h8_, h9_⟩
 have n0_ : Aside0 (Kd.R (Kd.int .u8) 5 w73 w.heap.size (fun k_ => some k_ ≠ (.slice Ao63 y312.length co63 : Value).ownBlock) v323 y322) := ⟨h0_⟩
 have n1_ : Aside0 (Kd.N k51 51 w73 w.heap.size (fun k_ => some k_ ≠ (v323 : Value).ownBlock ∧ some k_ ≠ (v330 : Value).ownBlock ∧ some k_ ≠ (v333 : Value).ownBlock ∧ some k_ ≠ (v336 : Value).ownBlock ∧ some k_ ≠ (.slice Ao63 y312.length co63 : Value).ownBlock ∧ k_ ≠ gb338) v327 t326) := ⟨h1_⟩
 have n2_ : Aside0 (Kd.N (Kd.slice 3 (Kd.int .i64)) 64 w73 w.heap.size (fun k_ => some k_ ≠ (v323 : Value).ownBlock ∧ some k_ ≠ (v327 : Value).ownBlock ∧ some k_ ≠ (v333 : Value).ownBlock ∧ some k_ ≠ (v336 : Value).ownBlock ∧ some k_ ≠ (.slice Ao63 y312.length co63 : Value).ownBlock ∧ k_ ≠ gb338) v330 t329) := ⟨h2_⟩
 have n3_ : Aside0 (Kd.R k66 66 w73 w.heap.size (fun _ => True) v333 t332) := ⟨h3_⟩
 have n4_ : Aside0 (Kd.N k39 39 w73 w.heap.size (fun k_ => some k_ ≠ (v323 : Value).ownBlock ∧ some k_ ≠ (v327 : Value).ownBlock ∧ some k_ ≠ (v330 : Value).ownBlock ∧ some k_ ≠ (v333 : Value).ownBlock ∧ some k_ ≠ (.slice Ao63 y312.length co63 : Value).ownBlock ∧ k_ ≠ gb338) v336 t335) := ⟨h4_⟩
 have n5_ : Aside0 (Kd.R (Kd.int .u8) 5 w73 w.heap.size (fun k_ => some k_ ≠ (v323 : Value).ownBlock) (.slice Ao63 y312.length co63) y312) := ⟨h5_⟩
 have n6_ : Aside0 (w73.heap[gb338]? = some (.cells #[.int .i64 0, .slice none 0 0, .slice none 0 0, .slice none 0 0] 28 (0, 0))) := ⟨h6_⟩
 have n7_ : Aside0 (w.heap.size ≤ gb338) := ⟨h7_⟩
 have n8_ : Aside0 (w.heap.size ≤ gb338) := ⟨h8_⟩
 have n9_ : Aside0 (Below w.heap.size w w73) := ⟨h9_⟩
 clear HO_5
 clear HB
 clear h0_ h1_ h2_ h3_ h4_ h5_ h6_ h7_ h8_ h9_
 have HO324 := n0_
 have HO328 := n1_
 have HO331 := n2_
 have HO334 := n3_
 have HO337 := n4_
 have HO_5 := n5_
 have BK338 := n6_
 have GW338 := n7_
 have GE338 := n8_
 have HB := n9_
 clear n0_ n1_ n2_ n3_ n4_ n5_ n6_ n7_ n8_ n9_
 have hHeld := trivial
 obtain ⟨Ao75, co75, eo75⟩ := Kd.N_slice HO328.out
 (first | subst eo75 | (injection eo75 with f1_ f2_ f3_; have f4_ := f1_.symm; have f5_ := f3_.symm; clear f1_ f2_ f3_; subst f4_; subst f5_))
 obtain ⟨Ao77, co77, eo77⟩ := Kd.N_slice HO331.out
 (first | subst eo77 | (injection eo77 with f1_ f2_ f3_; have f4_ := f1_.symm; have f5_ := f3_.symm; clear f1_ f2_ f3_; subst f4_; subst f5_))
 obtain ⟨Ao79, co79, eo79⟩ := Kd.R_slice HO334.out
 (first | subst eo79 | (injection eo79 with f1_ f2_ f3_; have f4_ := f1_.symm; have f5_ := f3_.symm; clear f1_ f2_ f3_; subst f4_; subst f5_))
 refine norm_ (a' := ?_) ?_ ?_
 rotate_left
 ·simp only [putAll, Act.put, List.setIfInBounds_toArray, List.set_cons_zero, List.set_cons_succ]
  rfl
 refine one_ (i := 12) (N := none) #[true, true, true, true, true, true, true, true, true, true, true, true, true, false] rfl rfl (one_of HT_.out (by kernel_rfl)) (by decide) (fun K hK => ?_)
 have hs74 : w73.cell? ⟨gb338, 0, none⟩ = some (.int .i64 0) := (blk_cell BK338.out 0).trans rfl
 have hfs74 := blk_frozen BK338.out 0
 have hs76 : w73.cell? ⟨gb338, 1, none⟩ = some (.slice none 0 0) := (blk_cell BK338.out 1).trans rfl
 have hfs76 := blk_frozen BK338.out 1
 have hs78 : w73.cell? ⟨gb338, 2, none⟩ = some (.slice none 0 0) := (blk_cell BK338.out 2).trans rfl
 have hfs78 := blk_frozen BK338.out 2
 have hs80 : w73.cell? ⟨gb338, 3, none⟩ = some (.slice none 0 0) := (blk_cell BK338.out 3).trans rfl
 have hfs80 := blk_frozen BK338.out 3
 refine skip_ (w1 := ?_) (by rfl) rfl ?_ ?_
 rotate_left
 ·go_simp
  rfl
 refine hK.out _ _ trivial (fun hHeld => ?_)
 clear hK K
 refine pure_ (i := 13) (N := some 8) (v := ?_) (a' := ?_) #[true, true, true, true, true, true, true, true, true, true, true, true, true, true] rfl rfl (any_of HT_.out (by kernel_rfl)) (fun _ _ _ h => h) (Or.inl ⟨by rfl, ?_⟩) ?_ ?_
 rotate_left
 ·intro w'
  go_simp
  with_reducible rfl
 rotate_left
 ·simp only [Act.put, List.setIfInBounds_toArray, List.set_cons_zero, List.set_cons_succ, i64_w, i32_w]
  rfl
 refine done_ (done_of HT_.out (by kernel_rfl)) ?_
 try go_wp2_with (first | ((with_reducible refine gate_dst (N := 41) rfl ?_); (try (refine gate_guard (by rfl) ?_; dsimp only)); refine Kd.R_lit (Kd.int .u8) _ 5 ?hg (N := 41) ?hd (xs := ([] : List Int)) (inner := []) (ok := fun _ => True) (okp := fun _ => True) ?hr ?hp (fun _ hk => hk) trivial (Below.refl _ _) (Nat.le_refl _) (by simp) ?_; (case hd => rfl); (case hg => rfl); (case hr => first | (go_simp; done) | (go_simp; rfl)); (case hp => exact (Reps.none _ _)); intro v340 w81 ho82 hb hg_ hnew_; clear hg_ hnew_; (first | rw [← Ny339.out] at ho82 | (simp only [Int.reduceToNat] at ho82; rw [← Ny339.out] at ho82)); have n0_ := Aside0.mk (Kd.R_elder' (by (with_reducible repeat (first | apply Kd.R_alloc | apply Kd.R_drewN | apply Kd.R_drew)); exact (Kd.R_mono (Kd.R_far (p := ⟨gb338, 3, none⟩) (Kd.R_far (p := ⟨gb338, 2, none⟩) (Kd.R_far (p := ⟨gb338, 1, none⟩) (Kd.R_far (p := ⟨gb338, 0, none⟩) (Kd.R_types HO_5.out BK338.out (by decide)) (fun _ hk => hk.2) (.int .i64 t325)) (fun _ hk => hk.2) (.slice Ao75 t326.length co75)) (fun _ hk => hk.2) (.slice Ao77 t329.length co77)) (fun _ hk => hk.2) (.slice Ao79 t332.length co79)) (fun _ h_ => h_.1))) (Kd.R_base ho82) hb); have n1_ := Aside0.mk (Kd.R_elder' (by (with_reducible repeat (first | apply Kd.R_alloc | apply Kd.R_drewN | apply Kd.R_drew)); exact (Kd.R_mono (Kd.R_far (p := ⟨gb338, 3, none⟩) (Kd.R_far (p := ⟨gb338, 2, none⟩) (Kd.R_far (p := ⟨gb338, 1, none⟩) (Kd.R_far (p := ⟨gb338, 0, none⟩) (Kd.R_types HO324.out BK338.out (by decide)) (fun _ hk => hk.2) (.int .i64 t325)) (fun _ hk => hk.2) (.slice Ao75 t326.length co75)) (fun _ hk => hk.2) (.slice Ao77 t329.length co77)) (fun _ hk => hk.2) (.slice Ao79 t332.length co79)) (fun _ h_ => h_.1))) (Kd.R_base ho82) hb); have n2_ := Aside0.mk (Kd.N_elder' (by (with_reducible repeat (first | apply Kd.N_alloc | apply Kd.N_drewN | apply Kd.N_drew)); exact (Kd.N_mono (Kd.N_far (p := ⟨gb338, 3, none⟩) (Kd.N_far (p := ⟨gb338, 2, none⟩) (Kd.N_far (p := ⟨gb338, 1, none⟩) (Kd.N_far (p := ⟨gb338, 0, none⟩) (Kd.N_mono HO328.out (fun k_ hk => (⟨hk, hk.2.2.2.2.2⟩ : _ ∧ k_ ≠ gb338))) (fun _ hk => hk.2) (.int .i64 t325)) (fun _ hk => hk.2) (.slice Ao75 t326.length co75)) (fun _ hk => hk.2) (.slice Ao77 t329.length co77)) (fun _ hk => hk.2) (.slice Ao79 t332.length co79)) (fun _ h_ => h_.1))) (Kd.R_base ho82) hb); have n3_ := Aside0.mk (Kd.N_elder' (by (with_reducible repeat (first | apply Kd.N_alloc | apply Kd.N_drewN | apply Kd.N_drew)); exact (Kd.N_mono (Kd.N_far (p := ⟨gb338, 3, none⟩) (Kd.N_far (p := ⟨gb338, 2, none⟩) (Kd.N_far (p := ⟨gb338, 1, none⟩) (Kd.N_far (p := ⟨gb338, 0, none⟩) (Kd.N_mono HO331.out (fun k_ hk => (⟨hk, hk.2.2.2.2.2⟩ : _ ∧ k_ ≠ gb338))) (fun _ hk => hk.2) (.int .i64 t325)) (fun _ hk => hk.2) (.slice Ao75 t326.length co75)) (fun _ hk => hk.2) (.slice Ao77 t329.length co77)) (fun _ hk => hk.2) (.slice Ao79 t332.length co79)) (fun _ h_ => h_.1))) (Kd.R_base ho82) hb); have n4_ := Aside0.mk (Kd.R_below (by (with_reducible repeat (first | apply Kd.R_alloc | apply Kd.R_drewN | apply Kd.R_drew)); exact (Kd.R_mono (Kd.R_far (p := ⟨gb338, 3, none⟩) (Kd.R_far (p := ⟨gb338, 2, none⟩) (Kd.R_far (p := ⟨gb338, 1, none⟩) (Kd.R_far (p := ⟨gb338, 0, none⟩) (Kd.R_types HO334.out BK338.out (by decide)) (fun _ hk => hk.2) (.int .i64 t325)) (fun _ hk => hk.2) (.slice Ao75 t326.length co75)) (fun _ hk => hk.2) (.slice Ao77 t329.length co77)) (fun _ hk => hk.2) (.slice Ao79 t332.length co79)) (fun _ h_ => h_.1))) hb); have n5_ := Aside0.mk (Kd.N_elder' (by (with_reducible repeat (first | apply Kd.N_alloc | apply Kd.N_drewN | apply Kd.N_drew)); exact (Kd.N_mono (Kd.N_far (p := ⟨gb338, 3, none⟩) (Kd.N_far (p := ⟨gb338, 2, none⟩) (Kd.N_far (p := ⟨gb338, 1, none⟩) (Kd.N_far (p := ⟨gb338, 0, none⟩) (Kd.N_mono HO337.out (fun k_ hk => (⟨hk, hk.2.2.2.2.2⟩ : _ ∧ k_ ≠ gb338))) (fun _ hk => hk.2) (.int .i64 t325)) (fun _ hk => hk.2) (.slice Ao75 t326.length co75)) (fun _ hk => hk.2) (.slice Ao77 t329.length co77)) (fun _ hk => hk.2) (.slice Ao79 t332.length co79)) (fun _ h_ => h_.1))) (Kd.R_base ho82) hb); have n6_ := Aside0.mk (Kd.R_lower (Kd.R_new' (Kd.R_new' ho82 (Kd.R_lt (by (with_reducible repeat (first | apply Kd.R_alloc | apply Kd.R_drewN | apply Kd.R_drew)); exact (Kd.R_mono (Kd.R_far (p := ⟨gb338, 3, none⟩) (Kd.R_far (p := ⟨gb338, 2, none⟩) (Kd.R_far (p := ⟨gb338, 1, none⟩) (Kd.R_far (p := ⟨gb338, 0, none⟩) (Kd.R_types HO_5.out BK338.out (by decide)) (fun _ hk => hk.2) (.int .i64 t325)) (fun _ hk => hk.2) (.slice Ao75 t326.length co75)) (fun _ hk => hk.2) (.slice Ao77 t329.length co77)) (fun _ hk => hk.2) (.slice Ao79 t332.length co79)) (fun _ h_ => h_.1))))) (Kd.R_lt (by (with_reducible repeat (first | apply Kd.R_alloc | apply Kd.R_drewN | apply Kd.R_drew)); exact (Kd.R_mono (Kd.R_far (p := ⟨gb338, 3, none⟩) (Kd.R_far (p := ⟨gb338, 2, none⟩) (Kd.R_far (p := ⟨gb338, 1, none⟩) (Kd.R_far (p := ⟨gb338, 0, none⟩) (Kd.R_types HO324.out BK338.out (by decide)) (fun _ hk => hk.2) (.int .i64 t325)) (fun _ hk => hk.2) (.slice Ao75 t326.length co75)) (fun _ hk => hk.2) (.slice Ao77 t329.length co77)) (fun _ hk => hk.2) (.slice Ao79 t332.length co79)) (fun _ h_ => h_.1))))) (below_size (by repeat (first | (with_reducible first | exact HB.out | apply below_alloc | apply pw_below_drewN | apply below_drew1 | refine below_set ?_ GE338.out) | exact HB.out)))); have n7_ := Aside0.mk (blk_below (g := gb338) (o := .cells #[.int .i64 t325, .slice Ao75 t326.length co75, .slice Ao77 t329.length co77, .slice Ao79 t332.length co79] 28 (0, 0)) (by (with_reducible repeat (first | refine blk_drewN ?_ _ | refine blk_drew ?_ | refine blk_alloc ?_ _)); refine blk_put (cs := #[.int .i64 t325, .slice Ao75 t326.length co75, .slice Ao77 t329.length co77, .slice none 0 0]) ?_ 3 _ rfl; (with_reducible repeat (first | refine blk_drewN ?_ _ | refine blk_drew ?_ | refine blk_alloc ?_ _)); refine blk_put (cs := #[.int .i64 t325, .slice Ao75 t326.length co75, .slice none 0 0, .slice none 0 0]) ?_ 2 _ rfl; (with_reducible repeat (first | refine blk_drewN ?_ _ | refine blk_drew ?_ | refine blk_alloc ?_ _)); refine blk_put (cs := #[.int .i64 t325, .slice none 0 0, .slice none 0 0, .slice none 0 0]) ?_ 1 _ rfl; (with_reducible repeat (first | refine blk_drewN ?_ _ | refine blk_drew ?_ | refine blk_alloc ?_ _)); refine blk_put (cs := #[.int .i64 0, .slice none 0 0, .slice none 0 0, .slice none 0 0]) ?_ 0 _ rfl; (with_reducible repeat (first | refine blk_drewN ?_ _ | refine blk_drew ?_ | refine blk_alloc ?_ _)); exact BK338.out) hb); have n8_ := Aside0.mk (below_step (by repeat (first | (with_reducible first | exact HB.out | apply below_alloc | apply pw_below_drewN | apply below_drew1 | refine below_set ?_ GE338.out) | exact HB.out)) hb); clear HO_5; clear HO324; clear HO328; clear HO331; clear HO334; clear HO337; clear BK338; clear HB; have HO_5 := n0_; have HO324 := n1_; have HO328 := n2_; have HO331 := n3_; have HO334 := n4_; have HO337 := n5_; have HO341 := n6_; have BK338 := n7_; have HB := n8_; clear n0_ n1_ n2_ n3_ n4_ n5_ n6_ n7_ n8_; clear hb ho82) | ((with_reducible refine gate_builtin (b := .append) (xs := #[.tmp 41, .tmp 42]) rfl ?_); (try (refine gate_guard (by rfl) ?_; dsimp only)); at_builtin; refine Kd.R_append_rows (Kd.int .u8) (w0 := w) w.heap.size rfl (.tmp 41) (.tmp 42) 22 5 (.int .u8 0) 1 rfl Tryd.underlying22 info5 rfl (by decide) (by omega) v340 y339 y312 _ _ _ (fun k_ => some k_ ≠ (.slice Ao63 y312.length co63 : Value).ownBlock ∧ some k_ ≠ (v323 : Value).ownBlock) (fun _ => False) rfl rfl ?aO ?aR (fun _ _ h => h) (fun _ h => h.elim) ?aF ?aB ?aS ?aL ?_; (case aR => repeat (first | exact (Kd.R_reads' HO_5.out).2.2 | (with_reducible refine Kd.C_alloc ?_ _) | (with_reducible refine Kd.C_drewN ?_ _) | (with_reducible refine Kd.C_drew ?_))); (case aB => exact (by repeat (first | (with_reducible first | exact HB.out | apply below_alloc | apply pw_below_drewN | apply below_drew1 | refine below_set ?_ GE338.out) | exact HB.out))); (case aF => exact (fun k_ hk => ⟨Kd.fresh' (Kd.R_lt (by (with_reducible repeat (first | apply Kd.R_alloc | apply Kd.R_drewN | apply Kd.R_drew)); exact HO_5.out)) k_ hk, Kd.fresh' (Kd.R_lt (by (with_reducible repeat (first | apply Kd.R_alloc | apply Kd.R_drewN | apply Kd.R_drew)); exact HO324.out)) k_ hk⟩)); (case aO => exact (by (with_reducible repeat (first | apply Kd.R_alloc | apply Kd.R_drewN | apply Kd.R_drew)); exact Kd.R_mono HO341.out (fun _ hk => ⟨hk.1.2, hk.2⟩))); (case aS => exact (below_size (by repeat (first | (with_reducible first | exact HB.out | apply below_alloc | apply pw_below_drewN | apply below_drew1 | refine below_set ?_ GE338.out) | exact HB.out)))); (case aL => have := LMc21.out; omega); intro v343 w83 ho hb hg hat; rw [← Ny342.out] at ho; have n0_ := Aside0.mk (Kd.R_after (ok := (fun k_ => some k_ ≠ (v323 : Value).ownBlock)) (by (with_reducible repeat (first | apply Kd.R_alloc | apply Kd.R_drewN | apply Kd.R_drew)); exact HO_5.out) hg hat); have n1_ := Aside0.mk (Kd.R_after (ok := (fun k_ => some k_ ≠ (.slice Ao63 y312.length co63 : Value).ownBlock)) (by (with_reducible repeat (first | apply Kd.R_alloc | apply Kd.R_drewN | apply Kd.R_drew)); exact HO324.out) hg hat); have n2_ := Aside0.mk (Kd.N_afterv (ok := (fun k_ => some k_ ≠ (.slice Ao63 y312.length co63 : Value).ownBlock ∧ some k_ ≠ (v323 : Value).ownBlock ∧ some k_ ≠ (.slice Ao77 t329.length co77 : Value).ownBlock ∧ some k_ ≠ (.slice Ao79 t332.length co79 : Value).ownBlock ∧ some k_ ≠ (v336 : Value).ownBlock ∧ k_ ≠ gb338)) (by (with_reducible repeat (first | apply Kd.N_alloc | apply Kd.N_drewN | apply Kd.N_drew)); exact Kd.N_mono HO328.out (fun _ hk => ⟨⟨hk.1.2.2.2.2.1, ⟨hk.1.1, ⟨hk.1.2.1, ⟨hk.1.2.2.1, ⟨hk.1.2.2.2.1, hk.1.2.2.2.2.2⟩⟩⟩⟩⟩, hk.2⟩)) hg hat); have n3_ := Aside0.mk (Kd.N_afterv (ok := (fun k_ => some k_ ≠ (.slice Ao63 y312.length co63 : Value).ownBlock ∧ some k_ ≠ (v323 : Value).ownBlock ∧ some k_ ≠ (.slice Ao75 t326.length co75 : Value).ownBlock ∧ some k_ ≠ (.slice Ao79 t332.length co79 : Value).ownBlock ∧ some k_ ≠ (v336 : Value).ownBlock ∧ k_ ≠ gb338)) (by (with_reducible repeat (first | apply Kd.N_alloc | apply Kd.N_drewN | apply Kd.N_drew)); exact Kd.N_mono HO331.out (fun _ hk => ⟨⟨hk.1.2.2.2.2.1, ⟨hk.1.1, ⟨hk.1.2.1, ⟨hk.1.2.2.1, ⟨hk.1.2.2.2.1, hk.1.2.2.2.2.2⟩⟩⟩⟩⟩, hk.2⟩)) hg hat); have n4_ := Aside0.mk (Kd.R_over' (by (with_reducible repeat (first | apply Kd.R_alloc | apply Kd.R_drewN | apply Kd.R_drew)); exact HO334.out) (Kd.R_typed (by (with_reducible repeat (first | apply Kd.R_alloc | apply Kd.R_drewN | apply Kd.R_drew)); exact HO341.out)) (by decide) hg); have n5_ := Aside0.mk (Kd.N_afterv (ok := (fun k_ => some k_ ≠ (.slice Ao63 y312.length co63 : Value).ownBlock ∧ some k_ ≠ (v323 : Value).ownBlock ∧ some k_ ≠ (.slice Ao75 t326.length co75 : Value).ownBlock ∧ some k_ ≠ (.slice Ao77 t329.length co77 : Value).ownBlock ∧ some k_ ≠ (.slice Ao79 t332.length co79 : Value).ownBlock ∧ k_ ≠ gb338)) (by (with_reducible repeat (first | apply Kd.N_alloc | apply Kd.N_drewN | apply Kd.N_drew)); exact Kd.N_mono HO337.out (fun _ hk => ⟨⟨hk.1.2.2.2.2.1, ⟨hk.1.1, ⟨hk.1.2.1, ⟨hk.1.2.2.1, ⟨hk.1.2.2.2.1, hk.1.2.2.2.2.2⟩⟩⟩⟩⟩, hk.2⟩)) hg hat); have n6_ := Aside0.mk (blk_grown (g := gb338) (o := .cells #[.int .i64 t325, .slice Ao75 t326.length co75, .slice Ao77 t329.length co77, .slice Ao79 t332.length co79] 28 (0, 0)) (by (with_reducible repeat (first | refine blk_drewN ?_ _ | refine blk_drew ?_ | refine blk_alloc ?_ _)); exact BK338.out) hg (Kd.R_ne HO341.out BK338.out (by decide))); have n7_ := Aside0.mk (hb); have n8_ := Aside0.mk (ho); clear HO_5; clear HO324; clear HO328; clear HO331; clear HO334; clear HO337; clear BK338; clear HB; clear HO341; have HO_5 := n0_; have HO324 := n1_; have HO328 := n2_; have HO331 := n3_; have HO334 := n4_; have HO337 := n5_; have BK338 := n6_; have HB := n7_; have HO344 := n8_; clear n0_ n1_ n2_ n3_ n4_ n5_ n6_ n7_ n8_; clear ho hb hg hat) | ((with_reducible refine gate_builtin (b := .append) (xs := #[.tmp 43, .tmp 44]) rfl ?_); (try (refine gate_guard (by rfl) ?_; dsimp only)); at_builtin; refine Kd.R_append_rows (Kd.int .u8) (w0 := w) w.heap.size rfl (.tmp 43) (.tmp 44) 22 5 (.int .u8 0) 1 rfl Tryd.underlying22 info5 rfl (by decide) (by omega) v343 y342 l0 _ _ _ (fun k_ => some k_ ≠ (.slice Ao63 y312.length co63 : Value).ownBlock ∧ some k_ ≠ (v323 : Value).ownBlock) (fun _ => False) rfl rfl ?aO ?aR (fun _ _ h => h) (fun _ h => h.elim) ?aF ?aB ?aS ?aL ?_; (case aR => repeat (first | exact (Kd.C_below HR0.out HB.out) | (with_reducible refine Kd.C_alloc ?_ _) | (with_reducible refine Kd.C_drewN ?_ _) | (with_reducible refine Kd.C_drew ?_))); (case aB => exact (by repeat (first | (with_reducible first | exact HB.out | apply below_alloc | apply pw_below_drewN | apply below_drew1 | refine below_set ?_ GE338.out) | exact HB.out))); (case aF => exact (fun k_ hk => ⟨Kd.fresh' (Kd.R_lt (by (with_reducible repeat (first | apply Kd.R_alloc | apply Kd.R_drewN | apply Kd.R_drew)); exact HO_5.out)) k_ hk, Kd.fresh' (Kd.R_lt (by (with_reducible repeat (first | apply Kd.R_alloc | apply Kd.R_drewN | apply Kd.R_drew)); exact HO324.out)) k_ hk⟩)); (case aO => exact (by (with_reducible repeat (first | apply Kd.R_alloc | apply Kd.R_drewN | apply Kd.R_drew)); exact HO344.out)); (case aS => exact (below_size (by repeat (first | (with_reducible first | exact HB.out | apply below_alloc | apply pw_below_drewN | apply below_drew1 | refine below_set ?_ GE338.out) | exact HB.out)))); (case aL => have := LMc22.out; omega); intro v346 w84 ho hb hg hat; rw [← Ny345.out] at ho; have n0_ := Aside0.mk (Kd.R_after (ok := (fun k_ => some k_ ≠ (v323 : Value).ownBlock)) (by (with_reducible repeat (first | apply Kd.R_alloc | apply Kd.R_drewN | apply Kd.R_drew)); exact HO_5.out) hg hat); have n1_ := Aside0.mk (Kd.R_after (ok := (fun k_ => some k_ ≠ (.slice Ao63 y312.length co63 : Value).ownBlock)) (by (with_reducible repeat (first | apply Kd.R_alloc | apply Kd.R_drewN | apply Kd.R_drew)); exact HO324.out) hg hat); have n2_ := Aside0.mk (Kd.N_afterv (ok := (fun k_ => some k_ ≠ (.slice Ao63 y312.length co63 : Value).ownBlock ∧ some k_ ≠ (v323 : Value).ownBlock ∧ some k_ ≠ (.slice Ao77 t329.length co77 : Value).ownBlock ∧ some k_ ≠ (.slice Ao79 t332.length co79 : Value).ownBlock ∧ some k_ ≠ (v336 : Value).ownBlock ∧ k_ ≠ gb338)) (by (with_reducible repeat (first | apply Kd.N_alloc | apply Kd.N_drewN | apply Kd.N_drew)); exact HO328.out) hg hat); have n3_ := Aside0.mk (Kd.N_afterv (ok := (fun k_ => some k_ ≠ (.slice Ao63 y312.length co63 : Value).ownBlock ∧ some k_ ≠ (v323 : Value).ownBlock ∧ some k_ ≠ (.slice Ao75 t326.length co75 : Value).ownBlock ∧ some k_ ≠ (.slice Ao79 t332.length co79 : Value).ownBlock ∧ some k_ ≠ (v336 : Value).ownBlock ∧ k_ ≠ gb338)) (by (with_reducible repeat (first | apply Kd.N_alloc | apply Kd.N_drewN | apply Kd.N_drew)); exact HO331.out) hg hat); have n4_ := Aside0.mk (Kd.R_over' (by (with_reducible repeat (first | apply Kd.R_alloc | apply Kd.R_drewN | apply Kd.R_drew)); exact HO334.out) (Kd.R_typed (by (with_reducible repeat (first | apply Kd.R_alloc | apply Kd.R_drewN | apply Kd.R_drew)); exact HO344.out)) (by decide) hg); have n5_ := Aside0.mk (Kd.N_afterv (ok := (fun k_ => some k_ ≠ (.slice Ao63 y312.length co63 : Value).ownBlock ∧ some k_ ≠ (v323 : Value).ownBlock ∧ some k_ ≠ (.slice Ao75 t326.length co75 : Value).ownBlock ∧ some k_ ≠ (.slice Ao77 t329.length co77 : Value).ownBlock ∧ some k_ ≠ (.slice Ao79 t332.length co79 : Value).ownBlock ∧ k_ ≠ gb338)) (by (with_reducible repeat (first | apply Kd.N_alloc | apply Kd.N_drewN | apply Kd.N_drew)); exact HO337.out) hg hat); have n6_ := Aside0.mk (blk_grown (g := gb338) (o := .cells #[.int .i64 t325, .slice Ao75 t326.length co75, .slice Ao77 t329.length co77, .slice Ao79 t332.length co79] 28 (0, 0)) (by (with_reducible repeat (first | refine blk_drewN ?_ _ | refine blk_drew ?_ | refine blk_alloc ?_ _)); exact BK338.out) hg (Kd.R_ne HO344.out BK338.out (by decide))); have n7_ := Aside0.mk (hb); have n8_ := Aside0.mk (ho); clear HO_5; clear HO324; clear HO328; clear HO331; clear HO334; clear HO337; clear BK338; clear HB; clear HO344; have HO_5 := n0_; have HO324 := n1_; have HO328 := n2_; have HO331 := n3_; have HO334 := n4_; have HO337 := n5_; have BK338 := n6_; have HB := n7_; have HO347 := n8_; clear n0_ n1_ n2_ n3_ n4_ n5_ n6_ n7_ n8_; clear ho hb hg hat; obtain ⟨Ao85, co85, eo85⟩ := Kd.R_slice HO347.out; subst eo85) | ((with_reducible refine gate_callee (f := 9) rfl ?_); refine goesL_ (some 46) rfl rfl Tryd.func9 (by kernel_rfl) rfl #[.slice Ao85 y345.length co85] rfl (by (try simp only [List.map_toArray, List.map_cons, List.map_nil]); first | done | rfl | (simp only [List.length_drop, List.length_take]; rfl)) ?_; (with_reducible refine (script_Read.calls kj10 _ _ y345 t348 t349 t352 t355 t358 _ ?side1 ?side2 A23.out ?sideG).mono ?_); (case sideG => first | exact HG | exact ⟨HG.out.below (by repeat (first | (with_reducible first | exact HB.out | apply below_alloc | apply pw_below_drewN | apply below_drew1) | exact HB.out))⟩); (case side1 => repeat (first | exact (Kd.R_reads' HO347.out).2.2 | (with_reducible refine Kd.C_alloc ?_ _) | (with_reducible refine Kd.C_drewN ?_ _) | (with_reducible refine Kd.C_drew ?_))); (case side2 => exact (Kd.R_reads' HO347.out).2.1); rintro e w86 ⟨v350, v353, v356, v359, rfl, ho0, ho1, ho2, ho3, hb⟩; refine ⟨_, rfl, ?_⟩; have n0_ := Aside0.mk (Kd.R_below (by (with_reducible repeat (first | apply Kd.R_alloc | apply Kd.R_drewN | apply Kd.R_drew)); exact HO_5.out) hb); have n1_ := Aside0.mk (Kd.R_below (by (with_reducible repeat (first | apply Kd.R_alloc | apply Kd.R_drewN | apply Kd.R_drew)); exact HO324.out) hb); have n2_ := Aside0.mk (Kd.N_mono (Kd.N_told (Kd.N_told (Kd.N_told (Kd.N_told (Kd.N_old (by (with_reducible repeat (first | apply Kd.N_alloc | apply Kd.N_drewN | apply Kd.N_drew)); exact HO328.out) hb) (Kd.N_base ho0)) (Kd.N_base ho1)) (Kd.R_base ho2)) (Kd.N_base ho3)) (fun _ h_ => h_.1)); have n3_ := Aside0.mk (Kd.N_mono (Kd.N_told (Kd.N_told (Kd.N_told (Kd.N_told (Kd.N_old (by (with_reducible repeat (first | apply Kd.N_alloc | apply Kd.N_drewN | apply Kd.N_drew)); exact HO331.out) hb) (Kd.N_base ho0)) (Kd.N_base ho1)) (Kd.R_base ho2)) (Kd.N_base ho3)) (fun _ h_ => h_.1)); have n4_ := Aside0.mk (Kd.R_elder' (by (with_reducible repeat (first | apply Kd.R_alloc | apply Kd.R_drewN | apply Kd.R_drew)); exact HO334.out) (Kd.R_base ho2) hb); have n5_ := Aside0.mk (Kd.N_mono (Kd.N_told (Kd.N_told (Kd.N_told (Kd.N_told (Kd.N_old (by (with_reducible repeat (first | apply Kd.N_alloc | apply Kd.N_drewN | apply Kd.N_drew)); exact HO337.out) hb) (Kd.N_base ho0)) (Kd.N_base ho1)) (Kd.R_base ho2)) (Kd.N_base ho3)) (fun _ h_ => h_.1)); have n6_ := Aside0.mk (Kd.R_below (by (with_reducible repeat (first | apply Kd.R_alloc | apply Kd.R_drewN | apply Kd.R_drew)); exact HO347.out) hb); have n7_ := Aside0.mk (Kd.N_lower (Kd.N_mono (ok' := fun k_ => some k_ ≠ (v353 : Value).ownBlock ∧ some k_ ≠ (v356 : Value).ownBlock ∧ some k_ ≠ (v359 : Value).ownBlock ∧ some k_ ≠ (.slice Ao63 y312.length co63 : Value).ownBlock ∧ some k_ ≠ (v323 : Value).ownBlock ∧ some k_ ≠ (.slice Ao75 t326.length co75 : Value).ownBlock ∧ some k_ ≠ (.slice Ao77 t329.length co77 : Value).ownBlock ∧ some k_ ≠ (.slice Ao79 t332.length co79 : Value).ownBlock ∧ some k_ ≠ (v336 : Value).ownBlock ∧ some k_ ≠ (.slice Ao85 y345.length co85 : Value).ownBlock ∧ k_ ≠ gb338) ho0 (fun k_ hk_ => ⟨hk_.2.1, hk_.2.2.1, hk_.2.2.2, (Kd.fresh' (Kd.R_lt (by (with_reducible repeat (first | apply Kd.R_alloc | apply Kd.R_drewN | apply Kd.R_drew)); exact HO_5.out)) k_ hk_.1), (Kd.fresh' (Kd.R_lt (by (with_reducible repeat (first | apply Kd.R_alloc | apply Kd.R_drewN | apply Kd.R_drew)); exact HO324.out)) k_ hk_.1), (Kd.fresh' (Kd.N_lt (by (with_reducible repeat (first | apply Kd.N_alloc | apply Kd.N_drewN | apply Kd.N_drew)); exact HO328.out)) k_ hk_.1), (Kd.fresh' (Kd.N_lt (by (with_reducible repeat (first | apply Kd.N_alloc | apply Kd.N_drewN | apply Kd.N_drew)); exact HO331.out)) k_ hk_.1), (Kd.fresh' (Kd.R_lt (by (with_reducible repeat (first | apply Kd.R_alloc | apply Kd.R_drewN | apply Kd.R_drew)); exact HO334.out)) k_ hk_.1), (Kd.fresh' (Kd.N_lt (by (with_reducible repeat (first | apply Kd.N_alloc | apply Kd.N_drewN | apply Kd.N_drew)); exact HO337.out)) k_ hk_.1), (Kd.fresh' (Kd.R_lt (by (with_reducible repeat (first | apply Kd.R_alloc | apply Kd.R_drewN | apply Kd.R_drew)); exact HO347.out)) k_ hk_.1), (Kd.freshB (g := gb338) (o := .cells #[.int .i64 t325, .slice Ao75 t326.length co75, .slice Ao77 t329.length co77, .slice Ao79 t332.length co79] 28 (0, 0)) (by (with_reducible repeat (first | refine blk_drewN ?_ _ | refine blk_drew ?_ | refine blk_alloc ?_ _)); exact BK338.out) k_ hk_.1)⟩)) (below_size (by repeat (first | (with_reducible first | exact HB.out | apply below_alloc | apply pw_below_drewN | apply below_drew1 | refine below_set ?_ GE338.out) | exact HB.out)))); have n8_ := Aside0.mk (Kd.N_lower (Kd.N_mono (ok' := fun k_ => some k_ ≠ (v350 : Value).ownBlock ∧ some k_ ≠ (v356 : Value).ownBlock ∧ some k_ ≠ (v359 : Value).ownBlock ∧ some k_ ≠ (.slice Ao63 y312.length co63 : Value).ownBlock ∧ some k_ ≠ (v323 : Value).ownBlock ∧ some k_ ≠ (.slice Ao75 t326.length co75 : Value).ownBlock ∧ some k_ ≠ (.slice Ao77 t329.length co77 : Value).ownBlock ∧ some k_ ≠ (.slice Ao79 t332.length co79 : Value).ownBlock ∧ some k_ ≠ (v336 : Value).ownBlock ∧ some k_ ≠ (.slice Ao85 y345.length co85 : Value).ownBlock ∧ k_ ≠ gb338) ho1 (fun k_ hk_ => ⟨hk_.2.1, hk_.2.2.1, hk_.2.2.2, (Kd.fresh' (Kd.R_lt (by (with_reducible repeat (first | apply Kd.R_alloc | apply Kd.R_drewN | apply Kd.R_drew)); exact HO_5.out)) k_ hk_.1), (Kd.fresh' (Kd.R_lt (by (with_reducible repeat (first | apply Kd.R_alloc | apply Kd.R_drewN | apply Kd.R_drew)); exact HO324.out)) k_ hk_.1), (Kd.fresh' (Kd.N_lt (by (with_reducible repeat (first | apply Kd.N_alloc | apply Kd.N_drewN | apply Kd.N_drew)); exact HO328.out)) k_ hk_.1), (Kd.fresh' (Kd.N_lt (by (with_reducible repeat (first | apply Kd.N_alloc | apply Kd.N_drewN | apply Kd.N_drew)); exact HO331.out)) k_ hk_.1), (Kd.fresh' (Kd.R_lt (by (with_reducible repeat (first | apply Kd.R_alloc | apply Kd.R_drewN | apply Kd.R_drew)); exact HO334.out)) k_ hk_.1), (Kd.fresh' (Kd.N_lt (by (with_reducible repeat (first | apply Kd.N_alloc | apply Kd.N_drewN | apply Kd.N_drew)); exact HO337.out)) k_ hk_.1), (Kd.fresh' (Kd.R_lt (by (with_reducible repeat (first | apply Kd.R_alloc | apply Kd.R_drewN | apply Kd.R_drew)); exact HO347.out)) k_ hk_.1), (Kd.freshB (g := gb338) (o := .cells #[.int .i64 t325, .slice Ao75 t326.length co75, .slice Ao77 t329.length co77, .slice Ao79 t332.length co79] 28 (0, 0)) (by (with_reducible repeat (first | refine blk_drewN ?_ _ | refine blk_drew ?_ | refine blk_alloc ?_ _)); exact BK338.out) k_ hk_.1)⟩)) (below_size (by repeat (first | (with_reducible first | exact HB.out | apply below_alloc | apply pw_below_drewN | apply below_drew1 | refine below_set ?_ GE338.out) | exact HB.out)))); have n9_ := Aside0.mk (Kd.R_lower (Kd.R_new' (Kd.R_mono (ok' := fun k_ => True) ho2 (fun _ hk_ => trivial)) (Kd.R_lt (by (with_reducible repeat (first | apply Kd.R_alloc | apply Kd.R_drewN | apply Kd.R_drew)); exact HO334.out))) (below_size (by repeat (first | (with_reducible first | exact HB.out | apply below_alloc | apply pw_below_drewN | apply below_drew1 | refine below_set ?_ GE338.out) | exact HB.out)))); have n10_ := Aside0.mk (Kd.N_lower (Kd.N_mono (ok' := fun k_ => some k_ ≠ (v350 : Value).ownBlock ∧ some k_ ≠ (v353 : Value).ownBlock ∧ some k_ ≠ (v356 : Value).ownBlock ∧ some k_ ≠ (.slice Ao63 y312.length co63 : Value).ownBlock ∧ some k_ ≠ (v323 : Value).ownBlock ∧ some k_ ≠ (.slice Ao75 t326.length co75 : Value).ownBlock ∧ some k_ ≠ (.slice Ao77 t329.length co77 : Value).ownBlock ∧ some k_ ≠ (.slice Ao79 t332.length co79 : Value).ownBlock ∧ some k_ ≠ (v336 : Value).ownBlock ∧ some k_ ≠ (.slice Ao85 y345.length co85 : Value).ownBlock ∧ k_ ≠ gb338) ho3 (fun k_ hk_ => ⟨hk_.2.1, hk_.2.2.1, hk_.2.2.2, (Kd.fresh' (Kd.R_lt (by (with_reducible repeat (first | apply Kd.R_alloc | apply Kd.R_drewN | apply Kd.R_drew)); exact HO_5.out)) k_ hk_.1), (Kd.fresh' (Kd.R_lt (by (with_reducible repeat (first | apply Kd.R_alloc | apply Kd.R_drewN | apply Kd.R_drew)); exact HO324.out)) k_ hk_.1), (Kd.fresh' (Kd.N_lt (by (with_reducible repeat (first | apply Kd.N_alloc | apply Kd.N_drewN | apply Kd.N_drew)); exact HO328.out)) k_ hk_.1), (Kd.fresh' (Kd.N_lt (by (with_reducible repeat (first | apply Kd.N_alloc | apply Kd.N_drewN | apply Kd.N_drew)); exact HO331.out)) k_ hk_.1), (Kd.fresh' (Kd.R_lt (by (with_reducible repeat (first | apply Kd.R_alloc | apply Kd.R_drewN | apply Kd.R_drew)); exact HO334.out)) k_ hk_.1), (Kd.fresh' (Kd.N_lt (by (with_reducible repeat (first | apply Kd.N_alloc | apply Kd.N_drewN | apply Kd.N_drew)); exact HO337.out)) k_ hk_.1), (Kd.fresh' (Kd.R_lt (by (with_reducible repeat (first | apply Kd.R_alloc | apply Kd.R_drewN | apply Kd.R_drew)); exact HO347.out)) k_ hk_.1), (Kd.freshB (g := gb338) (o := .cells #[.int .i64 t325, .slice Ao75 t326.length co75, .slice Ao77 t329.length co77, .slice Ao79 t332.length co79] 28 (0, 0)) (by (with_reducible repeat (first | refine blk_drewN ?_ _ | refine blk_drew ?_ | refine blk_alloc ?_ _)); exact BK338.out) k_ hk_.1)⟩)) (below_size (by repeat (first | (with_reducible first | exact HB.out | apply below_alloc | apply pw_below_drewN | apply below_drew1 | refine below_set ?_ GE338.out) | exact HB.out)))); have n11_ := Aside0.mk (blk_below (g := gb338) (o := .cells #[.int .i64 t325, .slice Ao75 t326.length co75, .slice Ao77 t329.length co77, .slice Ao79 t332.length co79] 28 (0, 0)) (by (with_reducible repeat (first | refine blk_drewN ?_ _ | refine blk_drew ?_ | refine blk_alloc ?_ _)); exact BK338.out) hb); have n12_ := Aside0.mk (below_step (by repeat (first | (with_reducible first | exact HB.out | apply below_alloc | apply pw_below_drewN | apply below_drew1 | refine below_set ?_ GE338.out) | exact HB.out)) hb); clear HO_5; clear HO324; clear HO328; clear HO331; clear HO334; clear HO337; clear HO347; clear BK338; clear HB; have HO_5 := n0_; have HO324 := n1_; have HO328 := n2_; have HO331 := n3_; have HO334 := n4_; have HO337 := n5_; have HO347 := n6_; have HO351 := n7_; have HO354 := n8_; have HO357 := n9_; have HO360 := n10_; have BK338 := n11_; have HB := n12_; clear n0_ n1_ n2_ n3_ n4_ n5_ n6_ n7_ n8_ n9_ n10_ n11_ n12_; (try clear hb); (try clear hb2); (try clear hk); (try clear hi); (try clear ho0); (try clear ho1); (try clear ho2); (try clear ho3)) | ((with_reducible refine gate_dst (N := 9) rfl ?_); (try (refine gate_guard (by rfl) ?_; dsimp only)); refine box_event ?hg (N := 9) ?hd (cs := #[.int .i64 0, .slice none 0 0, .slice none 0 0, .slice none 0 0]) (t := 28) ?hr ?_; (case hd => rfl); (case hg => rfl); (case hr => first | (go_simp; done) | (go_simp; rfl)); intro gb361 hg w87 hbox hb; have n0_ := Aside0.mk (Kd.R_below (by (with_reducible repeat (first | apply Kd.R_alloc | apply Kd.R_drewN | apply Kd.R_drew)); exact HO_5.out) hb); have n1_ := Aside0.mk (Kd.R_below (by (with_reducible repeat (first | apply Kd.R_alloc | apply Kd.R_drewN | apply Kd.R_drew)); exact HO324.out) hb); have n2_ := Aside0.mk (Kd.N_below (Kd.N_elderB (by (with_reducible repeat (first | apply Kd.N_alloc | apply Kd.N_drewN | apply Kd.N_drew)); exact HO328.out) gb361 (Nat.le_of_eq hg.symm)) hb); have n3_ := Aside0.mk (Kd.N_below (Kd.N_elderB (by (with_reducible repeat (first | apply Kd.N_alloc | apply Kd.N_drewN | apply Kd.N_drew)); exact HO331.out) gb361 (Nat.le_of_eq hg.symm)) hb); have n4_ := Aside0.mk (Kd.R_below (by (with_reducible repeat (first | apply Kd.R_alloc | apply Kd.R_drewN | apply Kd.R_drew)); exact HO334.out) hb); have n5_ := Aside0.mk (Kd.N_below (Kd.N_elderB (by (with_reducible repeat (first | apply Kd.N_alloc | apply Kd.N_drewN | apply Kd.N_drew)); exact HO337.out) gb361 (Nat.le_of_eq hg.symm)) hb); have n6_ := Aside0.mk (Kd.R_below (by (with_reducible repeat (first | apply Kd.R_alloc | apply Kd.R_drewN | apply Kd.R_drew)); exact HO347.out) hb); have n7_ := Aside0.mk (Kd.N_below (Kd.N_elderB (by (with_reducible repeat (first | apply Kd.N_alloc | apply Kd.N_drewN | apply Kd.N_drew)); exact HO351.out) gb361 (Nat.le_of_eq hg.symm)) hb); have n8_ := Aside0.mk (Kd.N_below (Kd.N_elderB (by (with_reducible repeat (first | apply Kd.N_alloc | apply Kd.N_drewN | apply Kd.N_drew)); exact HO354.out) gb361 (Nat.le_of_eq hg.symm)) hb); have n9_ := Aside0.mk (Kd.R_below (by (with_reducible repeat (first | apply Kd.R_alloc | apply Kd.R_drewN | apply Kd.R_drew)); exact HO357.out) hb); have n10_ := Aside0.mk (Kd.N_below (Kd.N_elderB (by (with_reducible repeat (first | apply Kd.N_alloc | apply Kd.N_drewN | apply Kd.N_drew)); exact HO360.out) gb361 (Nat.le_of_eq hg.symm)) hb); have n11_ := Aside0.mk (blk_below (g := gb338) (o := .cells #[.int .i64 t325, .slice Ao75 t326.length co75, .slice Ao77 t329.length co77, .slice Ao79 t332.length co79] 28 (0, 0)) (by (with_reducible repeat (first | refine blk_drewN ?_ _ | refine blk_drew ?_ | refine blk_alloc ?_ _)); exact BK338.out) hb); have n12_ := Aside0.mk (below_step (by repeat (first | (with_reducible first | exact HB.out | apply below_alloc | apply pw_below_drewN | apply below_drew1 | refine below_set ?_ GE338.out) | exact HB.out)) hb); have n13_ := Aside0.mk (hbox); have n14_ := Aside0.mk ((by rw [hg]; exact (below_size (by repeat (first | (with_reducible first | exact HB.out | apply below_alloc | apply pw_below_drewN | apply below_drew1 | refine below_set ?_ GE338.out) | exact HB.out))) : w.heap.size ≤ gb361)); have n15_ := Aside0.mk ((by rw [hg]; exact (below_size (by repeat (first | (with_reducible first | exact HB.out | apply below_alloc | apply pw_below_drewN | apply below_drew1 | refine below_set ?_ GE338.out) | exact HB.out))) : w.heap.size ≤ gb361)); have n16_ := Aside0.mk ((by rw [hg]; exact Nat.ne_of_lt (blk_lt (g := gb338) (o := .cells #[.int .i64 t325, .slice Ao75 t326.length co75, .slice Ao77 t329.length co77, .slice Ao79 t332.length co79] 28 (0, 0)) (by (with_reducible repeat (first | refine blk_drewN ?_ _ | refine blk_drew ?_ | refine blk_alloc ?_ _)); exact BK338.out)) : gb338 ≠ gb361)); have n17_ := Aside0.mk ((by rw [hg]; exact Nat.ne_of_gt (blk_lt (g := gb338) (o := .cells #[.int .i64 t325, .slice Ao75 t326.length co75, .slice Ao77 t329.length co77, .slice Ao79 t332.length co79] 28 (0, 0)) (by (with_reducible repeat (first | refine blk_drewN ?_ _ | refine blk_drew ?_ | refine blk_alloc ?_ _)); exact BK338.out)) : gb361 ≠ gb338)); clear HO_5; clear HO324; clear HO328; clear HO331; clear HO334; clear HO337; clear HO347; clear HO351; clear HO354; clear HO357; clear HO360; clear BK338; clear HB; have HO_5 := n0_; have HO324 := n1_; have HO328 := n2_; have HO331 := n3_; have HO334 := n4_; have HO337 := n5_; have HO347 := n6_; have HO351 := n7_; have HO354 := n8_; have HO357 := n9_; have HO360 := n10_; have BK338 := n11_; have HB := n12_; have BK361 := n13_; have GW361 := n14_; have GE361 := n15_; have NB338_361 := n16_; have NB361_338 := n17_; clear n0_ n1_ n2_ n3_ n4_ n5_ n6_ n7_ n8_ n9_ n10_ n11_ n12_ n13_ n14_ n15_ n16_ n17_; clear hb hbox hg; have hnb88 := NB361_338.out; have hnc88 := NB338_361.out; have hcz89_0 : w87.cell? ⟨gb361, 0, none⟩ = some (.int .i64 0) := (blk_cell BK361.out 0).trans rfl; have hcz89_1 : w87.cell? ⟨gb361, 1, none⟩ = some (.slice none 0 0) := (blk_cell BK361.out 1).trans rfl; have hcz89_2 : w87.cell? ⟨gb361, 2, none⟩ = some (.slice none 0 0) := (blk_cell BK361.out 2).trans rfl; have hcz89_3 : w87.cell? ⟨gb361, 3, none⟩ = some (.slice none 0 0) := (blk_cell BK361.out 3).trans rfl; have hfz89_0 := blk_frozen BK361.out 0; have hfz89_1 := blk_frozen BK361.out 1; have hfz89_2 := blk_frozen BK361.out 2; have hfz89_3 := blk_frozen BK361.out 3; obtain ⟨Ao90, co90, eo90⟩ := Kd.N_slice HO351.out; subst eo90; obtain ⟨Ao91, co91, eo91⟩ := Kd.N_slice HO354.out; subst eo91; obtain ⟨Ao92, co92, eo92⟩ := Kd.R_slice HO357.out; subst eo92; obtain ⟨Ao93, co93, eo93⟩ := Kd.N_slice HO337.out; subst eo93; obtain ⟨Ao94, co94, eo94⟩ := Kd.N_slice HO360.out; subst eo94))
 have n0_ : Aside0 (Kd.R (Kd.int .u8) 5 ((((w87.setCell ⟨gb361, 0, none⟩ (.int .i64 t348)).setCell ⟨gb361, 1, none⟩ (.slice Ao90 t349.length co90)).setCell ⟨gb361, 2, none⟩ (.slice Ao91 t352.length co91)).setCell ⟨gb361, 3, none⟩ (.slice Ao92 t355.length co92)) w.heap.size (fun k_ => some k_ ≠ (v323 : Value).ownBlock ∧ some k_ ≠ (.slice Ao85 y345.length co85 : Value).ownBlock) (.slice Ao63 y312.length co63) y312) := ⟨by (with_reducible repeat (first | apply Kd.R_alloc | apply Kd.R_drewN | apply Kd.R_drew)); exact Kd.R_mono (Kd.R_far (p := ⟨gb361, 3, none⟩) (Kd.R_far (p := ⟨gb361, 2, none⟩) (Kd.R_far (p := ⟨gb361, 1, none⟩) (Kd.R_far (p := ⟨gb361, 0, none⟩) (Kd.R_types HO_5.out BK361.out (by decide)) (fun _ hk => hk.2) (.int .i64 t348)) (fun _ hk => hk.2) (.slice Ao90 t349.length co90)) (fun _ hk => hk.2) (.slice Ao91 t352.length co91)) (fun _ hk => hk.2) (.slice Ao92 t355.length co92)) (fun _ hk => ⟨hk.1.1, hk.1.2⟩)⟩
 have n1_ : Aside0 (Kd.R (Kd.int .u8) 5 ((((w87.setCell ⟨gb361, 0, none⟩ (.int .i64 t348)).setCell ⟨gb361, 1, none⟩ (.slice Ao90 t349.length co90)).setCell ⟨gb361, 2, none⟩ (.slice Ao91 t352.length co91)).setCell ⟨gb361, 3, none⟩ (.slice Ao92 t355.length co92)) w.heap.size (fun k_ => some k_ ≠ (.slice Ao63 y312.length co63 : Value).ownBlock ∧ some k_ ≠ (.slice Ao85 y345.length co85 : Value).ownBlock) v323 y322) := ⟨by (with_reducible repeat (first | apply Kd.R_alloc | apply Kd.R_drewN | apply Kd.R_drew)); exact Kd.R_mono (Kd.R_far (p := ⟨gb361, 3, none⟩) (Kd.R_far (p := ⟨gb361, 2, none⟩) (Kd.R_far (p := ⟨gb361, 1, none⟩) (Kd.R_far (p := ⟨gb361, 0, none⟩) (Kd.R_types HO324.out BK361.out (by decide)) (fun _ hk => hk.2) (.int .i64 t348)) (fun _ hk => hk.2) (.slice Ao90 t349.length co90)) (fun _ hk => hk.2) (.slice Ao91 t352.length co91)) (fun _ hk => hk.2) (.slice Ao92 t355.length co92)) (fun _ hk => ⟨hk.1.1, hk.1.2⟩)⟩
 have n2_ : Aside0 (Kd.N k51 51 ((((w87.setCell ⟨gb361, 0, none⟩ (.int .i64 t348)).setCell ⟨gb361, 1, none⟩ (.slice Ao90 t349.length co90)).setCell ⟨gb361, 2, none⟩ (.slice Ao91 t352.length co91)).setCell ⟨gb361, 3, none⟩ (.slice Ao92 t355.length co92)) w.heap.size (fun k_ => some k_ ≠ (.slice Ao63 y312.length co63 : Value).ownBlock ∧ some k_ ≠ (v323 : Value).ownBlock ∧ some k_ ≠ (.slice Ao77 t329.length co77 : Value).ownBlock ∧ some k_ ≠ (.slice Ao79 t332.length co79 : Value).ownBlock ∧ some k_ ≠ (.slice Ao93 t335.length co93 : Value).ownBlock ∧ some k_ ≠ (.slice Ao85 y345.length co85 : Value).ownBlock ∧ some k_ ≠ (.slice Ao90 t349.length co90 : Value).ownBlock ∧ some k_ ≠ (.slice Ao91 t352.length co91 : Value).ownBlock ∧ some k_ ≠ (.slice Ao92 t355.length co92 : Value).ownBlock ∧ some k_ ≠ (.slice Ao94 t358.length co94 : Value).ownBlock ∧ k_ ≠ gb338 ∧ k_ ≠ gb361) (.slice Ao75 t326.length co75) t326) := ⟨by (with_reducible repeat (first | apply Kd.N_alloc | apply Kd.N_drewN | apply Kd.N_drew)); exact Kd.N_mono (Kd.N_far (p := ⟨gb361, 3, none⟩) (Kd.N_far (p := ⟨gb361, 2, none⟩) (Kd.N_far (p := ⟨gb361, 1, none⟩) (Kd.N_far (p := ⟨gb361, 0, none⟩) (Kd.N_mono HO328.out (fun k_ hk => (⟨hk, hk.2⟩ : _ ∧ k_ ≠ gb361))) (fun _ hk => hk.2) (.int .i64 t348)) (fun _ hk => hk.2) (.slice Ao90 t349.length co90)) (fun _ hk => hk.2) (.slice Ao91 t352.length co91)) (fun _ hk => hk.2) (.slice Ao92 t355.length co92)) (fun _ hk => ⟨hk.1.1.1.1.1.1.1.1, ⟨hk.1.1.1.1.1.1.1.2.1, ⟨hk.1.1.1.1.1.1.1.2.2.1, ⟨hk.1.1.1.1.1.1.1.2.2.2.1, ⟨hk.1.1.1.1.1.1.1.2.2.2.2.1, ⟨hk.1.1.1.1.1.1.2, ⟨hk.1.1.1.1.1.2, ⟨hk.1.1.1.1.2, ⟨hk.1.1.1.2, ⟨hk.1.1.2, ⟨hk.1.1.1.1.1.1.1.2.2.2.2.2, hk.1.2⟩⟩⟩⟩⟩⟩⟩⟩⟩⟩⟩)⟩
 have n3_ : Aside0 (Kd.N (Kd.slice 3 (Kd.int .i64)) 64 ((((w87.setCell ⟨gb361, 0, none⟩ (.int .i64 t348)).setCell ⟨gb361, 1, none⟩ (.slice Ao90 t349.length co90)).setCell ⟨gb361, 2, none⟩ (.slice Ao91 t352.length co91)).setCell ⟨gb361, 3, none⟩ (.slice Ao92 t355.length co92)) w.heap.size (fun k_ => some k_ ≠ (.slice Ao63 y312.length co63 : Value).ownBlock ∧ some k_ ≠ (v323 : Value).ownBlock ∧ some k_ ≠ (.slice Ao75 t326.length co75 : Value).ownBlock ∧ some k_ ≠ (.slice Ao79 t332.length co79 : Value).ownBlock ∧ some k_ ≠ (.slice Ao93 t335.length co93 : Value).ownBlock ∧ some k_ ≠ (.slice Ao85 y345.length co85 : Value).ownBlock ∧ some k_ ≠ (.slice Ao90 t349.length co90 : Value).ownBlock ∧ some k_ ≠ (.slice Ao91 t352.length co91 : Value).ownBlock ∧ some k_ ≠ (.slice Ao92 t355.length co92 : Value).ownBlock ∧ some k_ ≠ (.slice Ao94 t358.length co94 : Value).ownBlock ∧ k_ ≠ gb338 ∧ k_ ≠ gb361) (.slice Ao77 t329.length co77) t329) := ⟨by (with_reducible repeat (first | apply Kd.N_alloc | apply Kd.N_drewN | apply Kd.N_drew)); exact Kd.N_mono (Kd.N_far (p := ⟨gb361, 3, none⟩) (Kd.N_far (p := ⟨gb361, 2, none⟩) (Kd.N_far (p := ⟨gb361, 1, none⟩) (Kd.N_far (p := ⟨gb361, 0, none⟩) (Kd.N_mono HO331.out (fun k_ hk => (⟨hk, hk.2⟩ : _ ∧ k_ ≠ gb361))) (fun _ hk => hk.2) (.int .i64 t348)) (fun _ hk => hk.2) (.slice Ao90 t349.length co90)) (fun _ hk => hk.2) (.slice Ao91 t352.length co91)) (fun _ hk => hk.2) (.slice Ao92 t355.length co92)) (fun _ hk => ⟨hk.1.1.1.1.1.1.1.1, ⟨hk.1.1.1.1.1.1.1.2.1, ⟨hk.1.1.1.1.1.1.1.2.2.1, ⟨hk.1.1.1.1.1.1.1.2.2.2.1, ⟨hk.1.1.1.1.1.1.1.2.2.2.2.1, ⟨hk.1.1.1.1.1.1.2, ⟨hk.1.1.1.1.1.2, ⟨hk.1.1.1.1.2, ⟨hk.1.1.1.2, ⟨hk.1.1.2, ⟨hk.1.1.1.1.1.1.1.2.2.2.2.2, hk.1.2⟩⟩⟩⟩⟩⟩⟩⟩⟩⟩⟩)⟩
 have n4_ : Aside0 (Kd.R k66 66 ((((w87.setCell ⟨gb361, 0, none⟩ (.int .i64 t348)).setCell ⟨gb361, 1, none⟩ (.slice Ao90 t349.length co90)).setCell ⟨gb361, 2, none⟩ (.slice Ao91 t352.length co91)).setCell ⟨gb361, 3, none⟩ (.slice Ao92 t355.length co92)) w.heap.size (fun k_ => some k_ ≠ (.slice Ao92 t355.length co92 : Value).ownBlock) (.slice Ao79 t332.length co79) t332) := ⟨by (with_reducible repeat (first | apply Kd.R_alloc | apply Kd.R_drewN | apply Kd.R_drew)); exact Kd.R_mono (Kd.R_far (p := ⟨gb361, 3, none⟩) (Kd.R_far (p := ⟨gb361, 2, none⟩) (Kd.R_far (p := ⟨gb361, 1, none⟩) (Kd.R_far (p := ⟨gb361, 0, none⟩) (Kd.R_types HO334.out BK361.out (by decide)) (fun _ hk => hk.2) (.int .i64 t348)) (fun _ hk => hk.2) (.slice Ao90 t349.length co90)) (fun _ hk => hk.2) (.slice Ao91 t352.length co91)) (fun _ hk => hk.2) (.slice Ao92 t355.length co92)) (fun _ hk => hk.1.2)⟩
 have n5_ : Aside0 (Kd.N k39 39 ((((w87.setCell ⟨gb361, 0, none⟩ (.int .i64 t348)).setCell ⟨gb361, 1, none⟩ (.slice Ao90 t349.length co90)).setCell ⟨gb361, 2, none⟩ (.slice Ao91 t352.length co91)).setCell ⟨gb361, 3, none⟩ (.slice Ao92 t355.length co92)) w.heap.size (fun k_ => some k_ ≠ (.slice Ao63 y312.length co63 : Value).ownBlock ∧ some k_ ≠ (v323 : Value).ownBlock ∧ some k_ ≠ (.slice Ao75 t326.length co75 : Value).ownBlock ∧ some k_ ≠ (.slice Ao77 t329.length co77 : Value).ownBlock ∧ some k_ ≠ (.slice Ao79 t332.length co79 : Value).ownBlock ∧ some k_ ≠ (.slice Ao85 y345.length co85 : Value).ownBlock ∧ some k_ ≠ (.slice Ao90 t349.length co90 : Value).ownBlock ∧ some k_ ≠ (.slice Ao91 t352.length co91 : Value).ownBlock ∧ some k_ ≠ (.slice Ao92 t355.length co92 : Value).ownBlock ∧ some k_ ≠ (.slice Ao94 t358.length co94 : Value).ownBlock ∧ k_ ≠ gb338 ∧ k_ ≠ gb361) (.slice Ao93 t335.length co93) t335) := ⟨by (with_reducible repeat (first | apply Kd.N_alloc | apply Kd.N_drewN | apply Kd.N_drew)); exact Kd.N_mono (Kd.N_far (p := ⟨gb361, 3, none⟩) (Kd.N_far (p := ⟨gb361, 2, none⟩) (Kd.N_far (p := ⟨gb361, 1, none⟩) (Kd.N_far (p := ⟨gb361, 0, none⟩) (Kd.N_mono HO337.out (fun k_ hk => (⟨hk, hk.2⟩ : _ ∧ k_ ≠ gb361))) (fun _ hk => hk.2) (.int .i64 t348)) (fun _ hk => hk.2) (.slice Ao90 t349.length co90)) (fun _ hk => hk.2) (.slice Ao91 t352.length co91)) (fun _ hk => hk.2) (.slice Ao92 t355.length co92)) (fun _ hk => ⟨hk.1.1.1.1.1.1.1.1, ⟨hk.1.1.1.1.1.1.1.2.1, ⟨hk.1.1.1.1.1.1.1.2.2.1, ⟨hk.1.1.1.1.1.1.1.2.2.2.1, ⟨hk.1.1.1.1.1.1.1.2.2.2.2.1, ⟨hk.1.1.1.1.1.1.2, ⟨hk.1.1.1.1.1.2, ⟨hk.1.1.1.1.2, ⟨hk.1.1.1.2, ⟨hk.1.1.2, ⟨hk.1.1.1.1.1.1.1.2.2.2.2.2, hk.1.2⟩⟩⟩⟩⟩⟩⟩⟩⟩⟩⟩)⟩
 have n6_ : Aside0 (Kd.R (Kd.int .u8) 5 ((((w87.setCell ⟨gb361, 0, none⟩ (.int .i64 t348)).setCell ⟨gb361, 1, none⟩ (.slice Ao90 t349.length co90)).setCell ⟨gb361, 2, none⟩ (.slice Ao91 t352.length co91)).setCell ⟨gb361, 3, none⟩ (.slice Ao92 t355.length co92)) w.heap.size (fun k_ => some k_ ≠ (.slice Ao63 y312.length co63 : Value).ownBlock ∧ some k_ ≠ (v323 : Value).ownBlock) (.slice Ao85 y345.length co85) y345) := ⟨by (with_reducible repeat (first | apply Kd.R_alloc | apply Kd.R_drewN | apply Kd.R_drew)); exact Kd.R_mono (Kd.R_far (p := ⟨gb361, 3, none⟩) (Kd.R_far (p := ⟨gb361, 2, none⟩) (Kd.R_far (p := ⟨gb361, 1, none⟩) (Kd.R_far (p := ⟨gb361, 0, none⟩) (Kd.R_types HO347.out BK361.out (by decide)) (fun _ hk => hk.2) (.int .i64 t348)) (fun _ hk => hk.2) (.slice Ao90 t349.length co90)) (fun _ hk => hk.2) (.slice Ao91 t352.length co91)) (fun _ hk => hk.2) (.slice Ao92 t355.length co92)) (fun _ hk => ⟨hk.1.1, hk.1.2⟩)⟩
 have n7_ : Aside0 (Kd.N k51 51 ((((w87.setCell ⟨gb361, 0, none⟩ (.int .i64 t348)).setCell ⟨gb361, 1, none⟩ (.slice Ao90 t349.length co90)).setCell ⟨gb361, 2, none⟩ (.slice Ao91 t352.length co91)).setCell ⟨gb361, 3, none⟩ (.slice Ao92 t355.length co92)) w.heap.size (fun k_ => some k_ ≠ (.slice Ao63 y312.length co63 : Value).ownBlock ∧ some k_ ≠ (v323 : Value).ownBlock ∧ some k_ ≠ (.slice Ao75 t326.length co75 : Value).ownBlock ∧ some k_ ≠ (.slice Ao77 t329.length co77 : Value).ownBlock ∧ some k_ ≠ (.slice Ao79 t332.length co79 : Value).ownBlock ∧ some k_ ≠ (.slice Ao93 t335.length co93 : Value).ownBlock ∧ some k_ ≠ (.slice Ao85 y345.length co85 : Value).ownBlock ∧ some k_ ≠ (.slice Ao91 t352.length co91 : Value).ownBlock ∧ some k_ ≠ (.slice Ao92 t355.length co92 : Value).ownBlock ∧ some k_ ≠ (.slice Ao94 t358.length co94 : Value).ownBlock ∧ k_ ≠ gb338 ∧ k_ ≠ gb361) (.slice Ao90 t349.length co90) t349) := ⟨by (with_reducible repeat (first | apply Kd.N_alloc | apply Kd.N_drewN | apply Kd.N_drew)); exact Kd.N_mono (Kd.N_far (p := ⟨gb361, 3, none⟩) (Kd.N_far (p := ⟨gb361, 2, none⟩) (Kd.N_far (p := ⟨gb361, 1, none⟩) (Kd.N_far (p := ⟨gb361, 0, none⟩) (Kd.N_mono HO351.out (fun k_ hk => (⟨hk, hk.2⟩ : _ ∧ k_ ≠ gb361))) (fun _ hk => hk.2) (.int .i64 t348)) (fun _ hk => hk.2) (.slice Ao90 t349.length co90)) (fun _ hk => hk.2) (.slice Ao91 t352.length co91)) (fun _ hk => hk.2) (.slice Ao92 t355.length co92)) (fun _ hk => ⟨hk.1.1.2.2.2.1, ⟨hk.1.1.2.2.2.2.1, ⟨hk.1.1.2.2.2.2.2.1, ⟨hk.1.1.2.2.2.2.2.2.1, ⟨hk.1.1.2.2.2.2.2.2.2.1, ⟨hk.1.1.2.2.2.2.2.2.2.2.1, ⟨hk.1.1.2.2.2.2.2.2.2.2.2.1, ⟨hk.1.1.1, ⟨hk.1.1.2.1, ⟨hk.1.1.2.2.1, ⟨hk.1.1.2.2.2.2.2.2.2.2.2.2, hk.1.2⟩⟩⟩⟩⟩⟩⟩⟩⟩⟩⟩)⟩
 have n8_ : Aside0 (Kd.N (Kd.slice 3 (Kd.int .i64)) 64 ((((w87.setCell ⟨gb361, 0, none⟩ (.int .i64 t348)).setCell ⟨gb361, 1, none⟩ (.slice Ao90 t349.length co90)).setCell ⟨gb361, 2, none⟩ (.slice Ao91 t352.length co91)).setCell ⟨gb361, 3, none⟩ (.slice Ao92 t355.length co92)) w.heap.size (fun k_ => some k_ ≠ (.slice Ao63 y312.length co63 : Value).ownBlock ∧ some k_ ≠ (v323 : Value).ownBlock ∧ some k_ ≠ (.slice Ao75 t326.length co75 : Value).ownBlock ∧ some k_ ≠ (.slice Ao77 t329.length co77 : Value).ownBlock ∧ some k_ ≠ (.slice Ao79 t332.length co79 : Value).ownBlock ∧ some k_ ≠ (.slice Ao93 t335.length co93 : Value).ownBlock ∧ some k_ ≠ (.slice Ao85 y345.length co85 : Value).ownBlock ∧ some k_ ≠ (.slice Ao90 t349.length co90 : Value).ownBlock ∧ some k_ ≠ (.slice Ao92 t355.length co92 : Value).ownBlock ∧ some k_ ≠ (.slice Ao94 t358.length co94 : Value).ownBlock ∧ k_ ≠ gb338 ∧ k_ ≠ gb361) (.slice Ao91 t352.length co91) t352) := ⟨by (with_reducible repeat (first | apply Kd.N_alloc | apply Kd.N_drewN | apply Kd.N_drew)); exact Kd.N_mono (Kd.N_far (p := ⟨gb361, 3, none⟩) (Kd.N_far (p := ⟨gb361, 2, none⟩) (Kd.N_far (p := ⟨gb361, 1, none⟩) (Kd.N_far (p := ⟨gb361, 0, none⟩) (Kd.N_mono HO354.out (fun k_ hk => (⟨hk, hk.2⟩ : _ ∧ k_ ≠ gb361))) (fun _ hk => hk.2) (.int .i64 t348)) (fun _ hk => hk.2) (.slice Ao90 t349.length co90)) (fun _ hk => hk.2) (.slice Ao91 t352.length co91)) (fun _ hk => hk.2) (.slice Ao92 t355.length co92)) (fun _ hk => ⟨hk.1.1.2.2.2.1, ⟨hk.1.1.2.2.2.2.1, ⟨hk.1.1.2.2.2.2.2.1, ⟨hk.1.1.2.2.2.2.2.2.1, ⟨hk.1.1.2.2.2.2.2.2.2.1, ⟨hk.1.1.2.2.2.2.2.2.2.2.1, ⟨hk.1.1.2.2.2.2.2.2.2.2.2.1, ⟨hk.1.1.1, ⟨hk.1.1.2.1, ⟨hk.1.1.2.2.1, ⟨hk.1.1.2.2.2.2.2.2.2.2.2.2, hk.1.2⟩⟩⟩⟩⟩⟩⟩⟩⟩⟩⟩)⟩
 have n9_ : Aside0 (Kd.R k66 66 ((((w87.setCell ⟨gb361, 0, none⟩ (.int .i64 t348)).setCell ⟨gb361, 1, none⟩ (.slice Ao90 t349.length co90)).setCell ⟨gb361, 2, none⟩ (.slice Ao91 t352.length co91)).setCell ⟨gb361, 3, none⟩ (.slice Ao92 t355.length co92)) w.heap.size (fun k_ => some k_ ≠ (.slice Ao79 t332.length co79 : Value).ownBlock) (.slice Ao92 t355.length co92) t355) := ⟨by (with_reducible repeat (first | apply Kd.R_alloc | apply Kd.R_drewN | apply Kd.R_drew)); exact Kd.R_mono (Kd.R_far (p := ⟨gb361, 3, none⟩) (Kd.R_far (p := ⟨gb361, 2, none⟩) (Kd.R_far (p := ⟨gb361, 1, none⟩) (Kd.R_far (p := ⟨gb361, 0, none⟩) (Kd.R_types HO357.out BK361.out (by decide)) (fun _ hk => hk.2) (.int .i64 t348)) (fun _ hk => hk.2) (.slice Ao90 t349.length co90)) (fun _ hk => hk.2) (.slice Ao91 t352.length co91)) (fun _ hk => hk.2) (.slice Ao92 t355.length co92)) (fun _ hk => hk.1.2)⟩
 have n10_ : Aside0 (Kd.N k39 39 ((((w87.setCell ⟨gb361, 0, none⟩ (.int .i64 t348)).setCell ⟨gb361, 1, none⟩ (.slice Ao90 t349.length co90)).setCell ⟨gb361, 2, none⟩ (.slice Ao91 t352.length co91)).setCell ⟨gb361, 3, none⟩ (.slice Ao92 t355.length co92)) w.heap.size (fun k_ => some k_ ≠ (.slice Ao63 y312.length co63 : Value).ownBlock ∧ some k_ ≠ (v323 : Value).ownBlock ∧ some k_ ≠ (.slice Ao75 t326.length co75 : Value).ownBlock ∧ some k_ ≠ (.slice Ao77 t329.length co77 : Value).ownBlock ∧ some k_ ≠ (.slice Ao79 t332.length co79 : Value).ownBlock ∧ some k_ ≠ (.slice Ao93 t335.length co93 : Value).ownBlock ∧ some k_ ≠ (.slice Ao85 y345.length co85 : Value).ownBlock ∧ some k_ ≠ (.slice Ao90 t349.length co90 : Value).ownBlock ∧ some k_ ≠ (.slice Ao91 t352.length co91 : Value).ownBlock ∧ some k_ ≠ (.slice Ao92 t355.length co92 : Value).ownBlock ∧ k_ ≠ gb338 ∧ k_ ≠ gb361) (.slice Ao94 t358.length co94) t358) := ⟨by (with_reducible repeat (first | apply Kd.N_alloc | apply Kd.N_drewN | apply Kd.N_drew)); exact Kd.N_mono (Kd.N_far (p := ⟨gb361, 3, none⟩) (Kd.N_far (p := ⟨gb361, 2, none⟩) (Kd.N_far (p := ⟨gb361, 1, none⟩) (Kd.N_far (p := ⟨gb361, 0, none⟩) (Kd.N_mono HO360.out (fun k_ hk => (⟨hk, hk.2⟩ : _ ∧ k_ ≠ gb361))) (fun _ hk => hk.2) (.int .i64 t348)) (fun _ hk => hk.2) (.slice Ao90 t349.length co90)) (fun _ hk => hk.2) (.slice Ao91 t352.length co91)) (fun _ hk => hk.2) (.slice Ao92 t355.length co92)) (fun _ hk => ⟨hk.1.1.2.2.2.1, ⟨hk.1.1.2.2.2.2.1, ⟨hk.1.1.2.2.2.2.2.1, ⟨hk.1.1.2.2.2.2.2.2.1, ⟨hk.1.1.2.2.2.2.2.2.2.1, ⟨hk.1.1.2.2.2.2.2.2.2.2.1, ⟨hk.1.1.2.2.2.2.2.2.2.2.2.1, ⟨hk.1.1.1, ⟨hk.1.1.2.1, ⟨hk.1.1.2.2.1, ⟨hk.1.1.2.2.2.2.2.2.2.2.2.2, hk.1.2⟩⟩⟩⟩⟩⟩⟩⟩⟩⟩⟩)⟩
 have n11_ : Aside0 (((((w87.setCell ⟨gb361, 0, none⟩ (.int .i64 t348)).setCell ⟨gb361, 1, none⟩ (.slice Ao90 t349.length co90)).setCell ⟨gb361, 2, none⟩ (.slice Ao91 t352.length co91)).setCell ⟨gb361, 3, none⟩ (.slice Ao92 t355.length co92)).heap[gb338]? = some (.cells #[.int .i64 t325, .slice Ao75 t326.length co75, .slice Ao77 t329.length co77, .slice Ao79 t332.length co79] 28 (0, 0))) := ⟨by (with_reducible repeat (first | refine blk_drewN ?_ _ | refine blk_drew ?_ | refine blk_alloc ?_ _)); refine blk_far ?_ NB338_361.out _; (with_reducible repeat (first | refine blk_drewN ?_ _ | refine blk_drew ?_ | refine blk_alloc ?_ _)); refine blk_far ?_ NB338_361.out _; (with_reducible repeat (first | refine blk_drewN ?_ _ | refine blk_drew ?_ | refine blk_alloc ?_ _)); refine blk_far ?_ NB338_361.out _; (with_reducible repeat (first | refine blk_drewN ?_ _ | refine blk_drew ?_ | refine blk_alloc ?_ _)); refine blk_far ?_ NB338_361.out _; (with_reducible repeat (first | refine blk_drewN ?_ _ | refine blk_drew ?_ | refine blk_alloc ?_ _)); exact BK338.out⟩
 have n12_ : Aside0 (((((w87.setCell ⟨gb361, 0, none⟩ (.int .i64 t348)).setCell ⟨gb361, 1, none⟩ (.slice Ao90 t349.length co90)).setCell ⟨gb361, 2, none⟩ (.slice Ao91 t352.length co91)).setCell ⟨gb361, 3, none⟩ (.slice Ao92 t355.length co92)).heap[gb361]? = some (.cells #[.int .i64 t348, .slice Ao90 t349.length co90, .slice Ao91 t352.length co91, .slice Ao92 t355.length co92] 28 (0, 0))) := ⟨by (with_reducible repeat (first | refine blk_drewN ?_ _ | refine blk_drew ?_ | refine blk_alloc ?_ _)); refine blk_put (cs := #[.int .i64 t348, .slice Ao90 t349.length co90, .slice Ao91 t352.length co91, .slice none 0 0]) ?_ 3 _ rfl; (with_reducible repeat (first | refine blk_drewN ?_ _ | refine blk_drew ?_ | refine blk_alloc ?_ _)); refine blk_put (cs := #[.int .i64 t348, .slice Ao90 t349.length co90, .slice none 0 0, .slice none 0 0]) ?_ 2 _ rfl; (with_reducible repeat (first | refine blk_drewN ?_ _ | refine blk_drew ?_ | refine blk_alloc ?_ _)); refine blk_put (cs := #[.int .i64 t348, .slice none 0 0, .slice none 0 0, .slice none 0 0]) ?_ 1 _ rfl; (with_reducible repeat (first | refine blk_drewN ?_ _ | refine blk_drew ?_ | refine blk_alloc ?_ _)); refine blk_put (cs := #[.int .i64 0, .slice none 0 0, .slice none 0 0, .slice none 0 0]) ?_ 0 _ rfl; (with_reducible repeat (first | refine blk_drewN ?_ _ | refine blk_drew ?_ | refine blk_alloc ?_ _)); exact BK361.out⟩
 have n13_ : Aside0 (Below w.heap.size w ((((w87.setCell ⟨gb361, 0, none⟩ (.int .i64 t348)).setCell ⟨gb361, 1, none⟩ (.slice Ao90 t349.length co90)).setCell ⟨gb361, 2, none⟩ (.slice Ao91 t352.length co91)).setCell ⟨gb361, 3, none⟩ (.slice Ao92 t355.length co92))) := ⟨by repeat (first | (with_reducible first | exact HB.out | apply below_alloc | apply pw_below_drewN | apply below_drew1 | refine below_set ?_ GE338.out | refine below_set ?_ GE361.out) | exact HB.out)⟩
 (try clear HO_5)
 (try clear HO324)
 (try clear HO328)
 (try clear HO331)
 (try clear HO334)
 (try clear HO337)
 (try clear HO347)
 (try clear HO351)
 (try clear HO354)
 (try clear HO357)
 (try clear HO360)
 (try clear BK338)
 (try clear BK361)
 (try clear HB)
 (try simp only [setCell_drewN_])
 generalize ((((w87.setCell ⟨gb361, 0, none⟩ (.int .i64 t348)).setCell ⟨gb361, 1, none⟩ (.slice Ao90 t349.length co90)).setCell ⟨gb361, 2, none⟩ (.slice Ao91 t352.length co91)).setCell ⟨gb361, 3, none⟩ (.slice Ao92 t355.length co92)) = w95 at n0_ n1_ n2_ n3_ n4_ n5_ n6_ n7_ n8_ n9_ n10_ n11_ n12_ n13_ ⊢
 have HO_5 := n0_
 have HO324 := n1_
 have HO328 := n2_
 have HO331 := n3_
 have HO334 := n4_
 have HO337 := n5_
 have HO347 := n6_
 have HO351 := n7_
 have HO354 := n8_
 have HO357 := n9_
 have HO360 := n10_
 have BK338 := n11_
 have BK361 := n12_
 have HB := n13_
 clear n0_ n1_ n2_ n3_ n4_ n5_ n6_ n7_ n8_ n9_ n10_ n11_ n12_ n13_
 have n0_ := Aside0.mk (Kd.R_drew HO_5.out)
 have n1_ := Aside0.mk (Kd.R_drew HO324.out)
 have n2_ := Aside0.mk (Kd.N_drew HO328.out)
 have n3_ := Aside0.mk (Kd.N_drew HO331.out)
 have n4_ := Aside0.mk (Kd.R_drew HO334.out)
 have n5_ := Aside0.mk (Kd.N_drew HO337.out)
 have n6_ := Aside0.mk (Kd.R_drew HO347.out)
 have n7_ := Aside0.mk (Kd.N_drew HO351.out)
 have n8_ := Aside0.mk (Kd.N_drew HO354.out)
 have n9_ := Aside0.mk (Kd.R_drew HO357.out)
 have n10_ := Aside0.mk (Kd.N_drew HO360.out)
 have n11_ := Aside0.mk (blk_drew BK338.out)
 have n12_ := Aside0.mk (blk_drew BK361.out)
 have n13_ := Aside0.mk (below_drew1 HB.out)
 clear HO_5
 clear HO324
 clear HO328
 clear HO331
 clear HO334
 clear HO337
 clear HO347
 clear HO351
 clear HO354
 clear HO357
 clear HO360
 clear BK338
 clear BK361
 clear HB
 have HO_5 := n0_
 have HO324 := n1_
 have HO328 := n2_
 have HO331 := n3_
 have HO334 := n4_
 have HO337 := n5_
 have HO347 := n6_
 have HO351 := n7_
 have HO354 := n8_
 have HO357 := n9_
 have HO360 := n10_
 have BK338 := n11_
 have BK361 := n12_
 have HB := n13_
 clear n0_ n1_ n2_ n3_ n4_ n5_ n6_ n7_ n8_ n9_ n10_ n11_ n12_ n13_
 have q97 : ((ji57) : Int) ≤ ((t335.length : Int) : Int) := of_decide_eq_true (by first | (with_reducible assumption) | assumption)
 obtain ⟨i097, hi097, _, hsz97, _⟩ := info_parts info39
 have hroom97 : t335.length ≤ co93 := (Kd.N_reads' HO337.out).2.1
 have hC97 : Kd.F k39 _ _ Ao93 t335.length t335 := (Kd.V_at (base := w.heap.size) (Kd.N_V HO337.out)).2.2
 have hcut97 := cut_to (P := Tryd.prog) 29 39 .i64 Tryd.underlying29 hi097 Ao93 t335.length co93 (ji57) (of_decide_eq_true (by first | (with_reducible assumption) | assumption)) q97 hroom97
 have hr97 := Kd.F_take (m := ((ji57) : Int).toNat) hC97 (by omega)
 have hy97 : y362.length = ((ji57) : Int).toNat := (by rw [Ny362.out, List.length_take]; omega)
 rw [← Ny362.out] at hr97
 rw [← hy97] at hcut97
 have HO366 := Aside0.mk (show Kd.V k39 39 _ w.heap.size _ (.slice Ao93 y362.length co93) y362 from Kd.V_mk (by omega) hr97)
 have HC366 := Aside0.mk (show y362.length ≤ co93 from by omega)
 clear hr97 hC97 hroom97 hi097 hsz97
 have KY97 := Aside0.mk hy97
 clear hy97
 replace q97 := eq_true q97
 have q98 : ((ji57) : Int) ≤ ((t358.length : Int) : Int) := of_decide_eq_true (by first | (with_reducible assumption) | assumption)
 obtain ⟨i098, hi098, _, hsz98, _⟩ := info_parts info39
 have hroom98 : t358.length ≤ co94 := (Kd.N_reads' HO360.out).2.1
 have hC98 : Kd.F k39 _ _ Ao94 t358.length t358 := (Kd.V_at (base := w.heap.size) (Kd.N_V HO360.out)).2.2
 have hcut98 := cut_to (P := Tryd.prog) 29 39 .i64 Tryd.underlying29 hi098 Ao94 t358.length co94 (ji57) (of_decide_eq_true (by first | (with_reducible assumption) | assumption)) q98 hroom98
 have hr98 := Kd.F_take (m := ((ji57) : Int).toNat) hC98 (by omega)
 have hy98 : y367.length = ((ji57) : Int).toNat := (by rw [Ny367.out, List.length_take]; omega)
 rw [← Ny367.out] at hr98
 rw [← hy98] at hcut98
 have HO371 := Aside0.mk (show Kd.V k39 39 _ w.heap.size _ (.slice Ao94 y367.length co94) y367 from Kd.V_mk (by omega) hr98)
 have HC371 := Aside0.mk (show y367.length ≤ co94 from by omega)
 clear hr98 hC98 hroom98 hi098 hsz98
 have KY98 := Aside0.mk hy98
 clear hy98
 replace q98 := eq_true q98
 refine start_ (n := 8) (S := fun w' => True) (ds := []) #[false, false, false, false, false, false, false, false] (by kernel_rfl) rfl rfl trivial (fun hHeld => ?_); refine with_tabW treelinelaw24_ScriptFront.tab12 treelinelaw24_ScriptFront.bits12 (fun HT_ HW_ => ?_)
 generalize w95.drew = w96 at HO_5 HO324 HO328 HO331 HO334 HO337 HO347 HO351 HO354 HO357 HO360 BK338 BK361 HB HO366 HO371 hHeld ⊢
 refine pure_ (i := 0) (N := some 58) (v := ?_) (a' := ?_) #[true, false, false, false, false, false, false, false] rfl rfl (any_of HT_.out (by kernel_rfl)) (fun _ _ _ h => h) (Or.inl ⟨by rfl, ?_⟩) ?_ ?_
 rotate_left
 ·intro w'
  go_simp
  with_reducible rfl
 rotate_left
 ·simp only [Act.put, List.setIfInBounds_toArray, List.set_cons_zero, List.set_cons_succ, i64_w, i32_w]
  rfl
 refine pure_ (i := 1) (N := some 59) (v := ?_) (a' := ?_) #[true, true, false, false, false, false, false, false] rfl rfl (any_of HT_.out (by kernel_rfl)) (fun _ _ _ h => h) (Or.inl ⟨by rfl, ?_⟩) ?_ ?_
 rotate_left
 ·intro w'
  go_simp
  with_reducible rfl
 rotate_left
 ·simp only [Act.put, List.setIfInBounds_toArray, List.set_cons_zero, List.set_cons_succ, i64_w, i32_w]
  rfl
 refine pure_ (i := 2) (N := some 60) (v := ?_) (a' := ?_) #[true, true, true, false, false, false, false, false] rfl rfl (any_of HT_.out (by kernel_rfl)) (fun _ _ _ h => h) (Or.inl ⟨by rfl, ?_⟩) ?_ ?_
 rotate_left
 ·intro w'
  go_simp
  with_reducible rfl
 rotate_left
 ·simp only [Act.put, List.setIfInBounds_toArray, List.set_cons_zero, List.set_cons_succ, i64_w, i32_w]
  rfl
 refine pure_ (i := 3) (N := some 61) (v := ?_) (a' := ?_) #[true, true, true, true, false, false, false, false] rfl rfl (any_of HT_.out (by kernel_rfl)) (fun _ _ _ h => h) (Or.inl ⟨by rfl, ?_⟩) ?_ ?_
 rotate_left
 ·intro w'
  go_simp
  with_reducible rfl
 rotate_left
 ·simp only [Act.put, List.setIfInBounds_toArray, List.set_cons_zero, List.set_cons_succ, i64_w, i32_w]
  rfl
 refine pure_ (i := 4) (N := some 62) (v := ?_) (a' := ?_) #[true, true, true, true, true, false, false, false] rfl rfl (any_of HT_.out (by kernel_rfl)) (fun _ _ _ h => h) (Or.inl ⟨by rfl, ?_⟩) ?_ ?_
 rotate_left
 ·intro w'
  go_simp
  with_reducible rfl
 rotate_left
 ·simp only [Act.put, List.setIfInBounds_toArray, List.set_cons_zero, List.set_cons_succ, i64_w, i32_w]
  rfl
 refine pure_ (i := 5) (N := some 63) (v := ?_) (a' := ?_) #[true, true, true, true, true, true, false, false] rfl rfl (any_of HT_.out (by kernel_rfl)) (fun _ _ _ h => h) (Or.inl ⟨by rfl, ?_⟩) ?_ ?_
 rotate_left
 ·intro w'
  go_simp
  with_reducible rfl
 rotate_left
 ·simp only [Act.put, List.setIfInBounds_toArray, List.set_cons_zero, List.set_cons_succ, i64_w, i32_w]
  rfl
 refine one_ (i := 6) (N := some 64) #[true, true, true, true, true, true, true, false] rfl rfl (one_of HT_.out (by kernel_rfl)) (by decide) (fun K hK => ?_)
 refine goes_ Tryd.func12 (by kernel_rfl) rfl #[.slice Ao93 y362.length co93, .slice Ao94 y367.length co94] (by rfl) rfl rfl (by (try simp only [List.map_toArray, List.map_cons, List.map_nil]); first | done | rfl | (simp only [List.length_drop, List.length_take]; rfl)) ?_
 with_reducible refine (treelineref24_SameOps.calls kj10 _ _ y362 _ _ y367 t372 _ ?side1 ?side2 ?side3 ?side4 A62.out).mono ?_
 (case side1 => repeat (first | exact (Kd.V_reads' HO366.out).2.2 | (with_reducible refine Kd.C_alloc ?_ _) | (with_reducible refine Kd.C_drewN ?_ _) | (with_reducible refine Kd.C_drew ?_)))
 (case side2 => exact (Kd.V_reads' HO366.out).2.1)
 (case side3 => repeat (first | exact (Kd.V_reads' HO371.out).2.2 | (with_reducible refine Kd.C_alloc ?_ _) | (with_reducible refine Kd.C_drewN ?_ _) | (with_reducible refine Kd.C_drew ?_)))
 (case side4 => exact (Kd.V_reads' HO371.out).2.1)
 rintro e w99 ⟨rfl, hb⟩
 refine ⟨_, rfl, ?_⟩
 have n0_ := Aside0.mk (Kd.R_below (by (with_reducible repeat (first | apply Kd.R_alloc | apply Kd.R_drewN | apply Kd.R_drew)); exact HO_5.out) hb)
 have n1_ := Aside0.mk (Kd.R_below (by (with_reducible repeat (first | apply Kd.R_alloc | apply Kd.R_drewN | apply Kd.R_drew)); exact HO324.out) hb)
 have n2_ := Aside0.mk (Kd.N_below (by (with_reducible repeat (first | apply Kd.N_alloc | apply Kd.N_drewN | apply Kd.N_drew)); exact HO328.out) hb)
 have n3_ := Aside0.mk (Kd.N_below (by (with_reducible repeat (first | apply Kd.N_alloc | apply Kd.N_drewN | apply Kd.N_drew)); exact HO331.out) hb)
 have n4_ := Aside0.mk (Kd.R_below (by (with_reducible repeat (first | apply Kd.R_alloc | apply Kd.R_drewN | apply Kd.R_drew)); exact HO334.out) hb)
 have n5_ := Aside0.mk (Kd.N_below (by (with_reducible repeat (first | apply Kd.N_alloc | apply Kd.N_drewN | apply Kd.N_drew)); exact HO337.out) hb)
 have n6_ := Aside0.mk (Kd.R_below (by (with_reducible repeat (first | apply Kd.R_alloc | apply Kd.R_drewN | apply Kd.R_drew)); exact HO347.out) hb)
 have n7_ := Aside0.mk (Kd.N_below (by (with_reducible repeat (first | apply Kd.N_alloc | apply Kd.N_drewN | apply Kd.N_drew)); exact HO351.out) hb)
 have n8_ := Aside0.mk (Kd.N_below (by (with_reducible repeat (first | apply Kd.N_alloc | apply Kd.N_drewN | apply Kd.N_drew)); exact HO354.out) hb)
 have n9_ := Aside0.mk (Kd.R_below (by (with_reducible repeat (first | apply Kd.R_alloc | apply Kd.R_drewN | apply Kd.R_drew)); exact HO357.out) hb)
 have n10_ := Aside0.mk (Kd.N_below (by (with_reducible repeat (first | apply Kd.N_alloc | apply Kd.N_drewN | apply Kd.N_drew)); exact HO360.out) hb)
 have n11_ := Aside0.mk (Kd.V_below (by (with_reducible repeat (first | apply Kd.V_alloc | apply Kd.V_drewN | apply Kd.V_drew)); exact HO366.out) hb)
 have n12_ := Aside0.mk (Kd.V_below (by (with_reducible repeat (first | apply Kd.V_alloc | apply Kd.V_drewN | apply Kd.V_drew)); exact HO371.out) hb)
 have n13_ := Aside0.mk (blk_below (g := gb338) (o := .cells #[.int .i64 t325, .slice Ao75 t326.length co75, .slice Ao77 t329.length co77, .slice Ao79 t332.length co79] 28 (0, 0)) (by (with_reducible repeat (first | refine blk_drewN ?_ _ | refine blk_drew ?_ | refine blk_alloc ?_ _)); exact BK338.out) hb)
 have n14_ := Aside0.mk (blk_below (g := gb361) (o := .cells #[.int .i64 t348, .slice Ao90 t349.length co90, .slice Ao91 t352.length co91, .slice Ao92 t355.length co92] 28 (0, 0)) (by (with_reducible repeat (first | refine blk_drewN ?_ _ | refine blk_drew ?_ | refine blk_alloc ?_ _)); exact BK361.out) hb)
 have n15_ := Aside0.mk (below_step (by repeat (first | (with_reducible first | exact HB.out | apply below_alloc | apply pw_below_drewN | apply below_drew1 | refine below_set ?_ GE338.out | refine below_set ?_ GE361.out) | exact HB.out)) hb)
 clear HO_5
 clear HO324
 clear HO328
 clear HO331
 clear HO334
 clear HO337
 clear HO347
 clear HO351
 clear HO354
 clear HO357
 clear HO360
 clear HO366
 clear HO371
 clear BK338
 clear BK361
 clear HB
 have HO_5 := n0_
 have HO324 := n1_
 have HO328 := n2_
 have HO331 := n3_
 have HO334 := n4_
 have HO337 := n5_
 have HO347 := n6_
 have HO351 := n7_
 have HO354 := n8_
 have HO357 := n9_
 have HO360 := n10_
 have HO366 := n11_
 have HO371 := n12_
 have BK338 := n13_
 have BK361 := n14_
 have HB := n15_
 clear n0_ n1_ n2_ n3_ n4_ n5_ n6_ n7_ n8_ n9_ n10_ n11_ n12_ n13_ n14_ n15_
 (try clear hb)
 (try clear hb2)
 (try clear hk)
 (try clear hi)
 refine hK.out _ _ trivial (fun hHeld => ?_)
 clear hK K
 refine norm_ (a' := ?_) ?_ ?_
 rotate_left
 ·show Act.put _ (some 64) _ = _
  simp only [Act.put, List.setIfInBounds_toArray, List.set_cons_zero, List.set_cons_succ, i64_w, i32_w]
  rfl
 refine pure_ (i := 7) (N := some 4) (v := ?_) (a' := ?_) #[true, true, true, true, true, true, true, true] rfl rfl (any_of HT_.out (by kernel_rfl)) (fun _ _ _ h => h) (Or.inl ⟨by rfl, ?_⟩) ?_ ?_
 rotate_left
 ·intro w'
  go_simp
  with_reducible rfl
 rotate_left
 ·simp only [Act.put, List.setIfInBounds_toArray, List.set_cons_zero, List.set_cons_succ, i64_w, i32_w]
  rfl
 refine done_ (done_of HT_.out (by kernel_rfl)) ?_
 try go_wp2
 go_ret
 exact ⟨by first | rfl | (simp [errW_none, errW_some] <;> rfl) | (simp only [← hji57]; first | rfl | (simp [errW_none, errW_some] <;> rfl)) | (simp [*, errW_none, errW_some] <;> rfl), by repeat (first | (with_reducible first | exact HB.out | apply below_alloc | apply pw_below_drewN | apply below_drew1 | refine below_set ?_ GE338.out | refine below_set ?_ GE361.out) | exact HB.out)⟩
end Go.Proofs.YtiikllgppmmiaaaDoor.OScriptFront
